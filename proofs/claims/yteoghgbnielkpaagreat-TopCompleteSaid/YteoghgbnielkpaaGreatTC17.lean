/- A part of the proof. No condition. -/
import Derived.Test.YteoghgbnielkpaaGreatTC13

set_option maxRecDepth 100000
set_option maxHeartbeats 8000000
set_option linter.unusedVariables false
set_option linter.unusedSimpArgs false
namespace Go.Proofs.YteoghgbnielkpaaGreat
open Go.RowKit
open Tryz
open Go renaming World->vw, Addr->vy, Calls->vB
open Go.Value renaming int->vd, slice->ve, agg->vf
open Go.IntKind renaming u64->vn, i64->vq
open Go.Ending renaming returned->vl
open Go.RowKit renaming Below->vA
open Go.Act renaming put->vG
open Option renaming none->vD, some->vE
theorem zFl {w:vw} {base g:Nat} {l:List Nat} (k:Blk w g 22 (Oa l).toArray) (hb:base <= g) (hn:l.length <= maxLen):w.ownsRow base 22 1 (ve (vE ⟨g,0,vD⟩) l.length l.length) l.length (Oa l):=by
 have e:(Oa l).toArray=Qa l.length (fun k=>l.getD k 0):=by rw [wv,BQ l _ rfl]
 rw [e] at k;have:=W6 k hb hn;rw [BQ l _ rfl] at this;exact this
theorem zFr (L:Ma) (pu La al be:Nat) (vars:Int) (A B1 B2 B3 F:Option vy) (R c m1 d1 m2 d2 m3 d3 i n d:Nat) (rows:List Ua) (a b q front:List Nat) (w:vw)
  (hL:Lb L) (hF:eu L pu vars rows) (hr:RSl 3 Ud w [ve A R c] rows) (hV:Dx vars rows)
  (ha:RWd w [ve B1 m1 d1] a) (hb:RWd w [ve B2 m2 d2] b) (hq:RWd w [ve B3 m3 d3] q) (hf:RWd w [ve F n d] front) (hi:i<L.n) (hn:front.length=L.a+L.b+L.b+L.b) :
  vB prog 253 #[vf (jb L),Tb L.p (pu:Int) vars (ve A R c),vf #[vd vn al,vd vn La,vd vn be],ve B1 m1 d1,ve B2 m2 d2,ve B3 m3 d3,vd vq i,ve F n d] w fun e w'=>∃ v,e=vl v /\ w'.ownsRow w.1.size 22 1 v 3 (Oa (Bz L (Uh L pu La rows) al be a b q (Fh L.p (Kb L.p).1 L.n i) front)) /\ vA w.1.size w w':=by
 obtain ⟨jf,Wd⟩:=Pb hL.p;have jC:=hL.a;have Vz:=hL.b;have Vd:=hL.n2;have Ia:=hL.b1;have Ba:=hL.b2;obtain ⟨hlen,j0,hj0⟩:=yy hL;have Yh:L.block=2^L.block.log2:=by rw [hj0,rz]
 obtain ⟨YE,hfc,jc,-,hrf⟩:=Nb hf;obtain ⟨x,hx⟩:=zEX (Fh L.p (Kb L.p).1 L.n i);rw [<- hx];have Lp:=zH (fun w=>by have:=UF L.p L.block L.queries L.k L.n L.secret L.rows L.a L.b L.b L.b w hL.a hL.b hL.b hL.b;rw [<- hn,<- YE] at this;exact this)
 have HPt:=zH (fun w=>H7 L w hL)
 have DG:=zH (fun w' (hb:vA w.1.size w w')=>z7 L pu La vars A R c rows w' hL hF (Dg Bg _ _ _ _ hb hr) hV)
 have HEv:Hid (∀ (A:Option vy) (n c:Nat) (l:List Nat) (w:vw),RWd w [ve A n c] l -> vB prog 249 #[fv L.p,ve A n c,vd vn x] w fun e w'=>e=vl (vd vn ((Lc L.p l x:Nat):Int)) /\ vA w.1.size w w'):=zH (fun A n c l w hl=>by rw [<- F0 (by omega)];exact E7 L.p A n c x l w hL.p hl)
 have SD:=zH (fun w=>dT L.p x L.block w hL.p (by omega))
 have HIv:=zH (fun A c l w hl=>WQ L.p A L.block c L.block.log2 l w hL.p hl hlen Yh)
 have HM:=zH (fun a b w=>Nq L.p a b w hL.p)
 have HS:=zH (fun a b w=>UL L.p a b w hL.p)
 have HD:=zH (fun A B n c m d a b w ha hb hnm=>zCM L.p A B n c m d a b w hL.p ha hb hnm)
 have HSp:=zH (show ∀ (w:vw),vB prog 295 #[vf (jb L),ve F n d] w fun e w'=>(∃ X1 X2 X3 c1 c2 c3,e=vl (.tuple #[ve F L.a d,ve X1 L.b c1,ve X2 L.b c2,ve X3 L.b c3]) /\ (0<L.b -> ∀ g o,F=vE ⟨g,o,vD⟩ -> X1=vE ⟨g,o+L.a,vD⟩ /\ X2=vE ⟨g,o+(L.a+L.b),vD⟩ /\ X3=vE ⟨g,o+(L.a+L.b+L.b),vD⟩)) /\ vA w.1.size w w' from fun w=>by
  have hs:=zHz L F n d L.a (L.a+L.b) (L.a+L.b+L.b) w hL rfl rfl rfl (by omega) hfc jc
  have a1:L.a+L.b-L.a=L.b:=by omega
  have a2:L.a+L.b+L.b-(L.a+L.b)=L.b:=by omega
  have a3:n-(L.a+L.b+L.b)=L.b:=by omega
  unfold Cz at hs;rw [a1,a2,a3] at hs;refine hs.mono ?_;rintro e w' ⟨rfl,hb⟩;refine ⟨⟨_,_,_,_,_,_,rfl,fun h g o e=>?_⟩,hb⟩
  subst e;refine ⟨?_,?_,?_⟩
  ·rw [ya (by omega)]
   show vE ((⟨g,o,vD⟩:vy).add L.a)=_
   rw [Sl]
  ·rw [ya (by omega)]
   show vE ((⟨g,o,vD⟩:vy).add (L.a+L.b))=_
   rw [Sl]
  ·rw [ya (by omega)]
   show vE ((⟨g,o,vD⟩:vy).add (L.a+L.b+L.b))=_
   rw [Sl])
 obtain ⟨kh,XB⟩:=zEX (ov L pu La rows);have Gv:kh=Uh L pu La rows:=by rw [XB];exact xY (by omega) pu La rows
 have Wh:kh.length=n:=by rw [Gv,vY];omega
 have ey:∀ r∈kh,r.length=L.block:=by rw [Gv];exact ZN
 obtain ⟨f,hff⟩:∃ f:Nat -> Nat,f=fun k=>front.getD k 0:=⟨_,rfl⟩
 obtain ⟨W,hW⟩:=zEX (vJ L x);obtain ⟨dv,Rm⟩:∃ dv:Nat -> Nat,dv=fun j=>ou L.p (kh.getD j []) W L.block:=⟨_,rfl⟩
 obtain ⟨C0,hC0⟩:=zEX (uE L.p al f (Lc L.p a x));obtain ⟨C1,hC1⟩:=zEX (xE L.p dv f (Lc L.p b x));obtain ⟨C2,hC2⟩:=zEX (Az L.p L.a L.b be f (Lc L.p q x));have hE:=zB1 hL ey al be a b q x hn (by omega)
 rw [<- Gv,<- hE,<- YE];have HE:=zH (show [uE L.p al (fun k=>front.getD k 0) (Lc L.p a x) n,xE L.p (fun j=>ou L.p (kh.getD j []) (vJ L x) L.block) (fun k=>front.getD k 0) (Lc L.p b x) n,Az L.p L.a L.b be (fun k=>front.getD k 0) (Lc L.p q x) L.b]=[C0 n,C1 n,C2 L.b] by rw [hC0,hC1,hC2,Rm,hW,hff])
 rw [HE.out];obtain ⟨P,hP⟩:=zEX (Og L.p al);obtain ⟨P2,QB⟩:=zEX (Og L.p be);have H00:=zH (show C0 0=Lc L.p a x by rw [hC0];rfl)
 have H10:=zH (show C1 0=Lc L.p b x by rw [hC1];rfl)
 have H20:=zH (show C2 0=Lc L.p q x by rw [hC2];rfl)
 have H0S:=zH (show ∀ j,C0 (j+1)=(C0 j+Zf L.p (P (j+1)*f j%L.p))%L.p from fun j=>by rw [hC0,hP];rfl)
 have H1S:=zH (show ∀ j,C1 (j+1)=(C1 j+Zf L.p (dv j*f j%L.p))%L.p from fun j=>by rw [hC1];rfl)
 have H2S:=zH (show ∀ j,C2 (j+1)=(C2 j+Zf L.p (P2 (j+1)*((f (L.a+j)*f (L.a+L.b+j)%L.p+Zf L.p (f (L.a+L.b+L.b+j)))%L.p)%L.p))%L.p from fun j=>by rw [hC2,QB];rfl)
 have nx:=zH (show P 0=1 by rw [hP];rfl)
 have QD:=zH (show ∀ i,P (i+1)=P i*al%L.p from fun i=>by rw [hP];rfl)
 have Yy:=zH (show P2 0=1 by rw [QB];rfl)
 have Zy:=zH (show ∀ i,P2 (i+1)=P2 i*be%L.p from fun i=>by rw [QB];rfl)
 have HDV:=zH (show ∀ j (h:j<kh.length),dv j=ou L.p kh[j] W L.block from fun j h=>by rw [Rm,<- wT h])
 have HWW:=zH (show (List.range L.block).map (Xm L.p L.block L.block.log2 ((List.range L.block).map fun i=>x^i%L.p))=W from hW.symm)
 have HFF:=zH (show ∀ k,f k=front.getD k 0 from fun k=>by rw [hff])
 have Uy:=zH Wh;have HCR:=zH ey;have Ur:=zH (show ∀ i,x^i%L.p<18446744073709551616 from fun i=>il (ic _ (by omega)) Wd)
 have HIX:=zH (show ∀ l k,Xm L.p L.block L.block.log2 l k<18446744073709551616 from fun l k=>il (ic _ (by omega)) Wd)
 have HX:=zH hx;have HN4:=zH (show n=L.a+L.b+L.b+L.b by omega)
 have Yw:=zH YE;have WZ:=XB;rw [<- WZ] at DG;have gi0:(0:Int)<=i:=by omega
 have gi1:(i:Int)<L.n:=by omega
 have gi2:¬((i:Int)<0):=by omega
 have gi3:¬((L.n:Int)<=i):=by omega
 have gi4:decide ((i:Int)<0)=false:=db gi2;have gi5:decide ((L.n:Int)<=i)=false:=db gi3;have d0:((n:Int)!=n)=false:=by simp
 have gn:n <= 400000:=by omega
 have gB:L.block <= 256:=Ba;have gB1:2 <= L.block:=Ia;have gNN:(L.n:Int) <= 1024:=by omega
 have glb:L.b <= 100000:=Vz;have Tt:=zH (by rw [YE] at hrf;exact hrf:Rd w 1 F front.length (Oa front))
 clear jf Wd jC Vz Vd Ia Ba hlen hj0 Yh YE hfc jc hrf hx XB WZ Gv Wh ey hff hW Rm hC0 hC1 hC2 hE hP QB hL hF hr hV hi hn HE;unfold jb Tb fv at *;obtain ⟨kl,kt,kx,da,-⟩:=Sp w 101 25 136 #[vd vn L.p,vd vq L.block,vd vq L.queries,vd vq L.k,vd vq L.n,vd vq L.secret,vd vq L.rows,vd vq L.a,vd vq L.b,vd vq L.b,vd vq L.b] #[vd vn L.p,vd vq pu,vd vq vars,ve A R c] #[vd vn al,vd vn La,vd vn be];go_enter func253,ntmps253
 go_upto_region 1 with fail
 generalize ((w.alloc _).alloc _).alloc _=w1 at kl kt kx da |-;have cl:=kl.cell;go_upto_region 2 with fail
 have kf:=Blk.new w1 224 #[vd vn L.p];have ma:=(Ca w1.1.size w1).alloc zR (.cells #[vd vn L.p] 224);replace kl:=ja kl ma;replace kt:=ja kt ma;replace kx:=ja kx ma;replace da:=pa da ma;generalize w1.alloc _=w2 at kl kt kx kf da |-;generalize w1.1.size=gf at kf |-;clear ma cl;have cl:=kl.cell;go_wp2_with fail
 refine (HPt.out _).mono ?_;rintro e w3 ⟨g1,g2,rfl,-,kp,-,-,xa⟩;replace kl:=ja kl xa;replace kt:=ja kt xa;replace kx:=ja kx xa;replace kf:=ja kf xa;replace da:=pa da xa;clear xa cl HPt;have cl:=kl.cell;have ct:=kt.cell;have cx:=kx.cell;go_wp2_with fail
 refine (DG.out _ da).mono ?_;rintro e w4 ⟨vC,rfl,hC,xa⟩;replace kl:=ja kl xa;replace kx:=ja kx xa;replace kf:=ja kf xa;replace kp:=ja kp xa;replace da:=pa da xa;clear xa cl ct cx kt DG;obtain ⟨AC,nC,cC,rfl⟩:=RSl.slc hC.here;have hnC:nC=n:=by rw [<- (Gj hC.here).1];exact Uy.out
 have hCd:=(Gj hC.here).2.2.2;clear hC;subst hnC;have cl:=kl.cell;go_wp2_with fail
 refine (Lp.out _).mono ?_;rintro e w5 ⟨rfl,xa⟩;have Vl:=xa;replace kl:=ja kl xa;replace kx:=ja kx xa;replace kf:=ja kf xa;replace kp:=ja kp xa;replace da:=pa da xa;clear xa cl Lp;have cpi:=kp.cell i;rw [Mf _ (by omega),<- HX.out] at cpi
 go_upto_region 7 with fail
 clear cpi kp;have So:=Bb da ha;have yi:=Bb da hb;have Sv:=Bb da hq;have cf:=kf.cell;have lf:=kf.lt;refine zd (Ub) [3,7,11,12] [0,1,2,4,5,6,8,9,10,3,7,11,12,13] (by kernel_rfl) (by kernel_rfl) ?_
 refine Se (ra) ?_;intro Wc Ja ia;have Ka:=Tf Ja;replace kl:=ja kl Ka;replace kx:=ja kx Ka;replace kf:=ja kf Ka;replace da:=pa da Ka;replace So:=Bb Ka So;replace yi:=Bb Ka yi;replace Sv:=Bb Ka Sv;replace Vl:=pa Vl Ka;clear Ka;refine Qb ?_;refine Bc (ra) rfl rfl rfl (fun _=>by go_simp <;> rfl) ((HEv.out _ _ _ _ _ So).mono ?_)
 rintro e w6 ⟨rfl,sc⟩;refine ⟨_,rfl,sc,?_⟩;replace ia:=(ra).trans _ _ _ ia (sc);refine zPU ?_;replace kl:=ja kl sc;replace kx:=ja kx sc;replace kf:=ja kf sc;replace da:=pa da sc;replace yi:=Bb sc yi;replace Sv:=Bb sc Sv;replace Vl:=pa Vl sc;clear sc;refine Qb ?_;refine Bc (ra) rfl rfl rfl (fun _=>by go_simp <;> rfl) ((HEv.out _ _ _ _ _ yi).mono ?_)
 rintro e w7 ⟨rfl,xd⟩;refine ⟨_,rfl,xd,?_⟩;replace ia:=(ra).trans _ _ _ ia (xd);refine zPU ?_;replace kl:=ja kl xd;replace kx:=ja kx xd;replace kf:=ja kf xd;replace da:=pa da xd;replace Sv:=Bb xd Sv;replace Vl:=pa Vl xd;clear xd;refine Qb ?_;refine Bc (ra) rfl rfl rfl (fun _=>by go_simp <;> rfl) ((HEv.out _ _ _ _ _ Sv).mono ?_)
 rintro e w8 ⟨rfl,Uj⟩;refine ⟨_,rfl,Uj,?_⟩;replace ia:=(ra).trans _ _ _ ia (Uj);refine zPU ?_;replace kl:=ja kl Uj;replace kx:=ja kx Uj;replace kf:=ja kf Uj;replace da:=pa da Uj;replace Vl:=pa Vl Uj;clear Uj cf lf So yi Sv;rw [<- H00.out,<- H10.out,<- H20.out];refine Qb ?_;refine ef (ra) rfl rfl rfl ?_;go_simp;have ma:=(Ca w8.1.size w8).alloc zR (.cells #[vd vn (C0 0:Int),vd vn (C1 0:Int),vd vn (C2 0:Int)] 22);have kg:=Blk.new w8 22 #[vd vn (C0 0:Int),vd vn (C1 0:Int),vd vn (C2 0:Int)];refine ⟨ma,?_⟩;have lf8:=kf.lt;have lx8:=kx.lt;replace kl:=ja kl ma;replace kx:=ja kx ma;replace kf:=ja kf ma;replace da:=pa da ma;have h48:=Vl.size;replace Vl:=pa Vl ma
 refine zPU ?_
 generalize w8.alloc _=w9 at kl kx kf kg da Vl |-;obtain ⟨gl,Jv⟩:=zEX (w8.1.size);rw [<- Jv] at kg h48 lf8 lx8 |-;clear ma Jv ia Ja;have ia:=(ra).refl w9;refine Qb ?_;refine Jc ?_;clear ia;have cf:=kf.cell;have lf:=kf.lt;have cl:=kl.cell;have ll:=kl.lt;go_upto_region 8 with fail
 refine zd (Ub) [5,6] [0,1,2,3,4,5,6,7,8,9,10,11] (by kernel_rfl) (by kernel_rfl) ?_
 refine Se (ra) ?_;intro Wc Ja ia;have Ka:=Tf Ja;replace kl:=ja kl Ka;replace kx:=ja kx Ka;replace kf:=ja kf Ka;replace kg:=ja kg Ka;replace da:=pa da Ka;replace Vl:=pa Vl Ka;clear Ka;refine Qb ?_;refine Bc (ra) rfl rfl rfl (fun _=>by go_simp <;> rfl) ((SD.out _).mono ?_)
 rintro e LA ⟨gp,rfl,-,kp,Wp⟩;refine ⟨_,rfl,Wp,?_⟩;replace ia:=(ra).trans _ _ _ ia (Wp);refine zPU ?_;replace kl:=ja kl Wp;replace kx:=ja kx Wp;replace kf:=ja kf Wp;replace kg:=ja kg Wp;replace da:=pa da Wp;replace Vl:=pa Vl Wp;have lg10:=kg.lt;clear Wp;have hp:=IB kp (fun k _=>Ur.out k) (by simp [maxLen];omega)
 refine Qb ?_;refine Bc (ra) rfl rfl rfl (fun _=>by go_simp <;> rfl) ((HIv.out _ _ _ _ hp).mono ?_)
 rintro e w11 ⟨gw,rfl,jy,kw,UB⟩;refine ⟨_,rfl,UB,?_⟩;replace ia:=(ra).trans _ _ _ ia (UB);refine zPU ?_;replace kl:=ja kl UB;replace kx:=ja kx UB;replace kf:=ja kf UB;replace kg:=ja kg UB;replace da:=pa da UB;replace Vl:=pa Vl UB;have xw:gl<gw:=by omega
 clear UB hp kp jy lg10 SD HIv Ur;refine Qb ?_;refine Jc ?_;clear cf lf cl ll ia Ja;have H1:=zH (show (1:Int)=((P 0:Nat):Int) by rw [nx.out];rfl)
 have H12:=zH (show (1:Int)=((P2 0:Nat):Int) by rw [Yy.out];rfl)
 go_wp2_with fail
 go_loopw [25,97] (fun b y wr=>∃ j:Nat,j <= nC /\ y=vd vq j /\ b=vd vn (P j:Int) /\ Blk wr gl 22 #[vd vn (C0 j:Int),vd vn (C1 j:Int),vd vn (C2 0:Int)] /\ w11.grownBy wr (vE gl)) (fun _ y _=>nC-(intOf y).toNat)
 case atStart=>exact ⟨0,Mb _,rfl,by rw [<- H1.out],kg,Ee _ _⟩
 case round =>
  clear kg;obtain ⟨j,hj,rfl,rfl,kg,hg⟩:=hrel;have yc:=kf.grown hg (fun e=>by have:=Za e;omega)
  have xh:=kx.grown hg (fun e=>by have:=Za e;omega)
  have Qk:=kl.grown hg (fun e=>by have:=Za e;omega)
  have dM:=Ff da hg;by_cases ta:j<nC
  ·have q1:(j:Int)<nC:=by omega
   have q2:(0:Int)<=j:=by omega
   have hjf:j<front.length:=by rw [<- Yw.out];exact ta
   have hjc:j<kh.length:=by rw [Uy.out];exact ta
   obtain ⟨bf,qf,rfl,Qm,hcf⟩:=Fg Tt.out hjf;obtain ⟨bc,qc,A1,n1,c1,rfl,hbc,Fv,Un⟩:=Ju hCd hjc;have z1:n1=L.block:=by rw [(Nb Un).1];exact HCR.out _ (zf hjc)
   subst z1;have qR:=zH (HDV.out j hjc);obtain ⟨rj,hrj⟩:=zEX (kh[j]);rw [<- hrj] at Un qR;obtain ⟨v,hv⟩:=zEX (f j);obtain ⟨p0,zg⟩:=zEX (P j);obtain ⟨p1,jf⟩:=zEX (P (j+1));obtain ⟨s0,Zo⟩:=zEX (C0 j);obtain ⟨t0,CI⟩:=zEX (C0 (j+1));obtain ⟨s1,Bd⟩:=zEX (C1 j);obtain ⟨t1,tF⟩:=zEX (C1 (j+1));obtain ⟨dj,hdj⟩:=zEX (dv j);obtain ⟨u0,xF⟩:=zEX (p1*v%L.p);obtain ⟨u1,yF⟩:=zEX (dj*v%L.p);have HP1j:=zH (QD.out j);have H0j:=zH (H0S.out j);have H1j:=zH (H1S.out j);rw [<- zg,<- jf] at HP1j;rw [<- Zo,<- CI,<- jf,<- hv,<- xF] at H0j;rw [<- Bd,<- tF,<- hdj,<- hv,<- yF] at H1j;rw [<- hdj] at qR;rw [<- HFF.out,<- hv] at hcf;rw [<- Zo,<- Bd] at kg;rw [<- zg];have HT:=zH (And.intro jf (And.intro CI tF));have HMp:Hid (∀ w:vw,vB prog 142 #[vf #[vd vn L.p],vd vn p0,vd vn al] w fun e w'=>e=vl (vd vn p1) /\ vA w.1.size w w'):=zH (fun w=>by rw [HP1j.out];exact HM.out p0 al w)
   have HM0:Hid (∀ w:vw,vB prog 142 #[vf #[vd vn L.p],vd vn p1,vd vn v] w fun e w'=>e=vl (vd vn u0) /\ vA w.1.size w w'):=zH (fun w=>by rw [xF];exact HM.out p1 v w)
   have Gf:Hid (∀ w:vw,vB prog 142 #[vf #[vd vn L.p],vd vn dj,vd vn v] w fun e w'=>e=vl (vd vn u1) /\ vA w.1.size w w'):=zH (fun w=>by rw [yF];exact HM.out dj v w)
   have Gq:Hid (∀ w:vw,vB prog 219 #[vf #[vd vn L.p],vd vn s0,vd vn u0] w fun e w'=>e=vl (vd vn t0) /\ vA w.1.size w w'):=zH (fun w=>by rw [H0j.out];exact HS.out s0 u0 w)
   have Bh:Hid (∀ w:vw,vB prog 219 #[vf #[vd vn L.p],vd vn s1,vd vn u1] w fun e w'=>e=vl (vd vn t1) /\ vA w.1.size w w'):=zH (fun w=>by rw [H1j.out];exact HS.out s1 u1 w)
   have HDt:Hid (∀ (B:Option vy) (w':vw),RWd w' [ve A1 L.block c1] rj -> RWd w' [ve B L.block L.block] W -> vB prog 294 #[vf #[vd vn L.p],ve A1 L.block c1,ve B L.block L.block] w' fun e w2=>e=vl (vd vn dj) /\ vA w'.1.size w' w2):=zH (fun B w' h1 h2=>by rw [qR.out];exact HD.out A1 B L.block c1 L.block L.block rj W w' h1 h2 rfl)
   have cfr:=(dM.cell (p:=⟨bf,qf+j,vD⟩) Qm).trans hcf;clear hrj hv zg jf Zo CI Bd tF hdj xF yF hcf;have cx:=xh.cell;have cf:=yc.cell;go_wp2_with fail
   refine (HMp.out _).mono ?_;rintro e wA ⟨rfl,xa⟩;replace yc:=ja yc xa;replace kg:=ja kg xa;replace hg:=Nf hg xa hg.size;clear xa cx cf cfr xh Qk dM;have cf:=yc.cell;have lf:=yc.lt;have cg:=kg.cell;have lg:=kg.lt;go_upto_region 14 with fail
   refine NA (Ub) [8,9,11] [11] [0,1,2,3,4,5,6,7,8,9,10,11] (by kernel_rfl) (by kernel_rfl) ?_
   refine QA (ra) ?_;intro Wc Ja ia;have Ka:=Tf Ja;replace yc:=ja yc Ka;replace kg:=ja kg Ka;replace hg:=Nf hg Ka hg.size;refine qo ?_;refine Jt (ra) rfl rfl rfl (fun _=>by go_simp <;> rfl) ((HM0.out _).mono ?_)
   rintro e wB ⟨rfl,Vj⟩;refine ⟨_,rfl,fun _=>Vj,?_⟩
   replace ia:=(ra).trans _ _ _ ia (Vj);refine zPU ?_;replace yc:=ja yc Vj;replace kg:=ja kg Vj;replace hg:=Nf hg Vj hg.size;refine qo ?_;refine Jt (ra) rfl rfl rfl (fun _=>by go_simp <;> rfl) ((Gq.out _).mono ?_)
   rintro e wC ⟨rfl,Tq⟩;refine ⟨_,rfl,fun _=>Tq,?_⟩
   replace ia:=(ra).trans _ _ _ ia (Tq);refine zPU ?_;replace yc:=ja yc Tq;replace kg:=ja kg Tq;replace hg:=Nf hg Tq hg.size;clear cf lf cg lg ia Ka Vj Tq Ja;have ia:=(ra).refl wC;obtain ⟨cg2,fg2⟩:=kg.cells';refine qo ?_;refine Ij (ra) rfl rfl rfl ?_;go_simp;refine ⟨fun h=>Bool.noConfusion h,?_⟩
   have Ib:=Hj (w:=wC) gl 0 (vd vn t0);replace kg:=kg.set_ 0 (vd vn t0);replace kg:Blk (wC.setCell ⟨gl,0,vD⟩ (vd vn t0)) gl 22 #[vd vn t0,vd vn s1,vd vn (C2 0:Int)]:=by simpa using kg
   replace yc:=yc.grown Ib (fun e=>by have:=Za e;omega)
   replace hg:=Pq hg Ib (fun _ e=>.inl e)
   clear cg2 fg2 Ib ia;generalize wC.setCell _ _=wD at kg yc hg |-;have ia:=(ra).refl wD;refine qo ?_;refine OA ?_;clear ia;have Ab:=Ff Vl hg;have kw1:=kw.grown hg (fun e=>by have:=Za e;omega)
   have hw:=IB kw1 (fun k _=>HIX.out _ k) (by simp [maxLen];omega)
   rw [HWW.out] at hw;have Ok:=Bb Ab Un;have ccr:=(Ab.cell (p:=⟨bc,qc+j,vD⟩) hbc).trans Fv;have lbc:bc<wD.1.size:=Kc hbc Ab.size;have cf:=yc.cell;have lf:=yc.lt;have cg:=kg.cell;have lg:=kg.lt;clear Ab kw1;go_upto_region 15 with fail
   refine NA (Ub) [12,14,15,17] [17] [0,1,2,3,4,5,6,7,8,9,10,11,13,12,14,15,16,17] (by kernel_rfl) (by kernel_rfl) ?_
   refine QA (ra) ?_;intro Wc Ja ia;have Ka:=Tf Ja;replace yc:=ja yc Ka;replace kg:=ja kg Ka;replace hw:=Bb Ka hw;replace Ok:=Bb Ka Ok;replace hg:=Nf hg Ka hg.size;refine qo ?_;refine Jt (ra) rfl rfl rfl (fun _=>by go_simp <;> rfl) ((HDt.out _ _ Ok hw).mono ?_)
   rintro e wE ⟨rfl,xu⟩;refine ⟨_,rfl,fun _=>xu,?_⟩
   replace ia:=(ra).trans _ _ _ ia (xu);refine zPU ?_;replace yc:=ja yc xu;replace kg:=ja kg xu;replace hg:=Nf hg xu hg.size;refine qo ?_;refine Jt (ra) rfl rfl rfl (fun _=>by go_simp <;> rfl) ((Gf.out _).mono ?_)
   rintro e wF ⟨rfl,zi⟩;refine ⟨_,rfl,fun _=>zi,?_⟩
   replace ia:=(ra).trans _ _ _ ia (zi);refine zPU ?_;replace yc:=ja yc zi;replace kg:=ja kg zi;replace hg:=Nf hg zi hg.size;refine qo ?_;refine Jt (ra) rfl rfl rfl (fun _=>by go_simp <;> rfl) ((Bh.out _).mono ?_)
   rintro e wG ⟨rfl,hbG⟩;refine ⟨_,rfl,fun _=>hbG,?_⟩
   replace ia:=(ra).trans _ _ _ ia (hbG);refine zPU ?_;replace yc:=ja yc hbG;replace kg:=ja kg hbG;replace hg:=Nf hg hbG hg.size;clear cf lf cg lg ia Ka xu zi hbG Ja hw Ok ccr lbc;have ia:=(ra).refl wG;obtain ⟨cg2,fg2⟩:=kg.cells';refine qo ?_;refine Ij (ra) rfl rfl rfl ?_;go_simp;refine ⟨fun h=>Bool.noConfusion h,?_⟩
   have Ib:=Hj (w:=wG) gl 1 (vd vn t1);replace kg:=kg.set_ 1 (vd vn t1);replace kg:Blk (wG.setCell ⟨gl,1,vD⟩ (vd vn t1)) gl 22 #[vd vn t0,vd vn t1,vd vn (C2 0:Int)]:=by simpa using kg
   replace hg:=Pq hg Ib (fun _ e=>.inl e)
   clear cg2 fg2 Ib ia yc;generalize wG.setCell _ _=wH at kg hg |-;have ia:=(ra).refl wH;refine qo ?_;refine OA ?_;clear ia;go_wp2_with fail
   go_roundw
   case rel=>exact ⟨j+1,by omega,by go_num,by rw [HT.out.1],by rw [<- HT.out.2.1,<- HT.out.2.2];exact kg,hg⟩
   case measure=>simp [intOf];omega
  ·obtain rfl:j=nC:=by omega
   have q1:¬((j:Int)<j):=by omega
   clear kf kx kl Vl hCd kw da;have cl:=Qk.cell;go_wp2_with fail
   refine (HSp.out _).mono ?_;rintro e wS ⟨⟨X1,X2,X3,c1,c2,c3,rfl,hX⟩,xa⟩;replace yc:=ja yc xa;replace xh:=ja xh xa;replace kg:=ja kg xa;replace dM:=pa dM xa;have Jn:=zH hX;clear xa cl hX Qk hg;go_wp2_with fail
   go_loopw [25,146] (fun b y wr=>∃ t:Nat,t <= L.b /\ y=vd vq t /\ b=vd vn (P2 t:Int) /\ Blk wr gl 22 #[vd vn (C0 j:Int),vd vn (C1 j:Int),vd vn (C2 t:Int)] /\ wS.grownBy wr (vE gl)) (fun _ y _=>L.b-(intOf y).toNat)
   case atStart=>exact ⟨0,Mb _,rfl,by rw [<- H12.out],kg,Ee _ _⟩
   case round =>
    clear kg;obtain ⟨t,ht,rfl,rfl,kg,hg⟩:=hrel;have cK:=Ff dM hg;by_cases ta:t<L.b
    ·have q2:(t:Int)<L.b:=by omega
     have q3:(0:Int)<=t:=by omega
     have hN4:=HN4.out;have hFN:=Yw.out;obtain ⟨b1,Dr,rfl,Qm,td⟩:=Fg Tt.out (show L.a+t<front.length by omega)
     obtain ⟨b2,q2',hA,-,Of⟩:=Fg Tt.out (show L.a+L.b+t<front.length by omega)
     injection hA with hA;injection hA with hA1 hA2 hA3;subst hA1 hA2
     obtain ⟨b3,q3',hA,-,Vi⟩:=Fg Tt.out (show L.a+L.b+L.b+t<front.length by omega)
     injection hA with hA;injection hA with hA1 hA2 hA3;subst hA1 hA2
     clear hN4 hFN;obtain ⟨rfl,rfl,rfl⟩:=Jn.out (by omega) b1 Dr rfl
     have w1c:=(cK.cell (p:=⟨b1,Dr+(L.a+t),vD⟩) Qm).trans td;have w2c:=(cK.cell (p:=⟨b1,Dr+(L.a+L.b+t),vD⟩) Qm).trans Of;have w3c:=(cK.cell (p:=⟨b1,Dr+(L.a+L.b+L.b+t),vD⟩) Qm).trans Vi;rw [show Dr+(L.a+t)=Dr+L.a+t by omega] at w1c
     rw [show Dr+(L.a+L.b+t)=Dr+(L.a+L.b)+t by omega] at w2c
     rw [show Dr+(L.a+L.b+L.b+t)=Dr+(L.a+L.b+L.b)+t by omega] at w3c
     have lbf:b1<wr.1.size:=Kc Qm cK.size;rw [<- HFF.out] at w1c w2c w3c;obtain ⟨x1,Zc⟩:=zEX (f (L.a+t));obtain ⟨x2,Yi⟩:=zEX (f (L.a+L.b+t));obtain ⟨x3,FC⟩:=zEX (f (L.a+L.b+L.b+t));obtain ⟨p0,zg⟩:=zEX (P2 t);obtain ⟨p1,jf⟩:=zEX (P2 (t+1));obtain ⟨s0,Zo⟩:=zEX (C2 t);obtain ⟨t0,CI⟩:=zEX (C2 (t+1));obtain ⟨y1,Ge⟩:=zEX (x1*x2%L.p);obtain ⟨y2,JC⟩:=zEX ((y1+Zf L.p x3)%L.p);obtain ⟨y3,hy3⟩:=zEX (p1*y2%L.p);have HR1t:=zH (Zy.out t);have H2t:=zH (H2S.out t);rw [<- zg,<- jf] at HR1t;rw [<- Zo,<- CI,<- jf,<- Zc,<- Yi,<- FC,<- Ge,<- JC,<- hy3] at H2t;rw [<- Zc] at w1c;rw [<- Yi] at w2c;rw [<- FC] at w3c;rw [<- Zo] at kg;rw [<- zg];have HT:=zH (And.intro jf CI);have HMp:Hid (∀ w:vw,vB prog 142 #[vf #[vd vn L.p],vd vn p0,vd vn be] w fun e w'=>e=vl (vd vn p1) /\ vA w.1.size w w'):=zH (fun w=>by rw [HR1t.out];exact HM.out p0 be w)
     have Gf:Hid (∀ w:vw,vB prog 142 #[vf #[vd vn L.p],vd vn x1,vd vn x2] w fun e w'=>e=vl (vd vn y1) /\ vA w.1.size w w'):=zH (fun w=>by rw [Ge];exact HM.out x1 x2 w)
     have Bh:Hid (∀ w:vw,vB prog 219 #[vf #[vd vn L.p],vd vn y1,vd vn x3] w fun e w'=>e=vl (vd vn y2) /\ vA w.1.size w w'):=zH (fun w=>by rw [JC];exact HS.out y1 x3 w)
     have HM2:Hid (∀ w:vw,vB prog 142 #[vf #[vd vn L.p],vd vn p1,vd vn y2] w fun e w'=>e=vl (vd vn y3) /\ vA w.1.size w w'):=zH (fun w=>by rw [hy3];exact HM.out p1 y2 w)
     have Hq:Hid (∀ w:vw,vB prog 219 #[vf #[vd vn L.p],vd vn s0,vd vn y3] w fun e w'=>e=vl (vd vn t0) /\ vA w.1.size w w'):=zH (fun w=>by rw [H2t.out];exact HS.out s0 y3 w)
     clear Zc Yi FC zg jf Zo CI Ge JC hy3 td Of Vi;have Xf:=yc.grown hg (fun e=>by have:=Za e;omega)
     have jn:=xh.grown hg (fun e=>by have:=Za e;omega)
     have cx:=jn.cell;have cf:=Xf.cell;go_wp2_with fail
     refine (HMp.out _).mono ?_;rintro e wA ⟨rfl,xa⟩;replace w1c:=(xa.cell (p:=⟨b1,Dr+L.a+t,vD⟩) lbf).trans w1c;replace w2c:=(xa.cell (p:=⟨b1,Dr+(L.a+L.b)+t,vD⟩) lbf).trans w2c;replace w3c:=(xa.cell (p:=⟨b1,Dr+(L.a+L.b+L.b)+t,vD⟩) lbf).trans w3c;replace lbf:=Kc lbf xa.size;replace Xf:=ja Xf xa;replace kg:=ja kg xa;replace hg:=Nf hg xa hg.size;clear xa cx cf jn cK;have cf:=Xf.cell;have lf:=Xf.lt;have cg:=kg.cell;have lg:=kg.lt;go_upto_region 23 with fail
     refine NA (Ub) [17,22,23,24,26] [26] [0,1,2,3,4,5,6,7,8,9,10,11,12,13,14,15,16,18,19,20,21,17,22,23,24,25,26] (by kernel_rfl) (by kernel_rfl) ?_
     refine QA (ra) ?_;intro Wc Ja ia;have Ka:=Tf Ja;replace Xf:=ja Xf Ka;replace kg:=ja kg Ka;replace hg:=Nf hg Ka hg.size;refine qo ?_;refine Jt (ra) rfl rfl rfl (fun _=>by go_simp <;> rfl) ((Gf.out _).mono ?_)
     rintro e wB ⟨rfl,Vj⟩;refine ⟨_,rfl,fun _=>Vj,?_⟩
     replace ia:=(ra).trans _ _ _ ia (Vj);refine zPU ?_;replace Xf:=ja Xf Vj;replace kg:=ja kg Vj;replace hg:=Nf hg Vj hg.size;refine qo ?_;refine Jt (ra) rfl rfl rfl (fun _=>by go_simp <;> rfl) ((Bh.out _).mono ?_)
     rintro e wC ⟨rfl,Tq⟩;refine ⟨_,rfl,fun _=>Tq,?_⟩
     replace ia:=(ra).trans _ _ _ ia (Tq);refine zPU ?_;replace Xf:=ja Xf Tq;replace kg:=ja kg Tq;replace hg:=Nf hg Tq hg.size;refine qo ?_;refine Jt (ra) rfl rfl rfl (fun _=>by go_simp <;> rfl) ((HM2.out _).mono ?_)
     rintro e wD ⟨rfl,hbD⟩;refine ⟨_,rfl,fun _=>hbD,?_⟩
     replace ia:=(ra).trans _ _ _ ia (hbD);refine zPU ?_;replace Xf:=ja Xf hbD;replace kg:=ja kg hbD;replace hg:=Nf hg hbD hg.size;refine qo ?_;refine Jt (ra) rfl rfl rfl (fun _=>by go_simp <;> rfl) ((Hq.out _).mono ?_)
     rintro e wE ⟨rfl,xu⟩;refine ⟨_,rfl,fun _=>xu,?_⟩
     replace ia:=(ra).trans _ _ _ ia (xu);refine zPU ?_;replace Xf:=ja Xf xu;replace kg:=ja kg xu;replace hg:=Nf hg xu hg.size;clear cf lf cg lg ia Ka Vj Tq hbD xu Ja w1c w2c w3c lbf;have ia:=(ra).refl wE;obtain ⟨cg2,fg2⟩:=kg.cells';refine qo ?_;refine Ij (ra) rfl rfl rfl ?_;go_simp;refine ⟨fun h=>Bool.noConfusion h,?_⟩
     have Ib:=Hj (w:=wE) gl 2 (vd vn t0);replace kg:=kg.set_ 2 (vd vn t0);replace kg:Blk (wE.setCell ⟨gl,2,vD⟩ (vd vn t0)) gl 22 #[vd vn (C0 j:Int),vd vn (C1 j:Int),vd vn t0]:=by simpa using kg
     replace hg:=Pq hg Ib (fun _ e=>.inl e)
     clear cg2 fg2 Ib ia Xf;generalize wE.setCell _ _=wH at kg hg |-;have ia:=(ra).refl wH;refine qo ?_;refine OA ?_;clear ia;go_wp2_with fail
     go_roundw
     case rel=>exact ⟨t+1,by omega,by go_num,by rw [HT.out.1],by rw [<- HT.out.2];exact kg,hg⟩
     case measure=>simp [intOf];omega
    ·obtain rfl:t=L.b:=by omega
     have q2:¬((L.b:Int)<L.b):=by omega
     have ho:=zFl (l:=[C0 j,C1 j,C2 L.b]) kg (base:=w.1.size) (by omega) (by simp [maxLen])
     go_wp2;go_ret
     exact ⟨_,rfl,ho,cK⟩
theorem zHe (A1 A2:Option vy) (n1 c1 n2 c2:Nat) (l1 l2:List Nat) (w:vw) (h1:RWd w [ve A1 n1 c1] l1) (h2:RWd w [ve A2 n2 c2] l2) :
  vB prog 252 #[ve A1 n1 c1,ve A2 n2 c2] w fun e w'=>e=vl (.bool (decide (l1=l2))) /\ vA w.1.size w w':=by
 obtain ⟨rfl,a1,a2,a3,r1⟩:=Nb h1;obtain ⟨rfl,b1,b2,b3,r2⟩:=Nb h2;have gm:=um a1 a2;have gm2:=um b1 b2;clear h1 h2 a1 a2 b1 b2 a3 b3;by_cases hn:l1.length=l2.length
 rotate_left
 ·have t1:((l1.length:Int)!=l2.length)=true:=by rw [Bf];omega
  have t2:((l1.length:Int)==l2.length)=false:=by rw [Gd];omega
  have HF:=zH (show decide (l1=l2)=false from db fun h=>hn (by rw [h]))
  rw [HF.out];generalize l1.length=m1 at *;generalize l2.length=m2 at *;clear r1 r2 hn;go_enter func252,ntmps252
  go_wp2;go_ret
  exact ⟨rfl,Ca _ _⟩
 have t1:((l1.length:Int)!=l2.length)=false:=by rw [iu];omega
 have t2:((l1.length:Int)==l2.length)=true:=by rw [qi];omega
 obtain ⟨n,Fe⟩:∃ n,l1.length=n:=⟨_,rfl⟩;have Vd:l2.length=n:=by omega
 rw [Fe] at r1;rw [Vd] at r2;rw [Fe,Vd] at t1 t2;rw [Fe] at gm;rw [Fe,Vd];obtain ⟨ans,ha⟩:=zEX (decide (l1=l2));rw [<- ha];have HA:=zH ha;have H1:=zH Fe;have H2:=zH Vd;clear hn Fe Vd gm2 ha;go_enter func252,ntmps252
 go_wp2_with fail
 go_loopw [13] (fun y wr=>∃ i:Nat,i <= n /\ y=vd vq i /\ Hid (l1.take i=l2.take i) /\ vA w.1.size w wr) (fun y _=>n-(intOf y).toNat)
 case atStart=>exact ⟨0,Mb _,rfl,rfl,Ca _ _⟩
 case round =>
  obtain ⟨i,hi,rfl,HT,Db⟩:=hrel;by_cases ta:i<n
  ·have g1:(0:Int)<=i:=by omega
   have g2:(i:Int)<n:=by omega
   have q1:=r1.below Db;have q2:=r2.below Db;rw [<- H1.out] at q1;rw [<- H2.out] at q2;obtain ⟨x1,y1,rfl,v1,d1⟩:=Fg q1 (j:=i) (by rw [H1.out];exact ta)
   obtain ⟨x2,y2,rfl,v2,d2⟩:=Fg q2 (j:=i) (by rw [H2.out];exact ta)
   clear q1 q2;by_cases he:l1.getD i 0=l2.getD i 0
   ·have iB:=zH (zHg HT.out (by rw [H1.out];exact ta) (by rw [H2.out];exact ta) he)
    rw [<- he] at d2;generalize l1.getD i 0=z at *;have u1:((z:Int)!=z)=false:=by rw [iu]
    have u2:((z:Int)==z)=true:=by rw [qi]
    clear he HT;go_wp2_with fail
    refine Pg (Ub) (ra) [] [] [0,1,2,3,4,5,6,7,8] (by kernel_rfl) (by kernel_rfl) ?_
    refine Qg (ra) ?_;intro Wc ia;refine Je ?_;refine Kr rfl ?_;intro wd ke;replace ia:=(ra).trans _ _ _ ia ke;clear ke;go_wp2;replace Db:=pa Db.drew ia
    go_roundw
    case rel=>exact ⟨i+1,by omega,by go_num,iB.out,Db⟩
    case measure=>simp [intOf];omega
   ·have HF:=zH (HA.out.trans (zHf he))
    generalize l1.getD i 0=z1 at *;generalize l2.getD i 0=z2 at *;have u1:((z1:Int)!=z2)=true:=by rw [Bf];omega
    have u2:((z1:Int)==z2)=false:=by rw [Gd];omega
    clear he HT;go_wp2_with fail
    refine Pg (Ub) (ra) [] [] [0,1,2,3,4,5,6,7,8] (by kernel_rfl) (by kernel_rfl) ?_
    refine Qg (ra) ?_;intro Wc ia;refine Je ?_;refine Kr rfl ?_;intro wd ke;replace ia:=(ra).trans _ _ _ ia ke;clear ke;go_wp2;go_ret
    exact ⟨by rw [HF.out];rfl,pa Db.drew ia⟩
  ·obtain rfl:i=n:=by omega
   have HF:=zH (HA.out.trans (tb (by have:=HT.out;rwa [<- H1.out,Zr,H1.out,<- H2.out,Zr] at this)))
   go_wp2;go_ret
   exact ⟨by rw [HF.out];rfl,Db⟩
def BB (L:Ma) (cs:List (List Nat)) (al be:Nat) (a b q:List Nat) (i:Int) (v:List Nat):Bool :=
 yv L a b q&&decide (0 <= i)&&decide (i<(L.n:Int))&&tj v (L.a+L.b+L.b+L.b+3) L.p&&decide (Bz L cs al be a b q (Fh L.p (Kb L.p).1 L.n i.toNat) (v.take (L.a+L.b+L.b+L.b))=v.drop (L.a+L.b+L.b+L.b))
theorem zFq (L:Ma) (pu La al be:Nat) (vars i:Int) (A B1 B2 B3 F:Option vy) (R c m1 d1 m2 d2 m3 d3 n d:Nat) (rows:List Ua) (a b q v:List Nat) (w:vw)
  (hL:Lb L) (hF:eu L pu vars rows) (hr:RSl 3 Ud w [ve A R c] rows) (hV:Dx vars rows)
  (ha:RWd w [ve B1 m1 d1] a) (hb:RWd w [ve B2 m2 d2] b) (hq:RWd w [ve B3 m3 d3] q) (hv:RWd w [ve F n d] v) :
  vB prog 177 #[vf (jb L),Tb L.p (pu:Int) vars (ve A R c),vf #[vd vn al,vd vn La,vd vn be],ve B1 m1 d1,ve B2 m2 d2,ve B3 m3 d3,vd vq i,ve F n d] w fun e w'=>e=vl (.bool (BB L (Uh L pu La rows) al be a b q i v)) /\ vA w.1.size w w':=by
 have jC:=hL.a;have Vz:=hL.b;obtain ⟨T,hT⟩:=zEX (L.a+L.b+L.b+L.b);obtain ⟨hvn,hvd,DF,-,-⟩:=Nb hv;have gm:=um hvd DF;have Lp:=zH (fun w=>by have:=UF L.p L.block L.queries L.k L.n L.secret L.rows L.a L.b L.b L.b w hL.a hL.b hL.b hL.b;rw [<- hT] at this;exact this)
 have HFi:=zH (fun w' (h:vA w.1.size w w')=>sZ L B1 B2 B3 m1 d1 m2 d2 m3 d3 a b q w' hL (Bb h ha) (Bb h hb) (Bb h hq) ⟨(Nb ha).1,(Nb hb).1,(Nb hq).1⟩)
 have uo:=zH (fun w' (h:vA w.1.size w w')=>WN L F n d v w' (Bb h hv))
 have HC:=zH (fun (w':vw) (h:vA w.1.size w w') (j:Nat) (hj:j<L.n) (hTn:T <= n)=>zFr L pu La al be vars A B1 B2 B3 F R c m1 d1 m2 d2 m3 d3 j T d rows a b q (v.take T) w' hL hF (Dg Bg _ _ _ _ h hr) hV (Bb h ha) (Bb h hb) (Bb h hq) (iN (Bb h hv) hTn) hj (by rw [Ru,<- hT];omega))
 obtain ⟨CD,hCD⟩:∃ CD:Nat -> List Nat,CD=fun j=>Bz L (Uh L pu La rows) al be a b q (Fh L.p (Kb L.p).1 L.n j) (v.take T):=⟨_,rfl⟩
 have Vw:=zH (show ∀ j,Bz L (Uh L pu La rows) al be a b q (Fh L.p (Kb L.p).1 L.n j) (v.take T)=CD j from fun j=>by rw [hCD])
 have HCX:=zH (show ∀ j,(∀ y∈CD j,y<18446744073709551616) /\ (CD j).length=3 from fun j=>by
  rw [hCD];refine ⟨fun y hy=>?_,rfl⟩
  have hp:=Pb hL.p;simp only [Bz,Dh,List.not_mem_nil,or_false] at hy;rcases hy with h | h | h <;> rw [h] <;> exact il (jG (by omega) _ _) hp.2)
 have HEq:=zH (fun (j:Nat) (A1:Option vy) (c1:Nat) (w':vw) (h:vA w.1.size w w') (hTn:T <= n) (h3:RWd w' [ve A1 3 c1] (CD j))=>zHe A1 (if d=T then F else Option.map (fun x=>x.add T) F) 3 c1 (n-T) (d-T) (CD j) (v.drop T) w' h3 (NK (Bb h hv) hTn))
 have HE:=zH (show BB L (Uh L pu La rows) al be a b q i v=(yv L a b q&&decide (0 <= i)&&decide (i<(L.n:Int))&&(decide (v.length=T+3)&&v.all fun x=>decide (x<L.p))&&decide (CD i.toNat=v.drop T)) by rw [hCD,hT];rfl)
 obtain ⟨ans,Ev⟩:=zEX (BB L (Uh L pu La rows) al be a b q i v);rw [<- Ev] at HE |-;obtain ⟨t,ht⟩:=zEX (T+3);have e1:(T:Int)+3=(t:Int):=by omega
 have e2:=ye t;have HT:=zH ht;have HN:=zH hvn;generalize yv L a b q=b1 at *;generalize (v.all fun x=>decide (x<L.p))=b2 at *
 have gT:T <= 400000:=by omega
 have gd:n <= d:=hvd;clear jC Vz hT hvn hvd DF hCD Ev ht hL hF hr hV ha hb hq hv;unfold jb Tb at *;obtain ⟨kl,kt,kx,da,-⟩:=Sp w 101 25 136 #[vd vn L.p,vd vq L.block,vd vq L.queries,vd vq L.k,vd vq L.n,vd vq L.secret,vd vq L.rows,vd vq L.a,vd vq L.b,vd vq L.b,vd vq L.b] #[vd vn L.p,vd vq pu,vd vq vars,ve A R c] #[vd vn al,vd vn La,vd vn be];go_enter func177,ntmps177
 go_upto_region 1 with fail
 generalize ((w.alloc _).alloc _).alloc _=w1 at kl kt kx da |-;have cl:=kl.cell;go_wp2_with fail
 refine (Lp.out _).mono ?_;rintro e w2 ⟨rfl,xa⟩;replace kl:=ja kl xa;replace kt:=ja kt xa;replace kx:=ja kx xa;replace da:=pa da xa;clear xa cl;have cl:=kl.cell;go_wp2_with fail
 refine (HFi.out _ da).mono ?_;rintro e w3 ⟨rfl,xa⟩;replace kl:=ja kl xa;replace kt:=ja kt xa;replace kx:=ja kx xa;replace da:=pa da xa;clear xa cl;cases b1
 ·go_wp2
  go_ret
  exact ⟨by rw [HE.out];simp,da⟩
 by_cases hi0:i<0
 ·have x1:decide (i<0)=true:=tb hi0
  have HF:=zH (show ans=false by rw [HE.out,db (show ¬(0 <= i) by omega)];simp)
  clear HE;go_wp2;go_ret
  exact ⟨by rw [HF.out];rfl,da⟩
 have x1:decide (i<0)=false:=db hi0;have cl:=kl.cell;by_cases hiN:(L.n:Int) <= i
 ·have x2:decide ((L.n:Int) <= i)=true:=tb hiN
  have HF:=zH (show ans=false by rw [HE.out,db (show ¬(i<(L.n:Int)) by omega)];simp)
  clear HE;go_wp2;go_ret
  exact ⟨by rw [HF.out];rfl,da⟩
 have x2:decide ((L.n:Int) <= i)=false:=db hiN;by_cases hlen:n=t
 rotate_left
 ·have x3:((n:Int)!=t)=true:=by rw [Bf];omega
  have HF:=zH (show ans=false by rw [HE.out,db (show ¬(v.length=T+3) by have:=HT.out;have:=HN.out;omega)];simp)
  clear HE hlen;go_wp2;go_ret
  exact ⟨by rw [HF.out];rfl,da⟩
 have x3:((n:Int)!=t)=false:=by rw [iu];omega
 obtain ⟨j,rfl⟩:=Zk (show 0 <= i by omega)
 have hjn:j<L.n:=by omega
 have ji:=zH (show ans=(b2&&decide (CD j=v.drop T)) by rw [HE.out,tb (show 0 <= (j:Int) by omega),tb (show (j:Int)<L.n by omega),tb (show v.length=T+3 by have:=HT.out;have:=HN.out;omega)];simp)
 have hTn:T <= n:=by have:=HT.out;omega
 have y1:(0:Int)<=T:=by omega
 have y2:(T:Int)<=n:=by omega
 have y3:(T:Int)<=d:=by omega
 clear hi0 hiN hlen HE;go_wp2_with fail
 refine (uo.out _ da).mono ?_;rintro e w4 ⟨rfl,xa⟩;replace kl:=ja kl xa;replace kt:=ja kt xa;replace kx:=ja kx xa;replace da:=pa da xa;clear xa cl;cases b2
 ·go_wp2
  go_ret
  exact ⟨by rw [ji.out];rfl,da⟩
 have cl:=kl.cell;have ll:=kl.lt;have ct:=kt.cell;have lt:=kt.lt;have cx:=kx.cell;have lx:=kx.lt;go_upto_region 4 with fail
 refine zd (Ub) [10,14] [0,1,2,3,4,5,6,7,8,9,11,12,13,10,14,15] (by kernel_rfl) (by kernel_rfl) ?_
 refine Se (ra) ?_;intro Wc Ja ia;have Ka:=Tf Ja;replace da:=pa da Ka;clear Ka;refine Qb ?_;refine Bc (ra) rfl rfl rfl (fun _=>by go_simp <;> rfl) ((HC.out _ da j hjn hTn).mono ?_)
 rintro e w5 ⟨v5,rfl,o5,Ya⟩;refine ⟨_,rfl,Ya,?_⟩;replace ia:=(ra).trans _ _ _ ia (Ya);refine zPU ?_;rw [Vw.out] at o5;obtain ⟨A5,c5,rfl,-⟩:=de o5;have h5:=yt o5 (HCX.out j).1;replace da:=pa da Ya;clear Ya o5;refine Qb ?_;refine Bc (ra) rfl rfl rfl (fun _=>by go_simp <;> rfl) ((HEq.out j _ _ _ da hTn h5).mono ?_)
 rintro e w6 ⟨rfl,sc⟩;refine ⟨_,rfl,sc,?_⟩;replace ia:=(ra).trans _ _ _ ia (sc);refine zPU ?_;replace da:=pa da sc;clear sc h5;refine Qb ?_;refine Jc ?_;generalize (if d=T then F else Option.map (fun x=>x.add T) F)=FX
 go_wp2;go_ret
 exact ⟨by rw [ji.out];rfl,da⟩
theorem zBX {L:Ma} {cs:List (List Nat)} {al be i:Nat} {a b q v l:List Nat} (hf:yv L a b q=true) (hi:i<L.n) (hv:v.length=L.a+L.b+L.b+L.b) (hlv:∀ x∈v,x<L.p) (hl:l.length=3) (Ov:∀ x∈l,x<L.p) :
  BB L cs al be a b q (i:Int) (v++l)=decide (Bz L cs al be a b q (Fh L.p (Kb L.p).1 L.n i) v=l):=by
 have e1:tj (v++l) (L.a+L.b+L.b+L.b+3) L.p=true:=by
  unfold tj;rw [mc,Oo,fe];refine ⟨by rw [Ni];omega,fun x hx=>?_⟩
  rw [Oo];rcases Np.1 hx with h | h
  ·exact hlv x h
  ·exact Ov x h
 have e2:decide ((0:Int)<=i)=true:=tb (by omega)
 have e3:decide ((i:Int)<L.n)=true:=tb (by omega)
 unfold BB;rw [hf,e1,e2,e3,List.take_left' hv,List.drop_left' hv,Bk]
 rfl
theorem Cg.less {p:Nat} {x y u v:Int} (h:Cg p x y) (h2:Cg p u v):Cg p (x-u) (y-v):=by
 rw [Int.sub_eq_add_neg,Int.sub_eq_add_neg];exact h.add h2.neg
theorem zBo {L:Ma} (m r:List (List Nat)) (co:List Nat) (al:Nat) (x:Int):Cg L.p (Ic (uz L m r co al) x) (Ic co x+Pa (fun j=>(Og L.p al (j+1):Int)*Ic ((Sf L m r).getD j []) x) m.length):=by
 unfold uz;rw [TS];exact (BE _ _ _).trans (Cg.rfl'.add (xS _ _ _ _))
theorem VX {L:Ma} (cs m r:List (List Nat)) (li:List Nat) (x:Int):Cg L.p (Ic (Fx L cs m r li) x) (Ic (sg L li) x+Pa (fun j=>Ic ((Fp L.p cs).getD j []) x*Ic ((Sf L m r).getD j []) x) m.length):=by
 unfold Fx;rw [TS];exact (BE _ _ _).trans (Cg.rfl'.add (JU _ _ _ _))
theorem WX {L:Ma} (hp:1<L.p) (m r:List (List Nat)) (qu:List Nat) (be:Nat) (x:Int):Cg L.p (Ic (Gx L m r qu be) x) (Ic (Dw L qu) x+Pa (fun j=>(Og L.p be (j+1):Int)*(Ic ((Sf L m r).getD (L.a+j) []) x*Ic ((Sf L m r).getD (L.a+L.b+j) []) x-Ic ((Sf L m r).getD (L.a+L.b+L.b+j) []) x)) L.b):=by
 unfold Gx;rw [TS];exact (BE _ _ _).trans (Cg.rfl'.add (FV hp _ _ _ _ _ _))
theorem uW {p:Nat} (hp:0<p) {a c:List Nat} {s x:Nat} {S:Int} (h1:Cg p (Ic a x) (Ic c x+S)) (h2:Cg p (s:Int) S):FA p (Lc p a x) s=Lc p c x:=by
 refine Cg.eq (p:=p) ?_ (jG hp _ _) (ru hp _ _);refine (iG hp _ _).trans ?_;refine Cg.trans ?_ (Mq c).symm;refine (Cg.less ((Mq a).trans h1) h2).trans (Cg.of_eq ?_);omega
theorem zB0 {L:Ma} (hL:Lb L) {cs:List (List Nat)} {a b c co ml qd:List Nat} {R:List (List Nat)} {al be x:Nat} {v:List Nat} (hv:v.length=L.a+L.b+L.b+L.b) (DF:∀ j,j<v.length -> v.getD j 0=Lc L.p (R.getD j []) x)
  (ha:Cg L.p (Ic a x) (Ic co x+Pa (fun j=>(Og L.p al (j+1):Int)*Ic (R.getD j []) x) v.length))
  (hb:Cg L.p (Ic b x) (Ic ml x+Pa (fun j=>Ic ((Fp L.p cs).getD j []) x*Ic (R.getD j []) x) v.length))
  (hc:Cg L.p (Ic c x) (Ic qd x+Pa (fun j=>(Og L.p be (j+1):Int)*(Ic (R.getD (L.a+j) []) x*Ic (R.getD (L.a+L.b+j) []) x-Ic (R.getD (L.a+L.b+L.b+j) []) x)) L.b)) :
  Bz L cs al be a b c x v=[Lc L.p co x,Lc L.p ml x,Lc L.p qd x]:=by
 obtain ⟨hp,-⟩:=Pb hL.p;have zg:0<L.p:=by omega
 have hf:∀ j,j<v.length -> Cg L.p ((v.getD j 0:Nat):Int) (Ic (R.getD j []) x):=fun j h=>by rw [DF j h];exact Mq _
 unfold Bz;rw [uW zg ha ((tY _ al _).trans (Gi _ fun j hj=>Cg.rfl'.mul (hf j hj)))]
 rw [uW zg hb ((I4 _ _ _).trans (Gi _ fun j hj=>(Mq _).mul (hf j hj)))]
 rw [uW zg hc ((yQ (by omega) hv.symm _ be).trans (Gi _ fun j hj=>Cg.rfl'.mul (((hf _ (by omega)).mul (hf _ (by omega))).less (hf _ (by omega)))))]
theorem zF5 {L:Ma} (hL:Lb L) {m r:List (List Nat)} (h:au L m r) (co li qu:List Nat) {j:Nat} (hj:j<m.length):(Fj L m r co li qu).getD j []=(Sf L m r).getD j []:=by
 rw [nD hL h hj];have h1:(Fj L m r co li qu).getD j []=ZF L m r j:=by
  unfold Fj;rw [Cb,pB (by simp [Hy];exact hj)]
  simp [Hy,hj]
 have h2:(r.getD j []).length=L.queries:=DE h.rr (by rw [h.rl];exact hj)
 rw [h1];unfold ZF Kq Hx;rw [h2,<- hL.k]
theorem zF4 (L:Ma) (m r:List (List Nat)) (co li qu:List Nat):(Fj L m r co li qu).getD m.length []=co /\ (Fj L m r co li qu).getD (m.length+1) []=sg L li /\ (Fj L m r co li qu).getD (m.length+2) []=VM L qu:=by
 have hl:(Hy L m r m.length).length=m.length:=by simp [Hy]
 unfold Fj;simp only [Cb];refine ⟨?_,?_,?_⟩
 ·rw [Yt (by omega),hl,Nat.sub_self];rfl
 ·rw [Yt (by omega),hl,XG];rfl
 ·rw [Yt (by omega),hl,XG];rfl
theorem zBY {L:Ma} (hL:Lb L) {cs m r:List (List Nat)} (h:au L m r) (Pf:∀ x∈cs,x.length=L.block) (Wh:cs.length=m.length) {co li qu:List Nat} (hc:co.length=L.k /\ ∀ y∈co,y<L.p) (hl:li.length=L.k+L.block-2 /\ ∀ y∈li,y<L.p) (hq:qu.length=L.block+2*L.queries-1) (al be:Nat) {i:Nat} (hi:i<L.n) :
  BB L cs al be (uz L m r co al) (Fx L cs m r li) (Gx L m r qu be) (i:Int) ((List.range (m.length+3)).map (Js L (Fj L m r co li qu) i))=true:=by
 obtain ⟨hp,-⟩:=Pb hL.p;have zg:0<L.p:=by omega
 obtain ⟨Fe,Vd⟩:=IP hL;have Hv:∀ j,Js L (Fj L m r co li qu) i j=Lc L.p ((Fj L m r co li qu).getD j []) (Fh L.p (Kb L.p).1 L.n i):=fun j=>by
  unfold Js;exact US hL.p Fe Vd _ hi
 obtain ⟨F,hF⟩:=zEX ((List.range m.length).map (Js L (Fj L m r co li qu) i));have hFl:F.length=m.length:=by rw [hF];simp
 have hsplit:(List.range (m.length+3)).map (Js L (Fj L m r co li qu) i)=F++[Js L (Fj L m r co li qu) i m.length,Js L (Fj L m r co li qu) i (m.length+1),Js L (Fj L m r co li qu) i (m.length+2)]:=by
  rw [hF,show m.length+3=m.length+1+1+1 by omega,List.range_succ,List.range_succ,List.range_succ]
  simp
 obtain ⟨p0,p1,p2⟩:=zF4 L m r co li qu;rw [hsplit,Hv m.length,Hv (m.length+1),Hv (m.length+2),p0,p1,p2];rw [zBX (XX hL h Pf Wh hc hl hq al be) hi (by rw [hFl];exact h.ml) (fun x hx=>by
  rw [hF] at hx;obtain ⟨j,-,rfl⟩:=Ed.1 hx;rw [Hv];exact ru zg _ _) rfl (fun x hx=>by
  simp only [Dh,List.not_mem_nil,or_false] at hx;rcases hx with rfl | rfl | rfl <;> exact ru zg _ _)]
 refine tb ?_;refine zB0 hL (R:=Sf L m r) (by rw [hFl];exact h.ml) (fun j hj=>?_) ?_ ?_ ?_
 ·have Tz:j<m.length:=by rw [<- hFl];exact hj
  rw [hF,Bl,Na Tz,Hv,zF5 hL h _ _ _ Tz]
 ·rw [hFl];exact zBo _ _ _ _ _
 ·rw [hFl];exact VX _ _ _ _ _
 ·refine (WX (by omega) m r qu be _).trans ?_
  rw [xQ hL hq];exact Cg.rfl'
def mG (L:Ma) (t:Nat) (a b q:List Nat):Bool:=yv L a b q&&((List.range L.block).all fun k=>decide (Lc L.p q (Fh L.p 1 L.block k)=0))&&decide (lG L.p (fun k=>Lc L.p b (Fh L.p 1 L.block k)) L.block=t)
theorem zBi {n k:Nat} {f:Nat -> Bool} (hk:k<n) (h:f k=false):(List.range n).all f=false:=by
 rw [Bool.eq_false_iff];intro hh;rw [fe] at hh;rw [hh k (Oi.2 hk)] at h;cases h
theorem LX {n:Nat} {f:Nat -> Bool} (h:∀ k,k<n -> f k=true):(List.range n).all f=true:=by
 rw [fe];exact fun k hk=>h k (Oi.1 hk)
theorem D7 (p:Nat) (A:Option vy) (n c x:Nat) (l:List Nat) (w:vw) (hp:Fb p=true) (hl:RWd w [ve A n c] l) :
  vB prog 249 #[fv p,ve A n c,vd vn x] w fun e w'=>e=vl (vd vn ((Lc p l x:Nat):Int)) /\ vA w.1.size w w':=by
 rw [<- F0 (by have:=Pb hp;omega)]
 exact E7 p A n c x l w hp hl
theorem zFI (L:Ma) (pu La al be:Nat) (vars:Int) (A B B1 B2 B3:Option vy) (R c d m1 d1 m2 d2 m3 d3:Nat) (rows:List Ua) (pub a b q:List Nat) (w:vw)
  (hL:Lb L) (hF:eu L pu vars rows) (hr:RSl 3 Ud w [ve A R c] rows) (Wq:RWd w [ve B pu d] pub)
  (ha:RWd w [ve B1 m1 d1] a) (hb:RWd w [ve B2 m2 d2] b) (hq:RWd w [ve B3 m3 d3] q) :
  vB prog 176 #[vf (jb L),Tb L.p (pu:Int) vars (ve A R c),ve B pu d,vf #[vd vn al,vd vn La,vd vn be],ve B1 m1 d1,ve B2 m2 d2,ve B3 m3 d3] w fun e w'=>e=vl (.bool (mG L (Ir L.p rows.length La (1 :: pub) rows 3) a b q)) /\ vA w.1.size w w':=by
 have hp:=Pb hL.p;have HFi:=zH (fun w' (h:vA w.1.size w w')=>sZ L B1 B2 B3 m1 d1 m2 d2 m3 d3 a b q w' hL (Bb h ha) (Bb h hb) (Bb h hq) ⟨(Nb ha).1,(Nb hb).1,(Nb hq).1⟩)
 have HPt:=zH (fun w=>H7 L w hL)
 have HTg:=zH (fun w' (h:vA w.1.size w w')=>by have:=zFJ L pu La vars A B R c d rows pub w' hL hF (Dg Bg _ _ _ _ h hr) (Bb h Wq);rw [zHU (by omega)] at this;exact this)
 have HQ:=zH (fun x w' (h:vA w.1.size w w')=>D7 L.p B3 m3 d3 x q w' hL.p (Bb h hq))
 have HB:=zH (fun x w' (h:vA w.1.size w w')=>D7 L.p B2 m2 d2 x b w' hL.p (Bb h hb))
 have HA:=zH (fun a b w=>Om L.p a b w hL.p)
 have gB:=hL.b2;obtain ⟨t,ht⟩:=zEX (Ir L.p rows.length La (1 :: pub) rows 3);rw [<- ht] at HTg |-;obtain ⟨D,hD⟩:=zEX (Fh L.p 1 L.block);obtain ⟨Z,hZ⟩:∃ Z:Nat -> Nat,Z=fun k=>Lc L.p q (D k):=⟨_,rfl⟩
 obtain ⟨S,hS⟩:∃ S:Nat -> Nat,S=lG L.p (fun k=>Lc L.p b (D k)):=⟨_,rfl⟩
 obtain ⟨ans,Ev⟩:=zEX (mG L t a b q);have HE:=zH (show ans=(yv L a b q&&((List.range L.block).all fun k=>decide (Z k=0))&&decide (S L.block=t)) by rw [Ev,hS,hZ,hD];rfl)
 have HZ:=zH (show ∀ k,Lc L.p q (D k)=Z k from fun k=>by rw [hZ])
 have Gq:=zH (show S 0=0 by rw [hS];rfl)
 have HS:=zH (show ∀ k,S (k+1)=(S k+Lc L.p b (D k))%L.p from fun k=>by rw [hS];rfl)
 rw [<- Ev];rw [<- hD] at HPt;generalize yv L a b q=b1 at *;clear hp ht hD hZ hS Ev hL hF hr Wq ha hb hq;unfold jb Tb fv at *;obtain ⟨kl,kt,kx,da,-⟩:=Sp w 101 25 136 #[vd vn L.p,vd vq L.block,vd vq L.queries,vd vq L.k,vd vq L.n,vd vq L.secret,vd vq L.rows,vd vq L.a,vd vq L.b,vd vq L.b,vd vq L.b] #[vd vn L.p,vd vq pu,vd vq vars,ve A R c] #[vd vn al,vd vn La,vd vn be];go_enter func176,ntmps176
 go_upto_region 1 with fail
 generalize ((w.alloc _).alloc _).alloc _=w1 at kl kt kx da |-;have cl:=kl.cell;go_wp2_with fail
 refine (HFi.out _ da).mono ?_;rintro e w2 ⟨rfl,xa⟩;replace kl:=ja kl xa;replace kt:=ja kt xa;replace kx:=ja kx xa;replace da:=pa da xa;clear xa cl;cases b1
 ·have HF:=zH (show ans=false by rw [HE.out];simp)
  go_wp2;go_ret
  exact ⟨by rw [HF.out];rfl,da⟩
 have cl:=kl.cell;go_upto_region 4 with fail
 have kf:=Blk.new w2 224 #[vd vn L.p];have ma:=(Ca w2.1.size w2).alloc zR (.cells #[vd vn L.p] 224);replace kl:=ja kl ma;replace kt:=ja kt ma;replace kx:=ja kx ma;replace da:=pa da ma;generalize w2.alloc _=w3 at kl kt kx kf da |-;generalize w2.1.size=gf at kf |-;clear ma cl;have cl:=kl.cell;go_wp2_with fail
 refine (HPt.out _).mono ?_;rintro e w4 ⟨g1,g2,rfl,kp,-,-,-,xa⟩;replace kl:=ja kl xa;replace kt:=ja kt xa;replace kx:=ja kx xa;replace kf:=ja kf xa;replace da:=pa da xa;clear xa cl HPt;go_wp2_with fail
 go_loopw [18,37] (fun y i wr=>∃ k:Nat,k <= L.block /\ i=vd vq k /\ y=vd vn (S k:Int) /\ Hid (∀ j,j<k -> Z j=0) /\ vA w4.1.size w4 wr) (fun _ i _=>L.block-(intOf i).toNat)
 case atStart=>exact ⟨0,Mb _,rfl,by rw [Gq.out];rfl,zH fun j h=>absurd h (Nat.not_lt_zero _),Ca _ _⟩
 case round =>
  obtain ⟨k,hk,rfl,rfl,HZs,hb⟩:=hrel;have rp:=ja kf hb;have Al:=ja kl hb;have kt':=ja kt hb;have kx':=ja kx hb;have kp':=ja kp hb;replace da:=pa da hb;have cf:=rp.cell;have lf:=rp.lt;by_cases ta:k<L.block
  ·have q1:(k:Int)<L.block:=by omega
   have q2:(0:Int)<=k:=by omega
   have cp:=kp'.cell k;rw [Mf _ ta] at cp;have lp:=kp'.lt;obtain ⟨x,hx⟩:=zEX (D k);obtain ⟨y,hy⟩:=zEX (Lc L.p b x);obtain ⟨z,hz⟩:=zEX (Z k);obtain ⟨s1,Bd⟩:=zEX (S (k+1));have qx:=zH (fun w' h=>by have:=HQ.out (D k) w' h;rw [HZ.out k,<- hz,<- hx] at this;exact this)
   have HB1:=zH (fun w' h=>by have:=HB.out x w' h;rw [<- hy] at this;exact this)
   have xk:=zH (fun w=>by have:=HA.out (S k) y w;rw [hy,hx,<- HS.out k,<- hx,<- hy,<- Bd] at this;exact this)
   have HH:=zH (And.intro hz Bd);rw [<- hx] at cp;clear hx hy hz Bd;generalize S k=sk at *;go_wp2_with fail
   refine (qx.out _ da).mono ?_;rintro e w5 ⟨rfl,xa⟩;replace rp:=rp.below xa rp.lt;replace da:=pa da xa;replace hb:=pa hb xa;clear xa cf lf cp lp;have cf:=rp.cell;have lf:=rp.lt;by_cases h0:z=0
   ·have q3:((z:Int) != 0)=false:=by rw [iu];omega
    have HZ1:=zH (show ∀ j,j<k+1 -> Z j=0 from fun j hj=>by
     by_cases e:j=k
     ·rw [e,<- HH.out.1];exact h0
     ·exact HZs.out j (by omega))
    clear h0;go_upto_region 11 with fail
    refine zd (Ub) [5,6] [0,1,2,3,4,5,6,7] (by kernel_rfl) (by kernel_rfl) ?_
    refine Se (ra) ?_;intro Wc Ja ia;have Ka:=Tf Ja;replace da:=pa da Ka;replace hb:=pa hb Ka;clear Ka;refine Qb ?_;refine Bc (ra) rfl rfl rfl (fun _=>by go_simp <;> rfl) ((HB1.out _ da).mono ?_)
    rintro e w6 ⟨rfl,xa⟩;refine ⟨_,rfl,xa,?_⟩;replace ia:=(ra).trans _ _ _ ia (xa);refine zPU ?_;replace da:=pa da xa;replace hb:=pa hb xa;clear xa;refine Qb ?_;refine Bc (ra) rfl rfl rfl (fun _=>by go_simp <;> rfl) ((xk.out _).mono ?_)
    rintro e w7 ⟨rfl,xa⟩;refine ⟨_,rfl,xa,?_⟩;replace ia:=(ra).trans _ _ _ ia (xa);refine zPU ?_;replace da:=pa da xa;replace hb:=pa hb xa;clear xa;refine Qb ?_;refine Jc ?_;clear ia cf lf;go_wp2
    go_roundw
    case rel=>exact ⟨k+1,by omega,by go_num,by rw [HH.out.2],HZ1,hb⟩
    case measure=>simp [intOf];omega
   ·have q3:((z:Int) != 0)=true:=by rw [Bf];omega
    have HF:=zH (show ans=false by rw [HE.out,zBi ta (db (show ¬Z k=0 by rw [<- HH.out.1];exact h0))];simp)
    clear h0;go_wp2;go_ret
    exact ⟨by rw [HF.out];rfl,da⟩
  ·obtain rfl:k=L.block:=by omega
   have q1:¬((L.block:Int)<L.block):=by omega
   have ji:=zH (show ans=decide (S L.block=t) by rw [HE.out,LX fun k hk=>tb (HZs.out k hk)];simp)
   have cl:=Al.cell;have ct:=kt'.cell;have cx:=kx'.cell;generalize S L.block=s at *;go_wp2_with fail
   refine (HTg.out _ da).mono ?_;rintro e w5 ⟨rfl,xa⟩;replace da:=pa da xa;clear xa cl ct cx;by_cases hs:s=t
   ·have q3:((s:Int)==t)=true:=by rw [qi];omega
    have HF:=zH (show ans=true by rw [ji.out,tb hs])
    clear hs ji;go_wp2;go_ret
    exact ⟨by rw [HF.out];rfl,da⟩
   ·have q3:((s:Int)==t)=false:=by rw [Gd];omega
    have HF:=zH (show ans=false by rw [ji.out,db hs])
    clear hs ji;go_wp2;go_ret
    exact ⟨by rw [HF.out];rfl,da⟩
def bD (L:Ma) (t:Nat) (cs m:List (List Nat)) (be:Nat):Bool:=decide (WK L.p cs m m.length=t)&&(List.range L.block).all fun k=>decide (Lc L.p (Zn L.p L.a L.b (Hr (fun i=>(m.getD i []).getD k 0) m.length) be L.b) 0=0)
theorem zBj {n:Nat} {f g:Nat -> Bool} (h:∀ k,k<n -> f k=g k):(List.range n).all f=(List.range n).all g:=by
 rw [Bool.eq_iff_iff,fe,fe];exact ⟨fun h1 x hx=>by rw [<- h x (Oi.1 hx)];exact h1 x hx,fun h1 x hx=>by rw [h x (Oi.1 hx)];exact h1 x hx⟩
theorem RN {L:Ma} (hL:Lb L) {m r:List (List Nat)} (h:au L m r) (hm:∀ x∈m,∀ y∈x,y<L.p) {i k:Nat} (hi:i<m.length) (hk:k<L.block):Cg L.p (Ic ((Sf L m r).getD i []) ((Fh L.p 1 L.block k:Nat):Int)) (((m.getD i []).getD k 0:Nat):Int):=by
 obtain ⟨hp,-⟩:=Pb hL.p;rw [nD hL h hi];have h2:(r.getD i []).length=L.queries:=DE h.rr (by rw [h.rl];exact hi)
 have e:Kq L m r i=pA L (m.getD i []) (r.getD i []):=by unfold Kq Hx pA;rw [h2,<- hL.k]
 rw [e];refine (Mq _).symm.trans (Cg.of_eq ?_);rw [zG7 hL (fun j=>Bv (by omega) (DE (P:=fun x=>∀ y∈x,y<L.p) hm hi) j) hk]
theorem wt_at {L:Ma} (hL:Lb L) {cs:List (List Nat)} (Pf:∀ x∈cs,x.length=L.block) {j k:Nat} (hj:j<cs.length) (hk:k<L.block):Cg L.p (Ic ((Fp L.p cs).getD j []) ((Fh L.p 1 L.block k:Nat):Int)) (((cs.getD j []).getD k 0:Nat):Int):=by
 obtain ⟨hlen,t,ht⟩:=yy hL;have Au:L.block=2^L.block.log2:=by rw [ht,rz]
 rw [gX hL Pf hj];unfold Ic Hs;rw [Jm,Eo,NS];exact (Po (fun i=>Cg.rfl') IL _).trans (tU _ hL.p hlen Au hk)
theorem xW {p:Nat} (a b:List (List Nat)):∀ n,Cg p (WK p a b n:Int) (Pa (fun i=>Pa (fun k=>(((a.getD i []).getD k 0:Nat):Int)*(((b.getD i []).getD k 0:Nat):Int)) (a.getD i []).length) n)
 | 0=>Cg.of_eq rfl
 | n+1=>(Cg.mod _).trans ((Cg.of_eq (Ml _ _)).trans ((xW a b n).add (DS _ _ _)))
theorem Y9 {p:Nat} (hp:0<p) (a b:List (List Nat)):∀ n,WK p a b n<p
 | 0=>hp
 | _+1=>ic _ hp
/-- The answers have the right sums WS if the messages pass. -/
theorem zHT {L:Ma} (hL:Lb L) {cs m r:List (List Nat)} (h:au L m r) (hm:∀ x∈m,∀ y∈x,y<L.p) (Pf:∀ x∈cs,x.length=L.block) (Wh:cs.length=m.length) {co li qu:List Nat} (hc:co.length=L.k /\ ∀ y∈co,y<L.p) (hl:li.length=L.k+L.block-2 /\ ∀ y∈li,y<L.p) (hq:qu.length=L.block+2*L.queries-1) (al be t:Nat) :
  mG L t (uz L m r co al) (Fx L cs m r li) (Gx L m r qu be)=bD L t cs m be:=by
 obtain ⟨hp,-⟩:=Pb hL.p;have zg:0<L.p:=by omega
 have e1:∀ k,k<L.block -> Lc L.p (Gx L m r qu be) (Fh L.p 1 L.block k)=Lc L.p (Zn L.p L.a L.b (Hr (fun i=>(m.getD i []).getD k 0) m.length) be L.b) 0:=fun k hk=>by
  refine Cg.eq (p:=L.p) ?_ (ru zg _ _) (ru zg _ _);refine (Mq _).trans ?_;refine (WX (by omega) m r qu be _).trans ?_
  refine Cg.trans ?_ (yQ (by omega) h.ml.symm _ be).symm
  have e0:Cg L.p (Ic (Dw L qu) ((Fh L.p 1 L.block k:Nat):Int)) 0:=by
   rw [xQ hL hq];refine (Mq _).symm.trans (Cg.of_eq ?_);rw [zGw hL];rfl
  have zj:=h.ml;refine (e0.add (Gi _ fun j hj=>Cg.rfl'.mul (((RN hL h hm (i:=L.a+j) (by omega) hk).mul (RN hL h hm (i:=L.a+L.b+j) (by omega) hk)).less (RN hL h hm (i:=L.a+L.b+L.b+j) (by omega) hk)))).trans (Cg.of_eq ?_)
  rw [Int.zero_add]
 have e2:lG L.p (fun k=>Lc L.p (Fx L cs m r li) (Fh L.p 1 L.block k)) L.block=WK L.p cs m m.length:=by
  refine Cg.eq (p:=L.p) ?_ (zAc zg _ _) (Y9 zg _ _ _);refine (UQ _ _).trans ?_;refine Cg.trans ?_ (xW _ _ _).symm;refine (Gi (g:=fun k=>(Lc L.p (sg L li) (Fh L.p 1 L.block k):Int)+Pa (fun j=>(((cs.getD j []).getD k 0:Nat):Int)*(((m.getD j []).getD k 0:Nat):Int)) m.length) _ fun k hk=>?_).trans ?_
  ·refine (Mq _).trans ((VX cs m r li _).trans ?_)
   exact (Mq _).symm.add (Gi _ fun j hj=>(wt_at hL Pf (by omega) hk).mul (RN hL h hm hj hk))
  ·rw [XK]
   have e3:Cg L.p (Pa (fun k=>(Lc L.p (sg L li) (Fh L.p 1 L.block k):Int)) L.block) 0:=by
    refine (UQ _ _).symm.trans (Cg.of_eq ?_);rw [zEa hL];rfl
   refine (e3.add Cg.rfl').trans ?_;rw [Int.zero_add,IA];refine Gi _ fun j hj=>Cg.of_eq ?_
   rw [DE Pf (show j<cs.length by omega)]
 unfold mG bD;rw [XX hL h Pf Wh hc hl hq al be,e2,Bool.true_and,Bool.and_comm]
 congr 1
 exact zBj fun k hk=>by rw [e1 k hk]
end Go.Proofs.YteoghgbnielkpaaGreat
