/- A part of the proof. No condition. -/
import Derived.Test.YtodmnanljoaocaaGreatPU17
import Derived.Test.YtodmnanljoaocaaGreatPU15

set_option maxRecDepth 100000
set_option maxHeartbeats 8000000
set_option linter.unusedVariables false
set_option linter.unusedSimpArgs false
namespace Go.Proofs.YtodmnanljoaocaaGreat
open Go.RowKit Go.Maps
open Tryz
open Go renaming World->vv, Value->vw, Addr->vx, TypeId->vy, Calls->vA
open Go.Value renaming int->vd, slice->ve, agg->vf
open Go.IntKind renaming u64->vq, i64->vt
open Go.Ending renaming returned->vn
open Go.RowKit renaming Below->vz
open Go.Act renaming put->vF
open Option renaming none->vB, some->vD
theorem U6:∀ (p:List Nat) {O:Oa} {k:Nat} (lab:Nat) (el:List Nat) (i:Nat),je O k -> je (Ms p O lab el i) (k+p.length+1)
 | [],O,k,lab,el,_,h=>ti (SK h lab el) zS
 | a :: ps,O,k,lab,el,i,h=>by
  unfold Ms;cases Rp O lab el with
  | none=>exact ti (SK h lab el) (by simp only [pk];omega)
  | some b=>exact ti (U6 ps _ _ _ (SK h lab el)) (by simp only [pk];omega)
theorem zEK {O:Oa} {k:Nat} (h:je O k) (root n i Qc:Nat) (leaf path:List Nat):je (SC O root n i Qc leaf path) (k+11):=by
 unfold SC;split
 ·next hv =>
  have:=(S7 hv).1;exact ti (U6 path 16 _ i h) zO
 ·exact ti h zO
theorem zFW {L:Xa} {j:Nat} {P:Yg} (h:Is L j P=true):P.cols.length=L.queries /\ (∀ c∈P.cols,c.length=L.a+L.b+L.b+L.b+3) /\ P.salts.length=L.queries /\ P.paths.length=L.queries /\ ∀ c∈P.paths,c.length=j:=by
 unfold Is xM Js at h;simp only [Pd,Qk,Wg] at h;obtain ⟨-,-,-,-,⟨hc,tw⟩,⟨-,hs⟩,hp,Og⟩:=h;exact ⟨zO,fun c k=>by have:=(hc c k).2;omega,zO,zO,fun c k=>by have:=(hp c k).2;omega⟩
theorem zE2 {w:vv} {g:Nat} {O:Oa} {F K:Nat -> Prop} (h:OrcAt w g O F) (L:Xa) (j pu:Nat) (vars bl bw qs:Int) (A B:Option vx) (n c m d:Nat) (rows:List Ya) (pb:List Nat) (P:Yg) (S:PS)
  (hX:sI L.p (pu:Int) vars rows bl bw qs pb L) (hn:L.n=2^j) (hD:aB L.p (pu:Int) vars rows) (ht:L.a+3*L.b <= 40)
  (hA:Hd K w fun u=>RSl 3 Ue u [ve A n c] rows /\ RWd u [ve B m d] pb /\ Pm u P S) (hK:∀ b,K b -> b<w.1.size /\ ¬F b) (hO:je O 100000) :
  vA prog 49 #[.pointer (vD ⟨g,0,vB⟩),vf (Eb L),Kc L.p (pu:Int) vars (ve A n c),ve B m d,vf (Hf P S)] w fun e w' =>
   ∃ F',e=vn (.bool (Pr O L j pu (Cf L.p (pu:Int) vars rows) rows pb P).1) /\ OrcAt w' g (Pr O L j pu (Cf L.p (pu:Int) vars rows) rows pb P).2 F' /\ Moved F F' w w':=by
 obtain ⟨kl,kt,kp,ba,-⟩:=Tp w 121 25 47 (Eb L) #[vd vq L.p,vd vt pu,vd vt vars,ve A n c] (Hf P S);have hj:=V7 hn hX.ok.n2;have a0:=ym hA;have yD:=zH (fun u (hb:vz w.1.size w u)=>C7 L j P S u hX.ok hn hj (Wn hA (Yb hb)).2.2)
 have H:=zH h;have nF:=zH (show ∀ b,w.1.size <= b -> ¬F b from fun b hb e=>by have:=h.lt b e;omega)
 have HK:=zH hK;obtain ⟨r,hr⟩:=zEX (Pr O L j pu (Cf L.p (pu:Int) vars rows) rows pb P);rw [<- hr];cases hv:Is L j P
 ·rw [hv] at yD
  have HR:=zH (show r=(false,O) by rw [hr];unfold Pr;rw [hv];rfl)
  clear hr hv a0 hj hA hX hD ht hK hO hn h;unfold Eb Hf Kc at *;go_enter func49,ntmps49
  go_upto_region 1 with fail
  generalize ((w.alloc _).alloc _).alloc _=w1 at kl kt kp ba |-;have cl:=kl.cell;have cp:=kp.cell;go_wp2_with fail
  refine (yD.out _ ba).mono ?_;rintro e w2 ⟨rfl,Da⟩;have hb:=pa ba Da;go_wp2;go_ret
  exact ⟨F,by rw [HR.out];rfl,by rw [HR.out];exact H.out.below hb,xe hb⟩
 rw [hv] at yD;obtain ⟨ch,Wp⟩:=zEX (Em (qg O L (Cf L.p (pu:Int) vars rows) pb) L.p P.root);obtain ⟨pos,bs⟩:=zEX (xq (oh (qg O L (Cf L.p (pu:Int) vars rows) pb) P.root) (P.code++P.linear++P.quad) L.n L.queries);obtain ⟨O1,El⟩:=zEX (WA (oh (qg O L (Cf L.p (pu:Int) vars rows) pb) P.root) (P.code++P.linear++P.quad) L.queries);obtain ⟨sb,hsb⟩:=zEX (CS L (gI L.p rows.length ch.rh (1 :: pb) rows 3) P.code P.linear P.quad);obtain ⟨f,hf⟩:∃ f:Nat -> Bool,f=fun i=>QN L (Bl L pu ch.rh rows) ch.al ch.be P.code P.linear P.quad ((pos.getD i 0:Nat):Int) (P.cols.getD i []):=⟨_,rfl⟩
 obtain ⟨v,hvv⟩:∃ v:Oa -> Nat -> Bool,v=fun Z i=>UC Z P.root L.n (pos.getD i 0) (P.salts.getD i 0) (P.cols.getD i []) (P.paths.getD i []):=⟨_,rfl⟩
 obtain ⟨o,ho⟩:∃ o:Oa -> Nat -> Oa,o=fun Z i=>SC Z P.root L.n (pos.getD i 0) (P.salts.getD i 0) (P.cols.getD i []) (P.paths.getD i []):=⟨_,rfl⟩
 obtain ⟨q,hq⟩:=zEX (L.queries);have HR:=zH (show r=if sb then (if Gz f q q then JA v o q q O1 else (false,O1)) else (false,O1) by
  rw [hr,hsb,hf,hvv,ho,El,bs,Wp,hq];unfold Pr;rw [hv,Gb rfl])
 have hm:m=pu:=by have h1:=(Mb a0.2.1).1;have h2:=hX.len;omega
 subst hm;have hpu:m<65536:=by have:=(XM hX.tab);omega
 have hc:=fun (u:vv) (ho:OrcAt u g O F) (a:Od K w u)=>zE4 ho L j hX.ok hn hj (tc hX.ok.p).2 L.p m vars A B n c m d rows pb P S (Wn hA a).1 hD hX.tab (Wn hA a).2.1 (mO (Za hA a) fun u h=>h.2.2) (fun b hb=>(hK b hb).2) (ti hO zO) hv rfl zO hX.lt (zFV hX.ok hv) a0.2.2.root
 rw [<- Wp,<- El,<- bs] at hc;have hs:=fun (u:vv) (a:Od K w u)=>zFn L m ch.rh ch.al ch.be vars A B S.A1 S.A2 S.A3 n c d S.n1 S.c1 S.n2 S.c2 S.n3 S.c3 rows pb P.code P.linear P.quad u hX.ok (vX hX.tab hX.lfor) (Wn hA a).1 (Wn hA a).2.1 (Wn hA a).2.2.code (Wn hA a).2.2.linear (Wn hA a).2.2.quad
 rw [<- hsb] at hs;have hcol:∀ (i:Nat) (u:vv),Od K w u -> ∀ (B1:Option vx) (nn cn:Nat),RWd u [ve B1 nn cn] (P.cols.getD i []) -> vA prog 118 #[vf (Eb L),Kc L.p (m:Int) vars (ve A n c),vf #[vd vq ch.al,vd vq ch.rh,vd vq ch.be],ve S.A1 S.n1 S.c1,ve S.A2 S.n2 S.c2,ve S.A3 S.n3 S.c3,vd vt ((pos.getD i 0:Nat):Int),ve B1 nn cn] u fun e w'=>e=vn (.bool (f i)) /\ vz u.1.size u w':=fun i u a B1 nn cn tw=>by
  rw [hf];exact zE6 L m ch.rh ch.al ch.be vars _ A S.A1 S.A2 S.A3 B1 n c S.n1 S.c1 S.n2 S.c2 S.n3 S.c3 nn cn rows P.code P.linear P.quad _ u hX.ok (vX hX.tab hX.lfor) (Wn hA a).1 (zAT hX.tab) (Wn hA a).2.2.code (Wn hA a).2.2.linear (Wn hA a).2.2.quad tw
 obtain ⟨hl4,Xr,hl5,hl6,mC⟩:=zFW hv;have hver:∀ (i:Nat) (u:vv) (Z:Oa) (Fz KB:Nat -> Prop),i<q -> OrcAt u g Z Fz -> je Z 300000 -> ∀ (B1 B2:Option vx) (Gs Rr CF PD:Nat),Kg KB u (ve B1 Gs Rr) (P.cols.getD i []) -> Kg KB u (ve B2 CF PD) (P.paths.getD i []) -> (∀ b,KB b -> b<u.1.size /\ ¬Fz b) ->
   vA prog 119 #[.pointer (vD ⟨g,0,vB⟩),vd vq P.root,vd vt L.n,vd vt ((pos.getD i 0:Nat):Int),vf #[ve B1 Gs Rr,vd vq ((P.salts.getD i 0:Nat):Int),ve B2 CF PD]] u fun e w'=>∃ F',e=vn (.bool (v Z i)) /\ OrcAt w' g (o Z i) F' /\ Moved Fz F' u w':=fun i u Z Fz KB hi hz hzl B1 B2 Gs Rr CF PD h1 h2 hk=>by
  rw [hvv,ho];exact zH8 hz P.root L.n _ _ B1 B2 Gs Rr CF PD _ _ h1 h2 hk (by rw [Xr _ (bM [] (by rw [hl4,<- hq];exact hi))];omega) (by rw [mC _ (bM [] (by rw [hl6,<- hq];exact hi))];omega) hzl
 have hole:∀ Z k i,je Z k -> je (o Z i) (k+11):=fun Z k i hz=>by rw [ho];exact zEK hz _ _ _ _ _ _
 have R0:je O1 101000:=by
  rw [El];have h1:je (qg O L (Cf L.p (m:Int) vars rows) pb).O (100000+1):=Vw hO 18 _;have h3:=S6 h1 (qg O L (Cf L.p (m:Int) vars rows) pb).st (qg O L (Cf L.p (m:Int) vars rows) pb).ct P.root;have h4:=Vw h3 18 ((oh (qg O L (Cf L.p (m:Int) vars rows) pb) P.root).st :: 3 :: (P.code++P.linear++P.quad));have h5:=yW (lab:=19) (Up (Vh (oh (qg O L (Cf L.p (m:Int) vars rows) pb) P.root) 3 (P.code++P.linear++P.quad)).st 0 L.queries) h4;rw [U4] at h5;have:=hX.ok.q2;exact ti h5 zO
 have Og:pos.length=q:=by rw [bs,hq];exact zDT _ _ _ _ (by have:=hX.ok.nk;have:=hX.ok.k;omega)
 have hq64:q <= 64:=by rw [hq];exact hX.ok.q2
 have HC:=zH hc;have HS:=zH hs;have HCol:=zH hcol;have HVer:=zH hver;have Sv:=zH hole;have bz:=zH R0;have Jm:=zH Og;have HQ:=zH hq64;have HL:=zH (show P.cols.length=q /\ P.salts.length=q /\ P.paths.length=q by rw [hq];exact ⟨hl4,hl5,hl6⟩)
 have HA:=zH hA;rw [<- hq] at HC;clear hr hv a0 hj hA hX hD ht hK hO hn h hc hs hcol hver hole R0 Og hq64 hl4 hl5 hl6 Xr mC El bs Wp hsb hf hvv ho hq hpu;unfold Eb Hf Kc at *;go_enter func49,ntmps49
 go_upto_region 1 with fail
 generalize ((w.alloc _).alloc _).alloc _=w1 at kl kt kp ba |-;have cl:=kl.cell;have cp:=kp.cell;go_wp2_with fail
 refine (yD.out _ ba).mono ?_;rintro e w2 ⟨rfl,Da⟩;replace kl:=ma kl Da;replace kt:=ma kt Da;replace kp:=ma kp Da;replace ba:=pa ba Da;clear Da cl cp yD;have cl:=kl.cell;have ct:=kt.cell;have cp:=kp.cell;go_wp2_with fail
 refine (HC.out _ (H.out.below ba) (Yb ba)).mono ?_;rintro _ w3 ⟨gr,dr,F1,rfl,ho1,m1,ow1,nr1⟩;have nl:=qi m1 kl.lt (nF.out _ zR);have nt:=qi m1 kt.lt (nF.out _ zO);have np:=qi m1 kp.lt (nF.out _ zO);replace kl:=kl.moved m1 (nF.out _ zR);replace kt:=kt.moved m1 (nF.out _ zO);replace kp:=kp.moved m1 (nF.out _ zO);have AG:=Rx (Yb ba) (IL m1 fun b hb=>(HK.out b hb).2)
 have MV:=(xe (F:=F) ba).trans m1;have lgr:gr<w3.1.size:=(ow1.lt gr rfl).2;have KF:∀ b,K b -> ¬F1 b /\ b<w3.1.size:=fun b hb=>⟨qi m1 (Be (HK.out b hb).1 ba.size) (HK.out b hb).2,Be (HK.out b hb).1 MV.size⟩
 have OWR:=nO ow1;have nc:¬F1 w3.1.size:=fun e=>by have:=ho1.lt _ e;omega
 obtain ⟨kc,ja⟩:=zN w3 161 #[vd vq ch.al,vd vq ch.rh,vd vq ch.be];have db:=ja.size;clear m1 ow1 ba cl ct cp HC;go_upto_region 4 with fail
 generalize w3.alloc _=w4 at kc ja db |-;replace ho1:=ho1.below ja;replace MV:=MV.trans (xe ja);replace AG:=Rx AG (Yb ja);replace OWR:=Za OWR (Yb ja);replace kl:=ma kl ja;replace kt:=ma kt ja;replace kp:=ma kp ja;obtain ⟨gc,hgc⟩:=zEX (w3.1.size);rw [<- hgc] at kc nc |-;obtain ⟨KB,hKB⟩:∃ KB:Nat -> Prop,KB=fun b=>¬F1 b /\ b<w4.1.size:=⟨_,rfl⟩
 have BJ:∀ b,¬F1 b -> b<w4.1.size -> KB b:=fun b h1 h2=>by rw [hKB];exact ⟨h1,h2⟩
 have lD:=zH (show ∀ b,KB b -> ¬F1 b /\ b<w4.1.size by rw [hKB];exact fun b h=>h)
 have KKB:=zH (show ∀ b,K b -> KB b from fun b hb=>BJ b (KF b hb).1 (Be (KF b hb).2 db))
 have pB:=zH (show KB w.1.size /\ KB (w.1.size+1+1) /\ KB gc /\ KB gr from ⟨BJ _ nl kl.lt,BJ _ np kp.lt,BJ _ nc kc.lt,BJ _ nr1 (Be lgr db)⟩)
 have fG:=zH (show Hd KB w4 (fun u=>Blk u w.1.size _ _ /\ Blk u (w.1.size+1) _ _ /\ Blk u (w.1.size+1+1) _ _ /\ Blk u gc _ _ /\ Od K w u /\ Rd u 1 (vD ⟨gr,0,vB⟩) q (xf (Zf pos))) from fun u a =>
  have bk:∀ {g:Nat} {t:vy} {cs:Array vw},Blk w4 g t cs -> ¬F1 g -> Blk u g t cs:=fun k hg=>(a.block _ (BJ _ hg k.lt) k.lt).trans k
  ⟨bk kl nl,bk kt nt,bk kp np,bk kc nc,Rx AG (Pu a KKB.out),n7 (Wn OWR (Pu a fun b h=>by have e:gr=b:=Pb h;rw [<- e];exact pB.out.2.2.2))⟩)
 have HSu:=zH (HS.out _ AG);have DI:=zH ho1;have oG:=zH MV;clear ja db hgc hKB BJ lgr KF OWR nl nt np nr1 ho1 MV AG HS;have cl:=kl.cell;have ct:=kt.cell;have cp:=kp.cell;have cc:=kc.cell;go_wp2_with fail
 refine HSu.out.mono ?_;rintro e w5 ⟨rfl,Lb⟩;replace DI:=zH (DI.out.below Lb);replace oG:=zH (oG.out.trans (xe Lb));have s45:=zH Lb.size;replace fG:=zH (Za fG.out (Yb Lb));clear kl kt kp kc cl ct cp cc Lb HSu nc;cases sb
 ·go_wp2
  go_ret
  exact ⟨F1,by rw [HR.out];rfl,by rw [HR.out];exact DI.out,oG.out⟩
 replace HR:=zH (HR.out.trans (Gb rfl));have hq0:(q:Int) <= 64:=by have:=HQ.out;omega
 go_upto_region 7 with fail
 go_loopw [45] (fun y wr=>∃ i:Nat,i <= q /\ y=vd vt i /\ vz w5.1.size w5 wr /\ Hid (Gz f q q=Gz f q (q-i))) (fun y _=>q-(intOf y).toNat)
 case atStart=>exact ⟨0,Rb _,rfl,Bb _ _,zH rfl⟩
 case round =>
  obtain ⟨i,hi,rfl,Wa,HI⟩:=hrel;have HW:=zH (Za fG.out (Yb Wa));by_cases ta:i<q
  ·have Pc:=zH ta
   obtain ⟨kl,kt,kp,kc,ag,Ka⟩:=ym HW.out;obtain ⟨b0,q0,e0,lb0,Wm⟩:=MC Ka zO;have RU:gr=b0:=by injection e0 with e0;injection e0 with e1
   have tV:0=q0:=by injection e0 with e0;injection e0 with e1 e2
   subst RU tV;obtain ⟨z,hz⟩:∃ z:Nat,z=pos.getD i 0:=⟨_,rfl⟩;have eJ:=(Wm i ta).trans (by rw [rW (by rw [Jm.out];exact ta),<- hz]:_=vD (vd vt z))
   rw [yf] at eJ;have aC:=Za HA.out ag;obtain ⟨bC,qC,B1,Gs,Rr,eC,kbC,lbC,hcC,hrC⟩:=VV (WV (mO aC fun u h=>h.2.2.cols)) (show i<P.cols.length by rw [HL.out.1];exact ta)
   have Hw:S.n4=q:=(Ki (ym aC).2.2.cols).1.symm.trans HL.out.1;obtain ⟨fi,Tk⟩:=zEX (f i);have Ef:=fun (u:vv) (hb:vz wr.1.size wr u)=>HCol.out i u (Rx ag (Yb hb)) B1 Gs Rr (Sa hb (jq hrC))
   rw [<- Tk,<- hz] at Ef;have HCx:=zH Ef;have nB:=zH Tk;have g1:(0:Int)<=i:=by omega
   have g2:(i:Int)<q:=by omega
   have g4:(i:Int)<S.n4:=by omega
   have cl:=kl.cell;have ct:=kt.cell;have cp:=kp.cell;have cc:=kc.cell;have l0:=kl.lt;have l1:=kt.lt;have l2:=kp.lt;have l3:=kc.lt;have df:=zH Wa;clear kl kt kp kc Ka Wm e0 hz aC Hw Ef Tk hrC kbC ta hi ag Wa;generalize S.A4=S4 at eC cp |-;subst eC;go_upto_region 9 with fail
   refine Yc (yc) [15] [0,1,2,3,4,5,6,7,8,9,10,11,12,13,14,15,16] zK zK ?_;refine Td (ya) ?_;intro Wc Ca da;have Ma:=Lf Ca;refine dc ?_;refine pd ya rfl rfl rfl ((HCx.out _ Ma).mono ?_);rintro e w6 ⟨rfl,Mc⟩;refine ⟨_,rfl,Mc,?_⟩;replace da:=zM ya da (Mc);refine zPU ?_;have ng:=zH (pa (pa df.out Ma) Mc);clear Mc Ma;refine dc ?_;refine Ec ?_;clear da Ca cl ct cp cc l0 l1 l2 l3 hcC eJ lb0 lbC HCx;cases fi
   ·have Yl:=zH (show r=(false,O1) by rw [HR.out,HI.out,YY f Pc.out,<- nB.out];rfl)
    go_wp2;go_ret
    exact ⟨F1,by rw [Yl.out];rfl,by rw [Yl.out];exact DI.out.below ng.out,oG.out.trans (xe ng.out)⟩
   ·have yn:=zH (show Gz f q q=Gz f q (q-(i+1)) by rw [HI.out,YY f Pc.out,<- nB.out];rfl)
    go_wp2
    go_roundw
    case rel=>exact ⟨i+1,Pc.out,by go_num,ng.out,yn⟩
    case measure=>have:=Pc.out;simp [intOf];omega
  ·obtain rfl:i=q:=by omega
   replace HR:=zH (HR.out.trans (Gb (HI.out.trans (zBS f i))));replace DI:=zH (DI.out.below Wa);replace oG:=zH (oG.out.trans (xe Wa));have KW:=zH (show ∀ b,KB b -> b<wr.1.size from fun b hb=>Be (lD.out b hb).2 (Cb s45.out Wa.size))
   clear Wa HI hi ta fG HCol s45;obtain ⟨wo,rfl⟩:=zEX (wr);go_upto_region 13 with fail
   go_loopw [70] (fun y wx=>∃ (k:Nat) (Fr:Nat -> Prop) (Oc:Oa),k <= i /\ y=vd vt k /\ OrcAt wx g Oc Fr /\ Moved F1 Fr wo wx /\ Hid (je Oc (101000+11*k)) /\ Hid (JA v o i i O1=JA v o i (i-k) Oc)) (fun y _=>i-(intOf y).toNat)
   case atStart=>exact ⟨0,F1,O1,Rb _,rfl,DI.out,Moved.refl,zH bz.out,zH rfl⟩
   case round =>
    obtain ⟨k,Fr,Oc,hk,rfl,qV,hmv,qB,HI⟩:=hrel;have HOr:=zH qV;have HMx:=zH hmv;by_cases ta:k<i
    ·have Pc:=zH ta
     have HWx:=zH (Za HW.out (IL hmv fun b hb=>(lD.out b hb).1))
     have HKr:=zH (show ∀ b,KB b -> b<wr.1.size /\ ¬Fr b from fun b hb=>⟨Be (KW.out b hb) hmv.size,qi hmv (KW.out b hb) (lD.out b hb).1⟩)
     obtain ⟨kl,kt,kp,kc,ag,Ka⟩:=ym HWx.out;obtain ⟨b0,q0,e0,lb0,Wm⟩:=MC Ka zO;have RU:gr=b0:=by injection e0 with e0;injection e0 with e1
     have tV:0=q0:=by injection e0 with e0;injection e0 with e1 e2
     subst RU tV;have aC:=Za HA.out ag;obtain ⟨bC,qC,B1,Gs,Rr,eC,kbC,lbC,hcC,hrC⟩:=VV (WV (mO aC fun u h=>h.2.2.cols)) (show k<P.cols.length by rw [HL.out.1];exact ta)
     obtain ⟨bP,qP,B2,CF,PD,eP,kbP,lbP,hcP,hrP⟩:=VV (WV (mO aC fun u h=>h.2.2.paths)) (show k<P.paths.length by rw [HL.out.2.2];exact ta)
     obtain ⟨hl5,bS,qS,eS,yK,lbS,hcS⟩:=zDo (mO aC fun u h=>h.2.2.salts) (show k<P.salts.length by rw [HL.out.2.1];exact ta)
     have Hw:S.n4=i:=(Ki (ym aC).2.2.cols).1.symm.trans HL.out.1;have hn6:S.n6=i:=(Ki (ym aC).2.2.paths).1.symm.trans HL.out.2.2;have hn5:S.n5=i:=hl5.trans HL.out.2.1;have yA:=fun (u:vv) (ho:OrcAt u g Oc Fr) (h1:Kg K u (ve B1 Gs Rr) (P.cols.getD k [])) (h2:Kg K u (ve B2 CF PD) (P.paths.getD k [])) (hk:∀ b,K b -> b<u.1.size /\ ¬Fr b)=>HVer.out k u Oc Fr K ta ho (ti qB.out (zQ HQ.out)) B1 B2 Gs Rr CF PD h1 h2 hk
     obtain ⟨z,hz⟩:∃ z:Nat,z=pos.getD k 0:=⟨_,rfl⟩;obtain ⟨sz,db⟩:∃ sz:Nat,sz=P.salts.getD k 0:=⟨_,rfl⟩;obtain ⟨vk,YE⟩:=zEX (v Oc k);have eJ:=(Wm k ta).trans (by rw [rW (by rw [Jm.out];exact ta),<- hz]:_=vD (vd vt z))
     rw [yf] at eJ;rw [<- YE,<- hz,<- db] at yA;rw [<- db] at hcS;have HVx:=zH yA;have HVK:=zH YE;have HRC:=zH hrC;have HRP:=zH hrP;have g1:(0:Int)<=k:=by omega
     have g2:(k:Int)<i:=by omega
     have g4:(k:Int)<S.n4:=by omega
     have g5:(k:Int)<S.n5:=by omega
     have g6:(k:Int)<S.n6:=by omega
     obtain ⟨NR,hNR⟩:=zEX (wr.1.size);have HNR:=zH hNR;have fr0:=(HKr.out _ pB.out.2.1).2;have fr1:=(HKr.out _ (KKB.out _ kbC)).2;have fr2:=(HKr.out _ (KKB.out _ kbP)).2;have fr3:=(HKr.out _ (KKB.out _ yK)).2;have r0:w.1.size+1+1<NR:=by rw [hNR];exact kp.lt
     have r1:bC<NR:=by rw [hNR];exact lbC
     have r2:bP<NR:=by rw [hNR];exact lbP
     have r3:bS<NR:=by rw [hNR];exact lbS
     have cp:=kp.cell;clear kl kt kp kc Ka Wm e0 hz db aC Hw hn5 hn6 hl5 yA YE hrC hrP kbC kbP yK lbC lbP lbS ta hk ag hmv qV hNR;have eC':=zH eC;have eP':=zH eP;have eS':=zH eS;rw [eC,eP,eS] at cp;clear eC eP eS;go_upto_region 15 with fail
     refine Ps (Fr) (Fr) (NR) [17] [0,1,2,3,4,5,6,7,8,9,10,11,12,13,14,15] [(16,218,#[ve vB 0 0,vd vq 0,ve vB 0 0])] [17] zK (ft.2 ⟨⟨_,rfl,rfl,fun a w=>by go_simp <;> rfl⟩,Kq _⟩) zK ?_
     refine Rs ?_;intro Wc Ca da;have Fa:Hid (Qh Fr NR Fr Wc):=zH (by rw [Ca.out,HNR.out];exact ⟨zR,HOr.out.lt,fun _ _ h=>h⟩)
     have HOq:=zH (show OrcAt Wc g Oc Fr by rw [Ca.out];exact HOr.out.drew)
     have HBq:=zH (show vz wr.1.size wr Wc by rw [Ca.out];exact (Bb _ _).drew)
     clear Ca;refine Ig ?_;refine Qs [(vD 17,16)] rfl Fa (fun xk wE Db sf=>?_)
     have rU:=sf.blk _ (.head _) rfl;clear sf;unfold jl il;simp only [List.foldl];dsimp only at rU
     generalize xk 16=g16 at rU  |-;obtain ⟨k16,hg16,hv16⟩:=rU;replace HOq:=zH (HOq.out.below Db);replace HBq:=zH (pa HBq.out Db);replace da:=zM (Kb Fr NR) da (Ld Db Fa.out.size);replace Fa:=zH (re Fa.out Db)
     refine zPU ?_
     clear Db;have c16:=k16.cell;have f16:=k16.frozen;refine Gm ?_;refine Bd (Kb Fr NR) rfl rfl rfl ?_;go_simp;refine ⟨Ld (Dy hg16 [ve B1 Gs Rr,vd vq sz,ve B2 CF PD] 0 _) zR,?_⟩
     refine zPU ?_
     obtain ⟨wG,KH,kP,sP⟩:=zAe k16 (ve B1 Gs Rr) (vd vq sz) (ve B2 CF PD);rw [KH];have HOz:=zH (HOq.out.keep (Nat.le_of_eq sP.size.symm) fun b hb=>sP.far b fun e=>by have h1:=HOr.out.lt b hb;have h2:=HNR.out;omega)
     have yI:=zH (sP.below HBq.out (zQ HNR.out));clear KH c16 f16 da Fa k16 sP HOq HBq hg16 hv16;have da:=(Kb Fr NR).refl wG;refine Gm ?_;refine Ec ?_;clear da cp hcC hcP hcS eJ r0 r1 r2 r3 fr0 fr1 fr2 fr3 lb0;have HWz:=Za HWx.out (Yb yI.out);obtain ⟨kl,kt,kp,kc,ag,Ka⟩:=ym HWz;have HVz:=zH (HVx.out wG HOz.out (Dr HRC.out yI.out) (Dr HRP.out yI.out) fun b hb=>⟨Be (HKr.out b (KKB.out b hb)).1 yI.out.size,(HKr.out b (KKB.out b hb)).2⟩)
     have cl:=kl.cell;have cp:=kp.cell;have c16:=kP.cell;clear kl kt kp kc ag Ka HWz kP HVx;go_wp2_with fail
     refine HVz.out.mono ?_;rintro e w6 ⟨F2,rfl,vH,mo2⟩;have Ho:=zH vH;have Zy:=zH (HMx.out.trans ((xe yI.out).trans mo2));clear vH mo2 cl cp c16 HVz;cases vk
     ·have Yl:=zH (show r=(false,o Oc k) by rw [HR.out,HI.out,xW v o Pc.out,<- HVK.out];rfl)
      go_wp2;go_ret
      exact ⟨F2,by rw [Yl.out];rfl,by rw [Yl.out];exact Ho.out,oG.out.trans Zy.out⟩
     ·have yn:=zH (show JA v o i i O1=JA v o i (i-(k+1)) (o Oc k) by rw [HI.out,xW v o Pc.out,<- HVK.out];rfl)
      have HLE2:=zH (show je (o Oc k) (101000+11*(k+1)) from ti (Sv.out _ _ _ qB.out) zO)
      go_wp2
      go_roundw
      case rel=>exact ⟨k+1,F2,o Oc k,Pc.out,by go_num,Ho.out,Zy.out,HLE2,yn⟩
      case measure=>have:=Pc.out;simp [intOf];omega
    ·obtain rfl:k=i:=by omega
     have Yl:=zH (show r=(true,Oc) from HR.out.trans (HI.out.trans (zEF v o k Oc)))
     clear ta hk hmv qV HI;go_wp2;go_ret
     exact ⟨Fr,by rw [Yl.out];rfl,by rw [Yl.out];exact HOr.out,oG.out.trans HMx.out⟩
def JK (p:Nat) (pub vars:Int) (rows:List Ya) (bl bw qs:Int):Xa:=DR ⟨p,pub,vars,rows.length,bl,bw,qs⟩
def Ev (O:Oa) (p:Nat) (pub vars:Int) (rows:List Ya) (bl bw qs:Int) (l:List Nat) (P:Yg):Int × Oa :=
 if Sr p pub vars rows bl bw qs l≠0 then (Sr p pub vars rows bl bw qs l,O)
 else (if (Pr O (JK p pub vars rows bl bw qs) (JK p pub vars rows bl bw qs).n.log2 pub.toNat (Cf p pub vars rows) rows l P).1 then 0 else 10,(Pr O (JK p pub vars rows bl bw qs) (JK p pub vars rows bl bw qs).n.log2 pub.toNat (Cf p pub vars rows) rows l P).2)
theorem zCq {p:Nat} {pub vars:Int} {rows:List Ya} {bl bw qs:Int} {l:List Nat} {L:Xa} (h:sI p pub vars rows bl bw qs l L):Sr p pub vars rows bl bw qs l=0:=JZ (CR h.tab h.lfor) ⟨h.len,h.lt⟩
theorem DX {O:Oa} {p j pu:Nat} {vars:Int} {rows:List Ya} {bl bw qs:Int} {l:List Nat} {P:Yg} {L:Xa} (h:sI p (pu:Int) vars rows bl bw qs l L) (hn:L.n=2^j) :
  Ev O p (pu:Int) vars rows bl bw qs l P=(if (Pr O L j pu (Cf p (pu:Int) vars rows) rows l P).1 then 0 else 10,(Pr O L j pu (Cf p (pu:Int) vars rows) rows l P).2):=by
 have e:JK p (pu:Int) vars rows bl bw qs=L:=h.lfor.eq.symm;unfold Ev;rw [mb (fun k=>k (zCq h)),e,hn,Nat.log2_two_pow,Dn]
theorem zAU {O:Oa} {p:Nat} {pub vars:Int} {rows:List Ya} {bl bw qs:Int} {l:List Nat} {P:Yg} (h:Sr p pub vars rows bl bw qs l≠0):Ev O p pub vars rows bl bw qs l P=(Sr p pub vars rows bl bw qs l,O):=Gb h
theorem pAcc_r {w:vv} {g:Nat} {O:Oa} {F K:Nat -> Prop} (h:OrcAt w g O F) (L:Xa) (j pu:Nat) (vars bl bw qs:Int) (A B:Option vx) (n c m d:Nat) (rows:List Ya) (pb:List Nat) (P:Yg) (S:PS)
  (hX:sI L.p (pu:Int) vars rows bl bw qs pb L) (hn:L.n=2^j) (hS:DL rows) (ht:L.a+3*L.b <= 40)
  (hA:Hd K w fun u=>RSl 3 Ue u [ve A n c] rows /\ RWd u [ve B m d] pb /\ Pm u P S) (hK:∀ b,K b -> b<w.1.size /\ ¬F b) (hO:je O 100000) (r:Int × Oa)
  (hr:r=(if (Pr O L j pu (Cf L.p (pu:Int) vars rows) rows pb P).1 then 0 else 10,(Pr O L j pu (Cf L.p (pu:Int) vars rows) rows pb P).2)) :
  vA prog 49 #[.pointer (vD ⟨g,0,vB⟩),vf (Eb L),Kc L.p (pu:Int) vars (ve A n c),ve B m d,vf (Hf P S)] w fun e w' =>
   ∃ rb F',e=vn (.bool rb) /\ r.1=(if rb then 0 else 10) /\ OrcAt w' g r.2 F' /\ Moved F F' w w':=by
 refine (zE2 h L j pu vars bl bw qs A B n c m d rows pb P S hX hn (dZ hX.tab hS) ht hA hK hO).mono ?_;rintro e w' ⟨F',rfl,h1,h2⟩;subst hr;exact ⟨_,F',rfl,rfl,h1,h2⟩
theorem XR {w:vv} {g:Nat} {O:Oa} {F K:Nat -> Prop} (h:OrcAt w g O F) (p:Nat) (pub vars bl bw qs:Int) (A B:Option vx) (n c m d:Nat) (rows:List Ya) (l:List Nat) (P:Yg) (S:PS)
  (hS:DL rows) (hR:Ad p pub vars rows=true -> ∀ L,ed L -> aw L ⟨p,pub,vars,rows.length,bl,bw,qs⟩ -> L.a+3*L.b <= 40)
  (hA:Hd K w fun u=>RSl 3 Ue u [ve A n c] rows /\ RWd u [ve B m d] l /\ Pm u P S) (hK:∀ b,K b -> b<w.1.size /\ ¬F b) (hO:je O 100000) :
  vA prog 13 #[.pointer (vD ⟨g,0,vB⟩),Kc p pub vars (ve A n c),vf #[vd vt bl,vd vt bw,vd vt qs],ve B m d,vf (Hf P S)] w fun e w' =>
   ∃ F',e=vn (vd vt (Ev O p pub vars rows bl bw qs l P).1) /\ OrcAt w' g (Ev O p pub vars rows bl bw qs l P).2 F' /\ Moved F F' w w':=by
 obtain ⟨kt,kx,kp,ba,-⟩:=Tp w 25 27 47 #[vd vq p,vd vt pub,vd vt vars,ve A n c] #[vd vt bl,vd vt bw,vd vt qs] (Hf P S);have HEx:=zH (fun u (hb:vz w.1.size w u)=>zFc p pub vars A B n c m d rows l bl bw qs u (Wn hA (Yb hb)).1 (Wn hA (Yb hb)).2.1)
 obtain ⟨r,hr⟩:=zEX (Ev O p pub vars rows bl bw qs l P);rw [<- hr];have H:=zH h;have DP:=zH (fun k=>(hr.trans (zAU k)))
 have da:∀ (L:Xa) (j pu:Nat),pub=(pu:Int) -> p=L.p -> sI p pub vars rows bl bw qs l L -> L.n=2^j -> ∀ (u:vv),vz w.1.size w u -> vA prog 49 #[.pointer (vD ⟨g,0,vB⟩),vf (Eb L),Kc p pub vars (ve A n c),ve B m d,vf (Hf P S)] u fun e w' =>
   ∃ rb F',e=vn (.bool rb) /\ r.1=(if rb then 0 else 10) /\ OrcAt w' g r.2 F' /\ Moved F F' u w':=by
  intro L j pu epu ep hX hn u hb;subst epu ep;exact pAcc_r (h.below hb) L j pu vars bl bw qs A B n c m d rows l P S hX hn hS (hR hX.tab L hX.ok hX.lfor) (Za hA (Yb hb)) (fun b hk=>⟨Be (hK b hk).1 hb.size,(hK b hk).2⟩) hO r (hr.trans (DX hX hn))
 have ZS:=zH da;clear hr hA hK hO hS hR h da;unfold Hf Kc at *;go_enter func13,ntmps13
 go_upto_region 1 with fail
 generalize ((w.alloc _).alloc _).alloc _=w1 at kt kx kp ba |-;have ct:=kt.cell;have cx:=kx.cell;go_wp2_with fail
 refine (HEx.out _ ba).mono ?_;rintro e w2 ⟨⟨y0,y1,y2,y3,y4,y5,y6,y7,y8,y9,xu,rfl,hy⟩,Da⟩;obtain ⟨ee,hee⟩:=zEX (Sr p pub vars rows bl bw qs l);rw [<- hee] at hy DP |-;replace kt:=ma kt Da;replace kp:=ma kp Da;replace ba:=pa ba Da;clear Da ct cx HEx kx hee;obtain ⟨kl,ja⟩:=zN w2 121 #[vd vq y0,vd vt y1,vd vt y2,vd vt y3,vd vt y4,vd vt y5,vd vt y6,vd vt y7,vd vt y8,vd vt y9,vd vt xu];replace kt:=ma kt ja;replace kp:=ma kp ja;replace ba:=pa ba ja;clear ja;by_cases hz:ee=0
 rotate_left
 ·have HR:=zH (DP.out hz)
  have d1:(ee != (0:Int))=true:=Fh.2 hz;clear hz hy ZS DP kt kp kl;go_wp2_with fail
  generalize w2.alloc _=w3 at ba |-;go_ret
  exact ⟨F,by rw [HR.out];rfl,by rw [HR.out];exact H.out.below ba,xe ba⟩
 obtain ⟨L,hX,hLL⟩:=hy hz;obtain ⟨rfl,rfl,rfl,rfl,rfl,rfl,rfl,rfl,rfl,rfl,rfl⟩:=zDL hLL;obtain ⟨j,hj⟩:=hX.ok.n;have hAc:=ZS.out L j pub.toNat (zQ hX.len) hX.lfor.p.symm hX hj;unfold Eb at hAc;have HAc:=zH hAc;clear hX hLL hy hj hAc ZS DP;subst hz;go_upto_region 2 with fail
 generalize w2.alloc _=w3 at ba kl kt kp |-;generalize w2.1.size=gl at kl |-;have cl:=kl.cell;have ct:=kt.cell;have cp:=kp.cell;go_wp2_with fail
 refine (HAc.out _ ba).mono ?_;rintro e w4 ⟨rb,F',rfl,Ym,ho,hm⟩;have HM:=zH ((xe (F:=F) ba).trans hm);have HO:=zH ho;have tD:=zH Ym;clear ho hm Ym cl ct cp kl kt kp HAc;cases rb
 ·go_wp2
  go_ret
  exact ⟨F',by rw [show r.1=_ from tD.out];rfl,HO.out,HM.out⟩
 ·go_wp2
  go_ret
  exact ⟨F',by rw [show r.1=_ from tD.out];rfl,HO.out,HM.out⟩
theorem zGw {K:Nat -> Prop} {O:Oa} {k:Nat} (h:jm O k) (hk:k <= 1000) (x:PvIn) (hG:x.Good) (hRS:x.RefSame O) (vars:Int) (Aq A B A0 A1 A2 A3 A4:Option vx) (nq cq n c m d n0 c0 n1 c1 n2 c2 n3 c3 n4 c4:Nat) (w:vv)
  (jb:Ad x.L.p (x.pub:Int) vars x.rows=true) (hT:Px x.L x.pub vars x.rows) (jC:LD vars x.rows) (hD:aB x.L.p (x.pub:Int) vars x.rows) (mv:x.dg=Cf x.L.p (x.pub:Int) vars x.rows) (hxm:x.m=xF x.L x.rows x.ws x.pub)
  (hq:Hd K w fun u=>Sd u [ve Aq nq cq] O.qs) (hr:RSl 3 Ue w [ve A n c] x.rows) (hw:RWd w [ve B m d] x.ws) (h0:Ye w [ve A0 n0 c0] x.crs) (h1:RWd w [ve A1 n1 c1] x.l1) (h2:RWd w [ve A2 n2 c2] x.l2) (h3:RWd w [ve A3 n3 c3] x.l3) (h4:RWd w [ve A4 n4 c4] x.l4)
  (Og:1+x.pub <= x.ws.length) (hn16:x.rows.length <= 16384) (Eg:x.m.length <= 1000) :
  vA prog 39 #[vf (mg O (ve Aq nq cq)),vf (Eb x.L),Kc x.L.p (x.pub:Int) vars (ve A n c),ve B m d,vf #[ve A0 n0 c0,ve A1 n1 c1,ve A2 n2 c2,ve A3 n3 c3,ve A4 n4 c4]] w fun e w'=>∃ S v A' n' c',e=vn (.tuple #[vf (Hf (x.pr O) S),v,vf (mg (x.oF O) (ve A' n' c'))]) /\ Hd (fun b=>w.1.size <= b) w' (fun u=>Pm u (x.pr O) S) /\
   w'.ownsRow w.1.size 3 1 v x.L.queries (xf (Zf (x.pos O))) /\ Hd (fun b=>K b \/ w.1.size <= b) w' (fun u=>Sd u [ve A' n' c'] (x.oF O).qs) /\ vz w.1.size w w':=by
 obtain ⟨ko,kl,kt,kc,kp,kq,ba,db⟩:=boxes6 w 53 38 25 41 47 53 (mg O (ve Aq nq cq)) (Eb x.L) #[vd vq x.L.p,vd vt x.pub,vd vt vars,ve A n c] #[ve A0 n0 c0,ve A1 n1 c1,ve A2 n2 c2,ve A3 n3 c3,ve A4 n4 c4] #[vd vq 0,ve vB 0 0,ve vB 0 0,ve vB 0 0,ve vB 0 0,ve vB 0 0,ve vB 0 0] #[.bool false,vd vq 0,vd vt 0,ve vB 0 0,ve vB 0 0,ve vB 0 0];have hL:=hG.L;have rH:=hG.ms;have hml1:=rH.mr;have b1:=hL.b2;have b2:=hL.n2;have b3:=hL.q2;have b4:=hL.k;have HM:=zH (fun w1 (hb:vz w.1.size w w1)=>(zGm x.L x.pub vars A B n c m d x.rows x.ws w1 hL (jg Qg _ _ _ _ hb hr) (Sa hb hw) Og hn16).mono (R':=fun e Dp=>∃ v,e=vn v /\ RRx w1.1.size Dp v x.m /\ vz w1.1.size w1 Dp) (by
  rintro e Dp ⟨n',v,cs,rfl,ho,hg,Hh⟩;rw [hxm];exact ⟨v,rfl,aP hg ho zR zR,Hh⟩))
 have HC:=zH (fun AM nM cM w1 (hb:vz w.1.size w w1) (hm:Ye w1 [ve AM nM cM] x.m)=>(zGa x.L A0 A1 A2 A3 A4 AM n0 n1 n2 n3 n4 nM c0 c1 c2 c3 c4 cM x.m x.crs x.l1 x.l2 x.l3 w1 hL hm (Fm hb h0) (Sa hb h1) (Sa hb h2) (Sa hb h3) rH.rl.symm hml1 (fun r hr=>by have:=rH.rr r hr;omega) zO (zQ hG.c2.1) (zQ hG.c3.1)).mono (R':=fun e Dp=>∃ v,e=vn v /\ RRx w1.1.size Dp v x.cols /\ vz w1.1.size w1 Dp) (by
  rintro e Dp ⟨n',v,cs,rfl,ho,hg,Hh⟩;rw [hRS.1] at hg;exact ⟨v,rfl,aP hg ho zR zR,Hh⟩))
 obtain ⟨s1,Nc⟩:=zEX (x.t1 O);have t1:Qm s1 (k+1) 0:=by rw [Nc];exact zHP h x.L x.dg x.pu
 have hs1c:s1.ct=0:=by rw [Nc];rfl
 obtain ⟨BP,hBP⟩:∃ BP,(if d=1 then B else Option.map (fun y:vx=>y.add 1) B)=BP:=⟨_,rfl⟩
 have hBP2:(if d=1 then B else Option.map (fun x=>(⟨x.block,x.off+1,vB⟩:vx)) B)=BP:=hBP
 have hwm:=(Mb hw).1;have hwd:=(Mb hw).2.1;have hwx:=(Mb hw).2.2.1;have dv:=Mh hwd hwx;have hpu:x.pub<65536:=by
  have h:=jb;unfold Ad at h;simp only [Pd,uo,XB] at h;omega
 have Mk:=zH (fun w1 (hb:vz w.1.size w w1)=>by
  have jn:=uS (k:=x.pub) (iP (Sa hb hw) (t:=1) zO) zO;rw [hBP] at jn;have:=zCI (K:=fun b=>K b /\ b<w.1.size) O h.fair x.L hL x.L.p (x.pub:Int) vars A Aq BP n c nq cq x.pub (d-1) x.rows x.pu w1 (jg Qg _ _ _ _ hb hr) hD jb (Za (zk hq) (Yb hb)) jn h.st (ti h.le zO) (by unfold PvIn.pu;rw [List.length_take];omega)
  rw [<- mv,show qg O x.L x.dg x.pu=s1 by rw [Nc];rfl] at this
  exact this)
 obtain ⟨o2,vH⟩:=zEX (x.o2 O);obtain ⟨tr,oy⟩:=zEX (x.tree O);have hto2:TF x.dd (kd s1.O 16 (pn x.cols x.l4)) (Mj s1.O 16 (pn x.cols x.l4))=o2:=by rw [vH,Nc];rfl
 have htr2:Ls x.dd (kd s1.O 16 (pn x.cols x.l4)) (Mj s1.O 16 (pn x.cols x.l4))=tr:=by rw [oy,Nc];rfl
 have HCm:=zH (fun (KK:Nat -> Prop) A1 n1 c1 AC nC cC w1 (hb:vz w.1.size w w1) (hc:Ye w1 [ve AC nC cC] x.cols) (hq:Hd KK w1 fun u=>Sd u [ve A1 n1 c1] s1.O.qs)=>by
  have:=zGb (K:=KK) t1.o zO AC A4 A1 nC cC n4 c4 n1 c1 x.cols x.l4 x.dd w1 hc (Sa hb h4) hq hG.dd (by rw [x.cols_len,hG.n]) (by rw [x.cols_len];exact hG.c4.1) hG.c4.2 (x.cols_els hL.p) (fun l hl=>by rw [x.cols_row l hl];omega)
  rw [hto2,htr2] at this;exact this)
 have ro2:jm o2 (k+3000):=by
  rw [vH];refine sS (x.o2_ref O hG.n (by rw [<- Nc];exact t1.o)) zO
 have HTO:=zH (show aJ x.dd tr by rw [oy];exact zHR _ hG.dd (by rw [pR,aW,x.cols_len,hG.n]))
 obtain ⟨rt,ni⟩:=zEX (x.root O);have hrt2:aI tr=rt:=by rw [ni,oy];rfl
 have HRo:=zH (fun u AT nT cT (h:Ye u [ve AT nT cT] tr)=>by have:=zGB h HTO.out;rw [hrt2] at this;exact this)
 have bn:=x.tree_lt O (by rw [<- Nc];exact t1.o.ans)
 have af:rt<Ob:=by rw [ni];exact zGZ bn
 have Sh:=zH af;have Cx:=zH bn;have HPa:=zH (fun u AT nT cT z (h:Ye u [ve AT nT cT] tr) (hz:z<x.L.n)=>zGu (i:=z) h HTO.out (by rw [<- hG.n];exact hz) (fun k j=>Sp (K9 (by rw [oy];exact bn) k j)))
 have Zo:0<x.L.p:=by have:=tc hL.p;omega
 have Nb:x.L.p<18446744073709551616:=(tc hL.p).2;have t2:Qm ⟨o2,s1.st,0⟩ (k+3000) 0:=⟨ro2,t1.st,zR⟩;obtain ⟨s2,Pg⟩:=zEX (oh ⟨o2,s1.st,0⟩ rt);obtain ⟨ch,Wp⟩:=zEX (Em ⟨o2,s1.st,0⟩ x.L.p rt);have t3:Qm s2 (k+3004) 3:=by rw [Pg];exact zHQ t2 rt
 have HSe:=zH (fun (KK:Nat -> Prop) A1 n1 c1 w1 (hq:Hd KK w1 fun u=>Sd u [ve A1 n1 c1] o2.qs)=>by have:=zHm (K:=KK) t2 zO x.L Zo Nb A1 n1 c1 rt w1 hq (Sp af);rw [<- Pg,<- Wp] at this;exact this)
 have Ef:ch=x.ch O:=by rw [Wp,vH,Nc,ni];rfl
 have DH:s2=x.t2 O:=by rw [Pg,vH,Nc,ni];rfl
 obtain ⟨cd,Zu⟩:=zEX (x.code ch.al);obtain ⟨ln,Of⟩:=zEX (x.lin ch.rh);obtain ⟨qd,AH⟩:=zEX (x.quad ch.be);have l1:cd.length=x.L.k:=by rw [Zu];simp [PvIn.code]
 have l2:ln.length=x.L.k+x.L.block-1:=by rw [Of];simp [PvIn.lin]
 have l3:qd.length=2*x.L.k-1:=by rw [AH];simp [PvIn.quad]
 have Vi:=hRS.2;rw [<- Ef] at Vi;have HAn:=zH (fun AM nM cM w1 (hb:vz w.1.size w w1) (hm:Ye w1 [ve AM nM cM] x.m)=>by
  have:=zF7 x.L x.pub ch.rh ch.al ch.be vars A AM A0 A1 A2 A3 A4 n c nM cM n0 n1 n2 n3 n4 c0 c1 c2 c3 c4 x.rows x.m x.crs x.l1 x.l2 x.l3 w1 hL hT (jg Qg _ _ _ _ hb hr) jC hm (Fm hb h0) (Sa hb h1) (Sa hb h2) (Sa hb h3) rH hG.c1.1 hG.c2.1 hG.c3.1;rw [Vi.1,Vi.2.1,Vi.2.2,<- Zu,<- Of,<- AH,l1,l2,l3] at this;exact this)
 clear hRS Vi;have Bu:=zH (show ∀ y∈cd,y<18446744073709551616 from fun y hy=>gg (x.code_lt Zo hG.c1.2 ch.al y (by rw [<- Zu];exact hy)) Nb)
 have iB:=zH (show ∀ y∈ln,y<18446744073709551616 from fun y hy=>gg (x.lin_lt Zo hG.c2.2 ch.rh y (by rw [<- Of];exact hy)) Nb)
 have HC3:=zH (show ∀ y∈qd,y<18446744073709551616 from fun y hy=>gg (x.quad_lt Zo ch.be y (by rw [<- AH];exact hy)) Nb)
 obtain ⟨s3,ur⟩:=zEX (Gh (Vh s2 3 (cd++ln++qd)) x.L.queries);obtain ⟨pos,bs⟩:=zEX (x.pos O);have Dg:cd++ln++qd=x.all O:=by rw [Zu,Of,AH,Ef];rfl
 have my:xq s2 (cd++ln++qd) x.L.n x.L.queries=pos:=by rw [bs,Dg,DH];rfl
 have hoe:s3.O=x.oF O:=by rw [ur,<- zHO,Dg,DH];rfl
 have HTh:=zH (fun (KK:Nat -> Prop) Aq nq cq P1 p1 P2 p2 P3 p3 w1 (q1:RWd w1 [ve P1 x.L.k p1] cd) (q2:RWd w1 [ve P2 (x.L.k+x.L.block-1) p2] ln) (q3:RWd w1 [ve P3 (2*x.L.k-1) p3] qd) (hq:Hd KK w1 fun u=>Sd u [ve Aq nq cq] s2.O.qs)=>by
  have:=zHN (K:=KK) t3 zO x.L hL Aq P1 P2 P3 nq cq x.L.k p1 (x.L.k+x.L.block-1) p2 (2*x.L.k-1) p3 cd ln qd w1 hq q1 q2 q3 (by rw [Pp,Pp,l1,l2,l3];omega)
  rw [<- ur,my] at this;exact this)
 have hqn:x.L.queries <= x.L.n:=by have:=hL.nk;omega
 have Jm:=zH (show pos.length=x.L.queries by rw [<- my];exact bW _ _ _ _ _ hqn)
 have HPT:=zH (show ∀ y∈pos,y<x.L.n by rw [<- my];exact zFM _ _ _ _ _ hqn)
 have oT:=zH (show x.L.queries <= 64 from b3)
 have HEQ:=zH (And.intro Zu (And.intro Of (And.intro AH (And.intro Ef (And.intro bs (And.intro oy (And.intro ni hoe)))))));have AI:=zH hG;have HARG:=zH (And.intro hw h4);have HWL:=zH (And.intro hwm Og);obtain ⟨e0,he0⟩:=zEX (1+x.pub);have e1:(1:Int)+x.pub=(e0:Int):=by omega
 have e2:=Ud e0;have e3:(1:Int)<=e0:=by omega
 have e4:(e0:Int)<=d:=by omega
 have e5:e0-1=x.pub:=by omega
 have HBP:=zH hBP2;have HN:=zH (And.intro b1 (And.intro b2 b4));have HS1C:=zH hs1c;rw [<- hoe,<- bs];have HPR:=zH (show x.pr O=x.pr O from rfl)
 obtain ⟨PR,Wu⟩:=zEX (x.pr O);have hPRr:PR.root=rt:=by rw [Wu,ni];rfl
 rw [<- Wu];have HPV:=zH Wu;clear HPR Wu h hk hG jb hT jC hD mv hxm hq hr hw h0 h1 h2 h3 h4 Og hn16 Eg db hL rH hml1 b1 b2 b3 b4 Nc t1 hs1c hBP hBP2 hwm hwd hwx dv hpu vH oy hto2 htr2 ro2 ni hrt2 bn af Zo Nb t2 Pg Wp t3 Ef DH Zu Of AH l1 l2 l3 ur bs Dg my hoe hqn he0;obtain ⟨L,hLx⟩:=zEX (x.L);have HLX:=zH hLx;unfold Eb Kc mg tl at *;rw [<- hLx] at ko kl kt kc kp kq ba HC Mk HSe HAn HTh Jm HPT oT HN HPa HM |-;clear hLx;go_enter func39,ntmps39
 go_upto_region 1 with fail
 generalize ((((((w.alloc _).alloc _).alloc _).alloc _).alloc _).alloc _)=w1 at ko kl kt kc kp kq ba |-;have cl:=kl.cell;have ct:=kt.cell;go_wp2_with fail
 refine (HM.out w1 ba).mono ?_;rintro e w2 ⟨vm,rfl,ue,Da⟩;have s12:=Da.size;have s01:w.1.size+6 <= w1.1.size:=kq.lt;replace ko:=ma ko Da;replace kl:=ma kl Da;replace kt:=ma kt Da;replace kc:=ma kc Da;replace kp:=ma kp Da;replace kq:=ma kq Da;replace ba:=pa ba Da;obtain ⟨AM,nM,cM,rfl⟩:=RSl.slc ue.here;clear cl ct Da HM;have cl:=kl.cell;have cc:=kc.cell;go_wp2_with fail
 refine (HC.out AM nM cM w2 ba ue.here).mono ?_;rintro e w3 ⟨vc,rfl,uj,Ta⟩;have s23:=Ta.size;obtain ⟨AC,nC,cC,rfl⟩:=RSl.slc uj.here;replace ko:=ma ko Ta;replace kl:=ma kl Ta;replace kt:=ma kt Ta;replace kc:=ma kc Ta;replace kp:=ma kp Ta;replace kq:=ma kq Ta;replace ba:=pa ba Ta;have HMR:=zH (show ∀ u:vv,(∀ b,w.1.size+6 <= b -> b<w3.1.size -> u.1[b]?=w3.1[b]?) -> Ye u [ve AM nM cM] x.m from fun u a=>ue.2 u fun b h1 h2=>(a b zO zO).trans (Ta.block b h2))
 have HCX:=zH uj;have Qy:=zH (show ∀ u:vv,(∀ b,w.1.size+6 <= b -> b<w3.1.size -> u.1[b]?=w3.1[b]?) -> Ye u [ve AC nC cC] x.cols from fun u a=>uj.2 u fun b h1 h2=>a b zO zO)
 have HCS:=zH (show Hd (fun b=>w.1.size+6 <= b /\ b<w3.1.size) w3 (fun u=>∀ b,w.1.size+6 <= b -> b<w3.1.size -> u.1[b]?=w3.1[b]?) from fun u a b h1 h2=>a.block b ⟨h1,h2⟩ h2)
 clear cl cc ue uj Ta HC;obtain ⟨NQ,Dd⟩:=zEX (w3.1.size);have lq:w.1.size+5<NQ:=by rw [Dd];exact kq.lt
 have lq0:w.1.size<NQ:=Az (Ou _ 5) lq;have lq1:w.1.size+1<NQ:=gg (Nat.add_lt_add_left (by decide:1<5) _) lq
 have lq2:w.1.size+2<NQ:=gg (Nat.add_lt_add_left (by decide:2<5) _) lq
 have nx0:¬Xb w.1.size:=id;have nx1:¬Xb (w.1.size+1):=id;have nx2:¬Xb (w.1.size+2):=id;have co:=ko.cell;have cl:=kl.cell;have ct:=kt.cell;have KL:=zH kl;have KT:=zH kt;have KC:=zH kc;have KP:=zH kp;have KQ:=zH kq;have HB:=zH ba;have Vd:=zH Dd;clear Dd ko kl kt kc kp kq ba;go_upto_region 3 with fail
 refine Ps (Xb) (Xb) (NQ) [8,10] [0,1,2,3,4,5,6,7,8] [(9,108,#[.bool false,vd vq 0,vd vt 0,ve vB 0 0,ve vB 0 0,ve vB 0 0,vd vq 0,vd vq 0])] [10] zK (ft.2 ⟨⟨_,rfl,rfl,fun a w=>by go_simp <;> rfl⟩,Kq _⟩) zK ?_
 refine Rs ?_;intro Wc Ca da;have Fa:Hid (Qh Xb NQ Xb Wc):=zH (by rw [Ca.out,Vd.out];exact ⟨zR,fun _ h=>h.elim,fun _ _ h=>h⟩)
 have oc:=zH (show vz w.1.size w Wc by rw [Ca.out];exact HB.out.drew)
 have KL2:=zH (show Blk Wc _ _ _ by rw [Ca.out];exact KL.out.drew)
 have Lo:=zH (show Blk Wc _ _ _ by rw [Ca.out];exact KT.out.drew)
 have En:=zH (show Blk Wc _ _ _ by rw [Ca.out];exact KC.out.drew)
 have Ko:=zH (show Blk Wc _ _ _ by rw [Ca.out];exact KP.out.drew)
 have TI:=zH (show Blk Wc _ _ _ by rw [Ca.out];exact KQ.out.drew)
 have EP:=zH (Za HCS.out (show Od _ _ Wc by rw [Ca.out];exact Oo))
 have H3s:=zH (show w3.1.size <= Wc.1.size by rw [Ca.out];exact zR)
 clear Ca HB KL KT KC KP KQ HCS;refine Ig ?_;rw [HBP.out];refine Hv (f:=?_) (vals:=?_) rfl rfl rfl Fa ?_ (fun wF Pa=>?_)
 rotate_left 3
 replace oc:=zH (pa oc.out Pa);replace KL2:=zH (KL2.out.below Pa KL2.out.lt);replace Lo:=zH (Lo.out.below Pa Lo.out.lt);replace En:=zH (En.out.below Pa En.out.lt);replace Ko:=zH (Ko.out.below Pa Ko.out.lt);replace TI:=zH (TI.out.below Pa TI.out.lt);replace EP:=zH (Za EP.out (Yb Pa));replace da:=zM (Kb Xb NQ) da (Ld Pa Fa.out.size);replace Fa:=zH (re Fa.out Pa);refine (Mk.out wF oc.out).mono ?_
 rotate_left
 ·intro w_;go_simp <;> rfl
 rintro e wC ⟨A1q,n1q,c1q,rfl,hd1,ra⟩;clear Pa;refine ⟨_,Jf Xb wF wC,rfl,Ah ra,om Fa.out ra,?_⟩;replace da:=zM (Kb Xb NQ) da (Ri Fa.out (Ah ra));replace Fa:=zH (wk Fa.out (Ah ra) (om Fa.out ra));refine zPU ?_;obtain ⟨KK,qw⟩:∃ KK:Nat -> Prop,KK=fun b=>((K b /\ b<w.1.size) \/ wF.1.size <= b) /\ b<wC.1.size:=⟨_,rfl⟩
 have Rj:=zk hd1;rw [<- qw] at Rj;have Ug:=zH Rj;have HFS:=zH (show w.1.size+6 <= wF.1.size from TI.out.lt)
 have Yx:∀ b,KK b -> b<w.1.size \/ Jf Xb wF wC b:=fun b hb=>by
  rw [qw] at hb;exact hb.1.elim (fun e=>.inl e.2) fun e=>.inr (.inr ⟨e,hb.2⟩)
 have jG:=zH (show ∀ b,KK b -> (K b /\ b<w.1.size) \/ w.1.size+6 <= b from fun b hb=>by
  rw [qw] at hb;exact hb.1.elim .inl fun e=>.inr (Cb HFS.out e))
 have bg:=zH (pa oc.out ra);have KL3:=zH (KL2.out.below ra KL2.out.lt);have IB:=zH (Lo.out.below ra Lo.out.lt);have AD:=zH (En.out.below ra En.out.lt);have FB:=zH (Ko.out.below ra Ko.out.lt);have KQ3:=zH (TI.out.below ra TI.out.lt);have IP:=zH (Za EP.out (Yb ra));have iC:∀ b,Jf Xb wF wC b -> w.1.size+6 <= b:=fun b hb=>hb.elim (fun e=>e.elim) fun e=>Cb HFS.out e.1
 generalize Jf Xb wF wC=V3 at Fa Yx iC |-;clear hd1 Rj ra oc KL2 Lo En Ko TI EP qw HFS;refine Ig ?_;refine Qs [(vD 15,9)] rfl Fa (fun xk wE Db sf=>?_)
 have fE9:=sf.blk _ (.head _) rfl;clear sf;unfold jl il;simp only [List.foldl];dsimp only at fE9
 generalize xk 9=g9 at fE9  |-;obtain ⟨k9,hg9,hv9⟩:=fE9;replace bg:=zH (pa bg.out Db);replace KL3:=zH (KL3.out.below Db KL3.out.lt);replace IB:=zH (IB.out.below Db IB.out.lt);replace AD:=zH (AD.out.below Db AD.out.lt);replace FB:=zH (FB.out.below Db FB.out.lt);replace KQ3:=zH (KQ3.out.below Db KQ3.out.lt);replace Ug:=zH (Za Ug.out (Yb Db));replace IP:=zH (Za IP.out (Yb Db));replace da:=zM (Kb Xb NQ) da (Ld Db Fa.out.size);replace Fa:=zH (re Fa.out Db)
 refine zPU ?_
 have nK9:¬KK g9:=fun e=>(Yx _ e).elim (fun h=>zO) hv9
 have NK9:=zH nK9;have HG9:=zH (show w3.1.size <= g9 by rw [<- Vd.out];exact hg9)
 clear nK9 Yx iC Db;have c9:=k9.cell;have f9:=k9.frozen;refine Gm ?_;refine Bd (Kb Xb NQ) rfl rfl rfl ?_;go_simp;refine ⟨Ld (Dy hg9 [.bool s1.O.ideal,vd vq s1.O.st,vd vt s1.O.dr,ve A1q n1q c1q,ve vB 0 0,ve vB 0 0,vd vq s1.st,vd vq s1.ct] 0 _) zR,?_⟩
 refine zPU ?_
 refine Ec ?_;obtain ⟨wZ,hwZ,kS,st⟩:=pX k9 (.bool s1.O.ideal) (vd vq s1.O.st) (vd vt s1.O.dr) (ve A1q n1q c1q) (ve vB 0 0) (ve vB 0 0) (vd vq s1.st) (vd vq s1.ct);rw [hwZ];have lg9:=k9.lt;have l9H:w.1.size+6 <= g9:=by have:=HG9.out;omega
 have n9m:∀ b,w.1.size+6 <= b /\ b<w3.1.size -> b≠g9:=fun b hb e=>by have:=HG9.out;omega
 have Rh:=zH (st.below bg.out zO);have rz:=zH (st.blk KL3.out zO);have DD:=zH (st.blk IB.out zO);have DB:=zH (st.blk AD.out zO);have BD:=zH (st.blk FB.out zO);have Lu:=zH (st.blk KQ3.out zO);have tn:=zH (st.hd Ug.out NK9.out);have jB:=zH (st.hd IP.out fun e=>n9m _ e rfl)
 have HK2b:=zH (show ∀ b,KK b -> b≠g9 from fun b hb e=>NK9.out (by rw [<- e];exact hb))
 clear hwZ c9 f9 k9 st bg KL3 IB AD FB KQ3 Ug IP da Fa n9m NK9 hg9 hv9 co cl ct nx0 nx1 nx2 e1 e2 e3 e4 e5 lq lq0 lq1 lq2 Vd;have co9:=kS.cell;have cc:=DB.out.cell;have jf:=zH kS;clear kS;go_upto_region 4 with fail
 go_wp2_with fail
 refine (HCm.out KK A1q n1q c1q AC nC cC wZ Rh.out (Qy.out _ (ym jB.out)) tn.out).mono ?_;rintro e w8 ⟨At,nt,ct,A2q,n2q,c2q,rfl,htr8,hq8,ud⟩;clear co9 cc;have xV:=zk hq8;have J2:=zk htr8;obtain ⟨KM,hKM⟩:∃ KM:Nat -> Prop,KM=fun b=>(KK b \/ wZ.1.size <= b) /\ b<w8.1.size:=⟨_,rfl⟩
 rw [<- hKM] at xV;have l9:g9<wZ.1.size:=jf.out.lt;have s38:wZ.1.size <= w8.1.size:=ud.size;have pB:=zH (show ∀ b,KM b -> ((K b /\ b<w.1.size) \/ w.1.size+6 <= b) /\ b<w8.1.size /\ b≠g9 from fun b hb=>by
  rw [hKM] at hb;refine ⟨hb.1.elim (jG.out b) fun e=>.inr (zQ Lu.out.lt),hb.2,hb.1.elim (HK2b.out b) fun e=>zO⟩)
 have HQ5:=zH xV;have HT5:=zH J2;have s39:w3.1.size <= wZ.1.size:=by have:=HG9.out;omega
 replace rz:=zH (rz.out.below ud rz.out.lt);replace DD:=zH (DD.out.below ud DD.out.lt);replace DB:=zH (DB.out.below ud DB.out.lt);replace BD:=zH (BD.out.below ud BD.out.lt);replace Lu:=zH (Lu.out.below ud Lu.out.lt);replace Rh:=zH (pa Rh.out ud);replace jB:=zH (Za jB.out (Yb ud));replace jf:=zH (jf.out.below ud jf.out.lt);obtain ⟨kO2,ja⟩:=zN w8 53 #[.bool o2.ideal,vd vq o2.st,vd vt o2.dr,ve A2q n2q c2q,ve vB 0 0,ve vB 0 0];replace rz:=zH (rz.out.below ja rz.out.lt);replace DD:=zH (DD.out.below ja DD.out.lt);replace DB:=zH (DB.out.below ja DB.out.lt);replace BD:=zH (BD.out.below ja BD.out.lt);replace Lu:=zH (Lu.out.below ja Lu.out.lt);replace Rh:=zH (pa Rh.out ja);replace jB:=zH (Za jB.out (Yb ja));replace HQ5:=zH (Za HQ5.out (Yb ja));replace HT5:=zH (Za HT5.out (Yb ja));replace jf:=zH (jf.out.below ja jf.out.lt);have l48:w.1.size+6 <= w8.1.size:=by omega
 clear ja ud hq8 htr8 xV J2 hKM tn jG HK2b KK HCm;go_upto_region 5 with fail
 generalize w8.alloc _=w9 at kO2 rz DD DB BD Lu Rh jB HQ5 HT5 jf |-;have l8:=kO2.lt;have cO2:=kO2.cell;have c9:=jf.out.cell;have f9:=jf.out.frozen;have l9':=jf.out.lt;obtain ⟨g8,hg8⟩:=zEX (w8.1.size);have HG8:=zH hg8;rw [<- hg8] at kO2 pB HT5 l48 l8 s38 cO2 |-;clear hg8;have n89:g8≠g9:=by omega
 go_upto_region 6 with fail
 obtain ⟨wR,hwR,kS,st⟩:=zHC jf.out (.bool o2.ideal) (vd vq o2.st) (vd vt o2.dr) (ve A2q n2q c2q) (ve vB 0 0) (ve vB 0 0);rw [hwR];have Wv:=zH (st.blk rz.out zO);have Ix:=zH (st.blk DD.out zO);have Fx:=zH (st.blk DB.out zO);have Gx:=zH (st.blk BD.out zO);have Hx:=zH (st.blk Lu.out zO);have Ip:=zH (st.below Rh.out zO);have jD:=zH (st.hd jB.out fun e=>by have:=HG9.out;omega)
 have II:=zH (st.hd HQ5.out fun e=>(pB.out _ e).2.2 rfl)
 have BB:=zH (st.hd HT5.out fun e=>zO)
 have sR:=zH (show wR.1.size=w9.1.size from st.size)
 rw [HS1C.out] at kS;clear hwR st rz DD DB BD Lu Rh jB HQ5 HT5 jf cO2 c9 f9 l9' kO2;have jf:=zH kS;clear kS;have HRt:=zH (HRo.out wR At nt ct (ym BB.out));clear HRo;go_wp2_with fail
 refine (HRt.out).mono ?_;rintro e tu ⟨rfl,sg⟩;replace Wv:=zH (Wv.out.below sg Wv.out.lt);replace Ix:=zH (Ix.out.below sg Ix.out.lt);replace Fx:=zH (Fx.out.below sg Fx.out.lt);replace Gx:=zH (Gx.out.below sg Gx.out.lt);replace Hx:=zH (Hx.out.below sg Hx.out.lt);replace Ip:=zH (pa Ip.out sg);replace jD:=zH (Za jD.out (Yb sg));replace II:=zH (Za II.out (Yb sg));replace BB:=zH (Za BB.out (Yb sg));replace jf:=zH (jf.out.below sg jf.out.lt);have s10:=sg.size;obtain ⟨kB,ja⟩:=zN tu 47 #[vd vq rt,ve vB 0 0,ve vB 0 0,ve vB 0 0,ve vB 0 0,ve vB 0 0,ve vB 0 0];have lP:g8<tu.1.size:=by have:=sR.out;omega
 replace Wv:=zH (Wv.out.below ja Wv.out.lt);replace Ix:=zH (Ix.out.below ja Ix.out.lt);replace Fx:=zH (Fx.out.below ja Fx.out.lt);replace Gx:=zH (Gx.out.below ja Gx.out.lt);replace Hx:=zH (Hx.out.below ja Hx.out.lt);replace Ip:=zH (pa Ip.out ja);replace jD:=zH (Za jD.out (Yb ja));replace II:=zH (Za II.out (Yb ja));replace BB:=zH (Za BB.out (Yb ja));replace jf:=zH (jf.out.below ja jf.out.lt);clear ja sg HRt sR;go_upto_region 7 with fail
 generalize tu.alloc _=XF at kB Wv Ix Fx Gx Hx Ip jD II BB jf |-;obtain ⟨gP,hgP⟩:=zEX (tu.1.size);rw [<- hgP] at kB lP |-;clear hgP s10 l8;have cP:=kB.cell;have lPw:=kB.lt;have cS:=jf.out.cell;have cl:=Wv.out.cell;have lD:=zH kB;have zG:=zH (HSe.out KM A2q n2q c2q XF II.out);clear kB;go_wp2_with fail
 refine zG.out.mono ?_;rintro e kI ⟨A3q,n3q,c3q,rfl,hq12,Sn⟩;clear cP cS cl zG HSe;have uV:=zk hq12;obtain ⟨KN,hKN⟩:∃ KN:Nat -> Prop,KN=fun b=>(KM b \/ XF.1.size <= b) /\ b<kI.1.size:=⟨_,rfl⟩
 rw [<- hKN] at uV;have s12':XF.1.size <= kI.1.size:=Sn.size;have HKN:=zH (show ∀ b,KN b -> ((K b /\ b<w.1.size) \/ w.1.size+6 <= b) /\ b<kI.1.size /\ b≠g9 /\ b≠gP from fun b hb=>by
  rw [hKN] at hb;exact hb.1.elim (fun e=>⟨(pB.out b e).1,hb.2,(pB.out b e).2.2,by have:=(pB.out b e).2.1;omega⟩) fun e=>⟨.inr zO,hb.2,zO,zO⟩)
 have HQ7:=zH uV;replace Wv:=zH (Wv.out.below Sn Wv.out.lt);replace Ix:=zH (Ix.out.below Sn Ix.out.lt);replace Fx:=zH (Fx.out.below Sn Fx.out.lt);replace Gx:=zH (Gx.out.below Sn Gx.out.lt);replace Hx:=zH (Hx.out.below Sn Hx.out.lt);replace Ip:=zH (pa Ip.out Sn);replace jD:=zH (Za jD.out (Yb Sn));replace BB:=zH (Za BB.out (Yb Sn));replace jf:=zH (jf.out.below Sn jf.out.lt);replace lD:=zH (lD.out.below Sn lD.out.lt);have l9g:g9<XF.1.size:=by omega
 have l9x:g9<kI.1.size:=by omega
 have lPx:gP<kI.1.size:=by omega
 have n9x:kI.1.size≠g9:=by omega
 obtain ⟨wV0,hwV,kS,st⟩:=pX jf.out (.bool s2.O.ideal) (vd vq s2.O.st) (vd vt s2.O.dr) (ve A3q n3q c3q) (ve vB 0 0) (ve vB 0 0) (vd vq s2.st) (vd vq s2.ct);have HWV:=zH hwV;have Gn:=zH (st.blk Wv.out zO);have Mu:=zH (st.blk Ix.out zO);have Iq:=zH (st.blk Fx.out zO);have Xv:=zH (st.blk Gx.out zO);have Yv:=zH (st.blk Hx.out zO);have ng:=zH (st.below Ip.out zO);have Py:=zH (st.hd jD.out fun e=>by have:=HG9.out;omega)
 have yB:=zH (st.hd HQ7.out fun e=>(HKN.out _ e).2.2.1 rfl)
 have CB:=zH (st.hd BB.out fun e=>zO)
 have Du:=zH (st.blk lD.out zO);have HKV:=zH kS;obtain ⟨kX,ja⟩:=zN wV0 32 #[vd vq ch.al,vd vq ch.rh,vd vq ch.be];rw [st.size] at kX;have ik:=zH kX;replace Gn:=zH (Gn.out.below ja Gn.out.lt);replace Mu:=zH (Mu.out.below ja Mu.out.lt);replace Iq:=zH (Iq.out.below ja Iq.out.lt);replace Xv:=zH (Xv.out.below ja Xv.out.lt);replace Yv:=zH (Yv.out.below ja Yv.out.lt);replace ng:=zH (pa ng.out ja);replace Py:=zH (Za Py.out (Yb ja));replace yB:=zH (Za yB.out (Yb ja));replace CB:=zH (Za CB.out (Yb ja));replace Du:=zH (Du.out.below ja Du.out.lt);replace HKV:=zH (HKV.out.below ja HKV.out.lt);have cS:=jf.out.cell;have fS:=jf.out.frozen;have lS:=jf.out.lt;clear ja hq12 uV hKN Sn kX II hwV kS st Wv Ix Fx Gx Hx Ip jD HQ7 BB lD;go_upto_region 8 with fail
 rw [HWV.out];generalize wV0.alloc _=wV at ik Gn Mu Iq Xv Yv ng Py yB CB Du HKV |-;clear HWV cS fS lS jf;have jf:=zH HKV.out;clear HKV;obtain ⟨gX,hgX⟩:=zEX (kI.1.size);rw [<- hgX] at ik HKN l9x lPx n9x |-;clear hgX;have cX:=ik.out.cell;have cl:=Gn.out.cell;have ct:=Mu.out.cell;have cc:=Iq.out.cell;have HAc:=zH (HAn.out AM nM cM wV ng.out (HMR.out _ (ym Py.out)));clear HAn;go_wp2_with fail
 refine HAc.out.mono ?_;rintro e w14 ⟨v1,v2,v3,rfl,o1,o2',o3,Gl⟩;clear cX cl ct cc HAc;have s14:=Gl.size;have lXv:gX<wV.1.size:=ik.out.lt;obtain ⟨P1,p1,rfl,-⟩:=mc o1;obtain ⟨P2,p2,rfl,-⟩:=mc o2';obtain ⟨P3,p3,rfl,-⟩:=mc o3;replace Gn:=zH (Gn.out.below Gl Gn.out.lt);replace Mu:=zH (Mu.out.below Gl Mu.out.lt);replace Iq:=zH (Iq.out.below Gl Iq.out.lt);replace Xv:=zH (Xv.out.below Gl Xv.out.lt);replace Yv:=zH (Yv.out.below Gl Yv.out.lt);replace ng:=zH (pa ng.out Gl);replace Py:=zH (Za Py.out (Yb Gl));replace yB:=zH (Za yB.out (Yb Gl));replace CB:=zH (Za CB.out (Yb Gl));replace Du:=zH (Du.out.below Gl Du.out.lt);replace ik:=zH (ik.out.below Gl ik.out.lt);replace jf:=zH (jf.out.below Gl jf.out.lt);obtain ⟨kA,ja⟩:=zN w14 116 #[ve P1 L.k p1,ve P2 (L.k+L.block-1) p2,ve P3 (2*L.k-1) p3];replace Gn:=zH (Gn.out.below ja Gn.out.lt);replace Mu:=zH (Mu.out.below ja Mu.out.lt);replace Iq:=zH (Iq.out.below ja Iq.out.lt);replace Xv:=zH (Xv.out.below ja Xv.out.lt);replace Yv:=zH (Yv.out.below ja Yv.out.lt);replace ng:=zH (pa ng.out ja);replace Py:=zH (Za Py.out (Yb ja));replace yB:=zH (Za yB.out (Yb ja));replace CB:=zH (Za CB.out (Yb ja));replace Du:=zH (Du.out.below ja Du.out.lt);replace ik:=zH (ik.out.below ja ik.out.lt);replace jf:=zH (jf.out.below ja jf.out.lt);replace o1:=yb o1 ja zR;replace o2':=yb o2' ja zR;replace o3:=yb o3 ja zR;clear ja Gl;go_upto_region 9 with fail
 generalize w14.alloc _=w15 at kA Gn Mu Iq Xv Yv ng Py yB CB Du ik jf o1 o2' o3 |-;obtain ⟨gA,iH⟩:=zEX (w14.1.size);rw [<- iH] at kA |-;have lAP:gP<gA:=by omega
 have sVA:wV.1.size <= gA:=by omega
 have cA:=kA.cell;have lA:=kA.lt;have lPz:=Du.out.lt;have nAP:gA≠gP:=by omega
 have O1:=zH o1;have O2:=zH o2';have O3:=zH o3;have KA:=zH kA;clear kA o1 o2' o3 iH;refine Yc (Kj gP) [7,9,11] [0,1,2,3,4,5,6,7,8,9,10,11] zK zK ?_;refine Td (Gd gP) ?_;intro Wc Ca da;have KL7:=zH (show Blk Wc _ _ _ by rw [Ca.out];exact Gn.out.drew)
 have KT7:=zH (show Blk Wc _ _ _ by rw [Ca.out];exact Mu.out.drew)
 have KC7:=zH (show Blk Wc _ _ _ by rw [Ca.out];exact Iq.out.drew)
 have KP7:=zH (show Blk Wc _ _ _ by rw [Ca.out];exact Xv.out.drew)
 have KQ7:=zH (show Blk Wc _ _ _ by rw [Ca.out];exact Yv.out.drew)
 have KA7:=zH (show Blk Wc _ _ _ by rw [Ca.out];exact KA.out.drew)
 have KB7:=zH (show Blk Wc _ _ _ by rw [Ca.out];exact Du.out.drew)
 have KS7:=zH (show Blk Wc _ _ _ by rw [Ca.out];exact jf.out.drew)
 have tx:=zH (show vz w.1.size w Wc by rw [Ca.out];exact ng.out.drew)
 have HC7:=zH (Za Py.out (show Od _ _ Wc by rw [Ca.out];exact Oo))
 have HQ9:=zH (Za yB.out (show Od _ _ Wc by rw [Ca.out];exact Oo))
 have HT8:=zH (Za CB.out (show Od _ _ Wc by rw [Ca.out];exact Oo))
 have O17:=zH (show Wc.ownsRow _ _ _ _ _ _ by rw [Ca.out];exact Ge O1.out fun _ _=>rfl)
 have O27:=zH (show Wc.ownsRow _ _ _ _ _ _ by rw [Ca.out];exact Ge O2.out fun _ _=>rfl)
 have O37:=zH (show Wc.ownsRow _ _ _ _ _ _ by rw [Ca.out];exact Ge O3.out fun _ _=>rfl)
 have cB:=KB7.out.cell;have fB:=KB7.out.frozen;have lB:=KB7.out.lt;clear Ca Gn Mu Iq Xv Yv KA Du jf ng Py yB CB O1 O2 O3 ik;refine Lk ?_;refine Bd (Gd gP) rfl rfl rfl ?_;go_simp;refine ⟨dk (w:=Wc) gP 1 (ve P1 L.k p1),?_⟩
 refine zPU ?_
 have Pw:=KB7.out.set_ 1 (ve P1 L.k p1);have Dh:=oX (w:=Wc) gP 1 (ve P1 L.k p1);simp only [Ga,Ia,Ha] at Pw;generalize Wc.setCell _ _=wa at Pw Dh |-;clear cB fB lB da;have da:=(Gd gP).refl wa;have cB:=Pw.cell;have fB:=Pw.frozen;have lB:=Pw.lt;refine Lk ?_;refine Bd (Gd gP) rfl rfl rfl ?_;go_simp;refine ⟨dk (w:=wa) gP 2 (ve P2 (L.k+L.block-1) p2),?_⟩
 refine zPU ?_
 have xK:=Pw.set_ 2 (ve P2 (L.k+L.block-1) p2);have Gy:=Dh.trans (oX (w:=wa) gP 2 (ve P2 (L.k+L.block-1) p2));simp only [Ga,Ia,Ha] at xK;generalize wa.setCell _ _=wb at xK Gy |-;clear cB fB lB da Pw Dh;have da:=(Gd gP).refl wb;have cB:=xK.cell;have fB:=xK.frozen;have lB:=xK.lt;refine Lk ?_;refine Bd (Gd gP) rfl rfl rfl ?_;go_simp;refine ⟨dk (w:=wb) gP 3 (ve P3 (2*L.k-1) p3),?_⟩
 refine zPU ?_
 have kb3:=xK.set_ 3 (ve P3 (2*L.k-1) p3);have Ks:=Gy.trans (oX (w:=wb) gP 3 (ve P3 (2*L.k-1) p3));simp only [Ga,Ia,Ha] at kb3;generalize wb.setCell _ _=wc at kb3 Ks |-;clear cB fB lB da xK Gy;have da:=(Gd gP).refl wc;refine Ec ?_;clear da cA lA;have lPV:gP<wV.1.size:=by omega
 have KL8:=zH (Ks.blk KL7.out zO);have dm:=zH (Ks.blk KT7.out zO);have KC8:=zH (Ks.blk KC7.out zO);have KP8:=zH (Ks.blk KP7.out zO);have KQ8:=zH (Ks.blk KQ7.out zO);have KA8:=zH (Ks.blk KA7.out nAP);have GB:=zH (Ks.blk KS7.out zO);have Bq:=zH (Ks.below tx.out zO);have HC8:=zH (Ks.hd HC7.out fun e=>zO)
 have HQ10:=zH (Ks.hd HQ9.out fun e=>(HKN.out _ e).2.2.2 rfl)
 have HT9:=zH (Ks.hd HT8.out fun e=>zO)
 have O18:=zH (Ks.own O17.out fun b hb=>by have:=(O17.out.lt b hb).1;omega)
 have O28:=zH (Ks.own O27.out fun b hb=>by have:=(O27.out.lt b hb).1;omega)
 have O38:=zH (Ks.own O37.out fun b hb=>by have:=(O37.out.lt b hb).1;omega)
 have uL:=zH kb3;clear Ks kb3 KL7 KT7 KC7 KP7 KQ7 KA7 KS7 KB7 tx HC7 HQ9 HT8 O17 O27 O37;have cA:=KA8.out.cell;have cl:=KL8.out.cell;have cS:=GB.out.cell;have HTc:=zH (HTh.out KN A3q n3q c3q P1 p1 P2 p2 P3 p3 wc (Yf O18.out Bu.out) (Yf O28.out iB.out) (Yf O38.out HC3.out) HQ10.out);clear HTh;go_wp2_with fail
 refine HTc.out.mono ?_;rintro e w16 ⟨A4q,n4q,c4q,v,rfl,ow,hq16,Hl⟩;clear cA cl cS HTc;obtain ⟨Av,cv,rfl,-⟩:=mc ow;have s16:=Hl.size;have vV:=zk hq16;obtain ⟨KR,hKR⟩:∃ KR:Nat -> Prop,KR=fun b=>(KN b \/ wc.1.size <= b) /\ b<w16.1.size:=⟨_,rfl⟩
 rw [<- hKR] at vV;have lPc:gP<wc.1.size:=uL.out.lt;have l9c:g9<wc.1.size:=GB.out.lt;have kG:=zH (show ∀ b,KR b -> ((K b /\ b<w.1.size) \/ w.1.size+6 <= b) /\ b<w16.1.size /\ b≠g9 /\ b≠gP from fun b hb=>by
  rw [hKR] at hb;exact hb.1.elim (fun e=>⟨(HKN.out b e).1,hb.2,(HKN.out b e).2.2⟩) fun e=>⟨.inr zO,hb.2,zO,zO⟩)
 have HQ11:=zH vV;have lV8:wV.1.size <= wc.1.size:=by have:=KA8.out.lt;omega
 have L1:=zH (show (∀ b,(ve P1 L.k p1).ownBlock=vD b -> wV.1.size <= b /\ b<wc.1.size) /\ (∀ b,(ve P2 (L.k+L.block-1) p2).ownBlock=vD b -> wV.1.size <= b /\ b<wc.1.size) /\ ∀ b,(ve P3 (2*L.k-1) p3).ownBlock=vD b -> wV.1.size <= b /\ b<wc.1.size from ⟨O18.out.lt,O28.out.lt,O38.out.lt⟩)
 replace KL8:=zH (KL8.out.below Hl KL8.out.lt);replace dm:=zH (dm.out.below Hl dm.out.lt);replace KC8:=zH (KC8.out.below Hl KC8.out.lt);replace KP8:=zH (KP8.out.below Hl KP8.out.lt);replace KQ8:=zH (KQ8.out.below Hl KQ8.out.lt);replace Bq:=zH (pa Bq.out Hl);replace HC8:=zH (Za HC8.out (Yb Hl));replace HT9:=zH (Za HT9.out (Yb Hl));replace uL:=zH (uL.out.below Hl uL.out.lt);replace GB:=zH (GB.out.below Hl GB.out.lt);replace O18:=zH (yb O18.out Hl zR);replace O28:=zH (yb O28.out Hl zR);replace O38:=zH (yb O38.out Hl zR);have OW:=zH ow;have cS:=GB.out.cell;have fS:=GB.out.frozen;have lS:=GB.out.lt;clear Hl hq16 vV hKR ow HQ10 KA8;go_upto_region 11 with fail
 obtain ⟨wW,hwW,kS,st⟩:=pX GB.out (.bool s3.O.ideal) (vd vq s3.O.st) (vd vt s3.O.dr) (ve A4q n4q c4q) (ve vB 0 0) (ve vB 0 0) (vd vq s3.st) (vd vq s3.ct);rw [hwW];have KC9:=zH (st.blk KC8.out zO);have KP9:=zH (st.blk KP8.out zO);have KQ9:=zH (st.blk KQ8.out zO);have HB9:=zH (st.below Bq.out zO);have HC9:=zH (st.hd HC8.out fun e=>by have:=HG9.out;omega)
 have HQ12:=zH (st.hd HQ11.out fun e=>(kG.out _ e).2.2.1 rfl)
 have TR16:=zH (st.hd HT9.out fun e=>zO)
 have kb:=st.blk uL.out zO;have O1:=zH (st.own O18.out fun b hb=>by have:=(L1.out.1 b hb).1;omega)
 have O2:=zH (st.own O28.out fun b hb=>by have:=(L1.out.2.1 b hb).1;omega)
 have O3:=zH (st.own O38.out fun b hb=>by have:=(L1.out.2.2 b hb).1;omega)
 have MR:=st.own OW.out fun b hb=>by have:=(OW.out.lt b hb).1;omega
 have ssz:wW.1.size=w16.1.size:=st.size;have KS9:=zH kS;clear hwW st KL8 dm KC8 KP8 KQ8 Bq HC8 HQ11 HT9 uL GB O18 O28 O38 OW cS fS lS kS;have HR16:=zH (n7 MR);have OWP:=zH MR;have lgr0:∀ b,(ve Av L.queries cv).ownBlock=vD b -> wc.1.size <= b /\ b<wW.1.size:=MR.lt;have Uy:=zH lgr0;obtain ⟨N,hN⟩:=zEX (wW.1.size);have gV:gP<N:=by omega
 have Rk:N <= wW.1.size:=by omega
 have Et:wW.1.size <= N:=by omega
 have h9N:g9<N:=by omega
 have hwcN:wc.1.size <= N:=by omega
 have hHN:w.1.size+6 <= N:=by omega
 have h3N:w3.1.size <= N:=by omega
 have h8N:g8<N:=by omega
 have h3P:w3.1.size <= gP:=by omega
 have h16N:w16.1.size <= N:=by omega
 have hHP:w.1.size+6 <= gP:=by omega
 clear hN MR lgr0 ssz;go_upto_region 12 with fail
 go_loopw [23] (fun y wr=>∃ (i:Nat) (xs:Nat -> vw) (nn:Nat -> Nat) (vs:Nat -> List vw),i <= L.queries /\ y=vd vt i /\ Blk wr gP 47 #[vd vq rt,ve P1 L.k p1,ve P2 (L.k+L.block-1) p2,ve P3 (2*L.k-1) p3,xs 0,xs 1,xs 2] /\ OwnF N wr (i+3) tyF xs nn vs /\ Hid (InvP pos x.cols x.l4 (fun z=>Ay tr z) x.dd w2.1.size w3 i xs nn vs) /\ Gp gP N wW wr /\ N <= wr.1.size) (fun y _=>L.queries-(intOf y).toNat)
 case atStart =>
  refine ⟨0,fun _=>ve vB 0 0,fun _=>0,fun _=>[],Rb _,rfl,kb,⟨fun j _=>⟨rfl, .inl ⟨rfl,rfl⟩⟩,fun j i _ _ _ q h=>nomatch h⟩,zH ⟨rfl,rfl,rfl,rfl,zED _ _,rfl,fun k hk=>absurd hk zO⟩,(Tb _ _).refl _,Rk⟩
 case round =>
  clear kb;obtain ⟨i,xs,nn,vs,hi,rfl,kb,Qd,HI,Jb,rm⟩:=hrel;have df:=zH (show vz w.1.size w wr from ⟨Jb.1.trans HB9.out.os,Jb.2.1.trans HB9.out.tape,Jb.2.2.1.trans HB9.out.output,Cb HB9.out.size Jb.2.2.2.1,fun b hb=>(Jb.2.2.2.2 b zO zO).trans (HB9.out.block b hb)⟩)
  by_cases ta:i<L.queries
  ·have g1:(0:Int)<=i:=by omega
   have g2:(i:Int)<L.queries:=by omega
   have Pc:=zH ta;obtain ⟨z,hz⟩:∃ z:Nat,z=pos.getD i 0:=⟨_,rfl⟩;have hzn:z<L.n:=by rw [hz];exact HPT.out _ (bM 0 (by rw [Jm.out];exact ta))
   obtain ⟨b0,q0,e0,lb0,Wm⟩:=MC HR16.out zO;have a0:wW.cell? ⟨b0,q0+i,vB⟩=vD (vd vt z):=by rw [Wm i ta,hz];exact rW (by rw [Jm.out];exact ta)
   have Ra:=Uy.out b0 (by rw [e0];rfl)
   have PU:b0<N:=by omega
   have QU:b0≠gP:=by omega
   have eJ:wr.cell? ⟨b0,q0+i,vB⟩=vD (vd vt z):=(gJ (Jb.2.2.2.2 b0 PU QU)).trans a0;have lgr':b0<wr.1.size:=by omega
   have kc:Blk wr (w.1.size+3) _ _:=(Jb.2.2.2.2 _ zO zO).trans KC9.out;have cc:=kc.cell;have lc:=kc.lt;obtain ⟨bC,qC,B1,Gs,Rr,eC,Il,It,hcC,Y1⟩:=zG6 HCX.out (show z<x.cols.length by rw [x.cols_len,<- HLX.out];exact hzn)
   have hcC':wr.cell? ⟨bC,qC+z,vB⟩=vD (ve B1 Gs Rr):=(gJ ((Jb.2.2.2.2 bC zO zO).trans (ym HC9.out bC zO It))).trans hcC;have lbC:bC<wr.1.size:=by omega
   have hbC1:bC<N:=by omega
   have hbC2:bC≠N:=by omega
   have hzc:(z:Int)<nC:=by have:=(Ki HCX.out.here).1;rw [x.cols_len,<- HLX.out] at this;omega
   have Wj:(0:Int)<=z:=by omega
   have hrA:=Sa df.out HARG.out.2;obtain ⟨hl4n,-,-,-,hr4⟩:=Mb hrA;have yV:=hr4;rw [hl4n] at yV;obtain ⟨bS,qS,eS,lbS,hcS⟩:=Ve yV (show z<x.l4.length by rw [AI.out.c4.1,<- HLX.out];exact hzn)
   obtain ⟨sz,DV⟩:∃ sz,sz=x.l4.getD z 0:=⟨_,rfl⟩;have hcS':wr.cell? ⟨bS,qS+z,vB⟩=vD (vd vq sz):=by rw [DV];exact hcS
   have hzs:(z:Int)<n4:=by have:=AI.out.c4.1;rw [<- HLX.out] at this;omega
   obtain ⟨b7,q7,e7,lb7,-⟩:=Ve (show Rd w 1 A4 x.l4.length (Qa x.l4) from by have a7:=Mb HARG.out.2;have h7:=a7.2.2.2.2;rw [a7.1] at h7;exact h7) (show z<x.l4.length by rw [AI.out.c4.1,<- HLX.out];exact hzn)
   have lbS7:bS<w.1.size:=by rw [eS] at e7;injection e7 with e7;injection e7 with e8;omega
   have CS16:=zH (show wW.cell? ⟨bS,qS+z,vB⟩=vD (vd vq sz) from (gJ (Jb.2.2.2.2 bS zO zO)).symm.trans hcS')
   have CC16:=zH (show ∀ j,wW.cell? ⟨w.1.size+3,j,vB⟩=_ from fun j=>(gJ (Jb.2.2.2.2 (w.1.size+3) zO zO)).symm.trans (cc j))
   have C016:=zH a0;have mN:=zH (show Bi w2.1.size vB w3 (ve B1 Gs Rr) (x.cols.getD z []) from fun u hu=>by rw [Gc,Dc (show z<x.cols.length by rw [x.cols_len,<- HLX.out];exact hzn)];exact Y1 u fun b h1 h2=>hu b h1 h2 fun e=>by cases e)
   have HZ:=zH hz;have HSZ:=zH DV;have HZN:=zH hzn;have hcnt:nn 0 <= 64 /\ nn 1 <= 64 /\ nn 2 <= 64:=by have h0:=HI.out.n0;have h1:=HI.out.n1;have h2:=HI.out.n2;have:=oT.out;omega
   obtain ⟨gn0,gn1,gn2⟩:=hcnt;subst e0 eC eS;clear hcS' e7 cc lc Y1 hcC hcS hr4 yV hl4n Wm a0 hrA hz DV ta kc hzn hi Ra;have hgb1:gP≠N:=by omega
   have hgb2:w.1.size+3<N:=by omega
   have hgb3:w.1.size+3≠N:=by omega
   have hgb6:b0≠N:=by omega
   have cb:=kb.cell;have lb:=kb.lt;obtain ⟨Ax,cx,wv,-⟩:=mc (Qd.own 0 zO);have AA:xs 0=ve Ax (nn 0) cx:=wv;rw [AA] at kb;have Ju:=zH AA;clear wv AA cb;have cb:=kb.cell;go_upto_region 14 with fail
   refine XC (Gp N N) [9,10,12] [12] [0,1,2,3,4,5,6,7,8,9,10,11,12] zK zK ?_;refine aD (Tb N N) ?_;intro Wc Ca da;have Ma:=Lf Ca;have ld:N <= Wc.1.size:=by have:=Ma.size;omega
   replace kb:=ma kb Ma;replace Qd:=Qd.below Ma;replace Jb:=zM (Tb gP N) Jb (Mf Ma rm);clear Ca Ma;refine Tl ?_;refine Jk (Tb N N) rfl rfl rfl ?_;go_simp;have ja:=zA Wc (.cells #[ve B1 Gs Rr] 28);have Ff:=mh Wc (ve B1 Gs Rr) 28;refine ⟨fun _=>Mf ja ld,?_⟩
   replace kb:=ma kb ja;replace Qd:=Qd.below ja;replace Jb:=zM (Tb gP N) Jb (Mf ja ld);have Df:=Cb ld ja.size
   refine zPU ?_
   generalize Wc.alloc _=wa at kb Qd Jb Ff Df |-;generalize Wc.1.size=g6 at Ff |-;clear ja ld da cb;have da:=(Tb N N).refl wa;have oa:wa.ownsRow N 28 1 (ve Ax (nn 0) cx) (nn 0) (vs 0):=by rw [<- Ju.out];exact Qd.own 0 zO
   refine Tl ?_;refine Jk (Tb N N) rfl rfl rfl ?_;refine Iv _ _ rfl jw rfl oa rfl Ff (by intro u hu;simp at hu;subst hu;rfl) zO Df ?_
   intro v' wn Va Ja tb;obtain ⟨AwA,cwA,rfl,-⟩:=mc Va;have Jc:∀ q,(ve Ax (nn 0) cx).ownBlock=vD q -> N <= q:=fun q e=>(oa.lt q e).1
   refine ⟨fun _=>Xx Ja Df Jc,?_⟩
   replace kb:=kb.grown Ja (fun e=>by have:=Jc _ e.symm;omega)
   replace Qd:=Qd.app (k:=0) zO Va (show wa.grownBy wn (xs 0).ownBlock by rw [Ju.out];exact Ja) (show _=(xs 0).ownBlock \/ _ by rw [Ju.out];exact tb)
   replace Jb:=zM (Tb gP N) Jb (Xx Ja Df Jc);have Di:=Cb Df Ja.size;clear oa Ja tb Jc Df Ff da Va Ju;have da:=(Tb N N).refl wn;have cb:=kb.cell;have fb:=kb.frozen;have lb:=kb.lt
   refine zPU ?_
   refine Tl ?_;refine Jk (Tb N N) rfl rfl rfl ?_;go_simp;refine ⟨fun h=>Bool.noConfusion h,?_⟩
   have Wb:=dk (w:=wn) gP 4 (ve AwA (nn 0+1) cwA);replace kb:=kb.set_ 4 (ve AwA (nn 0+1) cwA);simp only [Ga,Ia,Ha] at kb;replace Qd:=Qd.stay Wb gV;replace Jb:=zM (Tb gP N) Jb (YL Wb Di);replace Di:=Cb Di Wb.size;clear Wb cb fb da;generalize wn.setCell _ _=wz1 at kb Qd Jb Di |-;have da:=(Tb N N).refl wz1;refine Tl ?_;refine YC ?_;clear da;have rm:=Di;clear Di;have cb:=kb.cell;have lb:=kb.lt;clear hcC' eJ;have hold:∀ j e,j<N -> j≠gP -> wz1.cell? ⟨j,e,vB⟩=wW.cell? ⟨j,e,vB⟩:=fun j e h1 h2=>gJ (Jb.2.2.2.2 j h1 h2)
   have ccz:=fun j=>(hold (w.1.size+3) j zO zO).trans (CC16.out j)
   have csz:=(hold bS (qS+z) zO zO).trans CS16.out;have c0z:=(hold b0 (q0+i) PU QU).trans C016.out;have hs1':bS<N:=by omega
   have hs2':bS≠N:=by omega
   have hs3':bS<wz1.1.size:=by omega
   have hs4':w.1.size+3<wz1.1.size:=by omega
   have CV:b0<wz1.1.size:=by omega
   clear hold;obtain ⟨Ax,cx,wv,-⟩:=mc (Qd.own 1 zO);have AA:xs 1=ve Ax (nn 1) cx:=wv;rw [AA] at kb;have Ju:=zH AA;clear wv AA cb;have cb:=kb.cell;go_upto_region 15 with fail
   refine XC (Gp N N) [10,11,13] [13] [0,1,2,3,4,5,6,7,8,9,10,11,12,13] zK zK ?_;refine aD (Tb N N) ?_;intro Wc Ca da;have Ma:=Lf Ca;have ld:N <= Wc.1.size:=by have:=Ma.size;omega
   replace kb:=ma kb Ma;replace Qd:=Qd.below Ma;replace Jb:=zM (Tb gP N) Jb (Mf Ma rm);clear Ca Ma;refine Tl ?_;refine Jk (Tb N N) rfl rfl rfl ?_;go_simp;have ja:=zA Wc (.cells #[vd vq sz] 22);have Ff:=mh Wc (vd vq sz) 22;refine ⟨fun _=>Mf ja ld,?_⟩
   replace kb:=ma kb ja;replace Qd:=Qd.below ja;replace Jb:=zM (Tb gP N) Jb (Mf ja ld);have Df:=Cb ld ja.size
   refine zPU ?_
   generalize Wc.alloc _=wa at kb Qd Jb Ff Df |-;generalize Wc.1.size=g6 at Ff |-;clear ja ld da cb;have da:=(Tb N N).refl wa;have oa:wa.ownsRow N 22 1 (ve Ax (nn 1) cx) (nn 1) (vs 1):=by rw [<- Ju.out];exact Qd.own 1 zO
   refine Tl ?_;refine Jk (Tb N N) rfl rfl rfl ?_;refine Iv _ _ rfl Ag rfl oa rfl Ff (by intro u hu;simp at hu;subst hu;rfl) zO Df ?_
   intro v' wn Va Ja tb;obtain ⟨AwB,cwB,rfl,-⟩:=mc Va;have Jc:∀ q,(ve Ax (nn 1) cx).ownBlock=vD q -> N <= q:=fun q e=>(oa.lt q e).1
   refine ⟨fun _=>Xx Ja Df Jc,?_⟩
   replace kb:=kb.grown Ja (fun e=>by have:=Jc _ e.symm;omega)
   replace Qd:=Qd.app (k:=1) zO Va (show wa.grownBy wn (xs 1).ownBlock by rw [Ju.out];exact Ja) (show _=(xs 1).ownBlock \/ _ by rw [Ju.out];exact tb)
   replace Jb:=zM (Tb gP N) Jb (Xx Ja Df Jc);have Di:=Cb Df Ja.size;clear oa Ja tb Jc Df Ff da Va Ju;have da:=(Tb N N).refl wn;have cb:=kb.cell;have fb:=kb.frozen;have lb:=kb.lt
   refine zPU ?_
   refine Tl ?_;refine Jk (Tb N N) rfl rfl rfl ?_;go_simp;refine ⟨fun h=>Bool.noConfusion h,?_⟩
   have Wb:=dk (w:=wn) gP 5 (ve AwB (nn 1+1) cwB);replace kb:=kb.set_ 5 (ve AwB (nn 1+1) cwB);simp only [Ga,Ia,Ha] at kb;replace Qd:=Qd.stay Wb gV;replace Jb:=zM (Tb gP N) Jb (YL Wb Di);replace Di:=Cb Di Wb.size;clear Wb cb fb da;generalize wn.setCell _ _=wz2 at kb Qd Jb Di |-;have da:=(Tb N N).refl wz2;refine Tl ?_;refine YC ?_;clear da;have rm:=Di;clear Di;have cb:=kb.cell;have lb:=kb.lt;clear ccz csz hs3' hs4' c0z CV;have hold:∀ j e,j<N -> j≠gP -> wz2.cell? ⟨j,e,vB⟩=wW.cell? ⟨j,e,vB⟩:=fun j e h1 h2=>gJ (Jb.2.2.2.2 j h1 h2)
   have c0z:=(hold b0 (q0+i) PU QU).trans C016.out;have CV:b0<wz2.1.size:=by omega
   clear hold;obtain ⟨Ax,cx,wv,-⟩:=mc (Qd.own 2 zO);have AA:xs 2=ve Ax (nn 2) cx:=wv;rw [AA] at kb;have Ju:=zH AA;clear wv AA cb;have cb:=kb.cell;go_upto_region 16 with fail
   refine XC (Gp N N) [7,8,9,11] [11] [0,1,2,3,4,5,6,7,8,9,10,11] zK zK ?_;refine aD (Tb N N) ?_;intro Wc Ca da;have Ma:=Lf Ca;have ld:N <= Wc.1.size:=by have:=Ma.size;omega
   replace kb:=ma kb Ma;replace Qd:=Qd.below Ma;replace Jb:=zM (Tb gP N) Jb (Mf Ma rm);clear Ca Ma;refine Tl ?_;have oy:=Wn TR16.out (iY Jb fun b h=>zO)
   have hN0':=ld;refine Ej (Tb N N) rfl rfl rfl (fun _=>by go_simp <;> rfl) ((HPa.out _ At nt ct z oy (by have:=HZN.out;exact this)).mono ?_)
   rintro e wY ⟨vp,rfl,op,ra⟩;refine ⟨_,rfl,fun _=>Mf ra ld,?_⟩
   replace da:=zM (Tb N N) da (Mf ra ld);refine zPU ?_;replace kb:=ma kb ra;replace Qd:=Qd.new (x:=vp) ra op ld;replace Jb:=zM (Tb gP N) Jb (Mf ra ld);replace ld:=Cb ld ra.size;obtain ⟨Ap,cp,rfl,-⟩:=mc op;clear ra op oy hN0';refine Tl ?_;refine Jk (Tb N N) rfl rfl rfl ?_;go_simp;have ja:=zA wY (.cells #[ve Ap x.dd cp] 28);have Ff:=mh wY (ve Ap x.dd cp) 28;refine ⟨fun _=>Mf ja ld,?_⟩
   replace kb:=ma kb ja;replace Qd:=Qd.below ja;replace Jb:=zM (Tb gP N) Jb (Mf ja ld);have Df:=Cb ld ja.size
   refine zPU ?_
   generalize wY.alloc _=wa at kb Qd Jb Ff Df |-;generalize wY.1.size=g6 at Ff |-;clear ja ld da cb;have da:=(Tb N N).refl wa;have oa:wa.ownsRow N 28 1 (ve Ax (nn 2) cx) (nn 2) (vs 2):=by rw [<- Ju.out];exact Qd.own 2 zO
   refine Tl ?_;refine Jk (Tb N N) rfl rfl rfl ?_;refine Iv _ _ rfl jw rfl oa rfl Ff (by intro u hu;simp at hu;subst hu;rfl) zO Df ?_
   intro v' wn Va Ja tb;obtain ⟨AwC,cwC,rfl,-⟩:=mc Va;have Jc:∀ q,(ve Ax (nn 2) cx).ownBlock=vD q -> N <= q:=fun q e=>(oa.lt q e).1
   refine ⟨fun _=>Xx Ja Df Jc,?_⟩
   replace kb:=kb.grown Ja (fun e=>by have:=Jc _ e.symm;omega)
   replace Qd:=Qd.app (k:=2) zO Va (show wa.grownBy wn (xs 2).ownBlock by rw [Ju.out];exact Ja) (show _=(xs 2).ownBlock \/ _ by rw [Ju.out];exact tb)
   replace Jb:=zM (Tb gP N) Jb (Xx Ja Df Jc);have Di:=Cb Df Ja.size;clear oa Ja tb Jc Df Ff da Va Ju;have da:=(Tb N N).refl wn;have cb:=kb.cell;have fb:=kb.frozen;have lb:=kb.lt
   refine zPU ?_
   refine Tl ?_;refine Jk (Tb N N) rfl rfl rfl ?_;go_simp;refine ⟨fun h=>Bool.noConfusion h,?_⟩
   have Wb:=dk (w:=wn) gP 6 (ve AwC (nn 2+1) cwC);replace kb:=kb.set_ 6 (ve AwC (nn 2+1) cwC);simp only [Ga,Ia,Ha] at kb;replace Qd:=Qd.stay Wb gV;replace Jb:=zM (Tb gP N) Jb (YL Wb Di);replace Di:=Cb Di Wb.size;clear Wb cb fb da;generalize wn.setCell _ _=wz3 at kb Qd Jb Di |-;have da:=(Tb N N).refl wz3;refine Tl ?_;refine YC ?_;clear da;have rm:=Di;clear Di;have cb:=kb.cell;have lb:=kb.lt;clear c0z CV cb;have Pv:=zH (HI.out.step (by rw [Jm.out];exact Pc.out) HZ.out (a:=ve AwA (nn 0+1) cwA) (b:=ve AwB (nn 1+1) cwB) (c:=ve AwC (nn 2+1) cwC) (p:=ve Ap x.dd cp) mN.out HSZ.out)
   have kbn:Blk wz3 gP 47 #[vd vq rt,ve P1 L.k p1,ve P2 (L.k+L.block-1) p2,ve P3 (2*L.k-1) p3,ze (ze (ze (ze xs 0 (ve AwA (nn 0+1) cwA)) 1 (ve AwB (nn 1+1) cwB)) (i+3) (ve Ap x.dd cp)) 2 (ve AwC (nn 2+1) cwC) 0,ze (ze (ze (ze xs 0 (ve AwA (nn 0+1) cwA)) 1 (ve AwB (nn 1+1) cwB)) (i+3) (ve Ap x.dd cp)) 2 (ve AwC (nn 2+1) cwC) 1,ze (ze (ze (ze xs 0 (ve AwA (nn 0+1) cwA)) 1 (ve AwB (nn 1+1) cwB)) (i+3) (ve Ap x.dd cp)) 2 (ve AwC (nn 2+1) cwC) 2]:=by
    rw [Rl _ _ (show (0:Nat)≠2 by omega),Rl _ _ (show (0:Nat)≠i+3 by omega),Rl _ _ (show (0:Nat)≠1 by omega),ax,Rl _ _ (show (1:Nat)≠2 by omega),Rl _ _ (show (1:Nat)≠i+3 by omega),ax,ax]
    exact kb
   rw [show i+3+1=i+1+3 by omega] at Qd
   have HOF:=zH Qd;have KBN:=zH kbn;have HWI:=zH (show wrap64 ((i:Int)+1)=((i+1:Nat):Int) by unfold wrap64;have:=oT.out;have:=Pc.out;omega)
   clear Qd kbn kb;go_wp2
   go_roundw
   case rel=>exact ⟨i+1,_,_,_,Pc.out,by rw [HWI.out],KBN.out,HOF.out,Pv,Jb,rm⟩
   case measure =>
    have h1:=Pc.out;have e:=HWI.out
    try dsimp only
    rw [e];exact zD8 h1
  ·obtain rfl:i=L.queries:=by omega
   obtain ⟨Ac,ca,e0,-⟩:=mc (Qd.own 0 zO);obtain ⟨As,cs,e1,-⟩:=mc (Qd.own 1 zO);obtain ⟨Ap,cp,e2,-⟩:=mc (Qd.own 2 zO);have f0:xs 0=ve Ac L.queries ca:=by rw [e0,HI.out.n0]
   have f1:xs 1=ve As L.queries cs:=by rw [e1,HI.out.n1]
   have f2:xs 2=ve Ap L.queries cp:=by rw [e2,HI.out.n2]
   rw [f0,f1,f2] at kb;have E0:=zH (And.intro f0 (And.intro f1 f2));clear e0 e1 e2 f0 f1 f2 ta hi;have HOF:=zH Qd;have HFX:=zH Jb;have HN0:=zH rm;have KPr:=zH (show Blk wr (w.1.size+4) _ _ from (Jb.2.2.2.2 _ zO zO).trans KP9.out)
   have KQr:=zH (show Blk wr (w.1.size+5) _ _ from (Jb.2.2.2.2 _ zO zO).trans KQ9.out)
   have kSr:Blk wr g9 _ _:=(Jb.2.2.2.2 _ zO zO).trans KS9.out;have HQr:=zH (Za HQ12.out (iY Jb fun b hb=>by have:=(kG.out b hb).2;omega))
   obtain ⟨NY,hNY⟩:=zEX (wr.1.size);have ly1:gP<NY:=by rw [hNY];exact kb.lt
   have ly2:g9<NY:=by rw [hNY];exact kSr.lt
   have HNY:=zH hNY;obtain ⟨Vr,Fl⟩:∃ Vr:Nat -> Prop,Vr=fun b=>b=w.1.size+4 \/ b=w.1.size+5:=⟨_,rfl⟩
   have vr12:¬Vr gP:=by rw [Fl];exact fun e=>e.elim (fun e=>zO) (fun e=>zO)
   have vr13:¬Vr g9:=by rw [Fl];exact fun e=>e.elim (fun e=>zO) (fun e=>zO)
   have Dx:=zH (show Vr (w.1.size+4) by rw [Fl];exact .inl rfl)
   have HV3:=zH (show Vr (w.1.size+5) by rw [Fl];exact .inr rfl)
   have cB:=kb.cell;have cS:=kSr.cell;clear kb kSr Qd Jb rm hNY Fl;go_upto_region 17 with fail
   refine Ps (Vr) (Xb) (NY) [4,6] [0,1,2,3] [] [4,5,6] zK (Kq _) zK ?_;refine Rs ?_;intro Wc Ca da;have Fa:Hid (Qh Vr NY Xb Wc):=zH (by rw [Ca.out,HNY.out];exact ⟨zR,fun _ h=>h.elim,fun _ _ h=>h.elim⟩)
   have yL:=zH (show Blk Wc _ _ _ by rw [Ca.out];exact KPr.out.drew)
   have RP:=zH (show Blk Wc _ _ _ by rw [Ca.out];exact KQr.out.drew)
   have Ws:=zH (show vz wr.1.size wr Wc by rw [Ca.out];exact (Bb _ _).drew)
   clear Ca KPr KQr;refine Ig ?_;refine Qs [] rfl Fa (fun xk wE Db sf=>?_)
   clear sf;unfold jl
   try simp only [List.foldl]
   replace Ws:=zH (pa Ws.out Db);replace yL:=zH (yL.out.below Db yL.out.lt);replace RP:=zH (RP.out.below Db RP.out.lt);replace da:=zM (Kb Vr NY) da (Ld Db Fa.out.size);replace Fa:=zH (re Fa.out Db)
   refine zPU ?_
   clear Db;have cc:=yL.out.cell;have fc:=yL.out.frozen;refine Gm ?_;refine Bd (Kb Vr NY) rfl rfl rfl ?_;go_simp;refine ⟨YB Dx.out [vd vq rt,ve P1 L.k p1,ve P2 (L.k+L.block-1) p2,ve P3 (2*L.k-1) p3,ve Ac L.queries ca,ve As L.queries cs,ve Ap L.queries cp] _,?_⟩
   refine zPU ?_
   obtain ⟨wG,KH,kP,sP⟩:=zAg yL.out (vd vq rt) (ve P1 L.k p1) (ve P2 (L.k+L.block-1) p2) (ve P3 (2*L.k-1) p3) (ve Ac L.queries ca) (ve As L.queries cs) (ve Ap L.queries cp);rw [KH];have kQ:=sP.blk RP.out zO;clear KH cc fc da Fa;have cr:=kQ.cell;have fr:=kQ.frozen;have da:=(Kb Vr NY).refl wG;have KPG:=zH kP;clear kP;refine Gm ?_;refine Bd (Kb Vr NY) rfl rfl rfl ?_;go_simp;refine ⟨YB HV3.out [.bool s3.O.ideal,vd vq s3.O.st,vd vt s3.O.dr,ve A4q n4q c4q,ve vB 0 0,ve vB 0 0] _,?_⟩
   refine zPU ?_
   refine Ec ?_;obtain ⟨wf,Nd,kQf,sQ⟩:=zAf kQ (.bool s3.O.ideal) (vd vq s3.O.st) (vd vt s3.O.dr) (ve A4q n4q c4q) (ve vB 0 0) (ve vB 0 0);rw [Nd];have kPf:=sQ.blk KPG.out zO;clear Nd cr fr kQ KPG cB cS;have cf:=kQf.cell;have ccf:=kPf.cell;have Ox:=zH (And.intro sP sQ);clear da;go_wp2;have bV:∀ j,j≠w.1.size+4 -> j≠w.1.size+5 -> j<wr.1.size -> wf.1[j]?=wr.1[j]?:=fun j h1 h2 h3=>(Ox.out.2.far j h2).trans ((Ox.out.1.far j h1).trans (Ws.out.block j h3))
   have hfs:wr.1.size <= wf.1.size:=by rw [Ox.out.2.size,Ox.out.1.size];exact Ws.out.size
   have Wr:∀ K:Nat -> Prop,(∀ b,K b -> b≠w.1.size+4 /\ b≠w.1.size+5) -> Od K wr wf:=fun K hK=>Rx (Yb Ws.out) (Rx (Ox.out.1.agr fun e=>(hK _ e).1 rfl) (Ox.out.2.agr fun e=>(hK _ e).2 rfl))
   have GV:∀ j,j<N -> j≠gP -> j≠w.1.size+4 -> j≠w.1.size+5 -> wf.1[j]?=wW.1[j]?:=fun j h1 h2 h3 h4=>(bV j h3 h4 (zQ HN0.out)).trans (HFX.out.2.2.2.2 j h1 h2)
   have hN0':=HN0.out;have Ka:Hd (fun b=>w.1.size <= b) wf (fun u=>Pm u PR ⟨P1,L.k,p1,P2,L.k+L.block-1,p2,P3,2*L.k-1,p3,Ac,L.queries,ca,As,L.queries,cs,Ap,L.queries,cp⟩):=fun u a=>by
    have XD:=HEQ.out;have hu:∀ j,w.1.size <= j -> j<wf.1.size -> u.1[j]?=wf.1[j]?:=fun j h1 h2=>a.block j h1 h2
    have hus:=a.size;rw [HPV.out];exact zF1 (w7:=w3) (w16:=wW) (wr:=wr) (u:=u) (F4:=fun _=>False) (gP:=gP) (N:=N) (R:=w.1.size+5) (B0:=w.1.size+6) (B6:=w2.1.size) (B13:=wV.1.size) (B15:=wc.1.size) (x:=x) (O:=O) (tr:=tr) (pos:=pos)
     (fun j h1 h2 h3 h4 _=>(hu j zO zO).trans (GV j h2 h3 zO h4)) (fun j h1 h2=>(hu j zO zO).trans (bV j zO zO h2)) (fun j h1 h2=>(hu j zO zO).trans ((GV j zO zO zO zO).trans (ym HC9.out j zO h2))) zO zO zO zO zO zO zO zO (fun _ _ _ h=>h) O1.out O2.out O3.out L1.out Bu.out iB.out HC3.out (by rw [<- XD.2.2.2.1];exact XD.1) (by rw [<- XD.2.2.2.1];exact XD.2.1) (by rw [<- XD.2.2.2.1];exact XD.2.2.1) HOF.out HI.out Jm.out XD.2.2.2.2.1 XD.2.2.2.2.2.1 E0.out.1 E0.out.2.1 E0.out.2.2 (by rw [<- XD.2.2.2.2.2.2.1];exact Sh.out) AI.out.c4.2 Cx.out
   have oa:=Ge OWP.out (u:=wf) fun b hb=>GV b (zQ (Uy.out b hb)) (zQ (Uy.out b hb)) (zQ (Uy.out b hb)) (zQ (Uy.out b hb))
   have hqf:=Za HQr.out (Wr KR fun b hb=>(kG.out b hb).1.elim (fun e=>by have:=e.2;omega) fun e=>zO)
   refine Tc (by simp [results,results39,go_sem,cf,ccf];rfl) rfl ⟨⟨P1,L.k,p1,P2,L.k+L.block-1,p2,P3,2*L.k-1,p3,Ac,L.queries,ca,As,L.queries,cs,Ap,L.queries,cp⟩,ve Av L.queries cv,A4q,n4q,c4q,?_,Ka,Bh oa zO,Xp hqf fun b hb=>(kG.out b hb).1.elim (fun e=>.inl e.1) fun e=>.inr zO,?_⟩
   ·rw [<- hPRr]
    rfl
   ·refine ⟨Ox.out.2.os.trans (Ox.out.1.os.trans (Ws.out.os.trans df.out.os)),Ox.out.2.tape.trans (Ox.out.1.tape.trans (Ws.out.tape.trans df.out.tape)),Ox.out.2.output.trans (Ox.out.1.output.trans (Ws.out.output.trans df.out.output)),Cb df.out.size hfs,fun b hb=>(bV b zO zO (zQ df.out.size)).trans (df.out.block b hb)⟩
theorem zF0 (L:Xa) (j pu:Nat) (vars:Int) (rows:List Ya) (ws:List Nat) (ke:Nat) (hL:ed L) (hn:L.n=2^j):(YH L j pu vars rows ws ke).Good:=by
 have aH:=XY L ke (zQ (tc hL.p));obtain ⟨Qz,To,yd,Rf,uj⟩:=VY aH;exact ⟨hL,hn,V7 hn hL.n2,⟨oW _ _ _ _,Qz.trans (oW _ _ _ _).symm,fun _ h=>zEh h,fun r h=>(To r h).1⟩,yd,Rf,uj,WY aH⟩
theorem zGx {K:Nat -> Prop} {O:Oa} {k:Nat} (h:jm O k) (hk:k <= 1000) (L:Xa) (j pu ke:Nat) (vars:Int) (rows:List Ya) (ws:List Nat) (hRS:(YH L j pu vars rows ws ke).RefSame O) (Aq A B A0 A1 A2 A3 A4:Option vx) (nq cq n c m d n0 c0 n1 c1 n2 c2 n3 c3 n4 c4:Nat) (bl bw qs:Int) (w:vv)
  (hL:ed L) (hn:L.n=2^j) (fH:aw L ⟨L.p,(pu:Int),vars,rows.length,bl,bw,qs⟩) (ht:L.a+3*L.b <= 40) (hT:FT L.p (pu:Int) vars rows ws true) (hq:Hd K w fun u=>Sd u [ve Aq nq cq] O.qs)
  (hr:RSl 3 Ue w [ve A n c] rows) (hw:RWd w [ve B m d] ws) (h0:Ye w [ve A0 n0 c0] (Cy L ke (L.a+L.b+L.b+L.b))) (h1:RWd w [ve A1 n1 c1] (wi L.p ke [1] L.k)) (h2:RWd w [ve A2 n2 c2] (wi L.p ke [2] (L.k+L.block-2))) (h3:RWd w [ve A3 n3 c3] (wi L.p ke [3] (L.block+2*L.queries-1))) (h4:RWd w [ve A4 n4 c4] (wi Ob ke [4] L.n)) :
  vA prog 39 #[vf (mg O (ve Aq nq cq)),vf (Eb L),Kc L.p (pu:Int) vars (ve A n c),ve B m d,vf #[ve A0 n0 c0,ve A1 n1 c1,ve A2 n2 c2,ve A3 n3 c3,ve A4 n4 c4]] w fun e w' =>
   ∃ S v A' n' c',e=vn (.tuple #[vf (Hf ((YH L j pu vars rows ws ke).pr O) S),v,vf (mg ((YH L j pu vars rows ws ke).oF O) (ve A' n' c'))]) /\ Hd (fun b=>w.1.size <= b) w' (fun u=>Pm u ((YH L j pu vars rows ws ke).pr O) S) /\
   w'.ownsRow w.1.size 3 1 v L.queries (xf (Zf ((YH L j pu vars rows ws ke).pos O))) /\ Hd (fun b=>K b \/ w.1.size <= b) w' (fun u=>Sd u [ve A' n' c'] ((YH L j pu vars rows ws ke).oF O).qs) /\ vz w.1.size w w':=by
 obtain ⟨sK,-,-⟩:=VT hT.asg;have hv:(pu:Int)<vars:=fH.vars;exact zGw h hk (YH L j pu vars rows ws ke) (zF0 L j pu vars rows ws ke hL hn) hRS vars Aq A B A0 A1 A2 A3 A4 nq cq n c m d n0 c0 n1 c1 n2 c2 n3 c3 n4 c4 w hT.tab (vX hT.tab fH) (zAT hT.tab) (dZ hT.tab hT.small) rfl rfl hq hr hw h0 h1 h2 h3 h4
  (show 1+pu <= ws.length by omega) (show rows.length <= 16384 by have:=hT.few;omega) (by show (xF L rows ws pu).length <= 1000;rw [oW];omega)
end Go.Proofs.YtodmnanljoaocaaGreat
