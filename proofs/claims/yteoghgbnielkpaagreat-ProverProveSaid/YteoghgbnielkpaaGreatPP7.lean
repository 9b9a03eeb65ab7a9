/- A part of the proof. No condition. -/
import Derived.Test.YteoghgbnielkpaaGreatPP4
import Derived.Maps.OwnOps
import Derived.Maps.OwnSet

set_option maxRecDepth 100000
set_option maxHeartbeats 8000000
set_option linter.unusedVariables false
set_option linter.unusedSimpArgs false
namespace Go.Proofs.YteoghgbnielkpaaGreat
open Go.RowKit Go.Maps
open Tryz
open Go renaming World->vu, Value->vw, Addr->vx, TypeId->vy, Calls->vA
open Go.Value renaming int->vd, slice->ve, agg->vf
open Go.IntKind renaming u64->vo, i64->vq
open Go.Ending renaming returned->vn
open Go.RowKit renaming Below->vz
open Go.World renaming setCell->vE
open Go.Act renaming put->vF
open Option renaming none->vB, some->vD
theorem zAa (p:Nat) (s:St) (w:vu) (hp:jc p=true) :
  vA prog 209 #[vd vo p,s.val] w fun e w'=>e=vn (Cu p s).val /\ vz w.1.size w w':=by
 obtain ⟨Sd,Vb⟩:=Cc hp;have HV:=zH (fun w=>by have:=Fq p w Vb;rw [hp] at this;exact this)
 have HE:=zH (fun w=>zGL p w hp)
 have HC:=zH (fun r i w hr hi=>zGH p r i w hp hr hi)
 have HA:=zH (fun a b w=>ID p a b w hp)
 have HP:=zH (fun a n w hn=>IX p a n w hp hn)
 have HM:=zH (fun s w h=>zGV p s w hp h)
 have HSO:=zH (show ∀ (f:Nat -> Nat -> Nat) (t:St),(∀ i x,f i x<p) -> (Gz f t 3).ok from fun f t h=>St.ok_of_lt Vb (h 0 _) (h 1 _) (h 2 _))
 have qA:=zH (show ∀ r i x,Eu p r i x<p from fun r i x=>zHJ zO r i x)
 have Mh:=(zAv hp).2;have HSB:=zH (show ∀ r i x,Eu p r i x=((x+Ot p r i)%p)^(pc p).2.2%p from fun _ _ _=>rfl)
 clear hp Sd Vb;generalize (pc p).2.2=ex at *;have Bw:=zH Mh;clear Mh;obtain ⟨k1,k2,da,Db⟩:=Xf w 298 298 #[vd vo s.a,vd vo s.b,vd vo s.c] #[vd vo 0,vd vo 0,vd vo 0];have iA:=zH (show (Cu p s).val=(tt p s 8).val from rfl)
 rw [iA.out];clear iA;have ev:s.val=vf #[vd vo s.a,vd vo s.b,vd vo s.c]:=rfl;rw [ev];clear ev;go_enter func209,ntmps209
 go_wp2_with fail
 generalize (w.alloc _).alloc _=w0 at k1 k2 da Db |-;refine (HV.out _).mono ?_;rintro e w2 ⟨rfl,Fa⟩;replace k1:Blk w2 w.1.size 298 (tt p s 0).cs:=pa k1 Fa;replace k2:=pa k2 Fa;replace da:=ta da Fa;clear Fa Db HV;go_wp2_with fail
 go_loopw [5] (fun i wr=>∃ r:Nat,r <= 8 /\ i=vd vq r /\ Blk wr w.1.size 298 (tt p s r).cs /\ Blk wr (w.1.size+1) 298 #[vd vo 0,vd vo 0,vd vo 0] /\ vz w.1.size w wr) (fun i _=>8-(intOf i).toNat)
 case atStart=>exact ⟨0,Qb _,rfl,k1,k2,da⟩
 case round =>
  clear k1 k2 da;obtain ⟨r,hr,rfl,k1,k2,da⟩:=hrel;by_cases ya:r<8
  ·have g1:(r:Int)<8:=by omega
   obtain ⟨t,ht⟩:=zEX (tt p s r);rw [<- ht] at k1;have HT:=zH (show tt p s (r+1)=RF p (Gz (Eu p r) t 3) by rw [tt,<- ht];rfl)
   clear ht;go_wp2_with fail
   go_loopw [6] (fun i wr=>∃ m:Nat,m <= 3 /\ i=vd vq m /\ Blk wr w.1.size 298 (Gz (Eu p r) t m).cs /\ Blk wr (w.1.size+1) 298 #[vd vo 0,vd vo 0,vd vo 0] /\ vz w.1.size w wr) (fun i _=>3-(intOf i).toNat)
   case atStart=>exact ⟨0,Qb _,rfl,k1,k2,da⟩
   case round =>
    clear k1 k2 da;obtain ⟨m,hm,rfl,k1,k2,da⟩:=hrel;by_cases zh:m<3
    ·have g2:(m:Int)<3:=by omega
     have cm:=k1.cell m;rw [St.cs_at _ zh,zAT _ _ zh] at cm;have iO:=zH (zAU (Eu p r) t zh);have JG:=zH (HSB.out r m (t.at_ m));have Gj:=zH (fun w=>HC.out r m w ya zh)
     have af:=zH (fun w=>HA.out (t.at_ m) (Ot p r m) w)
     have jE:=zH (fun w=>HP.out ((t.at_ m+Ot p r m)%p) ex w Bw.out)
     rw [<- JG.out] at jE;clear JG;generalize Eu p r m (t.at_ m)=sv at *;generalize (t.at_ m+Ot p r m)%p=av at *;generalize Ot p r m=cv at *;generalize t.at_ m=xv at *;have l1:=k1.lt;go_wp2_with fail
     refine tg (Rc) (Da) [15] [15] [0,1,2,3,4,5,6,7,8,9,10,11,12,13,14,15] zK zK ?_;refine ug (Da) ?_;intro Wc ja;refine Cd ?_;refine yd Da rfl rfl rfl rfl (fun w' hR=>Gj.out _) ?_
     refine zPU ?_;refine Cd ?_;refine yd Da rfl rfl rfl rfl (fun w' hR=>af.out _) ?_
     refine zPU ?_;refine Cd ?_;refine yd Da rfl rfl rfl rfl (fun w' hR=>HE.out _) ?_
     refine zPU ?_;refine Cd ?_;refine yd Da rfl rfl rfl rfl (fun w' hR=>jE.out _) ?_
     refine zPU ?_;refine Cd ?_;refine Xj rfl rfl rfl rfl ?_;intro wh Tc;replace ja:=zM Da ja Tc;replace k1:=k1.drew.below ja k1.lt;replace k2:=k2.drew.below ja k2.lt;replace da:=ta da.drew ja;have f1:=k1.frozen m;have cm2:wh.cell? ⟨w.1.size,m,vB⟩=vD (vd vo xv):=yZ ja cm;clear l1 cm;go_simp;refine ⟨fun h=>Bool.noConfusion h,?_⟩
     have hg:wh.grownBy (wh.setCell ⟨w.1.size,m,vB⟩ (vd vo sv)) (vD w.1.size):=Li (p:=⟨w.1.size,m,vB⟩) (mg wh _) (.inl rfl) _;replace k1:=k1.set_ m (vd vo sv);rw [iO.out] at k1;replace k2:=k2.grown hg (fun e=>by have:=Nb e;omega)
     replace da:=da.trans (om hg da.size zR);clear hg f1 cm2;generalize wh.setCell _ _=Wf at k1 k2 da |-;refine Fk rfl ?_;go_wp2
     go_roundw
     case rel=>exact ⟨m+1,zO,by go_num,k1,k2,da⟩
     case measure=>simp [intOf];omega
    ·obtain rfl:m=3:=by omega
     obtain ⟨q,hq⟩:=zEX (Gz (Eu p r) t 3);have hqo:q.ok:=by rw [hq];exact HSO.out _ _ (qA.out r)
     rw [<- hq] at k1 HT;clear hq;have Oh:Blk wr w.1.size 298 #[vd vo q.a,vd vo q.b,vd vo q.c]:=k1;obtain ⟨z,hz⟩:=zEX (RF p q);rw [<- hz] at HT;have Kf:=zH (show ∀ w,vA prog 276 #[vd vo p,vf #[vd vo q.a,vd vo q.b,vd vo q.c]] w fun e w'=>e=vn (vf #[vd vo z.a,vd vo z.b,vd vo z.c]) /\ vz w.1.size w w' from fun w=>by rw [hz];exact HM.out q w hqo)
     clear hz k1 hqo;have c1:=Oh.cell;go_wp2_with fail
     refine (Kf.out _).mono ?_;rintro e w5 ⟨rfl,Bb⟩;replace Oh:=Oh.below Bb Oh.lt;replace k2:=pa k2 Bb;replace da:=ta da Bb;clear Bb c1;have c1:=Oh.cell;have f1:=Oh.frozen;go_wp2_with fail
     have hg:=Ep (w:=w5) (g:=w.1.size) (vd vo z.a) (vd vo z.b) (vd vo z.c);have kz:=Dp Oh (vd vo z.a) (vd vo z.b) (vd vo z.c);replace k2:=k2.grown hg (fun e=>by have:=Nb e;omega)
     replace da:=da.trans (om hg da.size zR);clear hg c1 f1 Oh;generalize ((vE w5 _ _).setCell _ _).setCell _ _=Wf at kz k2 da |-
     go_roundw
     case rel=>exact ⟨r+1,zO,by go_num,by rw [HT.out];exact kz,k2,da⟩
     case measure=>simp [intOf];omega
  ·obtain rfl:r=8:=by omega
   obtain ⟨q,hq⟩:=zEX (tt p s 8);rw [<- hq] at k1;have HQ:=zH hq;clear hq;have Oh:Blk wr w.1.size 298 #[vd vo q.a,vd vo q.b,vd vo q.c]:=k1;have c1:=Oh.cell;have c2:=k2.cell;have f2:=k2.frozen;go_wp2_with fail
   have hg:=Ep (w:=wr) (g:=w.1.size+1) (vd vo q.a) (vd vo q.b) (vd vo q.c);have kz:=Dp k2 (vd vo q.a) (vd vo q.b) (vd vo q.c);clear c1 c2 f2 k2;generalize ((vE wr _ _).setCell _ _).setCell _ _=Wf at hg kz |-;have cz:=kz.cell;have hs:=da.size;exact Uc (v:=vf #[vd vo q.a,vd vo q.b,vd vo q.c]) (by simp [results,results209,go_sem,cz]) rfl ⟨by rw [<- HQ.out];rfl,da.trans (om hg hs zO)⟩
def Po (p:Nat):List Nat -> St -> St
 | [],s=>s
 | [x],s=>Cu p ⟨(s.a+x)%p,s.b,s.c⟩
 | x :: y :: r,s=>Po p r (Cu p ⟨(s.a+x)%p,(s.b+y)%p,s.c⟩)
def Wq (p label:Nat) (l:List Nat):St:=Po p l ⟨0,0,(label*65536%p+l.length)%p⟩
theorem jV {l:List Nat} {i:Nat} (h:i+1<l.length):l.drop i=l.getD i 0 :: l.getD (i+1) 0 :: l.drop (i+2):=by
 rw [List.drop_eq_getElem_cons zO,List.drop_eq_getElem_cons h,Hc,Hc,Ec h,Ec (show i<l.length by omega)]
 rfl
theorem iV {l:List Nat} {i:Nat} (h:i+1=l.length):l.drop i=[l.getD i 0]:=by
 rw [List.drop_eq_getElem_cons zO,Hc,Ec (show i<l.length by omega),List.drop_of_length_le zO]
 rfl
theorem zFK (p label:Nat) (A:Option vx) (n c:Nat) (l:List Nat) (w:vu) (hp:jc p=true) (hl:RWd w [ve A n c] l) (db:0<l.length) (hlen:l.length <= 1000000) :
  vA prog 271 #[vd vo p,vd vo label,ve A n c] w fun e w'=>e=vn (Wq p label l).val /\ vz w.1.size w w':=by
 obtain ⟨rfl,h1,h2,ya,Na⟩:=Pb hl;have gm:=ti h1 h2;have fJ:=zH (fun w=>UC p label 65536 w hp)
 have SI:=zH (fun w=>Rt p (label*65536%p) l.length w hp)
 have HA:=zH (fun a b w=>Rt p a b w hp)
 have HP:=zH (fun s w=>zFZ p s w hp)
 have HF:=zH (show Wq p label l=Po p (l.drop 0) ⟨0,0,(label*65536%p+l.length)%p⟩ from rfl)
 have ew:vo.wrap (l.length:Int)=l.length:=Wk _ zO;generalize Wq p label l=fin at *;generalize (label*65536%p+l.length)%p=c0 at *;generalize label*65536%p=m0 at *;unfold fv at *;clear hl h1 h2 hp;have d0:((l.length:Int) == 0)=false:=by rw [Ke];omega
 obtain ⟨kr,kf,da,Db⟩:=Xf w 298 224 #[vd vo 0,vd vo 0,vd vo 0] #[vd vo p];go_enter func271,ntmps271
 go_wp2_with fail
 generalize (w.alloc _).alloc _=w0 at kr kf da Db |-;have cf:=kf.cell;have lf:=kf.lt;refine tg (Rc) (Da) [9,10] [10] [0,1,2,3,4,5,6,7,8,9,10] zK zK ?_;refine ug (Da) ?_;intro Wc ja;refine Cd ?_;refine yd Da rfl rfl rfl rfl (fun w' hR=>fJ.out _) ?_
 refine zPU ?_;refine Cd ?_;refine yd Da rfl rfl rfl rfl (fun w' hR=>SI.out _) ?_
 refine zPU ?_;refine Cd ?_;refine Xj rfl rfl rfl rfl ?_;intro wh Tc;replace ja:=zM Da ja Tc;go_simp;refine ⟨fun _=>(Kb _ _).alloc zR _,?_⟩
 replace kr:=kr.drew.below ja kr.lt;replace kf:=kf.drew.below ja kf.lt;replace da:=ta da.drew ja;have nD:w.1.size+1<wh.1.size:=kf.lt;obtain ⟨ks,ma⟩:=zN wh 298 #[vd vo 0,vd vo 0,vd vo 0];replace kr:=pa kr ma;replace kf:=pa kf ma;replace da:=ta da ma;clear ja ma cf lf Db Tc
 refine zPU ?_
 generalize wh.alloc _=w2 at kr kf da ks |-;generalize wh.1.size=g at ks nD |-;have ja:=Da.refl w2;refine Xj rfl rfl rfl rfl ?_;intro wh Tc;replace ja:=zM Da ja Tc;replace kr:=pa kr ja;replace kf:=pa kf ja;replace ks:=pa ks ja;replace da:=ta da ja;have c2:=ks.cell;have f2:=ks.frozen;go_simp;refine ⟨fun h=>Bool.noConfusion h,?_⟩
 have hg:=Ep (w:=wh) (g:=g) (vd vo 0) (vd vo 0) (vd vo c0);have kz:=Dp ks (vd vo 0) (vd vo 0) (vd vo c0);replace kr:=kr.grown hg (fun e=>by have:=Nb e;omega)
 replace kf:=kf.grown hg (fun e=>by have:=Nb e;omega)
 replace da:=Ee da hg;clear c2 f2 ks hg ja Tc;generalize ((vE wh _ _).setCell _ _).setCell _ _=w4 at kz kr kf da |-;have ks:Blk w4 g 298 (St.mk 0 0 c0).cs:=kz;clear kz;refine Fk rfl ?_;go_wp2_with fail
 go_loopw [9] (fun y wr=>∃ (i:Nat) (q:St),i <= l.length+1 /\ y=vd vq i /\ Blk wr w.1.size 298 #[vd vo 0,vd vo 0,vd vo 0] /\ Blk wr (w.1.size+1) 224 #[vd vo p] /\ Blk wr g 298 q.cs /\ vz w.1.size w wr /\ Hid (Po p (l.drop i) q=fin)) (fun y _=>l.length-(intOf y).toNat)
 case atStart=>exact ⟨0,⟨0,0,c0⟩,zO,rfl,kr,kf,ks,da,HF.out.symm⟩
 case round =>
  clear kr kf ks da;obtain ⟨i,q,hi,rfl,kr,kf,ks,da,HI⟩:=hrel;obtain ⟨qa,qb,qc⟩:=q;have Ur:Blk wr g 298 #[vd vo qa,vd vo qb,vd vo qc]:=ks;replace ks:=Ur;clear Ur;by_cases Zn:i<l.length
  ·have hx:=CI ya Zn
   obtain ⟨bb,bq,eA,dc,cl⟩:=Hf (Na.below da) Zn;have tc:=zH ya;have oy:=zH Na;have Mq:=zH Zn;have g1:(0:Int)<=i:=by omega
   have g2:(i:Int)<l.length:=by omega
   by_cases Ff:i+1<l.length
   ·obtain ⟨bb2,bq2,Xm,Pk,Mn⟩:=Hf (Na.below da) Ff
    have HD:=zH (jV Ff);obtain ⟨i1,VH⟩:=zEX (i+1);have e1:(i:Int)+1=(i1:Int):=by omega
    have e2:vq.wrap ((i:Int)+1)=(i1:Int):=by rw [Bi];omega
    have e3:vq.wrap (i1:Int)=i1:=by rw [Bi];omega
    have g4:(0:Int)<=i1:=by omega
    have g3:(i1:Int)<l.length:=by omega
    have Yz:=zH (show i1<l.length by omega)
    have cO:=zH VH;rw [eA] at Xm;have PE:=Nb Xm
    injection PE with e5 e6
    subst e5 e6;subst eA;clear Xm Pk;have Bn:=zH (show Po p (l.getD i 0 :: l.getD (i+1) 0 :: l.drop (i+2)) ⟨qa,qb,qc⟩=fin by rw [<- HD.out];exact HI.out)
    clear HD ya Na Ff hx VH;obtain ⟨y,hy⟩:=zEX (l.getD (i+1) 0);generalize l.getD i 0=x at *;rw [<- hy] at Bn Mn;have HY:=zH hy.symm;clear hy;have af:=zH (fun w=>HA.out qa x w)
    have Jp:=zH (fun w=>HA.out qb y w)
    obtain ⟨na,ni⟩:=zEX ((qa+x)%p);obtain ⟨nb,Kr⟩:=zEX ((qb+y)%p);rw [<- ni] at af;rw [<- Kr] at Jp;obtain ⟨z,hz⟩:=zEX (Cu p ⟨na,nb,qc⟩);have HX:=zH (show ∀ w,vA prog 300 #[vd vo p,vf #[vd vo na,vd vo nb,vd vo qc]] w fun e w'=>e=vn (vf #[vd vo z.a,vd vo z.b,vd vo z.c]) /\ vz w.1.size w w' from fun w=>by rw [hz];exact HP.out ⟨na,nb,qc⟩ w)
    have HZ:=zH (show Po p (l.drop (i+2)) z=fin by rw [hz];rw [ni,Kr];exact Bn.out)
    clear hz;clear Bn ni Kr;have cs:=ks.cell;have ls:=ks.lt;have cf:=kf.cell;have lf:=kf.lt;have cl2H:=zH Mn;clear Mn;go_wp2_with fail
    refine tg (Rc) (Da) [9] [9] [0,1,2,3,4,5,6,7,8,9] zK zK ?_;refine ug (Da) ?_;intro Wc ja;refine Cd ?_;refine yd Da rfl rfl rfl rfl (fun w' hR=>af.out _) ?_
    refine zPU ?_;refine Cd ?_;refine Xj rfl rfl rfl rfl ?_;intro wh Tc;replace ja:=zM Da ja Tc;replace kr:=kr.drew.below ja kr.lt;replace ks:=ks.drew.below ja ks.lt;replace kf:=kf.drew.below ja kf.lt;replace da:=ta da.drew ja;clear cs cf lf ls ja Tc cl;have c2:=ks.cell;have f2:=ks.frozen;go_simp;refine ⟨fun h=>Bool.noConfusion h,?_⟩
    have hg:wh.grownBy (wh.setCell ⟨g,0,vB⟩ (vd vo na)) (vD g):=Li (p:=⟨g,0,vB⟩) (mg wh _) (.inl rfl) _;replace ks:=ks.set_ 0 (vd vo na);simp at ks
    replace kr:=kr.grown hg (fun e=>by have:=Nb e;omega)
    replace kf:=kf.grown hg (fun e=>by have:=Nb e;omega)
    replace da:=Ee da hg;clear hg c2 f2;generalize wh.setCell _ _=JA at ks kr da kf |-;refine Fk rfl ?_;have Mn:JA.cell? ⟨bb,bq+i1,vB⟩=vD (vd vo y):=by obtain ⟨b3,q3,e3,-,h3⟩:=Hf (oy.out.below da) Yz.out;have e4:=Nb e3;injection e4 with e5 e6;subst e5 e6;rw [h3,cO.out,HY.out]
    have Pk:bb<JA.1.size:=Bg _ _ Mn;have cs:=ks.cell;have ls:=ks.lt;have cf:=kf.cell;have lf:=kf.lt;go_wp2_with fail
    refine tg (Rc) (Da) [10] [10] [0,1,2,3,4,5,6,7,8,9,10] zK zK ?_;refine ug (Da) ?_;intro Wc ja;refine Cd ?_;refine yd Da rfl rfl rfl rfl (fun w' hR=>Jp.out _) ?_
    refine zPU ?_;refine Cd ?_;refine Xj rfl rfl rfl rfl ?_;intro wh Tc;replace ja:=zM Da ja Tc;replace kr:=kr.drew.below ja kr.lt;replace ks:=ks.drew.below ja ks.lt;replace kf:=kf.drew.below ja kf.lt;replace da:=ta da.drew ja;clear cs cf lf ls ja Tc Mn;have c2:=ks.cell;have f2:=ks.frozen;go_simp;refine ⟨fun h=>Bool.noConfusion h,?_⟩
    have hg:wh.grownBy (wh.setCell ⟨g,1,vB⟩ (vd vo nb)) (vD g):=Li (p:=⟨g,1,vB⟩) (mg wh _) (.inl rfl) _;replace ks:=ks.set_ 1 (vd vo nb);simp at ks
    replace kr:=kr.grown hg (fun e=>by have:=Nb e;omega)
    replace kf:=kf.grown hg (fun e=>by have:=Nb e;omega)
    replace da:=Ee da hg;clear hg c2 f2;generalize wh.setCell _ _=Wf1 at ks kr da kf |-;refine Fk rfl ?_;have cs:=ks.cell;go_wp2_with fail
    refine (HX.out _).mono ?_;rintro e w5 ⟨rfl,Bb⟩;replace kr:=pa kr Bb;replace ks:=pa ks Bb;replace kf:=pa kf Bb;replace da:=ta da Bb;clear cs Bb;have cs:=ks.cell;have fs:=ks.frozen;go_wp2_with fail
    have hg:=Ep (w:=w5) (g:=g) (vd vo z.a) (vd vo z.b) (vd vo z.c);have kz:=Dp ks (vd vo z.a) (vd vo z.b) (vd vo z.c);replace kr:=kr.grown hg (fun e=>by have:=Nb e;omega)
    replace kf:=kf.grown hg (fun e=>by have:=Nb e;omega)
    replace da:=Ee da hg;clear hg cs fs ks;generalize ((vE w5 _ _).setCell _ _).setCell _ _=Wz at kz kr da kf |-
    go_roundw
    case rel=>exact ⟨i+2,z,zO,by go_num,kr,kf,kz,da,HZ.out⟩
    case measure=>simp [intOf];omega
   ·have au:i+1=l.length:=by omega
    have HD:=zH (iV au);have g3:¬((i:Int)+1<(l.length:Int)):=by omega
    subst eA;have Bn:=zH (show Po p [l.getD i 0] ⟨qa,qb,qc⟩=fin by rw [<- HD.out];exact HI.out)
    have Ou:=zH (show l.drop (i+2)=[] from List.drop_of_length_le zO)
    clear HD ya Na hx;generalize l.getD i 0=x at *;have af:=zH (fun w=>HA.out qa x w)
    obtain ⟨na,ni⟩:=zEX ((qa+x)%p);rw [<- ni] at af;obtain ⟨z,hz⟩:=zEX (Cu p ⟨na,qb,qc⟩);have HX:=zH (show ∀ w,vA prog 300 #[vd vo p,vf #[vd vo na,vd vo qb,vd vo qc]] w fun e w'=>e=vn (vf #[vd vo z.a,vd vo z.b,vd vo z.c]) /\ vz w.1.size w w' from fun w=>by rw [hz];exact HP.out ⟨na,qb,qc⟩ w)
    have HZ:=zH (show Po p (l.drop (i+2)) z=fin by rw [hz];rw [Ou.out,ni];exact Bn.out)
    clear hz;clear Bn Ou Ff au ni;have cs:=ks.cell;have ls:=ks.lt;have cf:=kf.cell;have lf:=kf.lt;go_wp2_with fail
    refine tg (Rc) (Da) [9] [9] [0,1,2,3,4,5,6,7,8,9] zK zK ?_;refine ug (Da) ?_;intro Wc ja;refine Cd ?_;refine yd Da rfl rfl rfl rfl (fun w' hR=>af.out _) ?_
    refine zPU ?_;refine Cd ?_;refine Xj rfl rfl rfl rfl ?_;intro wh Tc;replace ja:=zM Da ja Tc;replace kr:=kr.drew.below ja kr.lt;replace ks:=ks.drew.below ja ks.lt;replace kf:=kf.drew.below ja kf.lt;replace da:=ta da.drew ja;clear cs cf lf ls ja Tc cl;have c2:=ks.cell;have f2:=ks.frozen;go_simp;refine ⟨fun h=>Bool.noConfusion h,?_⟩
    have hg:wh.grownBy (wh.setCell ⟨g,0,vB⟩ (vd vo na)) (vD g):=Li (p:=⟨g,0,vB⟩) (mg wh _) (.inl rfl) _;replace ks:=ks.set_ 0 (vd vo na);simp at ks
    replace kr:=kr.grown hg (fun e=>by have:=Nb e;omega)
    replace kf:=kf.grown hg (fun e=>by have:=Nb e;omega)
    replace da:=Ee da hg;clear hg c2 f2;generalize wh.setCell _ _=JA at ks kr da kf |-;refine Fk rfl ?_;have cs:=ks.cell;go_wp2_with fail
    refine (HX.out _).mono ?_;rintro e w5 ⟨rfl,Bb⟩;replace kr:=pa kr Bb;replace ks:=pa ks Bb;replace kf:=pa kf Bb;replace da:=ta da Bb;clear cs Bb;have cs:=ks.cell;have fs:=ks.frozen;go_wp2_with fail
    have hg:=Ep (w:=w5) (g:=g) (vd vo z.a) (vd vo z.b) (vd vo z.c);have kz:=Dp ks (vd vo z.a) (vd vo z.b) (vd vo z.c);replace kr:=kr.grown hg (fun e=>by have:=Nb e;omega)
    replace kf:=kf.grown hg (fun e=>by have:=Nb e;omega)
    replace da:=Ee da hg;clear hg cs fs ks;generalize ((vE w5 _ _).setCell _ _).setCell _ _=Wz at kz kr da kf |-
    go_roundw
    case rel=>exact ⟨i+2,z,zO,by go_num,kr,kf,kz,da,HZ.out⟩
    case measure=>simp [intOf];omega
  ·have HQ:=zH (show (⟨qa,qb,qc⟩:St)=fin by have:=HI.out;rw [List.drop_of_length_le zO] at this;exact this)
   have g2:¬((i:Int)<l.length):=by omega
   have cs:=ks.cell;have cr:=kr.cell;have fr:=kr.frozen;clear Na ya;go_wp2_with fail
   have hg:=Ep (w:=wr) (g:=w.1.size) (vd vo qa) (vd vo qb) (vd vo qc);have kz:=Dp kr (vd vo qa) (vd vo qb) (vd vo qc);clear cs cr fr kr ks;generalize ((vE wr _ _).setCell _ _).setCell _ _=Wz at hg kz |-;have cz:=kz.cell;exact Uc (v:=vf #[vd vo qa,vd vo qb,vd vo qc]) (by simp [results,results271,go_sem,cz]) rfl ⟨by rw [<- HQ.out];rfl,da.trans (om hg da.size zR)⟩
def cG (p:Nat) (s:St):Nat -> St
 | 0=>s
 | m+1=>Cu p (cG p s m)
def TB (p:Nat) (s:St) (k:Nat):Nat:=(cG p s (k / 2)).at_ (k%2)
theorem jY (f:Nat -> Nat) (n k:Nat):Ya n (sg (fun i=>if i<k then f i else 0) k (f k))=Ya n fun i=>if i<k+1 then f i else 0:=by
 refine iq fun i _=>?_
 simp only [sg];by_cases h:i=k
 ·subst h;rw [Lb rfl,Lb zO]
 ·rw [Gb h]
  by_cases h2:i<k
  ·rw [Lb h2,Lb zO]
  ·rw [Gb h2,Gb zO]
theorem L9 (p label:Nat) (A:Option vx) (n c:Nat) (l:List Nat) (w:vu) (hp:jc p=true) (hl:RWd w [ve A n c] l) (db:0<l.length) (hlen:l.length <= 1000000) :
  vA prog 208 #[vd vo p,vd vo label,ve A n c] w fun e w'=>e=vn (Wq p label l).val /\ vz w.1.size w w':=by
 obtain ⟨rfl,h1,h2,ya,Na⟩:=Pb hl;have gm:=ti h1 h2;have fJ:=zH (fun w=>Bz p label 65536 w hp)
 have SI:=zH (fun w=>ID p (label*65536%p) l.length w hp)
 have HA:=zH (fun a b w=>ID p a b w hp)
 have HP:=zH (fun s w=>zAa p s w hp)
 have HF:=zH (show Wq p label l=Po p (l.drop 0) ⟨0,0,(label*65536%p+l.length)%p⟩ from rfl)
 have ew:vo.wrap (l.length:Int)=l.length:=Wk _ zO;generalize Wq p label l=fin at *;generalize (label*65536%p+l.length)%p=c0 at *;generalize label*65536%p=m0 at *;clear hl h1 h2 hp;obtain ⟨kr,da⟩:=zN w 298 #[vd vo 0,vd vo 0,vd vo 0];go_enter func208,ntmps208
 go_wp2_with fail
 generalize w.alloc _=w0 at kr da |-;refine (fJ.out _).mono ?_;rintro e w1 ⟨rfl,Oa⟩;replace kr:=pa kr Oa;replace da:=ta da Oa;go_wp2_with fail
 refine (SI.out _).mono ?_;rintro e w2 ⟨rfl,Fa⟩;replace kr:=pa kr Fa;replace da:=ta da Fa;have nD:w.1.size<w2.1.size:=kr.lt;have ma:=zA w2 (.cells #[vd vo 0,vd vo 0,vd vo c0] 298);have ks:Blk _ w2.1.size 298 (St.mk 0 0 c0).cs:=Blk.new w2 298 #[vd vo 0,vd vo 0,vd vo c0];replace kr:=pa kr ma;replace da:=ta da ma;clear Oa Fa ma
 go_upto_block 0 with fail
 generalize w2.alloc _=w4 at kr ks da |-;generalize w2.1.size=g at ks nD |-;go_wp2_with fail
 go_loopw [8] (fun y wr=>∃ (i:Nat) (q:St),i <= l.length+1 /\ y=vd vq i /\ Blk wr w.1.size 298 #[vd vo 0,vd vo 0,vd vo 0] /\ Blk wr g 298 q.cs /\ vz w.1.size w wr /\ Hid (Po p (l.drop i) q=fin)) (fun y _=>l.length-(intOf y).toNat)
 case atStart=>exact ⟨0,⟨0,0,c0⟩,zO,rfl,kr,ks,da,HF.out.symm⟩
 case round =>
  clear kr ks da;obtain ⟨i,q,hi,rfl,kr,ks,da,HI⟩:=hrel;obtain ⟨qa,qb,qc⟩:=q;have Ur:Blk wr g 298 #[vd vo qa,vd vo qb,vd vo qc]:=ks;replace ks:=Ur;clear Ur;by_cases Zn:i<l.length
  ·have hx:=CI ya Zn
   obtain ⟨bb,bq,eA,dc,cl⟩:=Hf (Na.below da) Zn;have tc:=zH ya;have oy:=zH Na;have Mq:=zH Zn;have g1:(0:Int)<=i:=by omega
   have g2:(i:Int)<l.length:=by omega
   have hdi:((i:Int) == 0)=true \/ ((i:Int) == 0)=false:=by cases ((i:Int) == 0) <;> simp
   rcases hdi with di | di
   ·by_cases Ff:i+1<l.length
    ·obtain ⟨bb2,bq2,Xm,Pk,Mn⟩:=Hf (Na.below da) Ff
     have HD:=zH (jV Ff);obtain ⟨i1,VH⟩:=zEX (i+1);have e1:(i:Int)+1=(i1:Int):=by omega
     have e2:vq.wrap ((i:Int)+1)=(i1:Int):=by rw [Bi];omega
     have e3:vq.wrap (i1:Int)=i1:=by rw [Bi];omega
     have g4:(0:Int)<=i1:=by omega
     have g3:(i1:Int)<l.length:=by omega
     have Yz:=zH (show i1<l.length by omega)
     have cO:=zH VH;rw [eA] at Xm;have PE:=Nb Xm
     injection PE with e5 e6
     subst e5 e6;subst eA;clear Xm Pk;have Bn:=zH (show Po p (l.getD i 0 :: l.getD (i+1) 0 :: l.drop (i+2)) ⟨qa,qb,qc⟩=fin by rw [<- HD.out];exact HI.out)
     clear HD ya Na Ff hx VH;obtain ⟨y,hy⟩:=zEX (l.getD (i+1) 0);generalize l.getD i 0=x at *;rw [<- hy] at Bn Mn;have HY:=zH hy.symm;clear hy;have af:=zH (fun w=>HA.out qa x w)
     have Jp:=zH (fun w=>HA.out qb y w)
     obtain ⟨na,ni⟩:=zEX ((qa+x)%p);obtain ⟨nb,Kr⟩:=zEX ((qb+y)%p);rw [<- ni] at af;rw [<- Kr] at Jp;obtain ⟨z,hz⟩:=zEX (Cu p ⟨na,nb,qc⟩);have HX:=zH (show ∀ w,vA prog 209 #[vd vo p,vf #[vd vo na,vd vo nb,vd vo qc]] w fun e w'=>e=vn (vf #[vd vo z.a,vd vo z.b,vd vo z.c]) /\ vz w.1.size w w' from fun w=>by rw [hz];exact HP.out ⟨na,nb,qc⟩ w)
     have HZ:=zH (show Po p (l.drop (i+2)) z=fin by rw [hz];rw [ni,Kr];exact Bn.out)
     clear hz;clear Bn ni Kr;have cs:=ks.cell;have ls:=ks.lt;have cl2H:=zH Mn;clear Mn;go_wp2_with fail
     refine tg (Rc) (Da) [9] [9] [0,1,2,3,4,5,6,7,8,9] zK zK ?_;refine ug (Da) ?_;intro Wc ja;refine Cd ?_;refine yd Da rfl rfl rfl rfl (fun w' hR=>af.out _) ?_
     refine zPU ?_;refine Cd ?_;refine Xj rfl rfl rfl rfl ?_;intro wh Tc;replace ja:=zM Da ja Tc;replace kr:=kr.drew.below ja kr.lt;replace ks:=ks.drew.below ja ks.lt;replace da:=ta da.drew ja;clear cs ls ja Tc cl;have c2:=ks.cell;have f2:=ks.frozen;go_simp;refine ⟨fun h=>Bool.noConfusion h,?_⟩
     have hg:wh.grownBy (wh.setCell ⟨g,0,vB⟩ (vd vo na)) (vD g):=Li (p:=⟨g,0,vB⟩) (mg wh _) (.inl rfl) _;replace ks:=ks.set_ 0 (vd vo na);simp at ks
     replace kr:=kr.grown hg (fun e=>by have:=Nb e;omega)
     replace da:=Ee da hg;clear hg c2 f2;generalize wh.setCell _ _=JA at ks kr da |-;refine Fk rfl ?_;have Mn:JA.cell? ⟨bb,bq+i1,vB⟩=vD (vd vo y):=by obtain ⟨b3,q3,e3,-,h3⟩:=Hf (oy.out.below da) Yz.out;have e4:=Nb e3;injection e4 with e5 e6;subst e5 e6;rw [h3,cO.out,HY.out]
     have Pk:bb<JA.1.size:=Bg _ _ Mn;have cs:=ks.cell;have ls:=ks.lt;go_wp2_with fail
     refine tg (Rc) (Da) [10] [10] [0,1,2,3,4,5,6,7,8,9,10] zK zK ?_;refine ug (Da) ?_;intro Wc ja;refine Cd ?_;refine yd Da rfl rfl rfl rfl (fun w' hR=>Jp.out _) ?_
     refine zPU ?_;refine Cd ?_;refine Xj rfl rfl rfl rfl ?_;intro wh Tc;replace ja:=zM Da ja Tc;replace kr:=kr.drew.below ja kr.lt;replace ks:=ks.drew.below ja ks.lt;replace da:=ta da.drew ja;clear cs ls ja Tc Mn;have c2:=ks.cell;have f2:=ks.frozen;go_simp;refine ⟨fun h=>Bool.noConfusion h,?_⟩
     have hg:wh.grownBy (wh.setCell ⟨g,1,vB⟩ (vd vo nb)) (vD g):=Li (p:=⟨g,1,vB⟩) (mg wh _) (.inl rfl) _;replace ks:=ks.set_ 1 (vd vo nb);simp at ks
     replace kr:=kr.grown hg (fun e=>by have:=Nb e;omega)
     replace da:=Ee da hg;clear hg c2 f2;generalize wh.setCell _ _=Wf1 at ks kr da |-;refine Fk rfl ?_;have cs:=ks.cell;go_wp2_with fail
     refine (HX.out _).mono ?_;rintro e w5 ⟨rfl,Bb⟩;replace kr:=pa kr Bb;replace ks:=pa ks Bb;replace da:=ta da Bb;clear cs Bb;have cs:=ks.cell;have fs:=ks.frozen;go_wp2_with fail
     have hg:=Ep (w:=w5) (g:=g) (vd vo z.a) (vd vo z.b) (vd vo z.c);have kz:=Dp ks (vd vo z.a) (vd vo z.b) (vd vo z.c);replace kr:=kr.grown hg (fun e=>by have:=Nb e;omega)
     replace da:=Ee da hg;clear hg cs fs ks;generalize ((vE w5 _ _).setCell _ _).setCell _ _=Wz at kz kr da |-
     go_roundw
     case rel=>exact ⟨i+2,z,zO,by go_num,kr,kz,da,HZ.out⟩
     case measure=>simp [intOf];omega
    ·have au:i+1=l.length:=by omega
     have HD:=zH (iV au);have g3:¬((i:Int)+1<(l.length:Int)):=by omega
     subst eA;have Bn:=zH (show Po p [l.getD i 0] ⟨qa,qb,qc⟩=fin by rw [<- HD.out];exact HI.out)
     have Ou:=zH (show l.drop (i+2)=[] from List.drop_of_length_le zO)
     clear HD ya Na hx;generalize l.getD i 0=x at *;have af:=zH (fun w=>HA.out qa x w)
     obtain ⟨na,ni⟩:=zEX ((qa+x)%p);rw [<- ni] at af;obtain ⟨z,hz⟩:=zEX (Cu p ⟨na,qb,qc⟩);have HX:=zH (show ∀ w,vA prog 209 #[vd vo p,vf #[vd vo na,vd vo qb,vd vo qc]] w fun e w'=>e=vn (vf #[vd vo z.a,vd vo z.b,vd vo z.c]) /\ vz w.1.size w w' from fun w=>by rw [hz];exact HP.out ⟨na,qb,qc⟩ w)
     have HZ:=zH (show Po p (l.drop (i+2)) z=fin by rw [hz];rw [Ou.out,ni];exact Bn.out)
     clear hz;clear Bn Ou Ff au ni;have cs:=ks.cell;have ls:=ks.lt;go_wp2_with fail
     refine tg (Rc) (Da) [9] [9] [0,1,2,3,4,5,6,7,8,9] zK zK ?_;refine ug (Da) ?_;intro Wc ja;refine Cd ?_;refine yd Da rfl rfl rfl rfl (fun w' hR=>af.out _) ?_
     refine zPU ?_;refine Cd ?_;refine Xj rfl rfl rfl rfl ?_;intro wh Tc;replace ja:=zM Da ja Tc;replace kr:=kr.drew.below ja kr.lt;replace ks:=ks.drew.below ja ks.lt;replace da:=ta da.drew ja;clear cs ls ja Tc cl;have c2:=ks.cell;have f2:=ks.frozen;go_simp;refine ⟨fun h=>Bool.noConfusion h,?_⟩
     have hg:wh.grownBy (wh.setCell ⟨g,0,vB⟩ (vd vo na)) (vD g):=Li (p:=⟨g,0,vB⟩) (mg wh _) (.inl rfl) _;replace ks:=ks.set_ 0 (vd vo na);simp at ks
     replace kr:=kr.grown hg (fun e=>by have:=Nb e;omega)
     replace da:=Ee da hg;clear hg c2 f2;generalize wh.setCell _ _=JA at ks kr da |-;refine Fk rfl ?_;have cs:=ks.cell;go_wp2_with fail
     refine (HX.out _).mono ?_;rintro e w5 ⟨rfl,Bb⟩;replace kr:=pa kr Bb;replace ks:=pa ks Bb;replace da:=ta da Bb;clear cs Bb;have cs:=ks.cell;have fs:=ks.frozen;go_wp2_with fail
     have hg:=Ep (w:=w5) (g:=g) (vd vo z.a) (vd vo z.b) (vd vo z.c);have kz:=Dp ks (vd vo z.a) (vd vo z.b) (vd vo z.c);replace kr:=kr.grown hg (fun e=>by have:=Nb e;omega)
     replace da:=Ee da hg;clear hg cs fs ks;generalize ((vE w5 _ _).setCell _ _).setCell _ _=Wz at kz kr da |-
     go_roundw
     case rel=>exact ⟨i+2,z,zO,by go_num,kr,kz,da,HZ.out⟩
     case measure=>simp [intOf];omega
   ·by_cases Ff:i+1<l.length
    ·obtain ⟨bb2,bq2,Xm,Pk,Mn⟩:=Hf (Na.below da) Ff
     have HD:=zH (jV Ff);obtain ⟨i1,VH⟩:=zEX (i+1);have e1:(i:Int)+1=(i1:Int):=by omega
     have e2:vq.wrap ((i:Int)+1)=(i1:Int):=by rw [Bi];omega
     have e3:vq.wrap (i1:Int)=i1:=by rw [Bi];omega
     have g4:(0:Int)<=i1:=by omega
     have g3:(i1:Int)<l.length:=by omega
     have Yz:=zH (show i1<l.length by omega)
     have cO:=zH VH;rw [eA] at Xm;have PE:=Nb Xm
     injection PE with e5 e6
     subst e5 e6;subst eA;clear Xm Pk;have Bn:=zH (show Po p (l.getD i 0 :: l.getD (i+1) 0 :: l.drop (i+2)) ⟨qa,qb,qc⟩=fin by rw [<- HD.out];exact HI.out)
     clear HD ya Na Ff hx VH;obtain ⟨y,hy⟩:=zEX (l.getD (i+1) 0);generalize l.getD i 0=x at *;rw [<- hy] at Bn Mn;have HY:=zH hy.symm;clear hy;have af:=zH (fun w=>HA.out qa x w)
     have Jp:=zH (fun w=>HA.out qb y w)
     obtain ⟨na,ni⟩:=zEX ((qa+x)%p);obtain ⟨nb,Kr⟩:=zEX ((qb+y)%p);rw [<- ni] at af;rw [<- Kr] at Jp;obtain ⟨z,hz⟩:=zEX (Cu p ⟨na,nb,qc⟩);have HX:=zH (show ∀ w,vA prog 209 #[vd vo p,vf #[vd vo na,vd vo nb,vd vo qc]] w fun e w'=>e=vn (vf #[vd vo z.a,vd vo z.b,vd vo z.c]) /\ vz w.1.size w w' from fun w=>by rw [hz];exact HP.out ⟨na,nb,qc⟩ w)
     have HZ:=zH (show Po p (l.drop (i+2)) z=fin by rw [hz];rw [ni,Kr];exact Bn.out)
     clear hz;clear Bn ni Kr;have cs:=ks.cell;have ls:=ks.lt;have cl2H:=zH Mn;clear Mn;go_wp2_with fail
     refine tg (Rc) (Da) [9] [9] [0,1,2,3,4,5,6,7,8,9] zK zK ?_;refine ug (Da) ?_;intro Wc ja;refine Cd ?_;refine yd Da rfl rfl rfl rfl (fun w' hR=>af.out _) ?_
     refine zPU ?_;refine Cd ?_;refine Xj rfl rfl rfl rfl ?_;intro wh Tc;replace ja:=zM Da ja Tc;replace kr:=kr.drew.below ja kr.lt;replace ks:=ks.drew.below ja ks.lt;replace da:=ta da.drew ja;clear cs ls ja Tc cl;have c2:=ks.cell;have f2:=ks.frozen;go_simp;refine ⟨fun h=>Bool.noConfusion h,?_⟩
     have hg:wh.grownBy (wh.setCell ⟨g,0,vB⟩ (vd vo na)) (vD g):=Li (p:=⟨g,0,vB⟩) (mg wh _) (.inl rfl) _;replace ks:=ks.set_ 0 (vd vo na);simp at ks
     replace kr:=kr.grown hg (fun e=>by have:=Nb e;omega)
     replace da:=Ee da hg;clear hg c2 f2;generalize wh.setCell _ _=JA at ks kr da |-;refine Fk rfl ?_;have Mn:JA.cell? ⟨bb,bq+i1,vB⟩=vD (vd vo y):=by obtain ⟨b3,q3,e3,-,h3⟩:=Hf (oy.out.below da) Yz.out;have e4:=Nb e3;injection e4 with e5 e6;subst e5 e6;rw [h3,cO.out,HY.out]
     have Pk:bb<JA.1.size:=Bg _ _ Mn;have cs:=ks.cell;have ls:=ks.lt;go_wp2_with fail
     refine tg (Rc) (Da) [10] [10] [0,1,2,3,4,5,6,7,8,9,10] zK zK ?_;refine ug (Da) ?_;intro Wc ja;refine Cd ?_;refine yd Da rfl rfl rfl rfl (fun w' hR=>Jp.out _) ?_
     refine zPU ?_;refine Cd ?_;refine Xj rfl rfl rfl rfl ?_;intro wh Tc;replace ja:=zM Da ja Tc;replace kr:=kr.drew.below ja kr.lt;replace ks:=ks.drew.below ja ks.lt;replace da:=ta da.drew ja;clear cs ls ja Tc Mn;have c2:=ks.cell;have f2:=ks.frozen;go_simp;refine ⟨fun h=>Bool.noConfusion h,?_⟩
     have hg:wh.grownBy (wh.setCell ⟨g,1,vB⟩ (vd vo nb)) (vD g):=Li (p:=⟨g,1,vB⟩) (mg wh _) (.inl rfl) _;replace ks:=ks.set_ 1 (vd vo nb);simp at ks
     replace kr:=kr.grown hg (fun e=>by have:=Nb e;omega)
     replace da:=Ee da hg;clear hg c2 f2;generalize wh.setCell _ _=Wf1 at ks kr da |-;refine Fk rfl ?_;have cs:=ks.cell;go_wp2_with fail
     refine (HX.out _).mono ?_;rintro e w5 ⟨rfl,Bb⟩;replace kr:=pa kr Bb;replace ks:=pa ks Bb;replace da:=ta da Bb;clear cs Bb;have cs:=ks.cell;have fs:=ks.frozen;go_wp2_with fail
     have hg:=Ep (w:=w5) (g:=g) (vd vo z.a) (vd vo z.b) (vd vo z.c);have kz:=Dp ks (vd vo z.a) (vd vo z.b) (vd vo z.c);replace kr:=kr.grown hg (fun e=>by have:=Nb e;omega)
     replace da:=Ee da hg;clear hg cs fs ks;generalize ((vE w5 _ _).setCell _ _).setCell _ _=Wz at kz kr da |-
     go_roundw
     case rel=>exact ⟨i+2,z,zO,by go_num,kr,kz,da,HZ.out⟩
     case measure=>simp [intOf];omega
    ·have au:i+1=l.length:=by omega
     have HD:=zH (iV au);have g3:¬((i:Int)+1<(l.length:Int)):=by omega
     subst eA;have Bn:=zH (show Po p [l.getD i 0] ⟨qa,qb,qc⟩=fin by rw [<- HD.out];exact HI.out)
     have Ou:=zH (show l.drop (i+2)=[] from List.drop_of_length_le zO)
     clear HD ya Na hx;generalize l.getD i 0=x at *;have af:=zH (fun w=>HA.out qa x w)
     obtain ⟨na,ni⟩:=zEX ((qa+x)%p);rw [<- ni] at af;obtain ⟨z,hz⟩:=zEX (Cu p ⟨na,qb,qc⟩);have HX:=zH (show ∀ w,vA prog 209 #[vd vo p,vf #[vd vo na,vd vo qb,vd vo qc]] w fun e w'=>e=vn (vf #[vd vo z.a,vd vo z.b,vd vo z.c]) /\ vz w.1.size w w' from fun w=>by rw [hz];exact HP.out ⟨na,qb,qc⟩ w)
     have HZ:=zH (show Po p (l.drop (i+2)) z=fin by rw [hz];rw [Ou.out,ni];exact Bn.out)
     clear hz;clear Bn Ou Ff au ni;have cs:=ks.cell;have ls:=ks.lt;go_wp2_with fail
     refine tg (Rc) (Da) [9] [9] [0,1,2,3,4,5,6,7,8,9] zK zK ?_;refine ug (Da) ?_;intro Wc ja;refine Cd ?_;refine yd Da rfl rfl rfl rfl (fun w' hR=>af.out _) ?_
     refine zPU ?_;refine Cd ?_;refine Xj rfl rfl rfl rfl ?_;intro wh Tc;replace ja:=zM Da ja Tc;replace kr:=kr.drew.below ja kr.lt;replace ks:=ks.drew.below ja ks.lt;replace da:=ta da.drew ja;clear cs ls ja Tc cl;have c2:=ks.cell;have f2:=ks.frozen;go_simp;refine ⟨fun h=>Bool.noConfusion h,?_⟩
     have hg:wh.grownBy (wh.setCell ⟨g,0,vB⟩ (vd vo na)) (vD g):=Li (p:=⟨g,0,vB⟩) (mg wh _) (.inl rfl) _;replace ks:=ks.set_ 0 (vd vo na);simp at ks
     replace kr:=kr.grown hg (fun e=>by have:=Nb e;omega)
     replace da:=Ee da hg;clear hg c2 f2;generalize wh.setCell _ _=JA at ks kr da |-;refine Fk rfl ?_;have cs:=ks.cell;go_wp2_with fail
     refine (HX.out _).mono ?_;rintro e w5 ⟨rfl,Bb⟩;replace kr:=pa kr Bb;replace ks:=pa ks Bb;replace da:=ta da Bb;clear cs Bb;have cs:=ks.cell;have fs:=ks.frozen;go_wp2_with fail
     have hg:=Ep (w:=w5) (g:=g) (vd vo z.a) (vd vo z.b) (vd vo z.c);have kz:=Dp ks (vd vo z.a) (vd vo z.b) (vd vo z.c);replace kr:=kr.grown hg (fun e=>by have:=Nb e;omega)
     replace da:=Ee da hg;clear hg cs fs ks;generalize ((vE w5 _ _).setCell _ _).setCell _ _=Wz at kz kr da |-
     go_roundw
     case rel=>exact ⟨i+2,z,zO,by go_num,kr,kz,da,HZ.out⟩
     case measure=>simp [intOf];omega
  ·have HQ:=zH (show (⟨qa,qb,qc⟩:St)=fin by have:=HI.out;rw [List.drop_of_length_le zO] at this;exact this)
   have g2:¬((i:Int)<l.length):=by omega
   have gi:((i:Int) == 0)=false:=by rw [Ke];omega
   have cs:=ks.cell;have cr:=kr.cell;have fr:=kr.frozen;clear Na ya;go_wp2_with fail
   have hg:=Ep (w:=wr) (g:=w.1.size) (vd vo qa) (vd vo qb) (vd vo qc);have kz:=Dp kr (vd vo qa) (vd vo qb) (vd vo qc);clear cs cr fr kr ks;generalize ((vE wr _ _).setCell _ _).setCell _ _=Wz at hg kz |-;have cz:=kz.cell;exact Uc (v:=vf #[vd vo qa,vd vo qb,vd vo qc]) (by simp [results,results208,go_sem,cz]) rfl ⟨by rw [<- HQ.out];rfl,da.trans (om hg da.size zR)⟩
theorem ui {w w':vu} {base B:Nat} {e:vy} {size:Nat} {v:vw} {n:Nat} {xs:List vw} (h:w.ownsRow base e size v n xs) (hg:w.grownBy w' (vD B)) (hB:B<base):w'.ownsRow base e size v n xs:=by
 obtain ⟨h1,h2⟩:=h;refine ⟨h1,?_⟩;rcases h2 with h2 | ⟨g,cap,cur,hv,Cm,hh,r⟩
 ·exact Or.inl h2
 ·exact Or.inr ⟨g,cap,cur,hv,Cm,by rw [hg.block g (Yx.1 hh).1 (fun e=>by have:=Nb e;omega)];exact hh,r⟩
theorem OB (f:Nat -> Nat) (i:Nat):(List.range i).map f++[f i]=(List.range (i+1)).map f:=by simp [List.range_succ]
theorem zHg (p label:Nat) (A:Option vx) (n c m:Nat) (l:List Nat) (w:vu) (hp:jc p=true) (hl:RWd w [ve A n c] l) (db:0<l.length) (hlen:l.length <= 1000000) (hm:m <= 65536) :
  vA prog 114 #[vd vo p,vd vo label,ve A n c,vd vq m] w fun e w'=>∃ v,e=vn v /\ w'.ownsRow w.1.size 22 1 v m (Qa ((List.range m).map (TB p (Wq p label l)))) /\ vz w.1.size w w':=by
 obtain ⟨Sd,Vb⟩:=Cc hp;have HV:=zH (fun w=>by have:=Fq p w Vb;rw [hp] at this;exact this)
 have Kq:=zH (fun w' (hb:vz w.1.size w w')=>L9 p label A n c l w' hp (Wa hb hl) db hlen)
 have HP:=zH (fun s w=>zAa p s w hp)
 have g0:¬((m:Int)<0):=by omega
 have g1:(m:Int) <= 65536:=by omega
 clear hl db hlen hp Sd Vb;generalize Wq p label l=s at *;go_enter func114,ntmps114
 go_wp2_with fail
 refine (HV.out _).mono ?_;rintro e w1 ⟨rfl,Oa⟩;go_wp2_with fail
 refine (Kq.out _ Oa).mono ?_;rintro e w2 ⟨rfl,Fa⟩;have da:=ta Oa Fa;have ev:s.val=vf #[vd vo s.a,vd vo s.b,vd vo s.c]:=rfl;rw [ev];obtain ⟨ks0,ma⟩:=zN w2 298 #[vd vo s.a,vd vo s.b,vd vo s.c];have Fg:=da.size;replace da:=ta da ma;clear ev Oa Fa ma;go_upto_region 4 with fail
 generalize w2.alloc _=w3 at ks0 da |-;generalize w2.1.size=gs at *;have ks:Blk w3 gs 298 (cG p s (0 / 2)).cs:=ks0;clear ks0;have UH:gs<w3.1.size:=ks.lt;go_wp2_with fail
 go_loopw [10,11] (fun v y wr=>∃ i:Nat,i <= m /\ y=vd vq i /\ Blk wr gs 298 (cG p s (i / 2)).cs /\ wr.ownsRow w3.1.size 22 1 v i (Qa ((List.range i).map (TB p s))) /\ vz w.1.size w wr /\ w3.1.size <= wr.1.size) (fun _ y _=>m-(intOf y).toNat)
 case atStart=>exact ⟨0,Qb _,rfl,ks,⟨rfl, .inl ⟨rfl,rfl⟩⟩,da,zR⟩
 case round =>
  clear ks da;obtain ⟨i,hi,rfl,ks,oa,da,Db⟩:=hrel;by_cases ya:i<m
  ·have g2:(i:Int)<m:=by omega
   have g3:(0:Int)<=i:=by omega
   obtain ⟨sv,mD⟩:=zEX (TB p s i);obtain ⟨j,hj⟩:=zEX (i%2);have xk:j<3:=by omega
   have ej:(i:Int)%2=(j:Int):=by omega
   have ej2:(i:Int).tmod 2=(j:Int):=by rw [Int.tmod_eq_emod_of_nonneg zO];exact ej
   have HSQ:=zH (show (cG p s (i / 2)).at_ j=sv by rw [hj,mD];rfl)
   have Pq:=zH (show (List.range i).map (TB p s)++[sv]=(List.range (i+1)).map (TB p s) by rw [mD];exact OB _ _)
   have cj:=ks.cell j;rw [St.cs_at _ xk,HSQ.out] at cj;obtain ⟨q,hq⟩:=zEX (cG p s (i / 2));rw [<- hq] at ks;have HQ:=zH hq.symm;have HJ:=zH hj;clear mD hq hj;go_wp2_with (at_builtin;refine Wd rfl _ _ rfl jg rfl (oa.alloc _) rfl (gg _ _ _) (De [sv]) zO zT ?_)
   intro v' wn Ua Ma Cb;have ma:=zA wr (.cells #[vd vo sv] 22);have hB:=ie (oa.alloc _) Ma zT;have hks:=(pa ks ma).below hB UH;replace da:=(Nk da ma da.size).trans (hB.mono (zQ da.size));have hszn:w3.1.size <= wn.1.size:=by have:=Ma.size;simp at this;omega
   replace Ua:wn.ownsRow w3.1.size 22 1 v' (i+1) (Qa ((List.range (i+1)).map (TB p s))):=Qi (a:=(List.range i).map (TB p s)) (b:=[sv]) Ua Pq.out;clear oa Ma Cb ma hB ks cj Db;rcases (show j=0 \/ j=1 by have:=HJ.out;omega) with h0 | h1
   ·have d3:((j:Int) == 1)=false:=by rw [Ke];omega
    have HH:=zH (show i / 2=(i+1) / 2 by have:=HJ.out;omega)
    rw [<- HQ.out,HH.out] at hks;clear h0;go_wp2
    go_roundw
    case rel=>exact ⟨i+1,zO,by go_num,hks,Ua,da,hszn⟩
    case measure=>simp [intOf];omega
   ·have d3:((j:Int) == 1)=true:=by rw [Qo];omega
    have HH:=zH (show (i+1) / 2=i / 2+1 by have:=HJ.out;omega)
    obtain ⟨z,hz⟩:=zEX (Cu p q);have HZ:=zH (show cG p s ((i+1) / 2)=z by rw [HH.out,cG,HQ.out,hz])
    have HX:=zH (show ∀ w,vA prog 209 #[vd vo p,vf #[vd vo q.a,vd vo q.b,vd vo q.c]] w fun e w'=>e=vn (vf #[vd vo z.a,vd vo z.b,vd vo z.c]) /\ vz w.1.size w w' from fun w=>by rw [hz];exact HP.out q w)
    have Ur:Blk wn gs 298 #[vd vo q.a,vd vo q.b,vd vo q.c]:=hks;clear h1 hz hks;have cs:=Ur.cell;go_wp2_with fail
    refine (HX.out _).mono ?_;rintro e w5 ⟨rfl,Bb⟩;replace Ur:=pa Ur Bb;replace Ua:=Za Ua Bb zR;replace da:=ta da Bb;have Ix:=Bb.size;clear cs Bb;have cs:=Ur.cell;have fs:=Ur.frozen;go_wp2_with fail
    have hg:=Ep (w:=w5) (g:=gs) (vd vo z.a) (vd vo z.b) (vd vo z.c);have ks:Blk _ gs 298 z.cs:=Dp Ur (vd vo z.a) (vd vo z.b) (vd vo z.c);replace Ua:=ui Ua hg UH;replace da:=Ee da hg;have hs6:=hg.size;clear hg cs fs Ur
    go_roundw
    case rel=>exact ⟨i+1,zO,by go_num,by rw [HZ.out];exact ks,Ua,da,zO⟩
    case measure=>simp [intOf];omega
  ·obtain rfl:i=m:=by omega
   go_wp2;go_ret
   exact ⟨_,rfl,Hg oa zO,da⟩
def nc:Nat:=18446744069414584321
theorem eQ:jc nc=true:=by decide
def drawAt (x:Nat) (r:List Nat) (k:Nat):Nat:=TB nc (Wq nc 22 (x%nc :: r)) k
def drawP (p x:Nat) (r:List Nat) (k:Nat):Nat:=drawAt x r k%p
def St.lt (p:Nat) (s:St):Prop:=s.a<p /\ s.b<p /\ s.c<p
theorem xX {p:Nat} (hp:0<p) (s:St):(Cu p s).lt p:=⟨Sc _ hp,Sc _ hp,Sc _ hp⟩
theorem PU {p:Nat} (hp:0<p):∀ (l:List Nat) (s:St),s.lt p -> (Po p l s).lt p
 | [],_,h=>h
 | [_],_,_=>xX hp _
 | _ :: _ :: r,_,_=>PU hp r _ (xX hp _)
theorem zGf {p:Nat} (hp:0<p) (s:St) (h:s.lt p):∀ m,(cG p s m).lt p
 | 0=>h
 | _+1=>xX hp _
theorem zH0 (p label:Nat) (l:List Nat) (k:Nat) (hp:0<p):TB p (Wq p label l) k<p:=by
 have h:=zGf hp _ (PU hp l ⟨0,0,(label*65536%p+l.length)%p⟩ ⟨hp,hp,Sc _ hp⟩) (k / 2);show St.at_ _ (k%2)<p
 unfold St.at_;split
 ·exact h.1
 ·split
  ·exact h.2.1
  ·exact h.2.2
theorem zCn (L:Tb) (w:vu) (hL:Ad L) :
  vA prog 118 #[vf (Ub L)] w fun e w'=>e=vn (vf #[vd vq L.k,vd vq ((L.k+L.block-2:Nat):Int),vd vq ((L.block+2*L.queries-1:Nat):Int)]) /\ vz w.1.size w w':=by
 have h1:=hL.b1;have h2:=hL.b2;have h3:=hL.q1;have h4:=hL.q2;have h5:=hL.k;obtain ⟨x,hx⟩:=zEX (L.k+L.block-2);obtain ⟨y,hy⟩:=zEX (L.block+2*L.queries-1);rw [<- hx,<- hy];have e1:vq.wrap ((L.k:Int)+L.block)=(L.k:Int)+L.block:=uo _ zO zO;have e2:vq.wrap ((L.k:Int)+L.block-2)=(x:Int):=by rw [uo _ zO zO];omega
 have e3:vq.wrap (2*(L.queries:Int))=2*(L.queries:Int):=uo _ zO zO;have e4:vq.wrap ((L.block:Int)+2*(L.queries:Int))=(L.block:Int)+2*(L.queries:Int):=uo _ zO zO;have e5:vq.wrap ((L.block:Int)+2*(L.queries:Int)-1)=(y:Int):=by rw [uo _ zO zO];omega
 clear h1 h2 h3 h4 h5 hx hy hL;unfold Ub at *;go_enter func118,ntmps118
 go_wp2_with fail
 exact Uc (v:=vf #[vd vq L.k,vd vq x,vd vq y]) (by simp [results,results118,go_sem]) rfl ⟨rfl,((Kb _ w).alloc zR _).alloc zS _⟩
theorem zHx (p:Nat) (A:Option vx) (n c m:Nat) (l:List Nat) (w:vu) (hp:0<p) (Vb:p<18446744073709551616) (hl:RWd w [ve A n c] l) (db:0<l.length) (hlen:l.length <= 1000000) (hm:m <= 65536) :
  vA prog 53 #[vd vo p,vd vq m,ve A n c] w fun e w'=>∃ v,e=vn v /\ w'.ownsRow w.1.size 22 1 v m (Qa ((List.range m).map fun k=>TB nc (Wq nc 22 l) k%p)) /\ vz w.1.size w w':=by
 have HS:=zH (zHg nc 22 A n c m l w eQ hl db hlen hm);have HB:=zH (fun k=>Je (zH0 nc 22 l k zD) (show nc<18446744073709551616 by decide))
 clear hl db hlen;generalize TB nc (Wq nc 22 l)=fs at *;unfold nc at HS;go_enter func53,ntmps53
 go_wp2_with fail
 refine HS.out.mono ?_;rintro e w1 ⟨v,rfl,hv,da⟩;obtain ⟨A1,c1,rfl,kd,ef,Na,-⟩:=Yb hv;have jD:RWd w1 [ve A1 m c1] ((List.range m).map fs):=Sf hv (fun x hx=>by
  obtain ⟨k,_,rfl⟩:=ee.1 hx;exact HB.out k)
 clear hv Na;go_wp2_with fail
 go_loopw [8,9] (fun v y wr=>∃ i:Nat,i <= m /\ y=vd vq i /\ wr.ownsRow w1.1.size 22 1 v i (Qa ((List.range i).map fun k=>fs k%p)) /\ vz w1.1.size w1 wr) (fun _ y _=>m-(intOf y).toNat)
 case atStart=>exact ⟨0,Qb _,rfl,Zr _ _ zR,(Kb _ _).alloc zR _⟩
 case round =>
  obtain ⟨i,hi,rfl,oa,Oa⟩:=hrel;by_cases ya:i<m
  ·have g2:(i:Int)<m:=by omega
   have g3:(0:Int)<=i:=by omega
   obtain ⟨-,-,-,-,Na⟩:=Pb (Wa Oa jD);have hlen:((List.range m).map fs).length=m:=by simp
   have Na:Rd wr 1 A1 ((List.range m).map fs).length (Qa ((List.range m).map fs)):=by rw [hlen];exact Na
   obtain ⟨b,q,rfl,dc,hc⟩:=Hf Na (j:=i) (by rw [hlen];exact ya)
   have Iv:((List.range m).map fs).getD i 0=fs i:=by simp [ya]
   rw [Iv] at hc;obtain ⟨fi,Wn⟩:=zEX (fs i);obtain ⟨z,hz⟩:=zEX (fi%p);have Pq:=zH (show ((List.range i).map fun k=>fs k%p)++[z]=(List.range (i+1)).map fun k=>fs k%p by rw [hz,Wn];exact OB (fun k=>fs k%p) _)
   rw [<- Wn] at hc;have jI:(p:Int)≠0:=by omega
   have Sd:((p:Int) == 0)=false:=by rw [Ke];omega
   have e1:(fi:Int)%(p:Int)=z:=by rw [hz];exact (Int.natCast_emod _ _).symm
   have e2:(fi:Int).tmod (p:Int)=z:=by rw [Int.tmod_eq_emod_of_nonneg zO];exact e1
   clear Wn hz Iv hlen Na;have Gd:=Oa.size;go_wp2_with (at_builtin;refine Wd rfl _ _ rfl jg rfl (oa.alloc _) rfl (gg _ _ _) (De [z]) zO zT ?_)
   intro v' wn Ua Ma Cb;have ma:=zA wr (.cells #[vd vo z] 22);have hB:=ie (oa.alloc _) Ma (by simp;have:=Oa.size;omega)
   replace Oa:=(Nk Oa ma Oa.size).trans hB;replace Ua:wn.ownsRow w1.1.size 22 1 v' (i+1) (Qa ((List.range (i+1)).map fun k=>fs k%p)):=Qi (a:=(List.range i).map fun k=>fs k%p) (b:=[z]) Ua Pq.out
   clear oa Ma Cb ma hB hc dc Gd;go_wp2
   go_roundw
   case rel=>exact ⟨i+1,zO,by go_num,Ua,Oa⟩
   case measure=>simp [intOf];omega
  ·obtain rfl:i=m:=by omega
   go_wp2;go_ret
   exact ⟨_,rfl,Hg oa da.size,ta da Oa⟩
structure Qn where
 lab:Nat
 el:List Nat
 ans:Nat
structure Jb where
 ideal:Bool
 st:Nat
 dr:Nat
 qs:List Qn
def fe (l:List Nat):Bool:=l.all fun x=>decide (x<nc)
def Dk (lab:Nat) (l:List Nat):Nat:=(Wq nc lab l).a
theorem CQ (lab:Nat) (l:List Nat):Dk lab l<nc:=(PU (p:=nc) zD l ⟨0,0,(lab*65536%nc+l.length)%nc⟩ ⟨show 0<nc by decide,show 0<nc by decide,Sc _ zD⟩).1
def Ky (s:Nat):Nat:=(s+11400714819323198485)%18446744073709551616
def SM (z:Nat):Nat:=(z ^^^ (z >>> 30))*13787848793156543929%18446744073709551616
def TM (z:Nat):Nat:=(z ^^^ (z >>> 27))*10723151780598845931%18446744073709551616
def UM (z:Nat):Nat:=(z ^^^ (z >>> 31))%nc
def dMix (z:Nat):Nat:=UM (TM (SM z))
def Wj (lab:Nat) (el:List Nat) (q:Qn):Bool:=q.lab == lab&&q.el == el
def Pf (qs:List Qn) (lab:Nat) (el:List Nat):Option Nat:=(qs.find? (Wj lab el)).map (·.ans)
def Mk (O:Jb) (lab:Nat) (el:List Nat) (a:Nat):Jb:=⟨O.ideal,O.st,O.dr,O.qs++[⟨lab,el,a⟩]⟩
def Ro (O:Jb):Jb:=⟨O.ideal,Ky O.st,O.dr+1,O.qs⟩
def Pn (O:Jb):Nat:=dMix (Ky O.st)
def GN (O:Jb) (lab:Nat) (el:List Nat):Option Nat :=
 if fe el then (match Pf O.qs lab el with | some a=>vD a | none=>if O.ideal then vB else vD (Dk lab el)) else vB
def Ae (O:Jb) (lab:Nat) (el:List Nat):Nat :=
 if fe el then (match Pf O.qs lab el with | some a=>a | none=>if O.ideal then Pn O else Dk lab el) else 0
def Qd (O:Jb) (lab:Nat) (el:List Nat):Jb :=
 if fe el then (match Pf O.qs lab el with | some _=>O | none=>if O.ideal then Mk (Ro O) lab el (Pn O) else Mk O lab el (Dk lab el)) else O
def newO (ideal:Bool) (xe:Nat):Jb:=⟨ideal,xe,0,[]⟩
def Bj:List Nat -> List Nat
 | []=>[]
 | x :: r=>Nn x 8++Bj r
theorem ES:∀ (a b:List Nat),Bj (a++b)=Bj a++Bj b
 | [],b=>rfl
 | x :: r,b=>by simp [Bj,ES r b]
theorem IS:∀ (l:List Nat),(Bj l).length=8*l.length
 | []=>rfl
 | x :: r=>by simp [Bj,IS r,dX];omega
theorem RZ:∀ (k n:Nat),∀ x∈Nn n k,x<256
 | 0,_,x,h=>by simp [Nn] at h
 | k+1,n,x,h=>by
  simp only [Nn,Kk] at h;rcases h with rfl | h
  ·omega
  ·exact RZ k _ x h
theorem bX:∀ (l:List Nat),∀ x∈Bj l,x<256
 | [],x,h=>by simp [Bj] at h
 | y :: r,x,h=>by
  simp only [Bj,Tp] at h;rcases h with h | h
  ·exact RZ 8 y x h
  ·exact bX r x h
theorem QZ:∀ (k a b:Nat),a<256^k -> b<256^k -> Nn a k=Nn b k -> a=b
 | 0,a,b,ha,hb,_=>by simp at ha hb;omega
 | k+1,a,b,ha,hb,h=>by
  simp only [Nn,List.cons.injEq] at h;rw [Zg] at ha hb;have:=QZ k (a / 256) (b / 256) zO zO h.2;omega
theorem C6:∀ {a b:List Nat},(∀ x∈a,x<18446744073709551616) -> (∀ x∈b,x<18446744073709551616) -> Bj a=Bj b -> a=b
 | [],[],_,_,_=>rfl
 | [],y :: r,_,_,h=>by have:=congrArg List.length h;simp [IS] at this
 | y :: r,[],_,_,h=>by have:=congrArg List.length h;simp [IS] at this
 | x :: r,y :: s,ha,hb,h=>by
  simp only [Bj] at h;obtain ⟨h1,h2⟩:=List.append_inj h (by simp [dX])
  have e1:=QZ 8 x y (zQ (ha x zS)) (zQ (hb y zS)) h1;have e2:=C6 (fun z hz=>ha z (by simp [hz])) (fun z hz=>hb z (by simp [hz])) h2
  rw [e1,e2]
theorem zBi:∀ {a b:List Nat},(∀ x∈a,x<256) -> (∀ x∈b,x<256) -> a.map (fun n=>UInt8.ofNat n)=b.map (fun n=>UInt8.ofNat n) -> a=b
 | [],[],_,_,_=>rfl
 | [],y :: r,_,_,h=>by simp at h
 | y :: r,[],_,_,h=>by simp at h
 | x :: r,y :: s,ha,hb,h=>by
  simp only [List.map_cons,List.cons.injEq] at h;have e1:x=y:=by
   have h3:=congrArg UInt8.toNat h.1;simp only [UInt8.toNat_ofNat'] at h3;have:=ha x zS;have:=hb y zS;omega
  rw [e1,zBi (fun z hz=>ha z (by simp [hz])) (fun z hz=>hb z (by simp [hz])) h.2]
def yq (lab:Nat) (el:List Nat):Lit:=.string ((Bj (lab :: el)).map fun n=>UInt8.ofNat n)
theorem S5 (lab:Nat) (el:List Nat):WideAt.IsKeyLit (yq lab el):=trivial
theorem ik {a:Nat} {l:List Nat} {B:Nat} (h:a<B) (hl:∀ x∈l,x<B):∀ x∈a :: l,x<B:=fun x hx=>by
 rcases Kk.1 hx with rfl | hx
 ·exact h
 ·exact hl x hx
theorem R5 {lab BS:Nat} {el el':List Nat} (h1:lab<18446744073709551616) (h2:BS<18446744073709551616) (h3:∀ x∈el,x<18446744073709551616) (h4:∀ x∈el',x<18446744073709551616) (h:yq lab el=yq BS el'):lab=BS /\ el=el':=by
 unfold yq at h
 injection h with h
 have:=C6 (a:=lab :: el) (b:=BS :: el') (ik h1 h3) (ik h2 h4) (zBi (bX _) (bX _) h)
 injection this with e1 e2
 exact ⟨e1,e2⟩
def uI (qs:List Qn):DataW Unit × Nat:=qs.foldl (fun s q=>(s.1.put (yq q.lab q.el) (.lit (.int vq s.2)),s.2+1)) (.map [],0)
def AB (qs:List Qn):DataW Unit:=(uI qs).1
theorem X5 (qs:List Qn) (q:Qn):uI (qs++[q])=((uI qs).1.put (yq q.lab q.el) (.lit (.int vq ((uI qs).2:Int))),(uI qs).2+1):=by simp [uI,List.foldl_append]
theorem FT {p:List Qn -> Prop} (h0:p []) (h1:∀ l q,p l -> p (l++[q])) (l:List Qn):p l:=by
 have:∀ n (l:List Qn),l.length=n -> p l:=by
  intro n
  induction n with
  | zero=>intro l hl;rw [IM hl];exact h0
  | succ n ih =>
   intro l hl;have db:l≠[]:=fun e=>by rw [e] at hl;simp at hl
   rw [<- List.dropLast_concat_getLast db];exact h1 _ _ (ih _ (by simp [hl]))
 exact this _ l rfl
theorem zEn (qs:List Qn):(uI qs).2=qs.length:=FT (p:=fun qs=>(uI qs).2=qs.length) rfl (fun l q h=>by rw [X5];simp [h]) qs
theorem yS (qs:List Qn) (q:Qn):AB (qs++[q])=(AB qs).put (yq q.lab q.el) (.lit (.int vq qs.length)):=by
 unfold AB;rw [X5,zEn]
theorem W5 (qs:List Qn):IsMap (AB qs):=FT (p:=fun qs=>IsMap (AB qs)) isMap_empty (fun l q h=>by rw [yS];exact h.put _ _) qs
theorem RO {l:List Nat} (h:fe l=true):∀ x∈l,x<18446744073709551616:=fun x hx=>by
 have:=of_decide_eq_true (oh.1 h x hx);unfold nc at this;omega
structure rO (q:Qn):Prop where
 lab:q.lab<18446744073709551616
 el:fe q.el=true
 ans:q.ans<nc
 len:q.el.length <= 1000000
structure OrcOk (O:Jb):Prop where
 st:O.st<18446744073709551616
 qs:∀ q∈O.qs,rO q
 apart:O.qs.Pairwise fun a b=>¬(a.lab=b.lab /\ a.el=b.el)
 real:O.ideal=false -> ∀ q∈O.qs,q.ans=Dk q.lab q.el
theorem qQ {lab:Nat} {el:List Nat} {q:Qn}:Wj lab el q=true↔q.lab=lab /\ q.el=el:=by simp [Wj]
theorem zEp {qs:List Qn} {lab:Nat} {el:List Nat} (h1:lab<18446744073709551616) (h2:∀ x∈el,x<18446744073709551616):(∀ q∈qs,rO q) -> Maps.has (AB qs) (yq lab el)=(Pf qs lab el).isSome:=by
 refine FT (p:=fun qs=>(∀ q∈qs,rO q) -> Maps.has (AB qs) (yq lab el)=(Pf qs lab el).isSome) (fun _=>rfl) (fun l q ih hq=>?_) qs
 have ih:=ih fun x hx=>hq x (by simp [hx])
 have hk:=hq q zS;rw [yS];by_cases e:yq lab el=yq q.lab q.el
 ·obtain ⟨e1,e2⟩:=R5 h1 hk.lab h2 (RO hk.el) e
  rw [e,has_put_same (W5 l) (S5 _ _)];unfold Pf;rw [Option.isSome_map,List.find?_isSome.2 ⟨q,zS,qQ.2 ⟨e1.symm,e2.symm⟩⟩]
 ·rw [has_put_other e,ih]
  unfold Pf;rw [List.find?_append];have:Wj lab el q=false:=by
   cases hc:Wj lab el q
   ·rfl
   ·obtain ⟨e1,e2⟩:=qQ.1 hc
    exact absurd (by rw [e1,e2]) e
  simp [this]
theorem zEo {qs:List Qn} {lab:Nat} {el:List Nat} (h1:lab<18446744073709551616) (h2:∀ x∈el,x<18446744073709551616):(∀ q∈qs,rO q) -> (qs.Pairwise fun a b=>¬(a.lab=b.lab /\ a.el=b.el)) -> ∀ a,Pf qs lab el=vD a -> ∃ (i:Nat) (q:Qn),qs[i]?=vD q /\ q.ans=a /\ ∀ z,(AB qs).atKey (yq lab el) z= .lit (.int vq i):=by
 refine FT (p:=fun qs=>(∀ q∈qs,rO q) -> (qs.Pairwise fun a b=>¬(a.lab=b.lab /\ a.el=b.el)) -> ∀ a,Pf qs lab el=vD a -> ∃ (i:Nat) (q:Qn),qs[i]?=vD q /\ q.ans=a /\ ∀ z,(AB qs).atKey (yq lab el) z= .lit (.int vq i)) (fun _ _ a h=>by simp [Pf] at h) (fun l q ih hq hp a ha=>?_) qs
 have hk:=hq q zS;rw [List.pairwise_append] at hp;have ih:=ih (fun x hx=>hq x (by simp [hx])) hp.1 a
 rw [yS];by_cases e:yq lab el=yq q.lab q.el
 ·obtain ⟨e1,e2⟩:=R5 h1 hk.lab h2 (RO hk.el) e
  refine ⟨l.length,q,zS,?_,fun z=>by rw [e];exact atKey_put_same (W5 l) (S5 _ _) _ _⟩
  unfold Pf at ha;rw [List.find?_append] at ha;have hn:l.find? (Wj lab el)=vB:=List.find?_eq_none.2 fun x hx hc=>by
   obtain ⟨e3,e4⟩:=qQ.1 hc;exact hp.2.2 x hx q zS ⟨by rw [e3,e1],by rw [e4,e2]⟩
  rw [hn] at ha;simp [Wj,e1.symm,e2.symm] at ha
  exact ha
 ·have mo:Wj lab el q=false:=by
   cases hc:Wj lab el q
   ·rfl
   ·obtain ⟨e1,e2⟩:=qQ.1 hc
    exact absurd (by rw [e1,e2]) e
  have:Pf l lab el=vD a:=by
   unfold Pf at ha |-;rw [List.find?_append] at ha
   simpa [mo] using ha
  obtain ⟨i,q',h3,h4,h5⟩:=ih this;exact ⟨i,q',by rw [JM (Yx.1 (by simpa using (show l.toArray[i]?=vD q' by simpa using h3))).1];exact h3,h4,fun z=>by rw [atKey_put_other e];exact h5 z⟩
end Go.Proofs.YteoghgbnielkpaaGreat
