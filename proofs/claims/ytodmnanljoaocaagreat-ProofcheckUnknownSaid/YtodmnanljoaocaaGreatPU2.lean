/- A part of the proof. No condition. -/
import Derived.Test.YtodmnanljoaocaaGreatPU1
import Derived.Maps.OwnOps
import Derived.Maps.OwnSet
import Derived.Laws.Bits64

set_option maxRecDepth 100000
set_option maxHeartbeats 8000000
set_option linter.unusedVariables false
set_option linter.unusedSimpArgs false
namespace Go.Proofs.YtodmnanljoaocaaGreat
open Go.RowKit Go.Maps
open Tryz
open Go renaming World->vv, Value->vw, Addr->vx, TypeId->vy, Calls->vA
open Go.Value renaming int->vd, slice->ve, agg->vf
open Go.IntKind renaming u64->vq, i64->vt, u8->vu
open Go.Ending renaming returned->vn
open Go.RowKit renaming Below->vz
open Go.World renaming setCell->vE
open Go.Act renaming put->vF
open Option renaming none->vB, some->vD
theorem R8 (p:Nat) (s:St) (w:vv) (hp:jc p=true) :
  vA prog 245 #[vd vq p,s.val] w fun e w'=>e=vn (ku p s).val /\ vz w.1.size w w':=by
 obtain ⟨Lc,Nb⟩:=tc hp;have HV:=zH (fun w=>by have:=tq p w Nb;rw [hp] at this;exact this)
 have HE:=zH (fun w=>zGg p w hp)
 have HC:=zH (fun r i w hr hi=>zGc p r i w hp hr hi)
 have HA:=zH (fun a b w=>GC p a b w hp)
 have HP:=zH (fun a n w hn=>RW p a n w hp hn)
 have HM:=zH (fun s w h=>zGn p s w hp h)
 have HSO:=zH (show ∀ (f:Nat -> Nat -> Nat) (t:St),(∀ i x,f i x<p) -> (Hy f t 3).ok from fun f t h=>St.ok_of_lt Nb (h 0 _) (h 1 _) (h 2 _))
 have mz:=zH (show ∀ r i x,ou p r i x<p from fun r i x=>zHj zO r i x)
 have Sf:=(I9 hp).2;have HSB:=zH (show ∀ r i x,ou p r i x=((x+Bt p r i)%p)^(Vc p).2.2%p from fun _ _ _=>rfl)
 clear hp Lc Nb;generalize (Vc p).2.2=ex at *;have Sy:=zH Sf;clear Sf;obtain ⟨k1,k2,ba,db⟩:=ig w 275 275 #[vd vq s.a,vd vq s.b,vd vq s.c] #[vd vq 0,vd vq 0,vd vq 0];have iz:=zH (show (ku p s).val=(Hs p s 8).val from rfl)
 rw [iz.out];clear iz;have ev:s.val=vf #[vd vq s.a,vd vq s.b,vd vq s.c]:=rfl;rw [ev];clear ev;go_enter func245,ntmps245
 go_wp2_with fail
 generalize (w.alloc _).alloc _=w0 at k1 k2 ba db |-;refine (HV.out _).mono ?_;rintro e w2 ⟨rfl,Da⟩;replace k1:Blk w2 w.1.size 275 (Hs p s 0).cs:=ma k1 Da;replace k2:=ma k2 Da;replace ba:=pa ba Da;clear Da db HV;go_wp2_with fail
 go_loopw [5] (fun i wr=>∃ r:Nat,r <= 8 /\ i=vd vt r /\ Blk wr w.1.size 275 (Hs p s r).cs /\ Blk wr (w.1.size+1) 275 #[vd vq 0,vd vq 0,vd vq 0] /\ vz w.1.size w wr) (fun i _=>8-(intOf i).toNat)
 case atStart=>exact ⟨0,Rb _,rfl,k1,k2,ba⟩
 case round =>
  clear k1 k2 ba;obtain ⟨r,hr,rfl,k1,k2,ba⟩:=hrel;by_cases ta:r<8
  ·have g1:(r:Int)<8:=by omega
   obtain ⟨t,ht⟩:=zEX (Hs p s r);rw [<- ht] at k1;have HT:=zH (show Hs p s (r+1)=tF p (Hy (ou p r) t 3) by rw [Hs,<- ht];rfl)
   clear ht;go_wp2_with fail
   go_loopw [6] (fun i wr=>∃ m:Nat,m <= 3 /\ i=vd vt m /\ Blk wr w.1.size 275 (Hy (ou p r) t m).cs /\ Blk wr (w.1.size+1) 275 #[vd vq 0,vd vq 0,vd vq 0] /\ vz w.1.size w wr) (fun i _=>3-(intOf i).toNat)
   case atStart=>exact ⟨0,Rb _,rfl,k1,k2,ba⟩
   case round =>
    clear k1 k2 ba;obtain ⟨m,hm,rfl,k1,k2,ba⟩:=hrel;by_cases Bm:m<3
    ·have g2:(m:Int)<3:=by omega
     have cm:=k1.cell m;rw [St.cs_at _ Bm,zAh _ _ Bm] at cm;have oN:=zH (zAi (ou p r) t Bm);have xG:=zH (HSB.out r m (t.at_ m));have Bu:=zH (fun w=>HC.out r m w ta Bm)
     have ie:=zH (fun w=>HA.out (t.at_ m) (Bt p r m) w)
     have oD:=zH (fun w=>HP.out ((t.at_ m+Bt p r m)%p) ex w Sy.out)
     rw [<- xG.out] at oD;clear xG;generalize ou p r m (t.at_ m)=sv at *;generalize (t.at_ m+Bt p r m)%p=av at *;generalize Bt p r m=cv at *;generalize t.at_ m=xv at *;have l1:=k1.lt;go_wp2_with fail
     refine Oh (yc) (ya) [15] [15] [0,1,2,3,4,5,6,7,8,9,10,11,12,13,14,15] zK zK ?_;refine Ph (ya) ?_;intro Wc da;refine Te ?_;refine Fe ya rfl rfl rfl rfl (fun w' hR=>Bu.out _) ?_
     refine zPU ?_;refine Te ?_;refine Fe ya rfl rfl rfl rfl (fun w' hR=>ie.out _) ?_
     refine zPU ?_;refine Te ?_;refine Fe ya rfl rfl rfl rfl (fun w' hR=>HE.out _) ?_
     refine zPU ?_;refine Te ?_;refine Fe ya rfl rfl rfl rfl (fun w' hR=>oD.out _) ?_
     refine zPU ?_;refine Te ?_;refine oo rfl rfl rfl rfl ?_;intro wh Md;replace da:=zM ya da Md;replace k1:=k1.drew.below da k1.lt;replace k2:=k2.drew.below da k2.lt;replace ba:=pa ba.drew da;have f1:=k1.frozen m;have Ux:wh.cell? ⟨w.1.size,m,vB⟩=vD (vd vq xv):=IY da cm;clear l1 cm;go_simp;refine ⟨fun h=>Bool.noConfusion h,?_⟩
     have hg:wh.grownBy (wh.setCell ⟨w.1.size,m,vB⟩ (vd vq sv)) (vD w.1.size):=tj (p:=⟨w.1.size,m,vB⟩) (Mg wh _) (.inl rfl) _;replace k1:=k1.set_ m (vd vq sv);rw [oN.out] at k1;replace k2:=k2.grown hg (fun e=>by have:=Pb e;omega)
     replace ba:=ba.trans (Po hg ba.size zR);clear hg f1 Ux;generalize wh.setCell _ _=Wf at k1 k2 ba |-;refine Fp rfl ?_;go_wp2
     go_roundw
     case rel=>exact ⟨m+1,zO,by go_num,k1,k2,ba⟩
     case measure=>simp [intOf];omega
    ·obtain rfl:m=3:=by omega
     obtain ⟨q,hq⟩:=zEX (Hy (ou p r) t 3);have hqo:q.ok:=by rw [hq];exact HSO.out _ _ (mz.out r)
     rw [<- hq] at k1 HT;clear hq;have Zk:Blk wr w.1.size 275 #[vd vq q.a,vd vq q.b,vd vq q.c]:=k1;obtain ⟨z,hz⟩:=zEX (tF p q);rw [<- hz] at HT;have og:=zH (show ∀ w,vA prog 274 #[vd vq p,vf #[vd vq q.a,vd vq q.b,vd vq q.c]] w fun e w'=>e=vn (vf #[vd vq z.a,vd vq z.b,vd vq z.c]) /\ vz w.1.size w w' from fun w=>by rw [hz];exact HM.out q w hqo)
     clear hz k1 hqo;have c1:=Zk.cell;go_wp2_with fail
     refine (og.out _).mono ?_;rintro e w5 ⟨rfl,Lb⟩;replace Zk:=Zk.below Lb Zk.lt;replace k2:=ma k2 Lb;replace ba:=pa ba Lb;clear Lb c1;have c1:=Zk.cell;have f1:=Zk.frozen;go_wp2_with fail
     have hg:=Cp (w:=w5) (g:=w.1.size) (vd vq z.a) (vd vq z.b) (vd vq z.c);have kz:=zp Zk (vd vq z.a) (vd vq z.b) (vd vq z.c);replace k2:=k2.grown hg (fun e=>by have:=Pb e;omega)
     replace ba:=ba.trans (Po hg ba.size zR);clear hg c1 f1 Zk;generalize ((vE w5 _ _).setCell _ _).setCell _ _=Wf at kz k2 ba |-
     go_roundw
     case rel=>exact ⟨r+1,zO,by go_num,by rw [HT.out];exact kz,k2,ba⟩
     case measure=>simp [intOf];omega
  ·obtain rfl:r=8:=by omega
   obtain ⟨q,hq⟩:=zEX (Hs p s 8);rw [<- hq] at k1;have HQ:=zH hq;clear hq;have Zk:Blk wr w.1.size 275 #[vd vq q.a,vd vq q.b,vd vq q.c]:=k1;have c1:=Zk.cell;have c2:=k2.cell;have f2:=k2.frozen;go_wp2_with fail
   have hg:=Cp (w:=wr) (g:=w.1.size+1) (vd vq q.a) (vd vq q.b) (vd vq q.c);have kz:=zp k2 (vd vq q.a) (vd vq q.b) (vd vq q.c);clear c1 c2 f2 k2;generalize ((vE wr _ _).setCell _ _).setCell _ _=Wf at hg kz |-;have cz:=kz.cell;have hs:=ba.size;exact Tc (v:=vf #[vd vq q.a,vd vq q.b,vd vq q.c]) (by simp [results,results245,go_sem,cz]) rfl ⟨by rw [<- HQ.out];rfl,ba.trans (Po hg hs zO)⟩
def Mo (p:Nat):List Nat -> St -> St
 | [],s=>s
 | [x],s=>ku p ⟨(s.a+x)%p,s.b,s.c⟩
 | x :: y :: r,s=>Mo p r (ku p ⟨(s.a+x)%p,(s.b+y)%p,s.c⟩)
def Mq (p label:Nat) (l:List Nat):St:=Mo p l ⟨0,0,(label*65536%p+l.length)%p⟩
theorem lU {l:List Nat} {i:Nat} (h:i+1<l.length):l.drop i=l.getD i 0 :: l.getD (i+1) 0 :: l.drop (i+2):=by
 rw [List.drop_eq_getElem_cons zO,List.drop_eq_getElem_cons h,Gc,Gc,Dc h,Dc (show i<l.length by omega)]
 rfl
theorem kU {l:List Nat} {i:Nat} (h:i+1=l.length):l.drop i=[l.getD i 0]:=by
 rw [List.drop_eq_getElem_cons zO,Gc,Dc (show i<l.length by omega),List.drop_of_length_le zO]
 rfl
theorem zE1 (p label:Nat) (A:Option vx) (n c:Nat) (l:List Nat) (w:vv) (hp:jc p=true) (hl:RWd w [ve A n c] l) (Ua:0<l.length) (hlen:l.length <= 1000000) :
  vA prog 267 #[vd vq p,vd vq label,ve A n c] w fun e w'=>e=vn (Mq p label l).val /\ vz w.1.size w w':=by
 obtain ⟨rfl,h1,h2,ta,Ka⟩:=Mb hl;have gm:=Mh h1 h2;have CI:=zH (fun w=>YD p label 65536 w hp)
 have uI:=zH (fun w=>Su p (label*65536%p) l.length w hp)
 have HA:=zH (fun a b w=>Su p a b w hp)
 have HP:=zH (fun s w=>zFj p s w hp)
 have HF:=zH (show Mq p label l=Mo p (l.drop 0) ⟨0,0,(label*65536%p+l.length)%p⟩ from rfl)
 have ew:vq.wrap (l.length:Int)=l.length:=Kk _ zO;generalize Mq p label l=fin at *;generalize (label*65536%p+l.length)%p=c0 at *;generalize label*65536%p=m0 at *;unfold fv at *;clear hl h1 h2 hp;have d0:((l.length:Int) == 0)=false:=by rw [Je];omega
 obtain ⟨kr,kf,ba,db⟩:=ig w 275 250 #[vd vq 0,vd vq 0,vd vq 0] #[vd vq p];go_enter func267,ntmps267
 go_wp2_with fail
 generalize (w.alloc _).alloc _=w0 at kr kf ba db |-;have cf:=kf.cell;have lf:=kf.lt;refine Oh (yc) (ya) [9,10] [10] [0,1,2,3,4,5,6,7,8,9,10] zK zK ?_;refine Ph (ya) ?_;intro Wc da;refine Te ?_;refine Fe ya rfl rfl rfl rfl (fun w' hR=>CI.out _) ?_
 refine zPU ?_;refine Te ?_;refine Fe ya rfl rfl rfl rfl (fun w' hR=>uI.out _) ?_
 refine zPU ?_;refine Te ?_;refine oo rfl rfl rfl rfl ?_;intro wh Md;replace da:=zM ya da Md;go_simp;refine ⟨fun _=>(Bb _ _).alloc zR _,?_⟩
 replace kr:=kr.drew.below da kr.lt;replace kf:=kf.drew.below da kf.lt;replace ba:=pa ba.drew da;have tC:w.1.size+1<wh.1.size:=kf.lt;obtain ⟨ks,ja⟩:=zN wh 275 #[vd vq 0,vd vq 0,vd vq 0];replace kr:=ma kr ja;replace kf:=ma kf ja;replace ba:=pa ba ja;clear da ja cf lf db Md
 refine zPU ?_
 generalize wh.alloc _=w2 at kr kf ba ks |-;generalize wh.1.size=g at ks tC |-;have da:=ya.refl w2;refine oo rfl rfl rfl rfl ?_;intro wh Md;replace da:=zM ya da Md;replace kr:=ma kr da;replace kf:=ma kf da;replace ks:=ma ks da;replace ba:=pa ba da;have c2:=ks.cell;have f2:=ks.frozen;go_simp;refine ⟨fun h=>Bool.noConfusion h,?_⟩
 have hg:=Cp (w:=wh) (g:=g) (vd vq 0) (vd vq 0) (vd vq c0);have kz:=zp ks (vd vq 0) (vd vq 0) (vd vq c0);replace kr:=kr.grown hg (fun e=>by have:=Pb e;omega)
 replace kf:=kf.grown hg (fun e=>by have:=Pb e;omega)
 replace ba:=Qe ba hg;clear c2 f2 ks hg da Md;generalize ((vE wh _ _).setCell _ _).setCell _ _=w4 at kz kr kf ba |-;have ks:Blk w4 g 275 (St.mk 0 0 c0).cs:=kz;clear kz;refine Fp rfl ?_;go_wp2_with fail
 go_loopw [9] (fun y wr=>∃ (i:Nat) (q:St),i <= l.length+1 /\ y=vd vt i /\ Blk wr w.1.size 275 #[vd vq 0,vd vq 0,vd vq 0] /\ Blk wr (w.1.size+1) 250 #[vd vq p] /\ Blk wr g 275 q.cs /\ vz w.1.size w wr /\ Hid (Mo p (l.drop i) q=fin)) (fun y _=>l.length-(intOf y).toNat)
 case atStart=>exact ⟨0,⟨0,0,c0⟩,zO,rfl,kr,kf,ks,ba,HF.out.symm⟩
 case round =>
  clear kr kf ks ba;obtain ⟨i,q,hi,rfl,kr,kf,ks,ba,HI⟩:=hrel;obtain ⟨qa,qb,qc⟩:=q;have Er:Blk wr g 275 #[vd vq qa,vd vq qb,vd vq qc]:=ks;replace ks:=Er;clear Er;by_cases Yr:i<l.length
  ·have hx:=qF ta Yr
   obtain ⟨bb,bq,eA,Zb,cl⟩:=Ve (Ka.below ba) Yr;have Pc:=zH ta;have zB:=zH Ka;have Ov:=zH Yr;have g1:(0:Int)<=i:=by omega
   have g2:(i:Int)<l.length:=by omega
   by_cases Ih:i+1<l.length
   ·obtain ⟨bb2,bq2,Sm,Vn,Jn⟩:=Ve (Ka.below ba) Ih
    have HD:=zH (lU Ih);obtain ⟨i1,mH⟩:=zEX (i+1);have e1:(i:Int)+1=(i1:Int):=by omega
    have e2:vt.wrap ((i:Int)+1)=(i1:Int):=by rw [pj];omega
    have e3:vt.wrap (i1:Int)=i1:=by rw [pj];omega
    have g4:(0:Int)<=i1:=by omega
    have g3:(i1:Int)<l.length:=by omega
    have yn:=zH (show i1<l.length by omega)
    have jN:=zH mH;rw [eA] at Sm;have nJ:=Pb Sm
    injection nJ with e5 e6
    subst e5 e6;subst eA;clear Sm Vn;have zn:=zH (show Mo p (l.getD i 0 :: l.getD (i+1) 0 :: l.drop (i+2)) ⟨qa,qb,qc⟩=fin by rw [<- HD.out];exact HI.out)
    clear HD ta Ka Ih hx mH;obtain ⟨y,hy⟩:=zEX (l.getD (i+1) 0);generalize l.getD i 0=x at *;rw [<- hy] at zn Jn;have HY:=zH hy.symm;clear hy;have ie:=zH (fun w=>HA.out qa x w)
    have Hp:=zH (fun w=>HA.out qb y w)
    obtain ⟨na,Ng⟩:=zEX ((qa+x)%p);obtain ⟨nb,Yo⟩:=zEX ((qb+y)%p);rw [<- Ng] at ie;rw [<- Yo] at Hp;obtain ⟨z,hz⟩:=zEX (ku p ⟨na,nb,qc⟩);have HX:=zH (show ∀ w,vA prog 279 #[vd vq p,vf #[vd vq na,vd vq nb,vd vq qc]] w fun e w'=>e=vn (vf #[vd vq z.a,vd vq z.b,vd vq z.c]) /\ vz w.1.size w w' from fun w=>by rw [hz];exact HP.out ⟨na,nb,qc⟩ w)
    have HZ:=zH (show Mo p (l.drop (i+2)) z=fin by rw [hz];rw [Ng,Yo];exact zn.out)
    clear hz;clear zn Ng Yo;have cs:=ks.cell;have ls:=ks.lt;have cf:=kf.cell;have lf:=kf.lt;have cl2H:=zH Jn;clear Jn;go_wp2_with fail
    refine Oh (yc) (ya) [9] [9] [0,1,2,3,4,5,6,7,8,9] zK zK ?_;refine Ph (ya) ?_;intro Wc da;refine Te ?_;refine Fe ya rfl rfl rfl rfl (fun w' hR=>ie.out _) ?_
    refine zPU ?_;refine Te ?_;refine oo rfl rfl rfl rfl ?_;intro wh Md;replace da:=zM ya da Md;replace kr:=kr.drew.below da kr.lt;replace ks:=ks.drew.below da ks.lt;replace kf:=kf.drew.below da kf.lt;replace ba:=pa ba.drew da;clear cs cf lf ls da Md cl;have c2:=ks.cell;have f2:=ks.frozen;go_simp;refine ⟨fun h=>Bool.noConfusion h,?_⟩
    have hg:wh.grownBy (wh.setCell ⟨g,0,vB⟩ (vd vq na)) (vD g):=tj (p:=⟨g,0,vB⟩) (Mg wh _) (.inl rfl) _;replace ks:=ks.set_ 0 (vd vq na);simp at ks
    replace kr:=kr.grown hg (fun e=>by have:=Pb e;omega)
    replace kf:=kf.grown hg (fun e=>by have:=Pb e;omega)
    replace ba:=Qe ba hg;clear hg c2 f2;generalize wh.setCell _ _=Dz at ks kr ba kf |-;refine Fp rfl ?_;have Jn:Dz.cell? ⟨bb,bq+i1,vB⟩=vD (vd vq y):=by obtain ⟨b3,q3,e3,-,h3⟩:=Ve (zB.out.below ba) yn.out;have e4:=Pb e3;injection e4 with e5 e6;subst e5 e6;rw [h3,jN.out,HY.out]
    have Vn:bb<Dz.1.size:=Af _ _ Jn;have cs:=ks.cell;have ls:=ks.lt;have cf:=kf.cell;have lf:=kf.lt;go_wp2_with fail
    refine Oh (yc) (ya) [10] [10] [0,1,2,3,4,5,6,7,8,9,10] zK zK ?_;refine Ph (ya) ?_;intro Wc da;refine Te ?_;refine Fe ya rfl rfl rfl rfl (fun w' hR=>Hp.out _) ?_
    refine zPU ?_;refine Te ?_;refine oo rfl rfl rfl rfl ?_;intro wh Md;replace da:=zM ya da Md;replace kr:=kr.drew.below da kr.lt;replace ks:=ks.drew.below da ks.lt;replace kf:=kf.drew.below da kf.lt;replace ba:=pa ba.drew da;clear cs cf lf ls da Md Jn;have c2:=ks.cell;have f2:=ks.frozen;go_simp;refine ⟨fun h=>Bool.noConfusion h,?_⟩
    have hg:wh.grownBy (wh.setCell ⟨g,1,vB⟩ (vd vq nb)) (vD g):=tj (p:=⟨g,1,vB⟩) (Mg wh _) (.inl rfl) _;replace ks:=ks.set_ 1 (vd vq nb);simp at ks
    replace kr:=kr.grown hg (fun e=>by have:=Pb e;omega)
    replace kf:=kf.grown hg (fun e=>by have:=Pb e;omega)
    replace ba:=Qe ba hg;clear hg c2 f2;generalize wh.setCell _ _=Wf1 at ks kr ba kf |-;refine Fp rfl ?_;have cs:=ks.cell;go_wp2_with fail
    refine (HX.out _).mono ?_;rintro e w5 ⟨rfl,Lb⟩;replace kr:=ma kr Lb;replace ks:=ma ks Lb;replace kf:=ma kf Lb;replace ba:=pa ba Lb;clear cs Lb;have cs:=ks.cell;have fs:=ks.frozen;go_wp2_with fail
    have hg:=Cp (w:=w5) (g:=g) (vd vq z.a) (vd vq z.b) (vd vq z.c);have kz:=zp ks (vd vq z.a) (vd vq z.b) (vd vq z.c);replace kr:=kr.grown hg (fun e=>by have:=Pb e;omega)
    replace kf:=kf.grown hg (fun e=>by have:=Pb e;omega)
    replace ba:=Qe ba hg;clear hg cs fs ks;generalize ((vE w5 _ _).setCell _ _).setCell _ _=Wz at kz kr ba kf |-
    go_roundw
    case rel=>exact ⟨i+2,z,zO,by go_num,kr,kf,kz,ba,HZ.out⟩
    case measure=>simp [intOf];omega
   ·have aA:i+1=l.length:=by omega
    have HD:=zH (kU aA);have g3:¬((i:Int)+1<(l.length:Int)):=by omega
    subst eA;have zn:=zH (show Mo p [l.getD i 0] ⟨qa,qb,qc⟩=fin by rw [<- HD.out];exact HI.out)
    have ux:=zH (show l.drop (i+2)=[] from List.drop_of_length_le zO)
    clear HD ta Ka hx;generalize l.getD i 0=x at *;have ie:=zH (fun w=>HA.out qa x w)
    obtain ⟨na,Ng⟩:=zEX ((qa+x)%p);rw [<- Ng] at ie;obtain ⟨z,hz⟩:=zEX (ku p ⟨na,qb,qc⟩);have HX:=zH (show ∀ w,vA prog 279 #[vd vq p,vf #[vd vq na,vd vq qb,vd vq qc]] w fun e w'=>e=vn (vf #[vd vq z.a,vd vq z.b,vd vq z.c]) /\ vz w.1.size w w' from fun w=>by rw [hz];exact HP.out ⟨na,qb,qc⟩ w)
    have HZ:=zH (show Mo p (l.drop (i+2)) z=fin by rw [hz];rw [ux.out,Ng];exact zn.out)
    clear hz;clear zn ux Ih aA Ng;have cs:=ks.cell;have ls:=ks.lt;have cf:=kf.cell;have lf:=kf.lt;go_wp2_with fail
    refine Oh (yc) (ya) [9] [9] [0,1,2,3,4,5,6,7,8,9] zK zK ?_;refine Ph (ya) ?_;intro Wc da;refine Te ?_;refine Fe ya rfl rfl rfl rfl (fun w' hR=>ie.out _) ?_
    refine zPU ?_;refine Te ?_;refine oo rfl rfl rfl rfl ?_;intro wh Md;replace da:=zM ya da Md;replace kr:=kr.drew.below da kr.lt;replace ks:=ks.drew.below da ks.lt;replace kf:=kf.drew.below da kf.lt;replace ba:=pa ba.drew da;clear cs cf lf ls da Md cl;have c2:=ks.cell;have f2:=ks.frozen;go_simp;refine ⟨fun h=>Bool.noConfusion h,?_⟩
    have hg:wh.grownBy (wh.setCell ⟨g,0,vB⟩ (vd vq na)) (vD g):=tj (p:=⟨g,0,vB⟩) (Mg wh _) (.inl rfl) _;replace ks:=ks.set_ 0 (vd vq na);simp at ks
    replace kr:=kr.grown hg (fun e=>by have:=Pb e;omega)
    replace kf:=kf.grown hg (fun e=>by have:=Pb e;omega)
    replace ba:=Qe ba hg;clear hg c2 f2;generalize wh.setCell _ _=Dz at ks kr ba kf |-;refine Fp rfl ?_;have cs:=ks.cell;go_wp2_with fail
    refine (HX.out _).mono ?_;rintro e w5 ⟨rfl,Lb⟩;replace kr:=ma kr Lb;replace ks:=ma ks Lb;replace kf:=ma kf Lb;replace ba:=pa ba Lb;clear cs Lb;have cs:=ks.cell;have fs:=ks.frozen;go_wp2_with fail
    have hg:=Cp (w:=w5) (g:=g) (vd vq z.a) (vd vq z.b) (vd vq z.c);have kz:=zp ks (vd vq z.a) (vd vq z.b) (vd vq z.c);replace kr:=kr.grown hg (fun e=>by have:=Pb e;omega)
    replace kf:=kf.grown hg (fun e=>by have:=Pb e;omega)
    replace ba:=Qe ba hg;clear hg cs fs ks;generalize ((vE w5 _ _).setCell _ _).setCell _ _=Wz at kz kr ba kf |-
    go_roundw
    case rel=>exact ⟨i+2,z,zO,by go_num,kr,kf,kz,ba,HZ.out⟩
    case measure=>simp [intOf];omega
  ·have HQ:=zH (show (⟨qa,qb,qc⟩:St)=fin by have:=HI.out;rw [List.drop_of_length_le zO] at this;exact this)
   have g2:¬((i:Int)<l.length):=by omega
   have cs:=ks.cell;have cr:=kr.cell;have fr:=kr.frozen;clear Ka ta;go_wp2_with fail
   have hg:=Cp (w:=wr) (g:=w.1.size) (vd vq qa) (vd vq qb) (vd vq qc);have kz:=zp kr (vd vq qa) (vd vq qb) (vd vq qc);clear cs cr fr kr ks;generalize ((vE wr _ _).setCell _ _).setCell _ _=Wz at hg kz |-;have cz:=kz.cell;exact Tc (v:=vf #[vd vq qa,vd vq qb,vd vq qc]) (by simp [results,results267,go_sem,cz]) rfl ⟨by rw [<- HQ.out];rfl,ba.trans (Po hg ba.size zR)⟩
theorem B8 (p label:Nat) (A:Option vx) (n c:Nat) (l:List Nat) (w:vv) (hp:jc p=true) (hl:RWd w [ve A n c] l) (Ua:0<l.length) (hlen:l.length <= 1000000) :
  vA prog 244 #[vd vq p,vd vq label,ve A n c] w fun e w'=>e=vn (Mq p label l).val /\ vz w.1.size w w':=by
 obtain ⟨rfl,h1,h2,ta,Ka⟩:=Mb hl;have gm:=Mh h1 h2;have CI:=zH (fun w=>RA p label 65536 w hp)
 have uI:=zH (fun w=>GC p (label*65536%p) l.length w hp)
 have HA:=zH (fun a b w=>GC p a b w hp)
 have HP:=zH (fun s w=>R8 p s w hp)
 have HF:=zH (show Mq p label l=Mo p (l.drop 0) ⟨0,0,(label*65536%p+l.length)%p⟩ from rfl)
 have ew:vq.wrap (l.length:Int)=l.length:=Kk _ zO;generalize Mq p label l=fin at *;generalize (label*65536%p+l.length)%p=c0 at *;generalize label*65536%p=m0 at *;clear hl h1 h2 hp;obtain ⟨kr,ba⟩:=zN w 275 #[vd vq 0,vd vq 0,vd vq 0];go_enter func244,ntmps244
 go_wp2_with fail
 generalize w.alloc _=w0 at kr ba |-;refine (CI.out _).mono ?_;rintro e w1 ⟨rfl,La⟩;replace kr:=ma kr La;replace ba:=pa ba La;go_wp2_with fail
 refine (uI.out _).mono ?_;rintro e w2 ⟨rfl,Da⟩;replace kr:=ma kr Da;replace ba:=pa ba Da;have tC:w.1.size<w2.1.size:=kr.lt;have ja:=zA w2 (.cells #[vd vq 0,vd vq 0,vd vq c0] 275);have ks:Blk _ w2.1.size 275 (St.mk 0 0 c0).cs:=Blk.new w2 275 #[vd vq 0,vd vq 0,vd vq c0];replace kr:=ma kr ja;replace ba:=pa ba ja;clear La Da ja
 go_upto_block 0 with fail
 generalize w2.alloc _=w4 at kr ks ba |-;generalize w2.1.size=g at ks tC |-;go_wp2_with fail
 go_loopw [8] (fun y wr=>∃ (i:Nat) (q:St),i <= l.length+1 /\ y=vd vt i /\ Blk wr w.1.size 275 #[vd vq 0,vd vq 0,vd vq 0] /\ Blk wr g 275 q.cs /\ vz w.1.size w wr /\ Hid (Mo p (l.drop i) q=fin)) (fun y _=>l.length-(intOf y).toNat)
 case atStart=>exact ⟨0,⟨0,0,c0⟩,zO,rfl,kr,ks,ba,HF.out.symm⟩
 case round =>
  clear kr ks ba;obtain ⟨i,q,hi,rfl,kr,ks,ba,HI⟩:=hrel;obtain ⟨qa,qb,qc⟩:=q;have Er:Blk wr g 275 #[vd vq qa,vd vq qb,vd vq qc]:=ks;replace ks:=Er;clear Er;by_cases Yr:i<l.length
  ·have hx:=qF ta Yr
   obtain ⟨bb,bq,eA,Zb,cl⟩:=Ve (Ka.below ba) Yr;have Pc:=zH ta;have zB:=zH Ka;have Ov:=zH Yr;have g1:(0:Int)<=i:=by omega
   have g2:(i:Int)<l.length:=by omega
   have hdi:((i:Int) == 0)=true \/ ((i:Int) == 0)=false:=by cases ((i:Int) == 0) <;> simp
   rcases hdi with di | di
   ·by_cases Ih:i+1<l.length
    ·obtain ⟨bb2,bq2,Sm,Vn,Jn⟩:=Ve (Ka.below ba) Ih
     have HD:=zH (lU Ih);obtain ⟨i1,mH⟩:=zEX (i+1);have e1:(i:Int)+1=(i1:Int):=by omega
     have e2:vt.wrap ((i:Int)+1)=(i1:Int):=by rw [pj];omega
     have e3:vt.wrap (i1:Int)=i1:=by rw [pj];omega
     have g4:(0:Int)<=i1:=by omega
     have g3:(i1:Int)<l.length:=by omega
     have yn:=zH (show i1<l.length by omega)
     have jN:=zH mH;rw [eA] at Sm;have nJ:=Pb Sm
     injection nJ with e5 e6
     subst e5 e6;subst eA;clear Sm Vn;have zn:=zH (show Mo p (l.getD i 0 :: l.getD (i+1) 0 :: l.drop (i+2)) ⟨qa,qb,qc⟩=fin by rw [<- HD.out];exact HI.out)
     clear HD ta Ka Ih hx mH;obtain ⟨y,hy⟩:=zEX (l.getD (i+1) 0);generalize l.getD i 0=x at *;rw [<- hy] at zn Jn;have HY:=zH hy.symm;clear hy;have ie:=zH (fun w=>HA.out qa x w)
     have Hp:=zH (fun w=>HA.out qb y w)
     obtain ⟨na,Ng⟩:=zEX ((qa+x)%p);obtain ⟨nb,Yo⟩:=zEX ((qb+y)%p);rw [<- Ng] at ie;rw [<- Yo] at Hp;obtain ⟨z,hz⟩:=zEX (ku p ⟨na,nb,qc⟩);have HX:=zH (show ∀ w,vA prog 245 #[vd vq p,vf #[vd vq na,vd vq nb,vd vq qc]] w fun e w'=>e=vn (vf #[vd vq z.a,vd vq z.b,vd vq z.c]) /\ vz w.1.size w w' from fun w=>by rw [hz];exact HP.out ⟨na,nb,qc⟩ w)
     have HZ:=zH (show Mo p (l.drop (i+2)) z=fin by rw [hz];rw [Ng,Yo];exact zn.out)
     clear hz;clear zn Ng Yo;have cs:=ks.cell;have ls:=ks.lt;have cl2H:=zH Jn;clear Jn;go_wp2_with fail
     refine Oh (yc) (ya) [9] [9] [0,1,2,3,4,5,6,7,8,9] zK zK ?_;refine Ph (ya) ?_;intro Wc da;refine Te ?_;refine Fe ya rfl rfl rfl rfl (fun w' hR=>ie.out _) ?_
     refine zPU ?_;refine Te ?_;refine oo rfl rfl rfl rfl ?_;intro wh Md;replace da:=zM ya da Md;replace kr:=kr.drew.below da kr.lt;replace ks:=ks.drew.below da ks.lt;replace ba:=pa ba.drew da;clear cs ls da Md cl;have c2:=ks.cell;have f2:=ks.frozen;go_simp;refine ⟨fun h=>Bool.noConfusion h,?_⟩
     have hg:wh.grownBy (wh.setCell ⟨g,0,vB⟩ (vd vq na)) (vD g):=tj (p:=⟨g,0,vB⟩) (Mg wh _) (.inl rfl) _;replace ks:=ks.set_ 0 (vd vq na);simp at ks
     replace kr:=kr.grown hg (fun e=>by have:=Pb e;omega)
     replace ba:=Qe ba hg;clear hg c2 f2;generalize wh.setCell _ _=Dz at ks kr ba |-;refine Fp rfl ?_;have Jn:Dz.cell? ⟨bb,bq+i1,vB⟩=vD (vd vq y):=by obtain ⟨b3,q3,e3,-,h3⟩:=Ve (zB.out.below ba) yn.out;have e4:=Pb e3;injection e4 with e5 e6;subst e5 e6;rw [h3,jN.out,HY.out]
     have Vn:bb<Dz.1.size:=Af _ _ Jn;have cs:=ks.cell;have ls:=ks.lt;go_wp2_with fail
     refine Oh (yc) (ya) [10] [10] [0,1,2,3,4,5,6,7,8,9,10] zK zK ?_;refine Ph (ya) ?_;intro Wc da;refine Te ?_;refine Fe ya rfl rfl rfl rfl (fun w' hR=>Hp.out _) ?_
     refine zPU ?_;refine Te ?_;refine oo rfl rfl rfl rfl ?_;intro wh Md;replace da:=zM ya da Md;replace kr:=kr.drew.below da kr.lt;replace ks:=ks.drew.below da ks.lt;replace ba:=pa ba.drew da;clear cs ls da Md Jn;have c2:=ks.cell;have f2:=ks.frozen;go_simp;refine ⟨fun h=>Bool.noConfusion h,?_⟩
     have hg:wh.grownBy (wh.setCell ⟨g,1,vB⟩ (vd vq nb)) (vD g):=tj (p:=⟨g,1,vB⟩) (Mg wh _) (.inl rfl) _;replace ks:=ks.set_ 1 (vd vq nb);simp at ks
     replace kr:=kr.grown hg (fun e=>by have:=Pb e;omega)
     replace ba:=Qe ba hg;clear hg c2 f2;generalize wh.setCell _ _=Wf1 at ks kr ba |-;refine Fp rfl ?_;have cs:=ks.cell;go_wp2_with fail
     refine (HX.out _).mono ?_;rintro e w5 ⟨rfl,Lb⟩;replace kr:=ma kr Lb;replace ks:=ma ks Lb;replace ba:=pa ba Lb;clear cs Lb;have cs:=ks.cell;have fs:=ks.frozen;go_wp2_with fail
     have hg:=Cp (w:=w5) (g:=g) (vd vq z.a) (vd vq z.b) (vd vq z.c);have kz:=zp ks (vd vq z.a) (vd vq z.b) (vd vq z.c);replace kr:=kr.grown hg (fun e=>by have:=Pb e;omega)
     replace ba:=Qe ba hg;clear hg cs fs ks;generalize ((vE w5 _ _).setCell _ _).setCell _ _=Wz at kz kr ba |-
     go_roundw
     case rel=>exact ⟨i+2,z,zO,by go_num,kr,kz,ba,HZ.out⟩
     case measure=>simp [intOf];omega
    ·have aA:i+1=l.length:=by omega
     have HD:=zH (kU aA);have g3:¬((i:Int)+1<(l.length:Int)):=by omega
     subst eA;have zn:=zH (show Mo p [l.getD i 0] ⟨qa,qb,qc⟩=fin by rw [<- HD.out];exact HI.out)
     have ux:=zH (show l.drop (i+2)=[] from List.drop_of_length_le zO)
     clear HD ta Ka hx;generalize l.getD i 0=x at *;have ie:=zH (fun w=>HA.out qa x w)
     obtain ⟨na,Ng⟩:=zEX ((qa+x)%p);rw [<- Ng] at ie;obtain ⟨z,hz⟩:=zEX (ku p ⟨na,qb,qc⟩);have HX:=zH (show ∀ w,vA prog 245 #[vd vq p,vf #[vd vq na,vd vq qb,vd vq qc]] w fun e w'=>e=vn (vf #[vd vq z.a,vd vq z.b,vd vq z.c]) /\ vz w.1.size w w' from fun w=>by rw [hz];exact HP.out ⟨na,qb,qc⟩ w)
     have HZ:=zH (show Mo p (l.drop (i+2)) z=fin by rw [hz];rw [ux.out,Ng];exact zn.out)
     clear hz;clear zn ux Ih aA Ng;have cs:=ks.cell;have ls:=ks.lt;go_wp2_with fail
     refine Oh (yc) (ya) [9] [9] [0,1,2,3,4,5,6,7,8,9] zK zK ?_;refine Ph (ya) ?_;intro Wc da;refine Te ?_;refine Fe ya rfl rfl rfl rfl (fun w' hR=>ie.out _) ?_
     refine zPU ?_;refine Te ?_;refine oo rfl rfl rfl rfl ?_;intro wh Md;replace da:=zM ya da Md;replace kr:=kr.drew.below da kr.lt;replace ks:=ks.drew.below da ks.lt;replace ba:=pa ba.drew da;clear cs ls da Md cl;have c2:=ks.cell;have f2:=ks.frozen;go_simp;refine ⟨fun h=>Bool.noConfusion h,?_⟩
     have hg:wh.grownBy (wh.setCell ⟨g,0,vB⟩ (vd vq na)) (vD g):=tj (p:=⟨g,0,vB⟩) (Mg wh _) (.inl rfl) _;replace ks:=ks.set_ 0 (vd vq na);simp at ks
     replace kr:=kr.grown hg (fun e=>by have:=Pb e;omega)
     replace ba:=Qe ba hg;clear hg c2 f2;generalize wh.setCell _ _=Dz at ks kr ba |-;refine Fp rfl ?_;have cs:=ks.cell;go_wp2_with fail
     refine (HX.out _).mono ?_;rintro e w5 ⟨rfl,Lb⟩;replace kr:=ma kr Lb;replace ks:=ma ks Lb;replace ba:=pa ba Lb;clear cs Lb;have cs:=ks.cell;have fs:=ks.frozen;go_wp2_with fail
     have hg:=Cp (w:=w5) (g:=g) (vd vq z.a) (vd vq z.b) (vd vq z.c);have kz:=zp ks (vd vq z.a) (vd vq z.b) (vd vq z.c);replace kr:=kr.grown hg (fun e=>by have:=Pb e;omega)
     replace ba:=Qe ba hg;clear hg cs fs ks;generalize ((vE w5 _ _).setCell _ _).setCell _ _=Wz at kz kr ba |-
     go_roundw
     case rel=>exact ⟨i+2,z,zO,by go_num,kr,kz,ba,HZ.out⟩
     case measure=>simp [intOf];omega
   ·by_cases Ih:i+1<l.length
    ·obtain ⟨bb2,bq2,Sm,Vn,Jn⟩:=Ve (Ka.below ba) Ih
     have HD:=zH (lU Ih);obtain ⟨i1,mH⟩:=zEX (i+1);have e1:(i:Int)+1=(i1:Int):=by omega
     have e2:vt.wrap ((i:Int)+1)=(i1:Int):=by rw [pj];omega
     have e3:vt.wrap (i1:Int)=i1:=by rw [pj];omega
     have g4:(0:Int)<=i1:=by omega
     have g3:(i1:Int)<l.length:=by omega
     have yn:=zH (show i1<l.length by omega)
     have jN:=zH mH;rw [eA] at Sm;have nJ:=Pb Sm
     injection nJ with e5 e6
     subst e5 e6;subst eA;clear Sm Vn;have zn:=zH (show Mo p (l.getD i 0 :: l.getD (i+1) 0 :: l.drop (i+2)) ⟨qa,qb,qc⟩=fin by rw [<- HD.out];exact HI.out)
     clear HD ta Ka Ih hx mH;obtain ⟨y,hy⟩:=zEX (l.getD (i+1) 0);generalize l.getD i 0=x at *;rw [<- hy] at zn Jn;have HY:=zH hy.symm;clear hy;have ie:=zH (fun w=>HA.out qa x w)
     have Hp:=zH (fun w=>HA.out qb y w)
     obtain ⟨na,Ng⟩:=zEX ((qa+x)%p);obtain ⟨nb,Yo⟩:=zEX ((qb+y)%p);rw [<- Ng] at ie;rw [<- Yo] at Hp;obtain ⟨z,hz⟩:=zEX (ku p ⟨na,nb,qc⟩);have HX:=zH (show ∀ w,vA prog 245 #[vd vq p,vf #[vd vq na,vd vq nb,vd vq qc]] w fun e w'=>e=vn (vf #[vd vq z.a,vd vq z.b,vd vq z.c]) /\ vz w.1.size w w' from fun w=>by rw [hz];exact HP.out ⟨na,nb,qc⟩ w)
     have HZ:=zH (show Mo p (l.drop (i+2)) z=fin by rw [hz];rw [Ng,Yo];exact zn.out)
     clear hz;clear zn Ng Yo;have cs:=ks.cell;have ls:=ks.lt;have cl2H:=zH Jn;clear Jn;go_wp2_with fail
     refine Oh (yc) (ya) [9] [9] [0,1,2,3,4,5,6,7,8,9] zK zK ?_;refine Ph (ya) ?_;intro Wc da;refine Te ?_;refine Fe ya rfl rfl rfl rfl (fun w' hR=>ie.out _) ?_
     refine zPU ?_;refine Te ?_;refine oo rfl rfl rfl rfl ?_;intro wh Md;replace da:=zM ya da Md;replace kr:=kr.drew.below da kr.lt;replace ks:=ks.drew.below da ks.lt;replace ba:=pa ba.drew da;clear cs ls da Md cl;have c2:=ks.cell;have f2:=ks.frozen;go_simp;refine ⟨fun h=>Bool.noConfusion h,?_⟩
     have hg:wh.grownBy (wh.setCell ⟨g,0,vB⟩ (vd vq na)) (vD g):=tj (p:=⟨g,0,vB⟩) (Mg wh _) (.inl rfl) _;replace ks:=ks.set_ 0 (vd vq na);simp at ks
     replace kr:=kr.grown hg (fun e=>by have:=Pb e;omega)
     replace ba:=Qe ba hg;clear hg c2 f2;generalize wh.setCell _ _=Dz at ks kr ba |-;refine Fp rfl ?_;have Jn:Dz.cell? ⟨bb,bq+i1,vB⟩=vD (vd vq y):=by obtain ⟨b3,q3,e3,-,h3⟩:=Ve (zB.out.below ba) yn.out;have e4:=Pb e3;injection e4 with e5 e6;subst e5 e6;rw [h3,jN.out,HY.out]
     have Vn:bb<Dz.1.size:=Af _ _ Jn;have cs:=ks.cell;have ls:=ks.lt;go_wp2_with fail
     refine Oh (yc) (ya) [10] [10] [0,1,2,3,4,5,6,7,8,9,10] zK zK ?_;refine Ph (ya) ?_;intro Wc da;refine Te ?_;refine Fe ya rfl rfl rfl rfl (fun w' hR=>Hp.out _) ?_
     refine zPU ?_;refine Te ?_;refine oo rfl rfl rfl rfl ?_;intro wh Md;replace da:=zM ya da Md;replace kr:=kr.drew.below da kr.lt;replace ks:=ks.drew.below da ks.lt;replace ba:=pa ba.drew da;clear cs ls da Md Jn;have c2:=ks.cell;have f2:=ks.frozen;go_simp;refine ⟨fun h=>Bool.noConfusion h,?_⟩
     have hg:wh.grownBy (wh.setCell ⟨g,1,vB⟩ (vd vq nb)) (vD g):=tj (p:=⟨g,1,vB⟩) (Mg wh _) (.inl rfl) _;replace ks:=ks.set_ 1 (vd vq nb);simp at ks
     replace kr:=kr.grown hg (fun e=>by have:=Pb e;omega)
     replace ba:=Qe ba hg;clear hg c2 f2;generalize wh.setCell _ _=Wf1 at ks kr ba |-;refine Fp rfl ?_;have cs:=ks.cell;go_wp2_with fail
     refine (HX.out _).mono ?_;rintro e w5 ⟨rfl,Lb⟩;replace kr:=ma kr Lb;replace ks:=ma ks Lb;replace ba:=pa ba Lb;clear cs Lb;have cs:=ks.cell;have fs:=ks.frozen;go_wp2_with fail
     have hg:=Cp (w:=w5) (g:=g) (vd vq z.a) (vd vq z.b) (vd vq z.c);have kz:=zp ks (vd vq z.a) (vd vq z.b) (vd vq z.c);replace kr:=kr.grown hg (fun e=>by have:=Pb e;omega)
     replace ba:=Qe ba hg;clear hg cs fs ks;generalize ((vE w5 _ _).setCell _ _).setCell _ _=Wz at kz kr ba |-
     go_roundw
     case rel=>exact ⟨i+2,z,zO,by go_num,kr,kz,ba,HZ.out⟩
     case measure=>simp [intOf];omega
    ·have aA:i+1=l.length:=by omega
     have HD:=zH (kU aA);have g3:¬((i:Int)+1<(l.length:Int)):=by omega
     subst eA;have zn:=zH (show Mo p [l.getD i 0] ⟨qa,qb,qc⟩=fin by rw [<- HD.out];exact HI.out)
     have ux:=zH (show l.drop (i+2)=[] from List.drop_of_length_le zO)
     clear HD ta Ka hx;generalize l.getD i 0=x at *;have ie:=zH (fun w=>HA.out qa x w)
     obtain ⟨na,Ng⟩:=zEX ((qa+x)%p);rw [<- Ng] at ie;obtain ⟨z,hz⟩:=zEX (ku p ⟨na,qb,qc⟩);have HX:=zH (show ∀ w,vA prog 245 #[vd vq p,vf #[vd vq na,vd vq qb,vd vq qc]] w fun e w'=>e=vn (vf #[vd vq z.a,vd vq z.b,vd vq z.c]) /\ vz w.1.size w w' from fun w=>by rw [hz];exact HP.out ⟨na,qb,qc⟩ w)
     have HZ:=zH (show Mo p (l.drop (i+2)) z=fin by rw [hz];rw [ux.out,Ng];exact zn.out)
     clear hz;clear zn ux Ih aA Ng;have cs:=ks.cell;have ls:=ks.lt;go_wp2_with fail
     refine Oh (yc) (ya) [9] [9] [0,1,2,3,4,5,6,7,8,9] zK zK ?_;refine Ph (ya) ?_;intro Wc da;refine Te ?_;refine Fe ya rfl rfl rfl rfl (fun w' hR=>ie.out _) ?_
     refine zPU ?_;refine Te ?_;refine oo rfl rfl rfl rfl ?_;intro wh Md;replace da:=zM ya da Md;replace kr:=kr.drew.below da kr.lt;replace ks:=ks.drew.below da ks.lt;replace ba:=pa ba.drew da;clear cs ls da Md cl;have c2:=ks.cell;have f2:=ks.frozen;go_simp;refine ⟨fun h=>Bool.noConfusion h,?_⟩
     have hg:wh.grownBy (wh.setCell ⟨g,0,vB⟩ (vd vq na)) (vD g):=tj (p:=⟨g,0,vB⟩) (Mg wh _) (.inl rfl) _;replace ks:=ks.set_ 0 (vd vq na);simp at ks
     replace kr:=kr.grown hg (fun e=>by have:=Pb e;omega)
     replace ba:=Qe ba hg;clear hg c2 f2;generalize wh.setCell _ _=Dz at ks kr ba |-;refine Fp rfl ?_;have cs:=ks.cell;go_wp2_with fail
     refine (HX.out _).mono ?_;rintro e w5 ⟨rfl,Lb⟩;replace kr:=ma kr Lb;replace ks:=ma ks Lb;replace ba:=pa ba Lb;clear cs Lb;have cs:=ks.cell;have fs:=ks.frozen;go_wp2_with fail
     have hg:=Cp (w:=w5) (g:=g) (vd vq z.a) (vd vq z.b) (vd vq z.c);have kz:=zp ks (vd vq z.a) (vd vq z.b) (vd vq z.c);replace kr:=kr.grown hg (fun e=>by have:=Pb e;omega)
     replace ba:=Qe ba hg;clear hg cs fs ks;generalize ((vE w5 _ _).setCell _ _).setCell _ _=Wz at kz kr ba |-
     go_roundw
     case rel=>exact ⟨i+2,z,zO,by go_num,kr,kz,ba,HZ.out⟩
     case measure=>simp [intOf];omega
  ·have HQ:=zH (show (⟨qa,qb,qc⟩:St)=fin by have:=HI.out;rw [List.drop_of_length_le zO] at this;exact this)
   have g2:¬((i:Int)<l.length):=by omega
   have gi:((i:Int) == 0)=false:=by rw [Je];omega
   have cs:=ks.cell;have cr:=kr.cell;have fr:=kr.frozen;clear Ka ta;go_wp2_with fail
   have hg:=Cp (w:=wr) (g:=w.1.size) (vd vq qa) (vd vq qb) (vd vq qc);have kz:=zp kr (vd vq qa) (vd vq qb) (vd vq qc);clear cs cr fr kr ks;generalize ((vE wr _ _).setCell _ _).setCell _ _=Wz at hg kz |-;have cz:=kz.cell;exact Tc (v:=vf #[vd vq qa,vd vq qb,vd vq qc]) (by simp [results,results244,go_sem,cz]) rfl ⟨by rw [<- HQ.out];rfl,ba.trans (Po hg ba.size zR)⟩
def IF (p:Nat) (s:St):Nat -> St
 | 0=>s
 | m+1=>ku p (IF p s m)
def VA (p:Nat) (s:St) (k:Nat):Nat:=(IF p s (k / 2)).at_ (k%2)
theorem zHA (f:Nat -> Nat) (n k:Nat):Fb n (ui (fun i=>if i<k then f i else 0) k (f k))=Fb n fun i=>if i<k+1 then f i else 0:=by
 refine aE fun i _=>?_
 simp only [ui];by_cases h:i=k
 ·subst h;rw [Gb rfl,Gb zO]
 ·rw [mb h]
  by_cases h2:i<k
  ·rw [Gb h2,Gb zO]
  ·rw [mb h2,mb zO]
theorem Zi {w w':vv} {base B:Nat} {e:vy} {size:Nat} {v:vw} {n:Nat} {xs:List vw} (h:w.ownsRow base e size v n xs) (hg:w.grownBy w' (vD B)) (hB:B<base):w'.ownsRow base e size v n xs:=by
 obtain ⟨h1,h2⟩:=h;refine ⟨h1,?_⟩;rcases h2 with h2 | ⟨g,cap,cur,hv,Vo,hh,r⟩
 ·exact Or.inl h2
 ·exact Or.inr ⟨g,cap,cur,hv,Vo,by rw [hg.block g (Ky.1 hh).1 (fun e=>by have:=Pb e;omega)];exact hh,r⟩
theorem JC (f:Nat -> Nat) (i:Nat):(List.range i).map f++[f i]=(List.range (i+1)).map f:=by simp [OB]
theorem zGH (p label:Nat) (A:Option vx) (n c m:Nat) (l:List Nat) (w:vv) (hp:jc p=true) (hl:RWd w [ve A n c] l) (Ua:0<l.length) (hlen:l.length <= 1000000) (hm:m <= 65536) :
  vA prog 178 #[vd vq p,vd vq label,ve A n c,vd vt m] w fun e w'=>∃ v,e=vn v /\ w'.ownsRow w.1.size 22 1 v m (Qa ((List.range m).map (VA p (Mq p label l)))) /\ vz w.1.size w w':=by
 obtain ⟨Lc,Nb⟩:=tc hp;have HV:=zH (fun w=>by have:=tq p w Nb;rw [hp] at this;exact this)
 have zq:=zH (fun w' (hb:vz w.1.size w w')=>B8 p label A n c l w' hp (Sa hb hl) Ua hlen)
 have HP:=zH (fun s w=>R8 p s w hp)
 have g0:¬((m:Int)<0):=by omega
 have g1:(m:Int) <= 65536:=by omega
 clear hl Ua hlen hp Lc Nb;generalize Mq p label l=s at *;go_enter func178,ntmps178
 go_wp2_with fail
 refine (HV.out _).mono ?_;rintro e w1 ⟨rfl,La⟩;go_wp2_with fail
 refine (zq.out _ La).mono ?_;rintro e w2 ⟨rfl,Da⟩;have ba:=pa La Da;have ev:s.val=vf #[vd vq s.a,vd vq s.b,vd vq s.c]:=rfl;rw [ev];obtain ⟨ks0,ja⟩:=zN w2 275 #[vd vq s.a,vd vq s.b,vd vq s.c];have Pg:=ba.size;replace ba:=pa ba ja;clear ev La Da ja;go_upto_region 4 with fail
 generalize w2.alloc _=w3 at ks0 ba |-;generalize w2.1.size=gs at *;have ks:Blk w3 gs 275 (IF p s (0 / 2)).cs:=ks0;clear ks0;have kH:gs<w3.1.size:=ks.lt;go_wp2_with fail
 go_loopw [10,11] (fun v y wr=>∃ i:Nat,i <= m /\ y=vd vt i /\ Blk wr gs 275 (IF p s (i / 2)).cs /\ wr.ownsRow w3.1.size 22 1 v i (Qa ((List.range i).map (VA p s))) /\ vz w.1.size w wr /\ w3.1.size <= wr.1.size) (fun _ y _=>m-(intOf y).toNat)
 case atStart=>exact ⟨0,Rb _,rfl,ks,⟨rfl, .inl ⟨rfl,rfl⟩⟩,ba,zR⟩
 case round =>
  clear ks ba;obtain ⟨i,hi,rfl,ks,oa,ba,db⟩:=hrel;by_cases ta:i<m
  ·have g2:(i:Int)<m:=by omega
   have g3:(0:Int)<=i:=by omega
   obtain ⟨sv,sC⟩:=zEX (VA p s i);obtain ⟨j,hj⟩:=zEX (i%2);have Sj:j<3:=by omega
   have ej:(i:Int)%2=(j:Int):=by omega
   have ej2:(i:Int).tmod 2=(j:Int):=by rw [Ex zO];exact ej
   have HSQ:=zH (show (IF p s (i / 2)).at_ j=sv by rw [hj,sC];rfl)
   have Fq:=zH (show (List.range i).map (VA p s)++[sv]=(List.range (i+1)).map (VA p s) by rw [sC];exact JC _ _)
   have cj:=ks.cell j;rw [St.cs_at _ Sj,HSQ.out] at cj;obtain ⟨q,hq⟩:=zEX (IF p s (i / 2));rw [<- hq] at ks;have HQ:=zH hq.symm;have HJ:=zH hj;clear sC hq hj;go_wp2_with (at_builtin;refine fe rfl _ _ rfl Ag rfl (oa.alloc _) rfl (mh _ _ _) (Gf [sv]) zO zT ?_)
   intro v' wn Va Ja tb;have ja:=zA wr (.cells #[vd vq sv] 22);have hB:=Ee (oa.alloc _) Ja zT;have hks:=(ma ks ja).below hB kH;replace ba:=(Pk ba ja ba.size).trans (hB.mono (zQ ba.size));have hszn:w3.1.size <= wn.1.size:=by have:=Ja.size;simp at this;omega
   replace Va:wn.ownsRow w3.1.size 22 1 v' (i+1) (Qa ((List.range (i+1)).map (VA p s))):=Ii (a:=(List.range i).map (VA p s)) (b:=[sv]) Va Fq.out;clear oa Ja tb ja hB ks cj db;rcases (show j=0 \/ j=1 by have:=HJ.out;omega) with h0 | h1
   ·have d3:((j:Int) == 1)=false:=by rw [Je];omega
    have HH:=zH (show i / 2=(i+1) / 2 by have:=HJ.out;omega)
    rw [<- HQ.out,HH.out] at hks;clear h0;go_wp2
    go_roundw
    case rel=>exact ⟨i+1,zO,by go_num,hks,Va,ba,hszn⟩
    case measure=>simp [intOf];omega
   ·have d3:((j:Int) == 1)=true:=by rw [Qk];omega
    have HH:=zH (show (i+1) / 2=i / 2+1 by have:=HJ.out;omega)
    obtain ⟨z,hz⟩:=zEX (ku p q);have HZ:=zH (show IF p s ((i+1) / 2)=z by rw [HH.out,IF,HQ.out,hz])
    have HX:=zH (show ∀ w,vA prog 245 #[vd vq p,vf #[vd vq q.a,vd vq q.b,vd vq q.c]] w fun e w'=>e=vn (vf #[vd vq z.a,vd vq z.b,vd vq z.c]) /\ vz w.1.size w w' from fun w=>by rw [hz];exact HP.out q w)
    have Er:Blk wn gs 275 #[vd vq q.a,vd vq q.b,vd vq q.c]:=hks;clear h1 hz hks;have cs:=Er.cell;go_wp2_with fail
    refine (HX.out _).mono ?_;rintro e w5 ⟨rfl,Lb⟩;replace Er:=ma Er Lb;replace Va:=yb Va Lb zR;replace ba:=pa ba Lb;have Rt:=Lb.size;clear cs Lb;have cs:=Er.cell;have fs:=Er.frozen;go_wp2_with fail
    have hg:=Cp (w:=w5) (g:=gs) (vd vq z.a) (vd vq z.b) (vd vq z.c);have ks:Blk _ gs 275 z.cs:=zp Er (vd vq z.a) (vd vq z.b) (vd vq z.c);replace Va:=Zi Va hg kH;replace ba:=Qe ba hg;have hs6:=hg.size;clear hg cs fs Er
    go_roundw
    case rel=>exact ⟨i+1,zO,by go_num,by rw [HZ.out];exact ks,Va,ba,zO⟩
    case measure=>simp [intOf];omega
  ·obtain rfl:i=m:=by omega
   go_wp2;go_ret
   exact ⟨_,rfl,Bh oa zO,ba⟩
def Ob:Nat:=18446744069414584321
theorem LO:jc Ob=true:=by decide
def drawAt (x:Nat) (r:List Nat) (k:Nat):Nat:=VA Ob (Mq Ob 22 (x%Ob :: r)) k
def drawP (p x:Nat) (r:List Nat) (k:Nat):Nat:=drawAt x r k%p
def St.lt (p:Nat) (s:St):Prop:=s.a<p /\ s.b<p /\ s.c<p
theorem IW {p:Nat} (hp:0<p) (s:St):(ku p s).lt p:=⟨Ic _ hp,Ic _ hp,Ic _ hp⟩
theorem MT {p:Nat} (hp:0<p):∀ (l:List Nat) (s:St),s.lt p -> (Mo p l s).lt p
 | [],_,h=>h
 | [_],_,_=>IW hp _
 | _ :: _ :: r,_,_=>MT hp r _ (IW hp _)
theorem zFH {p:Nat} (hp:0<p) (s:St) (h:s.lt p):∀ m,(IF p s m).lt p
 | 0=>h
 | _+1=>IW hp _
theorem zHz (p label:Nat) (l:List Nat) (k:Nat) (hp:0<p):VA p (Mq p label l) k<p:=by
 have h:=zFH hp _ (MT hp l ⟨0,0,(label*65536%p+l.length)%p⟩ ⟨hp,hp,Ic _ hp⟩) (k / 2);show St.at_ _ (k%2)<p
 unfold St.at_;split
 ·exact h.1
 ·split
  ·exact h.2.1
  ·exact h.2.2
theorem zG7 (p:Nat) (A:Option vx) (n c m:Nat) (l:List Nat) (w:vv) (hp:0<p) (Nb:p<18446744073709551616) (hl:RWd w [ve A n c] l) (Ua:0<l.length) (hlen:l.length <= 1000000) (hm:m <= 65536) :
  vA prog 92 #[vd vq p,vd vt m,ve A n c] w fun e w'=>∃ v,e=vn v /\ w'.ownsRow w.1.size 22 1 v m (Qa ((List.range m).map fun k=>VA Ob (Mq Ob 22 l) k%p)) /\ vz w.1.size w w':=by
 have HS:=zH (zGH Ob 22 A n c m l w LO hl Ua hlen hm);have HB:=zH (fun k=>gg (zHz Ob 22 l k zD) (show Ob<18446744073709551616 by decide))
 clear hl Ua hlen;generalize VA Ob (Mq Ob 22 l)=fs at *;unfold Ob at HS;go_enter func92,ntmps92
 go_wp2_with fail
 refine HS.out.mono ?_;rintro e w1 ⟨v,rfl,hv,ba⟩;obtain ⟨A1,c1,rfl,yd,Rf,Ka,-⟩:=mc hv;have jy:RWd w1 [ve A1 m c1] ((List.range m).map fs):=Yf hv (fun x hx=>by
  obtain ⟨k,_,rfl⟩:=Ie.1 hx;exact HB.out k)
 clear hv Ka;go_wp2_with fail
 go_loopw [8,9] (fun v y wr=>∃ i:Nat,i <= m /\ y=vd vt i /\ wr.ownsRow w1.1.size 22 1 v i (Qa ((List.range i).map fun k=>fs k%p)) /\ vz w1.1.size w1 wr) (fun _ y _=>m-(intOf y).toNat)
 case atStart=>exact ⟨0,Rb _,rfl,ju _ _ zR,(Bb _ _).alloc zR _⟩
 case round =>
  obtain ⟨i,hi,rfl,oa,La⟩:=hrel;by_cases ta:i<m
  ·have g2:(i:Int)<m:=by omega
   have g3:(0:Int)<=i:=by omega
   obtain ⟨-,-,-,-,Ka⟩:=Mb (Sa La jy);have hlen:((List.range m).map fs).length=m:=by simp
   have Ka:Rd wr 1 A1 ((List.range m).map fs).length (Qa ((List.range m).map fs)):=by rw [hlen];exact Ka
   obtain ⟨b,q,rfl,Zb,hc⟩:=Ve Ka (j:=i) (by rw [hlen];exact ta)
   have hgi:((List.range m).map fs).getD i 0=fs i:=by simp [ta]
   rw [hgi] at hc;obtain ⟨fi,Tk⟩:=zEX (fs i);obtain ⟨z,hz⟩:=zEX (fi%p);have Fq:=zH (show ((List.range i).map fun k=>fs k%p)++[z]=(List.range (i+1)).map fun k=>fs k%p by rw [hz,Tk];exact JC (fun k=>fs k%p) _)
   rw [<- Tk] at hc;have Zo:(p:Int)≠0:=by omega
   have Lc:((p:Int) == 0)=false:=by rw [Je];omega
   have e1:(fi:Int)%(p:Int)=z:=by rw [hz];exact (Int.natCast_emod _ _).symm
   have e2:(fi:Int).tmod (p:Int)=z:=by rw [Ex zO];exact e1
   clear Tk hz hgi hlen Ka;have Nc:=La.size;go_wp2_with (at_builtin;refine fe rfl _ _ rfl Ag rfl (oa.alloc _) rfl (mh _ _ _) (Gf [z]) zO zT ?_)
   intro v' wn Va Ja tb;have ja:=zA wr (.cells #[vd vq z] 22);have hB:=Ee (oa.alloc _) Ja (by simp;have:=La.size;omega)
   replace La:=(Pk La ja La.size).trans hB;replace Va:wn.ownsRow w1.1.size 22 1 v' (i+1) (Qa ((List.range (i+1)).map fun k=>fs k%p)):=Ii (a:=(List.range i).map fun k=>fs k%p) (b:=[z]) Va Fq.out
   clear oa Ja tb ja hB hc Zb Nc;go_wp2
   go_roundw
   case rel=>exact ⟨i+1,zO,by go_num,Va,La⟩
   case measure=>simp [intOf];omega
  ·obtain rfl:i=m:=by omega
   go_wp2;go_ret
   exact ⟨_,rfl,Bh oa ba.size,pa ba La⟩
structure Qn where
 lab:Nat
 el:List Nat
 ans:Nat
structure Oa where
 ideal:Bool
 st:Nat
 dr:Nat
 qs:List Qn
def Uc (l:List Nat):Bool:=l.all fun x=>decide (x<Ob)
def Dj (lab:Nat) (l:List Nat):Nat:=(Mq Ob lab l).a
theorem VM (lab:Nat) (l:List Nat):Dj lab l<Ob:=(MT (p:=Ob) zD l ⟨0,0,(lab*65536%Ob+l.length)%Ob⟩ ⟨show 0<Ob by decide,show 0<Ob by decide,Ic _ zD⟩).1
def Vx (s:Nat):Nat:=(s+11400714819323198485)%18446744073709551616
def NL (z:Nat):Nat:=(z ^^^ (z >>> 30))*13787848793156543929%18446744073709551616
def OL (z:Nat):Nat:=(z ^^^ (z >>> 27))*10723151780598845931%18446744073709551616
def QL (z:Nat):Nat:=(z ^^^ (z >>> 31))%Ob
def dMix (z:Nat):Nat:=QL (OL (NL z))
def aj (lab:Nat) (el:List Nat) (q:Qn):Bool:=q.lab == lab&&q.el == el
def oe (qs:List Qn) (lab:Nat) (el:List Nat):Option Nat:=(qs.find? (aj lab el)).map (·.ans)
def rk (O:Oa) (lab:Nat) (el:List Nat) (a:Nat):Oa:=⟨O.ideal,O.st,O.dr,O.qs++[⟨lab,el,a⟩]⟩
def Mn (O:Oa):Oa:=⟨O.ideal,Vx O.st,O.dr+1,O.qs⟩
def Ln (O:Oa):Nat:=dMix (Vx O.st)
def Nl (O:Oa) (lab:Nat) (el:List Nat):Option Nat :=
 if Uc el then (match oe O.qs lab el with | some a=>vD a | none=>if O.ideal then vB else vD (Dj lab el)) else vB
def Pe (O:Oa) (lab:Nat) (el:List Nat):Nat :=
 if Uc el then (match oe O.qs lab el with | some a=>a | none=>if O.ideal then Ln O else Dj lab el) else 0
def td (O:Oa) (lab:Nat) (el:List Nat):Oa :=
 if Uc el then (match oe O.qs lab el with | some _=>O | none=>if O.ideal then rk (Mn O) lab el (Ln O) else rk O lab el (Dj lab el)) else O
def newO (ideal:Bool) (de:Nat):Oa:=⟨ideal,de,0,[]⟩
def yh:List Nat -> List Nat
 | []=>[]
 | x :: r=>Kn x 8++yh r
theorem oR:∀ (a b:List Nat),yh (a++b)=yh a++yh b
 | [],b=>rfl
 | x :: r,b=>by simp [yh,oR r b]
theorem qR:∀ (l:List Nat),(yh l).length=8*l.length
 | []=>rfl
 | x :: r=>by simp [yh,qR r,ZV];omega
theorem kZ:∀ (k n:Nat),∀ x∈Kn n k,x<256
 | 0,_,x,h=>by simp [Kn] at h
 | k+1,n,x,h=>by
  simp only [Kn,Ij] at h;rcases h with rfl | h
  ·omega
  ·exact kZ k _ x h
theorem YV:∀ (l:List Nat),∀ x∈yh l,x<256
 | [],x,h=>by simp [yh] at h
 | y :: r,x,h=>by
  simp only [yh,Lq] at h;rcases h with h | h
  ·exact kZ 8 y x h
  ·exact YV r x h
theorem jZ:∀ (k a b:Nat),a<256^k -> b<256^k -> Kn a k=Kn b k -> a=b
 | 0,a,b,ha,hb,_=>by simp at ha hb;omega
 | k+1,a,b,ha,hb,h=>by
  simp only [Kn,List.cons.injEq] at h;rw [qj] at ha hb;have:=jZ k (a / 256) (b / 256) zO zO h.2;omega
theorem N4:∀ {a b:List Nat},(∀ x∈a,x<18446744073709551616) -> (∀ x∈b,x<18446744073709551616) -> yh a=yh b -> a=b
 | [],[],_,_,_=>rfl
 | [],y :: r,_,_,h=>by have:=congrArg List.length h;simp [qR] at this
 | y :: r,[],_,_,h=>by have:=congrArg List.length h;simp [qR] at this
 | x :: r,y :: s,ha,hb,h=>by
  simp only [yh] at h;obtain ⟨h1,h2⟩:=List.append_inj h (by simp [ZV])
  have e1:=jZ 8 x y (zQ (ha x zS)) (zQ (hb y zS)) h1;have e2:=N4 (fun z hz=>ha z (by simp [hz])) (fun z hz=>hb z (by simp [hz])) h2
  rw [e1,e2]
theorem zAJ:∀ {a b:List Nat},(∀ x∈a,x<256) -> (∀ x∈b,x<256) -> a.map (fun n=>UInt8.ofNat n)=b.map (fun n=>UInt8.ofNat n) -> a=b
 | [],[],_,_,_=>rfl
 | [],y :: r,_,_,h=>by simp at h
 | y :: r,[],_,_,h=>by simp at h
 | x :: r,y :: s,ha,hb,h=>by
  simp only [List.map_cons,List.cons.injEq] at h;have e1:x=y:=by
   have h3:=congrArg UInt8.toNat h.1;simp only [UInt8.toNat_ofNat'] at h3;have:=ha x zS;have:=hb y zS;omega
  rw [e1,zAJ (fun z hz=>ha z (by simp [hz])) (fun z hz=>hb z (by simp [hz])) h.2]
def jo (lab:Nat) (el:List Nat):Lit:=.string ((yh (lab :: el)).map fun n=>UInt8.ofNat n)
theorem Z3 (lab:Nat) (el:List Nat):WideAt.IsKeyLit (jo lab el):=trivial
theorem sh {a:Nat} {l:List Nat} {B:Nat} (h:a<B) (hl:∀ x∈l,x<B):∀ x∈a :: l,x<B:=fun x hx=>by
 rcases Ij.1 hx with rfl | hx
 ·exact h
 ·exact hl x hx
theorem Y3 {lab DA:Nat} {el el':List Nat} (h1:lab<18446744073709551616) (h2:DA<18446744073709551616) (h3:∀ x∈el,x<18446744073709551616) (h4:∀ x∈el',x<18446744073709551616) (h:jo lab el=jo DA el'):lab=DA /\ el=el':=by
 unfold jo at h
 injection h with h
 have:=N4 (a:=lab :: el) (b:=DA :: el') (sh h1 h3) (sh h2 h4) (zAJ (YV _) (YV _) h)
 injection this with e1 e2
 exact ⟨e1,e2⟩
def OH (qs:List Qn):DataW Unit × Nat:=qs.foldl (fun s q=>(s.1.put (jo q.lab q.el) (.lit (.int vt s.2)),s.2+1)) (.map [],0)
def Rw (qs:List Qn):DataW Unit:=(OH qs).1
theorem I4 (qs:List Qn) (q:Qn):OH (qs++[q])=((OH qs).1.put (jo q.lab q.el) (.lit (.int vt ((OH qs).2:Int))),(OH qs).2+1):=by simp [OH,List.foldl_append]
theorem xS {p:List Qn -> Prop} (h0:p []) (h1:∀ l q,p l -> p (l++[q])) (l:List Qn):p l:=by
 have:∀ n (l:List Qn),l.length=n -> p l:=by
  intro n
  induction n with
  | zero=>intro l hl;rw [List.eq_nil_of_length_eq_zero hl];exact h0
  | succ n ih =>
   intro l hl;have Ua:l≠[]:=fun e=>by rw [e] at hl;simp at hl
   rw [<- List.dropLast_concat_getLast Ua];exact h1 _ _ (ih _ (by simp [hl]))
 exact this _ l rfl
theorem zDI (qs:List Qn):(OH qs).2=qs.length:=xS (p:=fun qs=>(OH qs).2=qs.length) rfl (fun l q h=>by rw [I4];simp [h]) qs
theorem jR (qs:List Qn) (q:Qn):Rw (qs++[q])=(Rw qs).put (jo q.lab q.el) (.lit (.int vt qs.length)):=by
 unfold Rw;rw [I4,zDI]
theorem G4 (qs:List Qn):IsMap (Rw qs):=xS (p:=fun qs=>IsMap (Rw qs)) isMap_empty (fun l q h=>by rw [jR];exact h.put _ _) qs
theorem RL {l:List Nat} (h:Uc l=true):∀ x∈l,x<18446744073709551616:=fun x hx=>by
 have:=of_decide_eq_true (Wg.1 h x hx);unfold Ob at this;omega
structure xN (q:Qn):Prop where
 lab:q.lab<18446744073709551616
 el:Uc q.el=true
 ans:q.ans<Ob
 len:q.el.length <= 1000000
structure OrcOk (O:Oa):Prop where
 st:O.st<18446744073709551616
 qs:∀ q∈O.qs,xN q
 apart:O.qs.Pairwise fun a b=>¬(a.lab=b.lab /\ a.el=b.el)
 real:O.ideal=false -> ∀ q∈O.qs,q.ans=Dj q.lab q.el
theorem XO {lab:Nat} {el:List Nat} {q:Qn}:aj lab el q=true↔q.lab=lab /\ q.el=el:=by simp [aj]
theorem J4 {qs:List Qn} {lab:Nat} {el:List Nat} (h1:lab<18446744073709551616) (h2:∀ x∈el,x<18446744073709551616):(∀ q∈qs,xN q) -> Maps.has (Rw qs) (jo lab el)=(oe qs lab el).isSome:=by
 refine xS (p:=fun qs=>(∀ q∈qs,xN q) -> Maps.has (Rw qs) (jo lab el)=(oe qs lab el).isSome) (fun _=>rfl) (fun l q ih hq=>?_) qs
 have ih:=ih fun x hx=>hq x (by simp [hx])
 have hk:=hq q zS;rw [jR];by_cases e:jo lab el=jo q.lab q.el
 ·obtain ⟨e1,e2⟩:=Y3 h1 hk.lab h2 (RL hk.el) e
  rw [e,has_put_same (G4 l) (Z3 _ _)];unfold oe;rw [Option.isSome_map,List.find?_isSome.2 ⟨q,zS,XO.2 ⟨e1.symm,e2.symm⟩⟩]
 ·rw [has_put_other e,ih]
  unfold oe;rw [List.find?_append];have:aj lab el q=false:=by
   cases hc:aj lab el q
   ·rfl
   ·obtain ⟨e1,e2⟩:=XO.1 hc
    exact absurd (by rw [e1,e2]) e
  simp [this]
theorem zDJ {qs:List Qn} {lab:Nat} {el:List Nat} (h1:lab<18446744073709551616) (h2:∀ x∈el,x<18446744073709551616):(∀ q∈qs,xN q) -> (qs.Pairwise fun a b=>¬(a.lab=b.lab /\ a.el=b.el)) -> ∀ a,oe qs lab el=vD a -> ∃ (i:Nat) (q:Qn),qs[i]?=vD q /\ q.ans=a /\ ∀ z,(Rw qs).atKey (jo lab el) z= .lit (.int vt i):=by
 refine xS (p:=fun qs=>(∀ q∈qs,xN q) -> (qs.Pairwise fun a b=>¬(a.lab=b.lab /\ a.el=b.el)) -> ∀ a,oe qs lab el=vD a -> ∃ (i:Nat) (q:Qn),qs[i]?=vD q /\ q.ans=a /\ ∀ z,(Rw qs).atKey (jo lab el) z= .lit (.int vt i)) (fun _ _ a h=>by simp [oe] at h) (fun l q ih hq hp a ha=>?_) qs
 have hk:=hq q zS;rw [List.pairwise_append] at hp;have ih:=ih (fun x hx=>hq x (by simp [hx])) hp.1 a
 rw [jR];by_cases e:jo lab el=jo q.lab q.el
 ·obtain ⟨e1,e2⟩:=Y3 h1 hk.lab h2 (RL hk.el) e
  refine ⟨l.length,q,zS,?_,fun z=>by rw [e];exact atKey_put_same (G4 l) (Z3 _ _) _ _⟩
  unfold oe at ha;rw [List.find?_append] at ha;have hn:l.find? (aj lab el)=vB:=List.find?_eq_none.2 fun x hx hc=>by
   obtain ⟨e3,e4⟩:=XO.1 hc;exact hp.2.2 x hx q zS ⟨by rw [e3,e1],by rw [e4,e2]⟩
  rw [hn] at ha;simp [aj,e1.symm,e2.symm] at ha
  exact ha
 ·have Ot:aj lab el q=false:=by
   cases hc:aj lab el q
   ·rfl
   ·obtain ⟨e1,e2⟩:=XO.1 hc
    exact absurd (by rw [e1,e2]) e
  have:oe l lab el=vD a:=by
   unfold oe at ha |-;rw [List.find?_append] at ha
   simpa [Ot] using ha
  obtain ⟨i,q',h3,h4,h5⟩:=ih this;exact ⟨i,q',by rw [zL (Ky.1 (by simpa using (show l.toArray[i]?=vD q' by simpa using h3))).1];exact h3,h4,fun z=>by rw [atKey_put_other e];exact h5 z⟩
def Kg (K:Nat -> Prop) (w:vv) (v:vw) (l:List Nat):Prop:=∀ u:vv,(∀ b,K b -> b<w.1.size -> u.1[b]?=w.1[b]?) -> RWd u [v] l
section
variable {K K' F F' tI:Nat -> Prop} {w w' Dp u:vv} {v:vw} {l:List Nat}
theorem jq (h:Kg K w v l):RWd w [v] l:=h w fun _ _ _=>rfl
theorem lF (h:Kg K w v l) (hs:w.1.size <= w'.1.size) (hw:∀ b,K b -> b<w.1.size -> w'.1[b]?=w.1[b]?):Kg K w' v l :=
 fun u hu=>h u fun b hb hl=>(hu b hb zO).trans (hw b hb hl)
theorem K4 (h:Kg K w v l) (hk:∀ b,K b -> K' b):Kg K' w v l:=fun u hu=>h u fun b hb hl=>hu b (hk b hb) hl
theorem Dr (h:Kg K w v l) (hb:vz w.1.size w w'):Kg K w' v l:=lF h hb.size fun b _ hl=>hb.block b hl
theorem Ge {base n size:Nat} {e:vy} {xs:List vw} (h:w.ownsRow base e size v n xs) (ha:∀ b,v.ownBlock=vD b -> u.1[b]?=w.1[b]?):u.ownsRow base e size v n xs:=by
 obtain ⟨h1,h2⟩:=h;refine ⟨h1,?_⟩;rcases h2 with h2 | ⟨g,cap,cur,hv,Vo,hh,r⟩
 ·exact Or.inl h2
 ·exact Or.inr ⟨g,cap,cur,hv,Vo,by rw [ha g (by rw [hv];rfl)];exact hh,r⟩
theorem vM {base n:Nat} {e:vy} (h:w.ownsRow base e 1 v n (Qa l)) (hl:∀ x∈l,x<18446744073709551616):Kg (fun b=>v.ownBlock=vD b) w v l:=fun u hu=>by
 have ho:=Ge h fun b hb=>hu b hb (h.lt b hb).2
 obtain ⟨A,c,rfl,-⟩:=mc ho;exact Yf ho hl
theorem TV {g n:Nat} {t:vy} (h:Blk w g t (Qa l).toArray) (hn:l.length=n) (hl:∀ x∈l,x<18446744073709551616) (hm:n <= maxLen):Kg (fun b=>b=g) w (ve (vD ⟨g,0,vB⟩) n n) l:=fun u hu=>by
 subst hn;exact TH (t:=t) ((hu g rfl h.lt).trans h) hl hm
theorem CK (h:Kg K w v l):∃ A c,v=ve A l.length c /\ l.length <= c /\ c <= maxLen /\ (∀ x∈l,x<18446744073709551616):=by
 obtain ⟨A,n,c,h1,h2,h3,h4,h5⟩:=jq h;obtain ⟨rfl,h6,h7,h8,h9⟩:=Mb (w:=w) (A:=A) (n:=n) (c:=c) (l:=l) ⟨A,n,c,rfl,h2,h3,h4,h5⟩
 injection h1 with h1
 exact ⟨A,c,h1,h6,h7,h8⟩
structure Moved (F F':Nat -> Prop) (w w':vv):Prop where
 os:w'.os=w.os
 tape:w'.tape=w.tape
 output:w'.output=w.output
 size:w.1.size <= w'.1.size
 block:∀ b,b<w.1.size -> ¬F b -> w'.1[b]?=w.1[b]?
 foot:∀ b,F' b -> F b \/ w.1.size <= b
theorem Moved.refl:Moved F F w w:=⟨rfl,rfl,rfl,zR,fun _ _ _=>rfl,fun _ h=>.inl h⟩
theorem Moved.trans (h:Moved F F' w w') (k:Moved F' tI w' Dp):Moved F tI w Dp :=
 ⟨k.os.trans h.os,k.tape.trans h.tape,k.output.trans h.output,Cb h.size k.size,fun b hb hn=>(k.block b (zQ h.size) (fun hf=>by rcases h.foot b hf with e | e;exact hn e;omega)).trans (h.block b hb hn),
  fun b hb=>by
   rcases k.foot b hb with e | e
   ·exact h.foot b e
   ·exact .inr (Cb h.size e)⟩
theorem xe (h:vz w.1.size w w'):Moved F F w w':=⟨h.os,h.tape,h.output,h.size,fun b hb _=>h.block b hb,fun _ h=>.inl h⟩
theorem EO {row:Option Nat} (h:w.grownBy w' row) (hr:∀ b,row=vD b -> F b):Moved F F w w':=⟨h.os,h.tape,h.output,h.size,fun b hb hn=>h.block b hb (fun e=>hn (hr b e.symm)),fun _ h=>.inl h⟩
theorem nW (h:Moved F F' w w') (hf:∀ b,tI b -> F' b \/ w.1.size <= b):Moved F tI w w':=⟨h.os,h.tape,h.output,h.size,h.block,fun b hb=>by
 rcases hf b hb with e | e
 ·exact h.foot b e
 ·exact .inr e⟩
theorem uF (h:Moved F F' w w'):Moved F F' w w'.drew:=⟨h.os,h.tape,h.output,h.size,h.block,h.foot⟩
theorem qi (h:Moved F F' w w') {b:Nat} (hb:b<w.1.size) (hn:¬F b):¬F' b:=fun hf=>by
 rcases h.foot b hf with e | e
 ·exact hn e
 ·omega
theorem Blk.moved {g:Nat} {t:vy} {cs:Array vw} (h:Blk w g t cs) (m:Moved F F' w w') (hg:¬F g):Blk w' g t cs:=(m.block g h.lt hg).trans h
theorem QR {base n size:Nat} {e:vy} {xs:List vw} (h:w.ownsRow base e size v n xs) (m:Moved F F' w w') (hv:∀ b,v.ownBlock=vD b -> ¬F b):w'.ownsRow base e size v n xs :=
 Ge h fun b hb=>m.block b (h.lt b hb).2 (hv b hb)
theorem JL {w0:vv} (h:vz w0.1.size w0 w) (m:Moved F F' w w') (hF:∀ b,F b -> w0.1.size <= b):vz w0.1.size w0 w' :=
 h.trans ⟨m.os,m.tape,m.output,m.size,fun b hb=>m.block b (zQ h.size) (fun hf=>by have:=hF b hf;omega)⟩
end
def Ul (F:Nat -> Prop) (N:Nat) (w w':vv):Prop:=w'.os=w.os /\ w'.tape=w.tape /\ w'.output=w.output /\ w.1.size <= w'.1.size /\ ∀ b,b<N -> ¬F b -> w'.1[b]?=w.1[b]?
theorem Kb (F:Nat -> Prop) (N:Nat):Wd (Ul F N):=⟨fun _=>⟨rfl,rfl,rfl,zR,fun _ _ _=>rfl⟩,fun _ _ _ h k=>⟨k.1.trans h.1,k.2.1.trans h.2.1,k.2.2.1.trans h.2.2.1,Cb h.2.2.2.1 k.2.2.2.1,fun b h1 h2=>(k.2.2.2.2 b h1 h2).trans (h.2.2.2.2 b h1 h2)⟩⟩
theorem CU {F:Nat -> Prop} {N:Nat} {w w':vv} (h:Ul F N w.drew w'):∀ b o,b<N -> ¬F b -> w'.cell? ⟨b,o,vB⟩=w.cell? ⟨b,o,vB⟩:=fun b o hb Ua=>by
 have:=h.2.2.2.2 b hb Ua;simp only [World.cell?,this]
 rfl
theorem VX {a b:Prop} (h:a) (s:Imp a b:=by
 (repeat ((first | (apply Imp.via (RX (Kb _ _) rfl rfl rfl (fun _ _ _ h=>h))) | (apply Imp.via (QX (v:=?_) (Kb _ _) rfl rfl rfl (fun _ _ _ h=>h) ?hr);case hr=>(intro w' hR;(first | have Yq:=CU ((Kb _ _).trans _ _ _ da (hR rfl)) | skip);clear hR;go_simp;try with_reducible rfl)));simp only [vF,zLa,zLb,zLc]))
 exact Imp.rfl'):b:=s h
theorem Gm {a b:Prop} (h:a) (s:Imp a b:=by
 (repeat ((first | (apply Imp.via (oI (Kb _ _) rfl rfl (fun _ _ _ h=>h))) | (apply Imp.via (nI (v:=?_) (Kb _ _) rfl rfl (fun _ _ _ h=>h) ?hr);case hr=>(intro w' hR;(first | have Yq:=CU ((Kb _ _).trans _ _ _ da hR) | skip);go_simp;try with_reducible rfl)));simp only [vF,zLa,zLb,zLc]))
 exact Imp.rfl'):b:=s h
theorem Ld {F:Nat -> Prop} {N B:Nat} {w w':vv} (h:vz B w w') (hN:N <= B):Ul F N w w':=⟨h.os,h.tape,h.output,h.size,fun b hb _=>h.block b zO⟩
theorem zCY {F F' tI:Nat -> Prop} {N:Nat} {w w':vv} (h:Moved F' tI w w') (hN:N <= w.1.size) (hf:∀ b,b<N -> F' b -> F b):Ul F N w w':=⟨h.os,h.tape,h.output,h.size,fun b hb hn=>h.block b zO (fun e=>hn (hf b hb e))⟩
theorem zCZ {F:Nat -> Prop} {N:Nat} {w w':vv} {row:Option Nat} (h:w.grownBy w' row) (hN:N <= w.1.size) (hr:∀ b,row=vD b -> F b):Ul F N w w':=⟨h.os,h.tape,h.output,h.size,fun b hb hn=>h.block b zO (fun e=>hn (hr b e.symm))⟩
def KD (E:Nat -> Prop) (w:vv) (cs:List vw) (qs:List Qn):Prop :=
 cs.length=qs.length*3 /\ ∀ (i:Nat) (q:Qn),qs[i]?=vD q -> cs[i*3]?=vD (vd vq q.lab) /\ cs[i*3+2]?=vD (vd vq q.ans) /\ ∃ s,cs[i*3+1]?=vD s /\ Kg E w s q.el
theorem NM {E:Nat -> Prop} {w w':vv} {cs:List vw} {qs:List Qn} (h:KD E w cs qs) (hs:w.1.size <= w'.1.size) (hw:∀ b,E b -> b<w.1.size -> w'.1[b]?=w.1[b]?):KD E w' cs qs :=
 ⟨h.1,fun i q hq=>by
  obtain ⟨h1,h2,s,h3,h4⟩:=h.2 i q hq;exact ⟨h1,h2,s,h3,lF h4 hs hw⟩⟩
theorem zF3 {E E':Nat -> Prop} {w:vv} {cs:List vw} {qs:List Qn} (h:KD E w cs qs) (hE:∀ b,E b -> E' b):KD E' w cs qs :=
 ⟨h.1,fun i q hq=>by
  obtain ⟨h1,h2,s,h3,h4⟩:=h.2 i q hq;exact ⟨h1,h2,s,h3,K4 h4 hE⟩⟩
theorem zF4 (E:Nat -> Prop) (w:vv):KD E w [] []:=⟨rfl,fun i q h=>by simp at h⟩
theorem zF2 {E:Nat -> Prop} {w:vv} {cs:List vw} {qs:List Qn} {s:vw} {q:Qn} (h:KD E w cs qs) (hs:Kg E w s q.el):KD E w (cs++[vd vq q.lab,s,vd vq q.ans]) (qs++[q]):=by
 refine ⟨by simp [h.1];omega,fun i x hx=>?_⟩
 by_cases hi:i<qs.length
 ·rw [zL hi] at hx
  obtain ⟨h1,h2,t,h3,h4⟩:=h.2 i x hx;have hl:=h.1;exact ⟨by rw [zL zO];exact h1,by rw [zL zO];exact h2,t,by rw [zL zO];exact h3,h4⟩
 ·rw [FG zO] at hx
  have Ih:i-qs.length=0:=by
   rcases Nu (i-qs.length) with e | e
   ·exact e
   ·rw [Kx zT] at hx;cases hx
  rw [Ih] at hx
  injection hx with hx
  subst hx;have hl:=h.1;have e1:i=qs.length:=by omega
  subst e1;refine ⟨?_,?_,s,?_,hs⟩
  ·rw [FG zO,hl,Nat.sub_self];rfl
  ·rw [FG zO,hl,show qs.length*3+2-qs.length*3=2 by omega];rfl
  ·rw [FG zO,hl,show qs.length*3+1-qs.length*3=1 by omega];rfl
structure OrcIn (w:vv) (g:Nat) (O:Oa) (F:Nat -> Prop) (v:vw) (cs:List vw) (km sm pm:Nat) (E:Nat -> Prop):Prop where
 ok:OrcOk O
 blk:Blk w g 134 #[.bool O.ideal,vd vq O.st,vd vt O.dr,v, .map (vD km), .map (vD sm), .map (vD pm)]
 own:w.ownsRow 0 88 3 v O.qs.length cs
 rows:KD E w cs O.qs
 map:w.ownsMap prog 9 (plainElem prog 3) km O.qs.length (Rw O.qs)
 el:∀ b,E b -> b<w.1.size /\ b≠g /\ b≠km /\ v.ownBlock≠vD b
 kmg:km≠g
 vkm:v.ownBlock≠vD km
 vg:v.ownBlock≠vD g
 fg:F g
 fv:∀ b,v.ownBlock=vD b -> F b
 fkm:F km
 fE:∀ b,E b -> F b
 lt:∀ b,F b -> b<w.1.size
def OrcAt (w:vv) (g:Nat) (O:Oa) (F:Nat -> Prop):Prop:=∃ v cs km sm pm E,OrcIn w g O F v cs km sm pm E
section
variable {w w':vv} {g:Nat} {O:Oa} {F:Nat -> Prop}
theorem OrcIn.keep {v:vw} {cs:List vw} {km sm pm:Nat} {E:Nat -> Prop} (h:OrcIn w g O F v cs km sm pm E) (hs:w.1.size <= w'.1.size) (hw:∀ b,F b -> w'.1[b]?=w.1[b]?):OrcIn w' g O F v cs km sm pm E where
 ok:=h.ok
 blk:=(hw g h.fg).trans h.blk
 own:=Ge h.own fun b hb=>hw b (h.fv b hb)
 rows:=NM h.rows hs fun b hb _=>hw b (h.fE b hb)
 map:=by
  obtain ⟨es,clock,h1,h2⟩:=h.map;exact ⟨es,clock,(hw km h.fkm).trans h1,h2⟩
 el:=fun b hb=>⟨Be (h.el b hb).1 hs,(h.el b hb).2⟩
 kmg:=h.kmg
 vkm:=h.vkm
 vg:=h.vg
 fg:=h.fg
 fv:=h.fv
 fkm:=h.fkm
 fE:=h.fE
 lt:=fun b hb=>Be (h.lt b hb) hs
theorem OrcAt.keep (h:OrcAt w g O F) (hs:w.1.size <= w'.1.size) (hw:∀ b,F b -> w'.1[b]?=w.1[b]?):OrcAt w' g O F:=by
 obtain ⟨v,cs,km,sm,pm,E,h⟩:=h;exact ⟨v,cs,km,sm,pm,E,h.keep hs hw⟩
theorem OrcAt.lt (h:OrcAt w g O F):∀ b,F b -> b<w.1.size:=by
 obtain ⟨v,cs,km,sm,pm,E,h⟩:=h;exact h.lt
theorem OrcAt.ok (h:OrcAt w g O F):OrcOk O:=by
 obtain ⟨v,cs,km,sm,pm,E,h⟩:=h;exact h.ok
theorem OrcAt.fg (h:OrcAt w g O F):F g:=by
 obtain ⟨v,cs,km,sm,pm,E,h⟩:=h;exact h.fg
theorem OrcIn.below {v:vw} {cs:List vw} {km sm pm:Nat} {E:Nat -> Prop} (h:OrcIn w g O F v cs km sm pm E) (hb:vz w.1.size w w'):OrcIn w' g O F v cs km sm pm E:=h.keep hb.size fun b hf=>hb.block b (h.lt b hf)
theorem OrcAt.below (h:OrcAt w g O F) (hb:vz w.1.size w w'):OrcAt w' g O F:=h.keep hb.size fun b hf=>hb.block b (h.lt b hf)
theorem OrcIn.drew {v:vw} {cs:List vw} {km sm pm:Nat} {E:Nat -> Prop} (h:OrcIn w g O F v cs km sm pm E):OrcIn w.drew g O F v cs km sm pm E:=h.keep zR fun _ _=>rfl
theorem OrcAt.drew (h:OrcAt w g O F):OrcAt w.drew g O F:=h.keep zR fun _ _=>rfl
theorem OrcAt.moved {F1 F2:Nat -> Prop} (h:OrcAt w g O F) (m:Moved F1 F2 w w') (hd:∀ b,F b -> ¬F1 b):OrcAt w' g O F:=h.keep m.size fun b hf=>m.block b (h.lt b hf) (hd b hf)
end
theorem rY {l:List Nat} {j:Nat} (hj:j<l.length) (h:Uc (l.take j)=true) (hx:l.getD j 0<Ob):Uc (l.take (j+1))=true:=by
 unfold Uc at *;rw [yC l j hj,List.all_append,h];simp only [List.all_cons,List.all_nil,Bool.and_true,Bool.true_and];exact Qb hx
theorem qY {l:List Nat} {j:Nat} (hj:j<l.length) (hx:Ob <= l.getD j 0):Uc l=false:=by
 unfold Uc;rw [List.all_eq_false];refine ⟨l.getD j 0,?_,by rw [decide_eq_true_iff];omega⟩
 rw [Gc,Dc hj];exact pg _
theorem J6 (A:Option vx) (n c:Nat) (l:List Nat) (w:vv) (hl:RWd w [ve A n c] l) :
  vA prog 232 #[ve A n c] w fun e w'=>e=vn (.bool (Uc l)) /\ w=w':=by
 obtain ⟨rfl,h1,h2,-,Ka⟩:=Mb hl;have gm:=Mh h1 h2;clear hl h1 h2;go_enter func232,ntmps232
 go_wp2_with fail
 go_loop [7] (fun i=>∃ j:Nat,j <= l.length /\ i=vd vt j /\ Hid (Uc (l.take j)=true)) (fun i=>l.length-(intOf i).toNat)
 case atStart=>exact ⟨0,Rb _,rfl,rfl⟩
 case round =>
  obtain ⟨j,hj,rfl,HB⟩:=hrel;by_cases ta:j<l.length
  ·obtain ⟨b,q,rfl,Zb,hc⟩:=Ve Ka ta
   have HL:=zH ta;have g1:(0:Int)<=j:=by omega
   have g2:(j:Int)<l.length:=by omega
   have HN:=zH (fun h=>qY (l:=l) ta h)
   have HY:=zH (fun h=>rY (l:=l) ta HB.out h)
   revert hc HN HY
   generalize l.getD j 0=y;intro hc HN HY;clear Ka;by_cases z:Ob <= y
   ·have HZ:=zH (HN.out z)
    unfold Ob at z;have d1:decide ((18446744069414584321:Int)<=y)=true:=Qb zO;clear HN HY;go_wp2;go_ret
    exact ⟨by rw [HZ.out];rfl,rfl⟩
   ·have HZ:=zH (HY.out zO)
    unfold Ob at z;have d1:decide ((18446744069414584321:Int)<=y)=false:=Ib zO;clear HN HY;go_wp2
    go_round
    case rel=>exact ⟨j+1,zO,by go_num,HZ.out⟩
    case measure=>simp [intOf];omega
  ·have e:j=l.length:=by omega
   have HA:=zH (show Uc l=true by have:=HB.out;rwa [e,List.take_length] at this)
   clear Ka;go_wp2;go_ret
   exact ⟨by rw [HA.out];rfl,rfl⟩
theorem zBU (A:Option vx) (n c:Nat) (l:List Nat) (w:vv) (hl:RWd w [ve A n c] l) (hlen:l.length <= 10000000) :
  vA prog 175 #[ve A n c] w fun e w'=>∃ v,e=vn v /\ w'.ownsRow w.1.size 22 1 v n (Qa l) /\ vz w.1.size w w':=by
 obtain ⟨rfl,h1,h2,ta,Ka⟩:=Mb hl;clear hl;have h0:w.ownsRow w.1.size 22 1 (ve vB 0 0) 0 []:=⟨rfl, .inl ⟨rfl,rfl⟩⟩;go_enter func175,ntmps175
 go_wp2_with (at_builtin;refine fe rfl _ _ rfl WD rfl h0 rfl Ka (Gf _) zO zR ?_)
 intro v' w1 oa Ja tb;go_wp2;go_ret
 exact ⟨_,rfl,oa,Ee h0 Ja zR⟩
theorem xY (base:Nat) (v:vw) (m x:Nat) (xs:List vw) (w:vv) (ho:w.ownsRow base 5 1 v m xs) (hx:x<18446744073709551616) (hk:m <= 100000000) (hb:base <= w.1.size) :
  vA prog 268 #[v,vd vq x] w fun e w'=>∃ v',e=vn v' /\ w'.ownsRow base 5 1 v' (m+8) (xs++U8 (Kn x 8)) /\ w.grownBy w' v.ownBlock /\ (∀ g,v'.ownBlock=vD g -> v.ownBlock=vD g \/ w.1.size <= g):=by
 go_enter func268,ntmps268
 go_wp2_with fail
 go_loopw [0,1,5] (fun s y i wr=>∃ j z:Nat,j <= 8 /\ i=vd vt j /\ y=vd vq z /\ Hid (z=x / 256^j) /\ z<18446744073709551616 /\ wr.ownsRow base 5 1 s (m+j) (xs++U8 (Kn x j)) /\ w.grownBy wr v.ownBlock /\ (∀ g,s.ownBlock=vD g -> v.ownBlock=vD g \/ w.1.size <= g))
  (fun _ _ i _=>8-(intOf i).toNat)
 case atStart=>exact ⟨0,x,Rb _,rfl,rfl,by simp [Hid],hx,by simpa [Kn,U8] using ho,Mg _ _,fun g h=>.inl h⟩
 case round =>
  obtain ⟨j,z,hj,rfl,rfl,HZ,hz,oa,Ra,Zb⟩:=hrel;have HB:=zH Zb;clear Zb;by_cases ta:j<8
  ·have hs:=Ra.size
   go_wp2_with (at_builtin;refine fe rfl _ _ rfl el_u8 rfl (oa.alloc _) rfl (mh _ (vd vu ((z:Int)%256)) _) ?_ ?_ ?_ ?_)
   ·intro u hu;simp at hu;subst hu;rfl
   ·omega
   ·simp;omega
   intro v' w1 Va Ja Nz;have Pg:=Ja.size;simp only [World.size_alloc] at Pg Nz;have R:=zEV (zDa Ra _) HB.out Ja (Nz.imp id fun h=>⟨_,h,zS⟩)
   have HR:=zH R;clear oa Ra Ja Nz R HB;go_wp2
   go_roundw
   case rel =>
    refine ⟨j+1,z / 256,zO,by go_num,by go_num,?_,zO,?_,HR.out.1,HR.out.2⟩
    ·show z / 256=x / 256^(j+1)
     rw [HZ.out,Nat.div_div_eq_div_mul,qj]
    ·rw [lZ,<- HZ.out,JT,<- Jx]
     rw [<- Jx] at Va;exact Va
   case measure=>simp [intOf];omega
  ·go_wp2
   go_ret
   have e:j=8:=by omega
   subst e;exact ⟨_,rfl,oa,Ra,HB.out⟩
theorem O4 (l:List Nat) (j:Nat) (h:j<l.length):yh (l.take (j+1))=yh (l.take j)++Kn (l.getD j 0) 8:=by
 rw [yC l j h,oR];simp [yh]
theorem B4 (A B:Option vx) (n c m d:Nat) (l k:List Nat) (w:vv) (hl:RWd w [ve A n c] l) (hk:RWd w [ve B m d] k) (h1:l.length <= 1000000) (h2:k.length <= 1000000) :
  vA prog 233 #[ve A n c,ve B m d] w fun e w'=>e=vn (.string (S (yh (k++l)))) /\ vz w.1.size w w':=by
 obtain ⟨rfl,h3,h4,ta,Ka⟩:=Mb hl;obtain ⟨rfl,h5,h6,Bm,Wk⟩:=Mb hk;clear hl hk h3 h4 h5 h6;have ij:=zH ta;have Fo:=zH Bm;clear ta Bm;have e1:vt.wrap ((k.length:Int)+l.length)=((k.length+l.length:Nat):Int):=by rw [pj];omega
 have e2:vt.wrap (8*((k.length+l.length:Nat):Int))=((8*(k.length+l.length):Nat):Int):=by rw [pj];omega
 obtain ⟨t,ht⟩:=zEX (8*(k.length+l.length));obtain ⟨s,hs⟩:=zEX (k.length+l.length);rw [<- hs] at e1 e2 ht;rw [<- ht] at e2;have g0:(t:Int) <= 16000000:=by omega
 have HT:=zH ht;have HS:=zH hs;clear ht hs;have Tj:∀ u:vv,(Instr.makeSlice 73 (vd vt 0) (vd vt t)).run prog u =
   .ok (ve (vD ⟨u.1.size,0,vB⟩) 0 t) (u.alloc (.cells (madeCells #[vd vu 0] t) 5)):=fun u=>by
  obtain ⟨i0,hi,Wj,Zd,Gg⟩:=info_parts G3;have h:=run_make (P:=prog) u 73 5 i0 (vd vu 0) underlying73 hi Wj vt vt 0 (t:Int) zO zO (by rw [Gg];omega) zO
  rw [Dn] at h
  simpa [Zd,Value.cells] using h
 have jA:=World.ownsRow_made (base:=w.1.size) (e:=5) (size:=1) w (madeCells #[vd vu 0] t) t zR (by simp [maxLen];omega) (by rw [size_madeCells,Nat.mul_one])
 have ba:=zA w (.cells (madeCells #[vd vu 0] t) 5);go_enter func233,ntmps233
 go_wp2_with fail
 generalize w.alloc _=w0 at jA ba |-;clear Tj;go_loopw [5,19] (fun s i wr=>∃ j:Nat,j <= k.length /\ i=vd vt j /\ wr.ownsRow w.1.size 5 1 s (8*j) (U8 (yh (k.take j))) /\ vz w.1.size w wr) (fun _ i _=>k.length-(intOf i).toNat)
 case atStart=>exact ⟨0,Rb _,rfl,by simpa [yh,U8] using jA,ba⟩
 case round =>
  clear jA ba;obtain ⟨j,hj,rfl,oa,hb⟩:=hrel;by_cases ta:j<k.length
  ·obtain ⟨b,q,rfl,Zb,hc⟩:=Ve (Wk.below hb) ta
   have g1:(0:Int)<=j:=by omega
   have g2:(j:Int)<k.length:=by omega
   have HY:=zH (qF Fo.out ta);have HE:=zH (O4 k j ta);have HL:=zH ta;clear ta;revert hc HY HE
   generalize k.getD j 0=y;intro hc HY HE;go_wp2_with fail
   refine (xY w.1.size _ (8*j) y _ _ oa HY.out (zQ HL.out) hb.size).mono ?_;rintro e w1 ⟨v',rfl,Va,Ra,Nz⟩;have La:=hb.trans (ND Ra w.1.size hb.size (fun g hg=>(Z6 oa g hg).1))
   clear Ra Nz oa hb hc;rw [<- JT,<- HE.out] at Va;go_wp2
   go_roundw
   case rel=>exact ⟨j+1,by have:=HL.out;omega,by go_num,by rw [show 8*(j+1)=8*j+8 by omega];exact Va,La⟩
   case measure=>have:=HL.out;simp [intOf];omega
  ·have e:j=k.length:=by omega
   subst e;rw [List.take_length] at oa;clear ta hj;go_wp2_with fail
   go_loopw [5,29] (fun s i wq=>∃ j:Nat,j <= l.length /\ i=vd vt j /\ wq.ownsRow w.1.size 5 1 s (8*(k.length+j)) (U8 (yh (k++l.take j))) /\ vz w.1.size w wq) (fun _ i _=>l.length-(intOf i).toNat)
   case atStart=>exact ⟨0,Rb _,rfl,by simpa using oa,hb⟩
   case round =>
    clear oa hb;obtain ⟨j,hj,rfl,oa,hb⟩:=hrel;by_cases ta:j<l.length
    ·obtain ⟨b,q,rfl,Zb,hc⟩:=Ve (Ka.below hb) ta
     have g1:(0:Int)<=j:=by omega
     have g2:(j:Int)<l.length:=by omega
     have HY:=zH (qF ij.out ta);have HE:=zH (show yh (k++l.take (j+1))=yh (k++l.take j)++Kn (l.getD j 0) 8 by rw [oR,oR,O4 l j ta,Jx])
     have HL:=zH ta;clear ta;revert hc HY HE
     generalize l.getD j 0=y;intro hc HY HE;go_wp2_with fail
     refine (xY w.1.size _ (8*(k.length+j)) y _ _ oa HY.out (zQ HL.out) hb.size).mono ?_;rintro e w1 ⟨v',rfl,Va,Ra,Nz⟩;have La:=hb.trans (ND Ra w.1.size hb.size (fun g hg=>(Z6 oa g hg).1))
     clear Ra Nz oa hb hc;rw [<- JT,<- HE.out] at Va;go_wp2
     go_roundw
     case rel=>exact ⟨j+1,by have:=HL.out;omega,by go_num,by rw [show 8*(k.length+(j+1))=8*(k.length+j)+8 by omega];exact Va,La⟩
     case measure=>have:=HL.out;simp [intOf];omega
    ·have e:j=l.length:=by omega
     subst e;rw [List.take_length] at oa;clear ta hj;obtain ⟨A',c',rfl,-,-,Kw,-⟩:=mc oa;have Sz:=zHb (P:=prog) (w:=_) (dst:=9) (c:=c') underlying73 underlying5 underlying9 Kw;go_wp2;go_ret
     exact ⟨rfl,hb⟩
theorem OrcIn.turn {w w':vv} {g:Nat} {O O':Oa} {F:Nat -> Prop} {v:vw} {cs:List vw} {km sm pm:Nat} {E:Nat -> Prop} (h:OrcIn w g O F v cs km sm pm E) (ok:OrcOk O') (hq:O'.qs=O.qs)
  (kb:Blk w' g 134 #[.bool O'.ideal,vd vq O'.st,vd vt O'.dr,v, .map (vD km), .map (vD sm), .map (vD pm)]) (hg:w.grownBy w' (vD g)):OrcIn w' g O' F v cs km sm pm E where
 ok:=ok
 blk:=kb
 own:=by rw [hq];exact Ge h.own fun b hb=>hg.block b (h.own.lt b hb).2 (fun e=>h.vg (by rw [hb,e]))
 rows:=by rw [hq];exact NM h.rows hg.size fun b hb hl=>hg.block b hl (fun e=>(h.el b hb).2.1 (Pb e))
 map:=by
  rw [hq];obtain ⟨es,clock,h1,h2⟩:=h.map;exact ⟨es,clock,(hg.block km (h.lt km h.fkm) (fun e=>h.kmg (Pb e))).trans h1,h2⟩
 el:=fun b hb=>⟨Be (h.el b hb).1 hg.size,(h.el b hb).2⟩
 kmg:=h.kmg
 vkm:=h.vkm
 vg:=h.vg
 fg:=h.fg
 fv:=h.fv
 fkm:=h.fkm
 fE:=h.fE
 lt:=fun b hb=>Be (h.lt b hb) hg.size
theorem LQ (w:vv) (g i j:Nat) (x y:vw):w.grownBy ((w.setCell ⟨g,i,vB⟩ x).setCell ⟨g,j,vB⟩ y) (vD g):=tj (p:=⟨g,j,vB⟩) (tj (p:=⟨g,i,vB⟩) (Mg w (vD g)) (.inl rfl) x) (.inl rfl) y
theorem cJ {w:vv} {g:Nat} {t:vy} {cs:Array vw} (k:Blk w g t cs) (i j:Nat) (x y:vw):Blk ((w.setCell ⟨g,i,vB⟩ x).setCell ⟨g,j,vB⟩ y) g t ((cs.setIfInBounds i x).setIfInBounds j y):=(k.set_ i x).set_ j y
theorem zEM {i:Bool} {st dr:Nat} {qs:List Qn} (h:OrcOk ⟨i,st,dr,qs⟩) {s1 d1:Nat} (hs:s1<18446744073709551616):OrcOk ⟨i,s1,d1,qs⟩:=⟨hs,h.qs,h.apart,h.real⟩
theorem sZ (i:Bool) (st dr:Nat) (qs:List Qn):Mn ⟨i,st,dr,qs⟩=⟨i,Vx st,dr+1,qs⟩:=rfl
theorem rZ (i:Bool) (st dr:Nat) (qs:List Qn):Ln ⟨i,st,dr,qs⟩=QL (OL (NL (Vx st))):=rfl
theorem zCc {w:vv} {g:Nat} {O:Oa} {F:Nat -> Prop} {v:vw} {cs:List vw} {km sm pm:Nat} {E:Nat -> Prop} (h:OrcIn w g O F v cs km sm pm E) (hi:O.ideal=true) (hd:O.dr <= 1000000000) :
  vA prog 234 #[.pointer (vD ⟨g,0,vB⟩)] w fun e w'=>e=vn (vd vq (Ln O:Int)) /\ OrcIn w' g (Mn O) F v cs km sm pm E /\ w.grownBy w' (vD g):=by
 obtain ⟨ideal,st,dr,qs⟩:=O;have Kf:st<18446744073709551616:=h.ok.st;have kb:Blk w g 134 #[.bool ideal,vd vq st,vd vt dr,v, .map (vD km), .map (vD sm), .map (vD pm)]:=h.blk;have hd':dr <= 1000000000:=hd;clear hd;have Yz:ideal=true:=hi;subst Yz;clear hi;have H:=zH h;have e1:vt.wrap ((dr:Int)+1)=((dr+1:Nat):Int):=by rw [pj];omega
 have e2:vq.wrap ((st:Int)+11400714819323198485)=((Vx st:Nat):Int):=by rw [Vg];unfold Vx;omega
 have hz:Vx st<18446744073709551616:=Ic _ zD;obtain ⟨Dt,yw⟩:=zEX (dr+1);rw [<- yw] at e1;obtain ⟨s1,Nc⟩:=zEX (Vx st);rw [<- Nc] at e2 hz;have HD:=zH yw;have HS:=zH Nc;clear yw Nc h;obtain ⟨a1,Rn⟩:=zEX (s1 ^^^ (s1 >>> 30));have dO:a1<18446744073709551616:=by rw [Rn];exact Nat.xor_lt_two_pow (n:=64) hz (by rw [qt];omega)
 have x1:bits BinOp.xor vq (s1:Int) ((s1:Int) / 1073741824)=(a1:Int):=by
  rw [show (s1:Int) / (1073741824:Int)=((s1 >>> 30:Nat):Int) by rw [qt];omega,bits_xor_u64_nat _ _ hz (by rw [qt];omega),Rn]
 obtain ⟨a,ha⟩:=zEX (a1*13787848793156543929%18446744073709551616);have ja:a<18446744073709551616:=by omega
 have m1:vq.wrap ((a1:Int)*13787848793156543929)=(a:Int):=by rw [Vg];omega
 have HA:=zH (show a=NL s1 by rw [ha,Rn,NL])
 clear ha Rn;obtain ⟨b1,La⟩:=zEX (a ^^^ (a >>> 27));have fO:b1<18446744073709551616:=by rw [La];exact Nat.xor_lt_two_pow (n:=64) ja (by rw [qt];omega)
 have x2:bits BinOp.xor vq (a:Int) ((a:Int) / 134217728)=(b1:Int):=by
  rw [show (a:Int) / (134217728:Int)=((a >>> 27:Nat):Int) by rw [qt];omega,bits_xor_u64_nat _ _ ja (by rw [qt];omega),La]
 obtain ⟨b,hb⟩:=zEX (b1*10723151780598845931%18446744073709551616);have Zb:b<18446744073709551616:=by omega
 have m2:vq.wrap ((b1:Int)*10723151780598845931)=(b:Int):=by rw [Vg];omega
 have HB:=zH (show b=OL a by rw [hb,La,OL])
 clear hb La;obtain ⟨c1,yd⟩:=zEX (b ^^^ (b >>> 31));have x3:bits BinOp.xor vq (b:Int) ((b:Int) / 2147483648)=(c1:Int):=by
  rw [show (b:Int) / (2147483648:Int)=((b >>> 31:Nat):Int) by rw [qt];omega,bits_xor_u64_nat _ _ Zb (by rw [qt];omega),yd]
 obtain ⟨c,hcz⟩:=zEX (c1%18446744069414584321);have m3:(c1:Int).tmod 18446744069414584321=(c:Int):=by rw [Ex zO];omega
 have HC:=zH (show c=QL b by rw [hcz,yd,QL,Ob])
 clear hcz yd;have X1:=zH dO;have X2:=zH fO;have X3:=zH hz;clear dO fO ja Zb hz Kf;have hv:Ln ⟨true,st,dr,qs⟩=c:=by rw [rZ,<- HS.out,<- HA.out,<- HB.out,<- HC.out]
 rw [hv];clear hv HA HB HC;obtain ⟨O1,El⟩:=zEX (Mn ⟨true,st,dr,qs⟩);rw [<- El];have HO:=zH (show O1=⟨true,s1,Dt,qs⟩ by rw [El,sZ,HS.out,HD.out])
 clear El HS HD;have hc:=kb.cell;have hf:=kb.frozen;have KB:=zH kb;clear kb;go_enter func234,ntmps234
 go_wp2_with fail
 go_ret
 have hg:=LQ w g 2 1 (vd vt Dt) (vd vq s1);have kb:=cJ KB.out 2 1 (vd vt Dt) (vd vq s1);generalize (w.setCell ⟨g,2,vB⟩ (vd vt Dt)).setCell ⟨g,1,vB⟩ (vd vq s1)=w1 at hg kb |-;refine ⟨rfl,?_,hg⟩;rw [HO.out];exact H.out.turn (O':=⟨true,s1,Dt,qs⟩) (zEM H.out.ok X3.out) rfl (by simpa using kb) hg
theorem info_q:(prog.info? 88).map (fun i=>(i.zero,i.size,i.bytes))=vD (vD (vf #[vd vq 0,ve vB 0 0,vd vq 0]),3,40):=by kernel_rfl
theorem VD:Lr prog 48 88 3 40 (vf #[vd vq 0,ve vB 0 0,vd vq 0]):=by
 obtain ⟨i0,hi,Wj,Zd,Gg⟩:=info_parts info_q;exact ⟨underlying48,⟨i0,hi,Wj,Zd,Gg⟩,rfl,zO⟩
theorem ZK (w:vv) (x y z:vw) (t:vy):Rd (w.alloc (.cells #[x,y,z] t)) 3 (vD ⟨w.1.size,0,vB⟩) 1 [x,y,z]:=by
 refine ⟨rfl,fun _=>⟨_,rfl,fun j u hj=>?_⟩⟩
 match j,hj with
 | 0,hj=>simp at hj;subst hj;simp [Addr.add]
 | 1,hj=>simp at hj;subst hj;simp [Addr.add]
 | 2,hj=>simp at hj;subst hj;simp [Addr.add]
theorem XV:Keyed prog 9:=string_keyed underlying9
theorem SV (lab:Nat) (l:List Nat) (h:l.length <= 1000000):keyOf prog 9 (.string (S (yh (lab :: l))))=vD (jo lab l):=by
 have:=WideMaps.keyOf_string_mk (P:=prog) underlying9 (s:=S (yh (lab :: l))) (by rw [S_size,qR,pk];simp only [maxLen];omega)
 rw [this];simp [S,jo]
theorem zEL {O:Oa} (h:OrcOk O) {lab:Nat} {l:List Nat} {an:Nat} (Yd:lab<18446744073709551616) (Sf:Uc l=true) (han:an<Ob) (hlen:l.length <= 1000000) (rM:oe O.qs lab l=vB) (WQ:O.ideal=false -> an=Dj lab l):OrcOk (rk O lab l an):=by
 refine ⟨h.st,fun q hq=>?_,?_,fun hi q hq=>?_⟩
 ·rcases Lq.1 hq with hq | hq
  ·exact h.qs q hq
  ·rw [zz.1 hq];exact ⟨Yd,Sf,han,hlen⟩
 ·show (O.qs++[_]).Pairwise _
  rw [List.pairwise_append];refine ⟨h.apart,List.pairwise_singleton _ _,fun a ha b hb hc=>?_⟩
  rw [zz.1 hb] at hc;unfold oe at rM;rw [Option.map_eq_none_iff] at rM;have:=List.find?_eq_none.1 rM a ha;exact this (XO.2 hc)
 ·rcases Lq.1 hq with hq | hq
  ·exact h.real hi q hq
  ·rw [zz.1 hq];exact WQ hi
structure OrcPre (w:vv) (g km:Nat) (cells:Array vw) (v:vw) (n m:Nat) (cs:List vw) (qs:List Qn) (D:DataW Unit) (E:Nat -> Prop):Prop where
 blk:Blk w g 134 cells
 own:w.ownsRow 0 88 3 v n cs
 rows:KD E w cs qs
 map:w.ownsMap prog 9 (plainElem prog 3) km m D
theorem OrcPre.keep {w w':vv} {g km:Nat} {cells:Array vw} {v:vw} {n m:Nat} {cs:List vw} {qs:List Qn} {D:DataW Unit} {E F:Nat -> Prop} (h:OrcPre w g km cells v n m cs qs D E) (hF:F g /\ F km /\ (∀ b,v.ownBlock=vD b -> F b) /\ ∀ b,E b -> F b)
  (hs:w.1.size <= w'.1.size) (hw:∀ b,F b -> w'.1[b]?=w.1[b]?):OrcPre w' g km cells v n m cs qs D E where
 blk:=(hw g hF.1).trans h.blk
 own:=Ge h.own fun b hb=>hw b (hF.2.2.1 b hb)
 rows:=NM h.rows hs fun b hb _=>hw b (hF.2.2.2 b hb)
 map:=by
  obtain ⟨es,clock,h1,h2⟩:=h.map;exact ⟨es,clock,(hw km hF.2.1).trans h1,h2⟩
theorem zGQ {w w3 w4:vv} {g km sm pm:Nat} {O:Oa} {F E:Nat -> Prop} {v v' vs:vw} {cs:List vw} {lab an N n eb:Nat} {l:List Nat}
  (OK:OrcOk (rk O lab l an))
  (P:OrcPre w3 g km #[.bool O.ideal, .int vq O.st, .int vt O.dr,v, .map (vD km), .map (vD sm), .map (vD pm)] v O.qs.length (O.qs.length+1) cs O.qs ((Rw O.qs).put (jo lab l) (.lit (.int vt O.qs.length))) E)
  (hF:F g /\ F km /\ (∀ b,v.ownBlock=vD b -> F b) /\ ∀ b,E b -> F b) (hX:v.ownBlock≠vD g /\ v.ownBlock≠vD km /\ ∀ b,E b -> b≠g /\ b≠km /\ v.ownBlock≠vD b) (hgk:g≠km) (ta:∀ b,F b -> b<N) (hN:N <= eb) (hN3:N <= w3.1.size) (hew:w.1.size <= eb)
  (dp:w3.ownsRow eb 22 1 vs n (Qa l)) (ao:∀ x∈l,x<18446744073709551616)
  (oa:w4.ownsRow 0 88 3 v' (O.qs.length+1) (cs++[vd vq lab,vs,vd vq an])) (hg:w3.grownBy w4 v.ownBlock) (hb:v'.ownBlock=v.ownBlock \/ v'.ownBlock=vD w3.1.size)
  (M:Moved F F w w3) :
  ∃ F',OrcAt (w4.setCell ⟨g,3,vB⟩ v') g (rk O lab l an) F' /\ Moved F F' w (w4.setCell ⟨g,3,vB⟩ v'):=by
 obtain ⟨fg,fkm,fv,fE⟩:=hF;obtain ⟨x1,x2,x3⟩:=hX;have Wb:w4.grownBy (w4.setCell ⟨g,3,vB⟩ v') (vD g):=tj (p:=⟨g,3,vB⟩) (Mg w4 _) (.inl rfl) _;have kb4:=P.blk.grown hg (fun e=>x1 e.symm)
 have kb5:=kb4.set_ 3 v';have Jc:∀ b,vs.ownBlock=vD b -> eb <= b /\ b<w3.1.size:=fun b h=>dp.lt b h
 have hvv:∀ b,v'.ownBlock=vD b -> F b \/ b=w3.1.size:=fun b h=>by
  rcases hb with e | e
  ·exact .inl (fv b (by rw [<- e];exact h))
  ·rw [e] at h;exact .inr (Pb h).symm
 have hvg:v'.ownBlock≠vD g:=fun h=>by
  rcases hb with e | e
  ·exact x1 (by rw [<- e];exact h)
  ·rw [e] at h;have:=Pb h;have:=ta g fg;omega
 have YE:v'.ownBlock≠vD km:=fun h=>by
  rcases hb with e | e
  ·exact x2 (by rw [<- e];exact h)
  ·rw [e] at h;have:=Pb h;have:=ta km fkm;omega
 have hvE:∀ b,E b -> v'.ownBlock≠vD b:=fun b hE h=>by
  rcases hb with e | e
  ·exact (x3 b hE).2.2 (by rw [<- e];exact h)
  ·rw [e] at h;have:=Pb h;have:=ta b (fE b hE);omega
 have Br:∀ b,v.ownBlock=vD b -> b<N:=fun b h=>ta b (fv b h)
 have Dm:=Ge oa fun b h=>Wb.block b (oa.lt b h).2 (fun e=>hvg (by rw [h,e]))
 have vs4:=Ge dp fun b h=>hg.block b (Jc b h).2 (fun e=>by have:=Br b e.symm;have:=Jc b h;omega)
 have vs5:=Ge vs4 fun b h=>Wb.block b (vs4.lt b h).2 (fun e=>by have:=Pb e;have:=Jc b h;have:=ta g fg;omega)
 have PH:=vM vs5 ao;have rows4:=NM P.rows hg.size fun b hE hl=>hg.block b hl (fun e=>(x3 b hE).2.2 e.symm)
 have rows5:=NM rows4 Wb.size fun b hE hl=>Wb.block b hl (fun e=>(x3 b hE).1 (Pb e))
 have s4:=hg.size;have s5:=Wb.size;refine ⟨fun b=>F b \/ v'.ownBlock=vD b \/ vs.ownBlock=vD b,⟨v',cs++[vd vq lab,vs,vd vq an],km,sm,pm,fun b=>E b \/ vs.ownBlock=vD b,?_⟩,?_⟩
 ·refine ⟨OK,?_,?_,?_,?_,?_,fun e=>hgk e.symm,YE,hvg, .inl fg,fun b h=>.inr (.inl h), .inl fkm,?_,?_⟩
  ·show Blk _ g _ #[.bool O.ideal,vd vq O.st,vd vt O.dr,v', .map (vD km), .map (vD sm), .map (vD pm)]
   simpa using kb5
  ·have:(rk O lab l an).qs.length=O.qs.length+1:=by show (O.qs++[_]).length=_;simp
   rw [this];exact Dm
  ·exact zF2 (q:=⟨lab,l,an⟩) (zF3 rows5 fun b h=>.inl h) (K4 PH fun b h=>.inr h)
  ·have:(rk O lab l an).qs=O.qs++[⟨lab,l,an⟩]:=zBg O lab l an
   rw [this,jR,Pp];obtain ⟨es,clock,h1,h2⟩:=P.map;refine ⟨es,clock,?_,h2⟩;have IE:km<w3.1.size:=by have:=ta km fkm;omega
   exact (Wb.block km zO (fun e=>hgk (Pb e).symm)).trans ((hg.block km IE (fun e=>x2 e.symm)).trans h1)
  ·intro b h
   rcases h with h | h
   ·exact ⟨by have:=ta b (fE b h);omega,(x3 b h).1,(x3 b h).2.1,hvE b h⟩
   ·have h1:=Jc b h
    refine ⟨zO,fun e=>by have:=ta g fg;omega,fun e=>by have:=ta km fkm;omega,fun e=>?_⟩
    rcases hvv b e with h2 | h2
    ·have:=ta b h2;omega
    ·omega
  ·intro b h
   rcases h with h | h
   ·exact .inl (fE b h)
   ·exact .inr (.inr h)
  ·intro b h
   rcases h with h | h | h
   ·have:=ta b h;omega
   ·have:=(oa.lt b h).2;omega
   ·have:=Jc b h;omega
 ·refine nW (F':=F) ((M.trans (EO (F:=F) hg fun b h=>fv b h)).trans (EO (F:=F) Wb fun b h=>by rw [<- Pb h];exact fg)) fun b h=>?_
  have hs:=M.size;rcases h with h | h | h
  ·exact .inl h
  ·rcases hvv b h with h | h
   ·exact .inl h
   ·exact .inr zO
  ·exact .inr (zQ (Jc b h))
where
 zBg (O:Oa) (lab:Nat) (el:List Nat) (a:Nat):(rk O lab el a).qs=O.qs++[⟨lab,el,a⟩]:=by simp only [rk]
theorem B9 {w:vv} {g:Nat} {O:Oa} {F:Nat -> Prop} {v:vw} {cs:List vw} {km sm pm:Nat} {E:Nat -> Prop} (h:OrcIn w g O F v cs km sm pm E) (lab:Nat) (l:List Nat) (an:Nat) (A:Option vx) (n c:Nat) {K:Nat -> Prop}
  (hl:Kg K w (ve A n c) l) (hK:∀ b,K b -> ¬F b) (Yd:lab<18446744073709551616) (Sf:Uc l=true) (han:an<Ob) (hlen:l.length <= 1000000) (hn:O.qs.length <= 1000000) (rM:oe O.qs lab l=vB) (WQ:O.ideal=false -> an=Dj lab l) :
  vA prog 235 #[.pointer (vD ⟨g,0,vB⟩), .string (S (yh (lab :: l))),vd vq lab,ve A n c,vd vq an] w fun e w'=>e=vn (.tuple #[]) /\ ∃ F',OrcAt w' g (rk O lab l an) F' /\ Moved F F' w w':=by
 have OK1:=zH (zEL h.ok Yd Sf han hlen rM WQ);have Qv:=zH (SV lab l hlen);have Jg:=zH hlen;have Sy:=zH Sf;have TE:l.length=n:=by obtain ⟨A',c',e,-⟩:=CK hl;injection e with _ e2 _;exact e2.symm
 have vG:=zH TE;have HK:=zH hK;clear Yd Sf rM WQ hK hlen TE;obtain ⟨hv⟩:Nonempty (∃ B d,v=ve B O.qs.length d):=by
  obtain ⟨B,d,e,-⟩:=mc h.own;exact ⟨B,d,e⟩
 obtain ⟨B,d,rfl⟩:=hv;have kb:=h.blk;have hc:=kb.cell;have hmp:=fun w=>run_eql_map_nil (P:=prog) w 130 9 3 (vD km) underlying130
 have H:=zH h;have hglt:g<w.1.size:=kb.lt;have hgk:g≠km:=fun e=>h.kmg e.symm
 have gn:(O.qs.length:Int) <= 1000000:=by omega
 obtain ⟨nq,ME⟩:=zEX (O.qs.length);rw [<- ME] at hc gn;have Vd:=zH ME;clear h ME kb hn;go_enter func235,ntmps235
 go_wp2_with fail
 refine Yc (Kj km) [10] [0,1,2,3,4,5,6,7,8,9,10] zK zK ?_;refine Td (Gd km) ?_;intro Wc Ca da;have H1:=zH (show OrcIn Wc g O F (ve B O.qs.length d) cs km sm pm E by rw [Ca.out];exact H.out.drew)
 have ki:Kg K Wc (ve A n c) l:=by rw [Ca.out];exact lF hl zR fun _ _ _=>rfl
 have M0:Moved F F w Wc:=by rw [Ca.out];exact uF Moved.refl
 clear Ca H hl;obtain ⟨w1,Rc,Pf,Ck⟩:=H1.out.map.update XV underlying130 (by have:=Vd.out;simp only [maxLen];omega) Qv.out (val:=.int vt nq) (plainElem_int Cz (by simp [Lit.wf,IntKind.min,IntKind.max,IntKind.signed,IntKind.bits];omega))
 refine Lk ?_;refine Bd (Gd km) rfl rfl rfl ?_;go_simp;refine ⟨Ck,?_⟩
 refine zPU ?_
 refine Ec ?_;have Pw:Blk w1 g 134 _:=H1.out.blk.grown Ck (fun e=>hgk (Pb e))
 have NA:=Ge H1.out.own fun b hb=>Ck.block b (H1.out.own.lt b hb).2 (fun e=>H1.out.vkm (by rw [hb,e]))
 have J9:=NM H1.out.rows Ck.size fun b hb hl=>Ck.block b hl (fun e=>(H1.out.el b hb).2.2.1 (Pb e))
 have ir:Kg K w1 (ve A n c) l:=lF ki Ck.size fun b hb hl=>Ck.block b hl (fun e=>HK.out b hb (by rw [Pb e];exact H1.out.fkm))
 have M1:=M0.trans (EO (F:=F) Ck (fun b e=>by rw [<- Pb e];exact H1.out.fkm))
 have lk1:km<w1.1.size:=Pf.lt;have yd:=Pw.cell;have hf1:=Pw.frozen;have lg1:=Pw.lt;have P1:=zH (OrcPre.mk Pw NA J9 Pf);have HF:Hid (F g /\ F km /\ (∀ b,(ve B O.qs.length d).ownBlock=vD b -> F b) /\ ∀ b,E b -> F b):=⟨H1.out.fg,H1.out.fkm,H1.out.fv,H1.out.fE⟩;have HX:Hid ((ve B O.qs.length d).ownBlock≠vD g /\ (ve B O.qs.length d).ownBlock≠vD km /\ ∀ b,E b -> b≠g /\ b≠km /\ (ve B O.qs.length d).ownBlock≠vD b):=⟨H1.out.vg,H1.out.vkm,fun b hb=>⟨(H1.out.el b hb).2.1,(H1.out.el b hb).2.2.1,(H1.out.el b hb).2.2.2⟩⟩
 have Pc:=zH (show ∀ b,F b -> b<w1.1.size from fun b hb=>Be (H1.out.lt b hb) Ck.size)
 obtain ⟨VF,hVF⟩:∃ VF:Nat -> Prop,∀ b,VF b↔(ve B O.qs.length d).ownBlock=vD b:=⟨_,fun _=>Iff.rfl⟩
 have nVg:¬VF g:=fun e=>HX.out.1 ((hVF g).1 e)
 have HVF:=zH hVF;rw [<- Vd.out] at yd;clear hVF Pw NA J9 Pf hc Rc Ck ki M0 da hglt hmp H1 Qv;clear Wc;go_wp2_with fail
 obtain ⟨N,hN⟩:=zEX (w1.1.size);rw [<- hN] at lg1 lk1;have HN:=zH hN;clear hN;refine XC (Ul VF N) [7,10,11,12,14] [14] [0,1,2,3,4,5,6,8,7,9,10,11,12,13,14] zK zK ?_;refine aD (Kb VF N) ?_;intro Wc Ca da;have P2:=zH (P1.out.keep (w':=w1.drew) (F:=F) HF.out zR fun _ _=>rfl)
 rw [<- Ca.out] at P2;have Dw:Kg K Wc (ve A n c) l:=by rw [Ca.out];exact lF ir zR fun _ _ _=>rfl
 have M2:Moved F F w Wc:=by rw [Ca.out];exact uF M1
 have ld:N <= Wc.1.size:=by rw [Ca.out,HN.out];exact zR
 have hbN:N <= Wc.1.size:=ld;have Ma:w.1.size <= Wc.1.size:=M2.size;have HLc:Hid (∀ b,F b -> b<N):=by rw [HN.out];exact Pc.out
 clear Ca P1 ir M1 Pc;refine VX ?_;refine Ej (Kb VF N) rfl rfl rfl (fun _=>by go_simp <;> rfl) ((zBU A n c l _ (jq Dw) (zQ Jg.out)).mono ?_)
 rintro e w2 ⟨vs,rfl,dp,Da⟩;refine ⟨_,rfl,fun _=>Ld Da ld,?_⟩
 replace da:=zM (Kb VF N) da (Ld Da ld);refine zPU ?_;have P3:=zH (P2.out.keep (F:=F) HF.out Da.size fun b hb=>Da.block b (zQ (HLc.out b hb)))
 have M3:=M2.trans (xe (F:=F) Da);have ef:N <= w2.1.size:=by have:=Da.size;omega
 obtain ⟨Bs,ds,rfl,-,-,-,hbs⟩:=mc dp;clear P2 M2 Da ld Dw da yd;have da:=(Kb VF N).refl w2;refine VX ?_;refine Jk (Kb VF N) rfl rfl rfl ?_;go_simp;refine ⟨fun _=>Ld ((Bb _ _).alloc zR _) ef,?_⟩
 have ja:=zA w2 (.cells #[vd vq lab,ve Bs n ds,vd vq an] 88);have Ka:=ZK w2 (vd vq lab) (ve Bs n ds) (vd vq an) 88;have P4:=zH (P3.out.keep (F:=F) HF.out ja.size fun b hb=>ja.block b (zQ (HLc.out b hb)))
 have FV:=yb dp ja zR;have M4:=M3.trans (xe (F:=F) ja);have hN3:N <= (w2.alloc (.cells #[vd vq lab,ve Bs n ds,vd vq an] 88)).1.size:=Cb ef ja.size;have Yj:=P4.out.own;rw [<- Vd.out] at Yj
 refine zPU ?_
 generalize w2.alloc _=w3 at Ka P4 FV M4 hN3 Yj |-;generalize w2.1.size=g2 at Ka |-;clear P3 M3 ef ja dp da;have da:=(Kb VF N).refl w3;refine Jk (Kb VF N) rfl rfl rfl ?_;refine Iv _ _ rfl VD rfl Yj rfl Ka (by intro u hu;simp at hu;rcases hu with rfl | rfl | rfl <;> rfl) zO (Rb _) ?_
 intro v' w4 Va Ja tb;refine ⟨fun _=>zCZ Ja hN3 (fun b hb=>(HVF.out b).2 (by rw [<- Vd.out];exact hb)),?_⟩
 refine zPU ?_
 have eH:=(P4.out.blk.grown Ja (fun e=>by rw [Vd.out] at e;exact HX.out.1 e.symm)).frozen
 have hcg4:=(P4.out.blk.grown Ja (fun e=>by rw [Vd.out] at e;exact HX.out.1 e.symm)).cell
 obtain ⟨Av,cv,hv',-⟩:=mc Va;subst hv';have Fj:=zH (zGQ OK1.out (by have:=P4.out;rw [Vd.out] at this;exact this) HF.out HX.out hgk HLc.out (eb:=Wc.1.size) hbN hN3 Ma FV (RL Sy.out) (by have:=Va;rw [Vd.out] at this;exact this) (by have:=Ja;rw [Vd.out] at this;exact this) (by rw [<- Vd.out];exact tb) M4)
 rw [<- Vd.out] at Fj;clear Va Ja tb Ka P4 Yj FV M4 da hN3;have da:=(Kb VF N).refl w4;refine Jk (Kb VF N) rfl rfl rfl ?_;go_simp
 try refine And.intro (fun _=>(Kb VF N).refl _) ?_
 refine zPU ?_
 refine VX ?_;refine Jk (Kb VF N) rfl rfl rfl ?_;go_simp;refine ⟨fun h=>Bool.noConfusion h,?_⟩
 refine zPU ?_
 refine YC ?_;go_wp2
 go_end0
 exact ⟨rfl,Fj.out⟩
theorem Z2 {w:vv} {a b c:vw}:(Instr.index 275 (vf #[a,b,c]) (vd vt 0)).run prog w= .ok a w :=
 fP (i:=0) underlying275 OT mX zO rfl
theorem AW (label:Nat) (A:Option vx) (n c:Nat) (l:List Nat) (w:vv) (hl:RWd w [ve A n c] l) (Ua:0<l.length) (hlen:l.length <= 1000000) :
  vA prog 231 #[vd vq 18446744069414584321,vd vq label,ve A n c] w fun e w'=>e=vn (vd vq (Dj label l:Int)) /\ vz w.1.size w w':=by
 have HV:=zH (fun w=>Tu Ob w LO)
 have zq:=zH (fun w' (hb:vz w.1.size w w')=>zE1 Ob label A n c l w' LO (Sa hb hl) Ua hlen)
 have HE:=zH (show Dj label l=(Mq Ob label l).a from rfl)
 have hidx:=fun w a b c=>Z2 (w:=w) (a:=a) (b:=b) (c:=c)
 clear hl Ua hlen;generalize Dj label l=z at *;generalize Mq Ob label l=s at *;unfold fv Ob at *;go_enter func231,ntmps231
 go_wp2_with fail
 refine (HV.out _).mono ?_;rintro e w1 ⟨rfl,La⟩;go_wp2_with fail
 refine (zq.out _ La).mono ?_;rintro e w2 ⟨rfl,Da⟩;have ba:=pa La Da;have ev:s.val=vf #[vd vq s.a,vd vq s.b,vd vq s.c]:=rfl;rw [ev];go_wp2;go_ret
 exact ⟨by rw [HE.out];rfl,ba⟩
theorem J8 (label:Nat) (A:Option vx) (n c:Nat) (l:List Nat) (w:vv) (hl:RWd w [ve A n c] l) (Ua:0<l.length) (hlen:l.length <= 1000000) :
  vA prog 184 #[vd vq 18446744069414584321,vd vq label,ve A n c] w fun e w'=>e=vn (vd vq (Dj label l:Int)) /\ vz w.1.size w w':=by
 have HV:=zH (show ∀ w,vA prog 91 #[vd vq Ob] w fun e w'=>e=vn (.bool true) /\ vz w.1.size w w' from fun w=>by have:=tq Ob w zD;rw [LO] at this;exact this)
 have zq:=zH (fun w' (hb:vz w.1.size w w')=>B8 Ob label A n c l w' LO (Sa hb hl) Ua hlen)
 have HE:=zH (show Dj label l=(Mq Ob label l).a from rfl)
 have hidx:=fun w a b c=>Z2 (w:=w) (a:=a) (b:=b) (c:=c)
 clear hl Ua hlen;generalize Dj label l=z at *;generalize Mq Ob label l=s at *;unfold Ob at *;go_enter func184,ntmps184
 go_wp2_with fail
 refine (HV.out _).mono ?_;rintro e w1 ⟨rfl,La⟩;go_wp2_with fail
 refine (zq.out _ La).mono ?_;rintro e w2 ⟨rfl,Da⟩;have ba:=pa La Da;have ev:s.val=vf #[vd vq s.a,vd vq s.b,vd vq s.c]:=rfl;rw [ev];go_wp2;go_ret
 exact ⟨by rw [HE.out];rfl,ba⟩
theorem GG (O:Oa) (lab:Nat) (el:List Nat) (a:Nat):(rk O lab el a).qs=O.qs++[⟨lab,el,a⟩]:=by simp only [rk]
theorem uZ (i:Bool) (s d:Nat) (q:List Qn):(Mn ⟨i,s,d,q⟩).qs=q:=rfl
theorem SD (O:Oa):(Mn O).qs=O.qs:=by
 cases O with
 | mk i s d q=>exact uZ i s d q
def asked (O:Oa) (lab:Nat) (el:List Nat) (a:Nat):Prop:=Uc el=true /\ oe O.qs lab el=vD a
theorem tQ (z:Nat):dMix z<Ob:=Ic _ zD
def qx (O:Oa):Prop:=∀ q∈O.qs,q.ans<Ob
theorem OrcOk.ans {O:Oa} (h:OrcOk O):qx O:=fun q hq=>(h.qs q hq).ans
theorem kC {O:Oa} (h:qx O) (lab:Nat) (el:List Nat):Pe O lab el<Ob:=by
 unfold Pe;split
 ·split
  ·rename_i a ha
   unfold oe at ha;cases hc:O.qs.find? (aj lab el) with
   | none=>rw [hc] at ha;cases ha
   | some x =>
    rw [hc] at ha
    injection ha with ha
    rw [<- ha];exact h x (List.mem_of_find?_eq_some hc)
  ·split
   ·exact tQ _
   ·exact VM _ _
 ·decide
theorem NU {O:Oa} (h:qx O) (lab:Nat) (el:List Nat):qx (td O lab el):=by
 unfold td;split
 ·split
  ·exact h
  ·split
   ·intro q hq
    rw [GG,SD] at hq;rcases Lq.1 hq with hq | hq
    ·exact h q hq
    ·rw [zz.1 hq];exact tQ _
   ·intro q hq
    rw [GG] at hq;rcases Lq.1 hq with hq | hq
    ·exact h q hq
    ·rw [zz.1 hq];exact VM lab el
 ·exact h
def kd (O:Oa) (lab:Nat) (qs:List (List Nat)):Oa:=qs.foldl (fun o q=>td o lab q) O
def Mj (O:Oa) (lab:Nat) (qs:List (List Nat)):List Nat:=(List.range qs.length).map fun i=>Pe (kd O lab (qs.take i)) lab (qs.getD i [])
theorem WT (O:Oa) (lab:Nat) (qs:List (List Nat)) (i:Nat) (h:i<qs.length):kd O lab (qs.take (i+1))=td (kd O lab (qs.take i)) lab (qs.getD i []):=by
 unfold kd;rw [ID h,List.foldl_append,Gc,Dc h]
 rfl
theorem pR (O:Oa) (lab:Nat) (qs:List (List Nat)):(Mj O lab qs).length=qs.length:=by simp [Mj]
theorem mQ {O:Oa} (h:qx O) (lab:Nat):∀ qs:List (List Nat),qx (kd O lab qs):=by
 intro qs;unfold kd
 induction qs generalizing O with
 | nil=>exact h
 | cons q r ih=>exact ih (NU h lab q)
theorem XT {O:Oa} (h:qx O) (lab:Nat) (qs:List (List Nat)):∀ x∈Mj O lab qs,x<Ob:=fun x hx=>by
 simp only [Mj,Ie] at hx;obtain ⟨k,_,rfl⟩:=hx;exact kC (mQ h _ _) _ _
def tp (l:List Nat):List (List Nat):=(List.range (l.length / 2)).map fun i=>[l.getD (2*i) 0,l.getD (2*i+1) 0]
theorem rR (l:List Nat):(tp l).length=l.length / 2:=by simp [tp]
theorem zFq (l:List Nat) (i:Nat) (h:i<l.length / 2):(tp l).getD i []=[l.getD (2*i) 0,l.getD (2*i+1) 0]:=by simp [tp,Gc,h]
def Ls:Nat -> Oa -> List Nat -> List (List Nat)
 | 0,_,l=>[l]
 | d+1,O,l=>l :: Ls d (kd O 17 (tp l)) (Mj O 17 (tp l))
def TF:Nat -> Oa -> List Nat -> Oa
 | 0,O,_=>O
 | d+1,O,l=>TF d (kd O 17 (tp l)) (Mj O 17 (tp l))
def aI (ls:List (List Nat)):Nat:=(ls.getLastD []).getD 0 0
def Ay:List (List Nat) -> Nat -> List Nat
 | [],_=>[]
 | [_],_=>[]
 | l :: m :: r,i=>l.getD (i ^^^ 1) 0 :: Ay (m :: r) (i / 2)
def Rp (O:Oa) (lab:Nat) (el:List Nat):Option Nat:=if O.ideal then Nl O lab el else vD (Pe O lab el)
def Mi (O:Oa) (lab:Nat) (el:List Nat):Oa:=if O.ideal then O else td O lab el
def Ns:List Nat -> Oa -> Nat -> List Nat -> Nat -> Option Nat
 | [],O,lab,el,_=>Rp O lab el
 | p :: r,O,lab,el,i=>(Rp O lab el).bind fun a=>Ns r (Mi O lab el) 17 (if i%2=1 then [p,a] else [a,p]) (i / 2)
def Ms:List Nat -> Oa -> Nat -> List Nat -> Nat -> Oa
 | [],O,lab,el,_=>Mi O lab el
 | p :: r,O,lab,el,i=>match Rp O lab el with | some a=>Ms r (Mi O lab el) 17 (if i%2=1 then [p,a] else [a,p]) (i / 2) | none=>Mi O lab el
theorem zDl {O:Oa} {lab:Nat} {l:List Nat} (h:Uc l=false):Pe O lab l=0 /\ td O lab l=O:=by
 unfold Pe td;simp only [h,Bool.false_eq_true,if_false,and_self]
theorem zDn {O:Oa} {lab a:Nat} {l:List Nat} (h:Uc l=true) (hf:oe O.qs lab l=vD a):Pe O lab l=a /\ td O lab l=O:=by
 unfold Pe td;simp only [h,hf,if_true,and_self]
theorem zDk {O:Oa} {lab:Nat} {l:List Nat} (h:Uc l=true) (hf:oe O.qs lab l=vB) (hi:O.ideal=true):Pe O lab l=Ln O /\ td O lab l=rk (Mn O) lab l (Ln O):=by
 unfold Pe td;simp only [h,hf,hi,if_true,and_self]
theorem zDm {O:Oa} {lab:Nat} {l:List Nat} (h:Uc l=true) (hf:oe O.qs lab l=vB) (hi:O.ideal=false):Pe O lab l=Dj lab l /\ td O lab l=rk O lab l (Dj lab l):=by
 unfold Pe td;simp only [h,hf,hi,if_true,Bool.false_eq_true,if_false,and_self]
theorem zA9 (w:vv):(zeroValue 3).run prog w= .ok (vd vt 0) w:=by kernel_rfl
theorem uR {w:vv} {g:Nat} {O:Oa} {F:Nat -> Prop} {v:vw} {cs:List vw} {km sm pm:Nat} {E:Nat -> Prop} (h:OrcIn w g O F v cs km sm pm E) {lab:Nat} {l:List Nat} (Yd:lab<18446744073709551616) (hl:Uc l=true) (hlen:l.length <= 1000000) :
  (∃ c:Int,(Instr.lookup 130 (.map (vD km)) (.string (S (yh (lab :: l)))) true).run prog w= .ok (.tuple #[vd vt c, .bool (oe O.qs lab l).isSome]) w /\
   ∀ a,oe O.qs lab l=vD a -> ∃ (i:Nat) (gq:Nat) (d:Nat),c=(i:Int) /\ i<O.qs.length /\ v=ve (vD ⟨gq,0,vB⟩) O.qs.length d /\ w.cell? ⟨gq,i*3+2,vB⟩=vD (vd vq a) /\ gq<w.1.size):=by
 have hk:=SV lab l hlen;obtain ⟨x,ps,Rc,hx⟩:=h.map.look_ok XV underlying130 (zA9 w) (plainElem_int Cz zD) hk;obtain ⟨c,rfl,hc,-⟩:=plainElem_int_inv Cz hx;rw [J4 Yd (RL hl) h.ok.qs] at Rc;refine ⟨c,Rc,fun a ha=>?_⟩
 obtain ⟨i,q,h1,h2,h3⟩:=zDJ Yd (RL hl) h.ok.qs h.ok.apart a ha;have hi:i<O.qs.length:=by
  rcases Mm i O.qs.length with e | e
  ·exact e
  ·rw [Kx e] at h1;cases h1
 rw [h3] at hc;have uE:c=(i:Int):=by
  have:=congrArg Prod.fst hc;simp at this
  exact this.symm
 obtain ⟨h4,h5,-⟩:=h.rows.2 i q h1;rcases h.own.2 with ⟨rfl,h0⟩ | ⟨gq,cap,cur,hv,-,hh,-⟩
 ·omega
 ·refine ⟨i,gq,cap,uE,hi,hv,?_,(Ky.1 hh).1⟩
  have:=h.own.cells (g:=gq) (by rw [hv];rfl) (i*3+2) _ h5
  rw [h2] at this
  simpa [Addr.add] using this
def litI (d:DataW Unit):Int:=match d with | .lit (.int _ c)=>c | _=>0
def BM (O:Oa) (lab:Nat) (l:List Nat):Int:=litI ((Rw O.qs).atKey (jo lab l) (.lit (.int vt 0)))
theorem E5 {w:vv} {g:Nat} {O:Oa} {F:Nat -> Prop} {v:vw} {cs:List vw} {km sm pm:Nat} {E:Nat -> Prop} (h:OrcIn w g O F v cs km sm pm E) {lab:Nat} {l:List Nat} (Yd:lab<18446744073709551616) (hl:Uc l=true) (hlen:l.length <= 1000000) :
  (Instr.lookup 130 (.map (vD km)) (.string (S (yh (lab :: l)))) true).run prog w= .ok (.tuple #[vd vt (BM O lab l), .bool (oe O.qs lab l).isSome]) w:=by
 have hk:=SV lab l hlen;obtain ⟨x,ps,Rc,hx⟩:=h.map.look_ok XV underlying130 (zA9 w) (plainElem_int Cz zD) hk;obtain ⟨c,rfl,hc,-⟩:=plainElem_int_inv Cz hx;rw [J4 Yd (RL hl) h.ok.qs] at Rc;have:BM O lab l=c:=by
  unfold BM;rw [show (Rw O.qs).atKey (jo lab l) (.lit (.int vt 0))= .lit (.int vt c) from congrArg Prod.fst hc]
  rfl
 rw [this];exact Rc
theorem zD0 {w:vv} {g:Nat} {O:Oa} {F:Nat -> Prop} {v:vw} {cs:List vw} {km sm pm:Nat} {E:Nat -> Prop} (h:OrcIn w g O F v cs km sm pm E) {lab:Nat} {l:List Nat} (Yd:lab<18446744073709551616) (hl:Uc l=true) (hlen:l.length <= 1000000) :
  ∀ a,oe O.qs lab l=vD a -> ∃ (i:Nat) (gq:Nat) (d:Nat),BM O lab l=(i:Int) /\ i<O.qs.length /\ v=ve (vD ⟨gq,0,vB⟩) O.qs.length d /\ w.cell? ⟨gq,i*3+2,vB⟩=vD (vd vq a) /\ gq<w.1.size:=fun a ha=>by
 obtain ⟨c,Rc,hf⟩:=uR h Yd hl hlen;obtain ⟨i,gq,d,h1,h2⟩:=hf a ha;refine ⟨i,gq,d,?_,h2⟩;have:=E5 h Yd hl hlen;rw [Rc] at this;simp at this
 rw [<- this,h1]
theorem zFE {O:Oa} {lab:Nat} {l:List Nat} (h:Uc l=false):Nl O lab l=vB:=by
 unfold Nl;simp only [h,Bool.false_eq_true,if_false]
theorem zFG {O:Oa} {lab a:Nat} {l:List Nat} (h:Uc l=true) (hf:oe O.qs lab l=vD a):Nl O lab l=vD a:=by
 unfold Nl;simp only [h,hf,if_true]
theorem zFD {O:Oa} {lab:Nat} {l:List Nat} (h:Uc l=true) (hf:oe O.qs lab l=vB) (hi:O.ideal=true):Nl O lab l=vB:=by
 unfold Nl;simp only [h,hf,hi,if_true]
theorem zFF {O:Oa} {lab:Nat} {l:List Nat} (h:Uc l=true) (hf:oe O.qs lab l=vB) (hi:O.ideal=false):Nl O lab l=vD (Dj lab l):=by
 unfold Nl;simp only [h,hf,hi,if_true,Bool.false_eq_true,if_false]
theorem tZ (O:Oa):(Mn O).ideal=O.ideal:=by
 cases O with
 | mk i s d q=>exact zCd i s d q
where
 zCd (i:Bool) (s d:Nat) (q:List Qn):(Mn ⟨i,s,d,q⟩).ideal=i:=rfl
theorem OU {w:vv} {g:Nat} {O:Oa} {F:Nat -> Prop} (h:OrcAt w g O F) (lab:Nat) (l:List Nat) (A:Option vx) (n c:Nat) {K:Nat -> Prop} (hl:Kg K w (ve A n c) l) (hK:∀ b,K b -> ¬F b)
  (Yd:lab<18446744073709551616) (hlen:l.length <= 1000000) (Ua:0<l.length \/ O.ideal=true) (hn:O.qs.length <= 1000000) (hd:O.dr <= 1000000) :
  vA prog 163 #[.pointer (vD ⟨g,0,vB⟩),vd vq lab,ve A n c] w fun e w'=>e=vn (vd vq (Pe O lab l:Int)) /\ ∃ F',OrcAt w' g (td O lab l) F' /\ Moved F F' w w':=by
 have Li:=zH (J6 A n c l w (jq hl));obtain ⟨v,cs,km,sm,pm,E,Xd⟩:=h;cases he:Uc l
 ·rw [he] at Li
  obtain ⟨e1,e2⟩:=zDl (O:=O) (lab:=lab) he;rw [e1,e2];have Fj:=zH (show ∃ F',OrcAt w g O F' /\ Moved F F' w w from ⟨F,⟨v,cs,km,sm,pm,E,Xd⟩,Moved.refl⟩)
  clear hl hK Ua hn hd Xd he e1 e2;go_enter func163,ntmps163
  go_wp2_with fail
  refine Li.out.mono ?_;rintro e w1 ⟨rfl,rfl⟩;go_wp2_with fail
  go_ret
  exact ⟨rfl,Fj.out⟩
 ·rw [he] at Li
  have HE:=zH he;have HI:=zH Xd;have HL:=zH hl;have HK:=zH hK;have Jg:=zH hlen;have HN:=zH hn;have oM:=zH Yd;have Qv:=zH (fun w1 (k:Blk w1 w.1.size 22 #[vd vq lab]) (hb:vz w.1.size w w1)=>show vA prog 233 #[ve A n c,ve (vD ⟨w.1.size,0,vB⟩) 1 1] w1 fun e w'=>e=vn (.string (S (yh (lab :: l)))) /\ vz w1.1.size w1 w' from B4 A (vD ⟨w.1.size,0,vB⟩) n c 1 1 l [lab] w1 (Sa hb (jq hl)) (TH (l:=[lab]) k (by simp;exact Yd) (by simp [maxLen])) hlen zS)
  obtain ⟨Yh,ba⟩:=zN w 22 #[vd vq lab];clear he hl hK Xd hlen hn;cases hf:oe O.qs lab l with
  | some a =>
   obtain ⟨e1,e2⟩:=zDn (O:=O) (lab:=lab) HE.out hf;rw [e1,e2];have HF:=zH hf;clear e1 e2 hf Ua hd;go_enter func163,ntmps163
   go_wp2_with fail
   refine Li.out.mono ?_;rintro e w1 ⟨rfl,rfl⟩;go_wp2_with fail
   generalize w.alloc _=w1 at Yh ba |-;refine (Qv.out w1 Yh ba).mono ?_;rintro e w2 ⟨rfl,Da⟩;replace ba:=pa ba Da;have H2:=zH (HI.out.below ba);have Fo:=zH (Dr HL.out ba);have M2:=xe (F:=F) ba;obtain ⟨x,Rc,VJ⟩:=uR H2.out oM.out HE.out Jg.out;have hc:=H2.out.blk.cell;clear Da ba Yh Qv;rw [HF.out] at Rc VJ;obtain ⟨i,gq,d,rfl,hi,rfl,To,hgq⟩:=VJ a rfl;have Fj:=zH (show ∃ F',OrcAt w2 g O F' /\ Moved F F' w w2 from ⟨F,⟨_,cs,km,sm,pm,E,H2.out⟩,M2⟩)
   obtain ⟨nq,ME⟩:=zEX (O.qs.length);rw [<- ME] at hi hc;have g1:(0:Int)<=i:=by omega
   have g2:(i:Int)<nq:=by omega
   clear VJ ME M2;simp only [Option.isSome] at Rc;go_wp2_with fail
   go_ret
   exact ⟨rfl,Fj.out⟩
  | none =>
   have HF:=zH hf;cases hi:O.ideal
   ·obtain ⟨e1,e2⟩:=zDm (O:=O) (lab:=lab) HE.out hf hi
    rw [e1,e2];have HH:=zH hi;have eK:0<l.length:=by
     rcases Ua with e | e
     ·exact e
     ·rw [hi] at e;cases e
    have HNE:=zH eK;clear e1 e2 hf hi Ua eK hd;go_enter func163,ntmps163
    go_wp2_with fail
    refine Li.out.mono ?_;rintro e w1 ⟨rfl,rfl⟩;go_wp2_with fail
    generalize w.alloc _=w1 at Yh ba |-;refine (Qv.out w1 Yh ba).mono ?_;rintro e w2 ⟨rfl,Da⟩;replace ba:=pa ba Da;have H2:=zH (HI.out.below ba);have Fo:=zH (Dr HL.out ba);have M2:=xe (F:=F) ba;obtain ⟨x,Rc,VJ⟩:=uR H2.out oM.out HE.out Jg.out;have hc:=H2.out.blk.cell;clear Da ba Yh Qv;rw [HF.out] at Rc;rw [HH.out] at hc;clear VJ;simp only [Option.isSome] at Rc;go_wp2_with fail
    refine (AW lab A n c l w2 (jq Fo.out) HNE.out Jg.out).mono ?_;rintro e w3 ⟨rfl,Ta⟩;have H3:=zH (H2.out.below Ta);have HL3:=zH (Dr Fo.out Ta);have M3:=M2.trans (xe (F:=F) Ta);clear hc Rc Ta M2;go_wp2_with fail
    refine (B9 H3.out lab l (Dj lab l) A n c HL3.out HK.out oM.out HE.out (VM lab l) Jg.out HN.out HF.out (fun _=>rfl)).mono ?_
    rintro e w4 ⟨rfl,F',h4,m4⟩;have Fj:=zH (show ∃ F',OrcAt w4 g (rk O lab l (Dj lab l)) F' /\ Moved F F' w w4 from ⟨F',h4,M3.trans m4⟩)
    clear h4 m4 M3;go_wp2;go_ret
    exact ⟨rfl,Fj.out⟩
   ·obtain ⟨e1,e2⟩:=zDk (O:=O) (lab:=lab) HE.out hf hi
    rw [e1,e2];have HH:=zH hi;have HD:=zH hd;clear e1 e2 hf hi Ua hd;go_enter func163,ntmps163
    go_wp2_with fail
    refine Li.out.mono ?_;rintro e w1 ⟨rfl,rfl⟩;go_wp2_with fail
    generalize w.alloc _=w1 at Yh ba |-;refine (Qv.out w1 Yh ba).mono ?_;rintro e w2 ⟨rfl,Da⟩;replace ba:=pa ba Da;have H2:=zH (HI.out.below ba);have Fo:=zH (Dr HL.out ba);have M2:=xe (F:=F) ba;obtain ⟨x,Rc,VJ⟩:=uR H2.out oM.out HE.out Jg.out;have hc:=H2.out.blk.cell;clear Da ba Yh Qv;rw [HF.out] at Rc;rw [HH.out] at hc;clear VJ;simp only [Option.isSome] at Rc;go_wp2_with fail
    refine (zCc H2.out HH.out (zQ HD.out)).mono ?_;rintro e w3 ⟨rfl,h3,ov⟩;have H3:=zH h3;have HL3:=zH (lF Fo.out ov.size fun b hb hl=>ov.block b hl (fun e=>HK.out b hb (by rw [Pb e];exact HI.out.fg)))
    have M3:=M2.trans (EO (F:=F) ov (fun b hb=>by rw [<- Pb hb];exact HI.out.fg))
    clear hc Rc ov M2 h3;go_wp2_with fail
    refine (B9 H3.out lab l (Ln O) A n c HL3.out HK.out oM.out HE.out (tQ _) Jg.out (by rw [SD];exact HN.out) (by rw [SD];exact HF.out) (fun e=>by rw [tZ,HH.out] at e;cases e)).mono ?_
    rintro e w4 ⟨rfl,F',h4,m4⟩;have Fj:=zH (show ∃ F',OrcAt w4 g (rk (Mn O) lab l (Ln O)) F' /\ Moved F F' w w4 from ⟨F',h4,M3.trans m4⟩)
    clear h4 m4 M3;go_wp2;go_ret
    exact ⟨rfl,Fj.out⟩
theorem lR {w u:vv} (h:vz w.drew.1.size w.drew u):vz w.1.size w u:=⟨h.os,h.tape,h.output,h.size,h.block⟩
theorem WX {a b:Prop} (h:a) (s:Imp a b:=by
 (repeat ((first | (apply Imp.via (oI (ya) rfl rfl (fun _ _ _ h=>h))) | (apply Imp.via (nI (v:=?_) (ya) rfl rfl (fun _ _ _ h=>h) ?hr);case hr=>(intro w' hR;(first | have Yq:=wM ((ya).trans _ _ _ da hR) | skip);have Rc:=BI.out _ (lR (ya.trans _ _ _ da hR));go_simp;try with_reducible rfl)));simp only [vF,zLa,zLb,zLc]))
 exact Imp.rfl'):b:=s h
theorem zFC {w:vv} {g:Nat} {O:Oa} {F:Nat -> Prop} (h:OrcAt w g O F) (lab:Nat) (l:List Nat) (A:Option vx) (n c:Nat) (hl:RWd w [ve A n c] l)
  (Yd:lab<18446744073709551616) (hlen:l.length <= 1000000) (Ua:0<l.length \/ O.ideal=true \/ (oe O.qs lab l).isSome=true) (hn:O.qs.length <= 1000000) :
  vA prog 203 #[.pointer (vD ⟨g,0,vB⟩),vd vq lab,ve A n c] w fun e w'=>e=vn (.tuple #[vd vq (((Nl O lab l).getD 0:Nat):Int), .bool (Nl O lab l).isSome]) /\ vz w.1.size w w':=by
 have Li:=zH (J6 A n c l w hl);obtain ⟨v,cs,km,sm,pm,E,Xd⟩:=h;cases he:Uc l
 ·rw [he] at Li
  rw [zFE (O:=O) (lab:=lab) he];clear hl Ua hn Xd he;go_enter func203,ntmps203
  go_wp2_with fail
  refine Li.out.mono ?_;rintro e w1 ⟨rfl,rfl⟩;go_wp2_with fail
  go_ret2
  exact ⟨rfl,Bb _ _⟩
 ·rw [he] at Li
  have HE:=zH he;have HI:=zH Xd;have HL:=zH hl;have Jg:=zH hlen;have HN:=zH hn;have oM:=zH Yd;have Qv:=zH (fun w1 b (k:Blk w1 b 22 #[vd vq lab]) (hb:vz w.1.size w w1)=>show vA prog 233 #[ve A n c,ve (vD ⟨b,0,vB⟩) 1 1] w1 fun e w'=>e=vn (.string (S (yh (lab :: l)))) /\ vz w1.1.size w1 w' from B4 A (vD ⟨b,0,vB⟩) n c 1 1 l [lab] w1 (Sa hb hl) (TH (l:=[lab]) k (by simp;exact Yd) (by simp [maxLen])) hlen zS)
  have BI:=zH (fun u (hb:vz w.1.size w u)=>E5 (Xd.below hb) Yd he hlen)
  have jV:=zH Xd;have Wm:=Xd.blk.cell;have WJ:=Xd.blk.lt;have HFD:=zH (zD0 Xd Yd he hlen);clear he hl Xd hlen hn;cases hf:oe O.qs lab l with
  | some a =>
   rw [zFG (O:=O) (lab:=lab) HE.out hf];obtain ⟨i,gq,d,uE,hi,rfl,hcq0,hgq⟩:=HFD.out a hf;have BI:=zH (show ∀ u,vz w.1.size w u -> (Instr.lookup 130 (.map (vD km)) (.string (S (yh (lab :: l)))) true).run prog u= .ok (.tuple #[vd vt i, .bool true]) u from fun u hb=>by have:=BI.out u hb;rw [hf,uE] at this;exact this)
   have HCQ:=zH hcq0;have HI0:=zH hi;clear hf Ua HFD uE hcq0 hi;go_enter func203,ntmps203
   go_wp2_with fail
   refine Li.out.mono ?_;rintro e w1 ⟨rfl,rfl⟩;go_wp2_with fail
   refine Yc (yc) [6,7] [0,1,2,3,4,5,6,7,8,9,10,11,12,13] zK zK ?_;refine Td (ya) ?_;intro Wc Ca da;refine dc ?_;refine Bd (ya) rfl rfl rfl ?_;go_simp;refine ⟨(Bb _ _).alloc zR _,?_⟩;have ba:vz w.1.size w (Wc.alloc (.cells #[vd vq lab] 22)):=by rw [Ca.out];exact (Bb w.1.size w.drew).alloc zR _ |> lR
   have Yh:=Blk.new Wc 22 #[vd vq lab];replace da:=ya.trans _ _ _ da ((Bb Wc.1.size Wc).alloc zR (.cells #[vd vq lab] 22))
   refine zPU ?_
   generalize Wc.alloc _=w1 at Yh ba da |-;clear Ca;refine pd ya rfl rfl rfl ((Qv.out w1 _ Yh ba).mono ?_);rintro e w2 ⟨rfl,Da⟩;refine ⟨_,rfl,Da,?_⟩;replace da:=zM ya da (Da);refine zPU ?_;refine WX ?_;refine Ec ?_;have hc:=(jV.out.below (pa ba Da)).blk.cell;replace ba:=pa ba Da;clear Da Yh da Wm WJ;have To:=(ba.cell (p:=⟨gq,i*3+2,vB⟩) hgq).trans HCQ.out;have hi:=HI0.out;obtain ⟨nq,ME⟩:=zEX (O.qs.length);rw [<- ME] at hi hc;have g1:(0:Int)<=i:=by omega
   have g2:(i:Int)<nq:=by omega
   clear ME;go_wp2_with fail
   go_ret2
   exact ⟨rfl,ba⟩
  | none =>
   have HF:=zH hf;cases hi:O.ideal
   ·rw [zFF (O:=O) (lab:=lab) HE.out hf hi]
    have BI:=zH (show ∀ u,vz w.1.size w u -> (Instr.lookup 130 (.map (vD km)) (.string (S (yh (lab :: l)))) true).run prog u= .ok (.tuple #[vd vt (BM O lab l), .bool false]) u from fun u hb=>by have:=BI.out u hb;rw [hf] at this;exact this)
    have HH:=zH hi;have eK:0<l.length:=by
     rcases Ua with e | e | e
     ·exact e
     ·rw [hi] at e;cases e
     ·rw [hf] at e;cases e
    have HNE:=zH eK;clear hf hi Ua eK;go_enter func203,ntmps203
    go_wp2_with fail
    refine Li.out.mono ?_;rintro e w1 ⟨rfl,rfl⟩;go_wp2_with fail
    refine Yc (yc) [6,7] [0,1,2,3,4,5,6,7,8,9,10,11,12,13] zK zK ?_;refine Td (ya) ?_;intro Wc Ca da;refine dc ?_;refine Bd (ya) rfl rfl rfl ?_;go_simp;refine ⟨(Bb _ _).alloc zR _,?_⟩;have ba:vz w.1.size w (Wc.alloc (.cells #[vd vq lab] 22)):=by rw [Ca.out];exact (Bb w.1.size w.drew).alloc zR _ |> lR
    have Yh:=Blk.new Wc 22 #[vd vq lab];replace da:=ya.trans _ _ _ da ((Bb Wc.1.size Wc).alloc zR (.cells #[vd vq lab] 22))
    refine zPU ?_
    generalize Wc.alloc _=w1 at Yh ba da |-;clear Ca;refine pd ya rfl rfl rfl ((Qv.out w1 _ Yh ba).mono ?_);rintro e w2 ⟨rfl,Da⟩;refine ⟨_,rfl,Da,?_⟩;replace da:=zM ya da (Da);refine zPU ?_;refine WX ?_;refine Ec ?_;have hc:=(jV.out.below (pa ba Da)).blk.cell;replace ba:=pa ba Da;clear Da Yh da Wm WJ;rw [HH.out] at hc;go_wp2_with fail
    refine (AW lab A n c l _ (Sa ba HL.out) HNE.out Jg.out).mono ?_;rintro e w3 ⟨rfl,Ta⟩;replace ba:=pa ba Ta;go_wp2
    go_ret2
    exact ⟨rfl,ba⟩
   ·rw [zFD (O:=O) (lab:=lab) HE.out hf hi]
    have BI:=zH (show ∀ u,vz w.1.size w u -> (Instr.lookup 130 (.map (vD km)) (.string (S (yh (lab :: l)))) true).run prog u= .ok (.tuple #[vd vt (BM O lab l), .bool false]) u from fun u hb=>by have:=BI.out u hb;rw [hf] at this;exact this)
    have HH:=zH hi;clear hf hi Ua;go_enter func203,ntmps203
    go_wp2_with fail
    refine Li.out.mono ?_;rintro e w1 ⟨rfl,rfl⟩;go_wp2_with fail
    refine Yc (yc) [6,7] [0,1,2,3,4,5,6,7,8,9,10,11,12,13] zK zK ?_;refine Td (ya) ?_;intro Wc Ca da;refine dc ?_;refine Bd (ya) rfl rfl rfl ?_;go_simp;refine ⟨(Bb _ _).alloc zR _,?_⟩;have ba:vz w.1.size w (Wc.alloc (.cells #[vd vq lab] 22)):=by rw [Ca.out];exact (Bb w.1.size w.drew).alloc zR _ |> lR
    have Yh:=Blk.new Wc 22 #[vd vq lab];replace da:=ya.trans _ _ _ da ((Bb Wc.1.size Wc).alloc zR (.cells #[vd vq lab] 22))
    refine zPU ?_
    generalize Wc.alloc _=w1 at Yh ba da |-;clear Ca;refine pd ya rfl rfl rfl ((Qv.out w1 _ Yh ba).mono ?_);rintro e w2 ⟨rfl,Da⟩;refine ⟨_,rfl,Da,?_⟩;replace da:=zM ya da (Da);refine zPU ?_;refine WX ?_;refine Ec ?_;have hc:=(jV.out.below (pa ba Da)).blk.cell;replace ba:=pa ba Da;clear Da Yh da Wm WJ;rw [HH.out] at hc;go_wp2_with fail
    go_ret2
    exact ⟨rfl,ba⟩
theorem zFB {w:vv} {g:Nat} {O:Oa} {F:Nat -> Prop} (h:OrcAt w g O F) (lab:Nat) (l:List Nat) (A:Option vx) (n c:Nat) (hl:RWd w [ve A n c] l)
  (Yd:lab<18446744073709551616) (hlen:l.length <= 1000000) (Ua:0<l.length \/ O.ideal=true) (hn:O.qs.length <= 1000000) :
  vA prog 203 #[.pointer (vD ⟨g,0,vB⟩),vd vq lab,ve A n c] w fun e w'=>e=vn (.tuple #[vd vq (((Nl O lab l).getD 0:Nat):Int), .bool (Nl O lab l).isSome]) /\ vz w.1.size w w' :=
 zFC h lab l A n c hl Yd hlen (Ua.imp_right .inl) hn
theorem V6 (i:Bool) (s:Nat) (hs:s<18446744073709551616):OrcOk (newO i s):=⟨hs,fun _ h=>(nomatch h),List.Pairwise.nil,fun _ _ h=>(nomatch h)⟩
theorem Y5 (w:vv) :
  vA prog 50 #[] w fun e w'=>∃ g km sm pm F,e=vn (.pointer (vD ⟨g,0,vB⟩)) /\ OrcIn w' g ⟨false,0,0,[]⟩ F (ve vB 0 0) [] km sm pm (fun _=>False) /\ (∀ b,F b -> w.1.size <= b) /\ vz w.1.size w w':=by
 have hmm:=@run_makeMap prog;have hm:=World.ownsMap_made (H:=Unit) w prog 9 (plainElem prog 3);go_enter func50,ntmps50
 go_wp2_with fail
 go_ret
 have La:=zA w (.map #[] 0);have Da:=La.alloc (by first | omega | (simp;done) | (simp;omega)) (.map #[] 0)
 have Ta:=Da.alloc (by first | omega | (simp;done) | (simp;omega)) (.map #[] 0)
 have Ub:=Ta.alloc (by first | omega | (simp;done) | (simp;omega)) (.cells #[.bool false,vd vq 0,vd vt 0,ve vB 0 0, .map (vD w.1.size), .map (vD (w.1.size+1)), .map (vD (w.1.size+1+1))] 134)
 have kb:=Blk.new (((w.alloc (.map #[] 0)).alloc (.map #[] 0)).alloc (.map #[] 0)) 134 #[.bool false,vd vq 0,vd vt 0,ve vB 0 0, .map (vD w.1.size), .map (vD (w.1.size+1)), .map (vD (w.1.size+1+1))];have hm4:=((hm.alloc (.map #[] 0)).alloc (.map #[] 0)).alloc (.cells #[.bool false,vd vq 0,vd vt 0,ve vB 0 0, .map (vD w.1.size), .map (vD (w.1.size+1)), .map (vD (w.1.size+1+1))] 134);have db:(((w.alloc (.map #[] 0)).alloc (.map #[] 0)).alloc (.map #[] 0)).1.size=w.1.size+1+1+1:=by simp
 rw [db] at kb;generalize (((w.alloc (.map #[] 0)).alloc (.map #[] 0)).alloc (.map #[] 0)).alloc _=w4 at Ub kb hm4 |-;have hl:=kb.lt;refine ⟨w.1.size+1+1+1,w.1.size,w.1.size+1,w.1.size+1+1,fun b=>b=w.1.size+1+1+1 \/ b=w.1.size,rfl,?_,fun b h=>zO,Ub⟩
 exact ⟨V6 false 0 zD,kb,⟨rfl, .inl ⟨rfl,rfl⟩⟩,zF4 _ _,hm4,fun _ h=>h.elim,zO,by simp [Value.ownBlock],by simp [Value.ownBlock], .inl rfl,by simp [Value.ownBlock], .inr rfl,fun _ h=>h.elim,fun b h=>zO⟩
theorem UW (w:vv) :
  vA prog 14 #[] w fun e w'=>∃ g F,e=vn (.pointer (vD ⟨g,0,vB⟩)) /\ OrcAt w' g ⟨false,0,0,[]⟩ F /\ (∀ b,F b -> w.1.size <= b) /\ vz w.1.size w w':=by
 go_enter func14,ntmps14
 go_wp2_with fail
 refine (Y5 w).mono ?_;rintro e w1 ⟨g,km,sm,pm,F,rfl,h,hF,hb⟩;go_wp2;go_ret
 exact ⟨g,F,rfl,⟨_,_,_,_,_,_,h⟩,hF,hb⟩
theorem zDq (de:Nat) (w:vv) (hs:de<18446744073709551616) :
  vA prog 16 #[vd vq de] w fun e w'=>∃ g F,e=vn (.pointer (vD ⟨g,0,vB⟩)) /\ OrcAt w' g ⟨true,de,0,[]⟩ F /\ (∀ b,F b -> w.1.size <= b) /\ vz w.1.size w w':=by
 have HS:=zH hs;clear hs;go_enter func16,ntmps16
 go_wp2_with fail
 refine (Y5 w).mono ?_;rintro e w1 ⟨g,km,sm,pm,F,rfl,h,hF,hb⟩;have hf:=h.blk.frozen;have H:=zH h;have HF:=zH hF;have hc:=h.blk.cell;clear h hF;go_wp2_with fail
 go_ret
 have hg:=LQ w1 g 0 1 (.bool true) (vd vq de);have kb:=cJ H.out.blk 0 1 (.bool true) (vd vq de);have jH:=HF.out g H.out.fg;generalize (w1.setCell ⟨g,0,vB⟩ (.bool true)).setCell ⟨g,1,vB⟩ (vd vq de)=w2 at hg kb |-;refine ⟨g,F,rfl,⟨_,_,_,_,_,_,H.out.turn (O':=⟨true,de,0,[]⟩) (V6 true de HS.out) rfl (by simpa using kb) hg⟩,HF.out,hb.trans (Po hg hb.size jH)⟩
theorem Q3 {w:vv} {g:Nat} {O:Oa} {F:Nat -> Prop} (h:OrcAt w g O F) :
  vA prog 202 #[.pointer (vD ⟨g,0,vB⟩)] w fun e w'=>e=vn (.bool O.ideal) /\ w=w':=by
 obtain ⟨v,cs,km,sm,pm,E,Xd⟩:=h;have hc:=Xd.blk.cell;clear Xd;go_enter func202,ntmps202
 go_wp2_with fail
 go_ret
 exact ⟨rfl,rfl⟩
def Cv (n:Nat):Bool:=(List.range 11).any fun d=>2^d == n
theorem sY:∀ b:Fin 1025,1 <= b.val -> bits .and vt (b.val:Int) ((b.val:Int)-1)=((b.val &&& (b.val-1):Nat):Int):=by decide +kernel
theorem I6:∀ b:Fin 1025,1 <= b.val -> Cv b.val=decide (b.val &&& (b.val-1)=0):=by decide +kernel
theorem F6 {n:Nat} (h:Cv n=true):∃ d,d <= 10 /\ n=2^d:=by
 obtain ⟨d,hd,he⟩:=List.any_eq_true.1 h;exact ⟨d,by have:=Lm.1 hd;omega,(Qk.1 he).symm⟩
theorem D6 {d:Nat} (h:d <= 10):Cv (2^d)=true:=List.any_eq_true.2 ⟨d,Lm.2 zO,zS⟩
theorem zIw {n:Nat} (h:1024<n):Cv n=false:=by
 cases hc:Cv n
 ·rfl
 ·obtain ⟨d,hd,rfl⟩:=F6 hc
  have:2^d <= 2^10:=QB zO hd;omega
theorem G6:Cv 0=false:=by decide
theorem zDF (n:Nat) (w:vv) :
  vA prog 161 #[vd vt n] w fun e w'=>e=vn (.bool (Cv n)) /\ w=w':=by
 by_cases h1:1 <= n
 ·by_cases h2:n <= 1024
  ·have HN:=zH (I6 ⟨n,zO⟩ h1)
   have ha:=sY ⟨n,zO⟩ h1;simp only at ha;obtain ⟨a,JJ⟩:=zEX (n &&& (n-1));rw [<- JJ] at ha;have HA:=zH JJ;have d1:decide ((1:Int)<=n)=true:=Qb zO;have d2:decide ((n:Int)<=1024)=true:=Qb zO;have e1:vt.wrap ((n:Int)-1)=(n:Int)-1:=by rw [pj];omega
   have d3:((a:Int) == 0)=decide (a=0):=by by_cases h:a=0 <;> simp [h]
   obtain ⟨r,hr⟩:=zEX (Cv n);have HR:=zH (show decide (a=0)=r by rw [hr,HA.out];exact HN.out.symm)
   rw [<- hr];rw [HR.out] at d3;clear hr HN JJ h1 h2;go_enter func161,ntmps161
   go_wp2_with fail
   go_ret
   exact ⟨rfl,rfl⟩
  ·rw [zIw zO]
   have d1:decide ((1:Int)<=n)=true:=Qb zO;have d2:decide ((n:Int)<=1024)=false:=Ib zO;clear h1 h2;go_enter func161,ntmps161
   go_wp2_with fail
   go_ret
   exact ⟨rfl,rfl⟩
 ·obtain rfl:n=0:=by omega
  rw [G6];clear h1;go_enter func161,ntmps161
  go_wp2_with fail
  go_ret
  exact ⟨rfl,rfl⟩
theorem I5 (A:Option vx) (n c:Nat) (l:List Nat) (w:vv) (hl:RWd w [ve A n c] l) :
  vA prog 162 #[ve A n c] w fun e w'=>e=vn (.bool (Uc l)) /\ w=w':=by
 obtain ⟨rfl,h1,h2,-,Ka⟩:=Mb hl;have gm:=Mh h1 h2;clear hl h1 h2;go_enter func162,ntmps162
 go_wp2_with fail
 go_loop [7] (fun i=>∃ j:Nat,j <= l.length /\ i=vd vt j /\ Hid (Uc (l.take j)=true)) (fun i=>l.length-(intOf i).toNat)
 case atStart=>exact ⟨0,Rb _,rfl,rfl⟩
 case round =>
  obtain ⟨j,hj,rfl,HB⟩:=hrel;by_cases ta:j<l.length
  ·obtain ⟨b,q,rfl,Zb,hc⟩:=Ve Ka ta
   have HL:=zH ta;have g1:(0:Int)<=j:=by omega
   have g2:(j:Int)<l.length:=by omega
   have HN:=zH (fun h=>qY (l:=l) ta h)
   have HY:=zH (fun h=>rY (l:=l) ta HB.out h)
   revert hc HN HY
   generalize l.getD j 0=y;intro hc HN HY;clear Ka;by_cases z:Ob <= y
   ·have HZ:=zH (HN.out z)
    unfold Ob at z;have d1:decide ((18446744069414584321:Int)<=y)=true:=Qb zO;clear HN HY;go_wp2;go_ret
    exact ⟨by rw [HZ.out];rfl,rfl⟩
   ·have HZ:=zH (HY.out zO)
    unfold Ob at z;have d1:decide ((18446744069414584321:Int)<=y)=false:=Ib zO;clear HN HY;go_wp2
    go_round
    case rel=>exact ⟨j+1,zO,by go_num,HZ.out⟩
    case measure=>simp [intOf];omega
  ·have e:j=l.length:=by omega
   have HA:=zH (show Uc l=true by have:=HB.out;rwa [e,List.take_length] at this)
   clear Ka;go_wp2;go_ret
   exact ⟨by rw [HA.out];rfl,rfl⟩
theorem X9 (x:Nat) (A:Option vx) (n c:Nat) (l:List Nat) (w:vv) (hl:RWd w [ve A n c] l) (hlen:l.length <= 1000000) :
  vA prog 164 #[vd vq x,ve A n c] w fun e w'=>∃ v,e=vn v /\ w'.ownsRow w.1.size 22 1 v (n+1) (Qa (x :: l)) /\ vz w.1.size w w':=by
 obtain ⟨rfl,h1,h2,ta,Ka⟩:=Mb hl;clear hl ta h1 h2;have ba:=zA w (.cells #[vd vq x] 22);have jA:(w.alloc (.cells #[vd vq x] 22)).ownsRow w.1.size 22 1 (ve (vD ⟨w.1.size,0,vB⟩) 1 1) 1 (Qa [x]):=⟨rfl, .inr ⟨w.1.size,1,_,rfl,zR,heap_alloc_new w _,zR,by simp [maxLen],rfl,rfl⟩⟩
 have zV:=Ka.below ba;go_enter func164,ntmps164
 go_wp2_with (at_builtin;refine fe rfl _ _ rfl WD rfl jA rfl zV (Gf _) zO (zQ ba.size) ?_)
 intro v' w2 oa Ja tb;go_wp2;go_ret
 exact ⟨_,rfl,by rw [Nat.add_comm];exact Ii (a:=[x]) oa rfl,ba.trans (Ee jA Ja (zQ ba.size))⟩
def KRR (K:Nat -> Prop) (w:vv) (v:vw) (ls:List (List Nat)):Prop :=
 ∃ A n c,v=ve A n c /\ ls.length=n /\ n <= c /\ c <= maxLen /\ ∀ (i:Nat) (hi:i<ls.length),∃ b q A1 n1 c1,A=vD ⟨b,q,vB⟩ /\ K b /\ b<w.1.size /\ w.cell? ⟨b,q+i,vB⟩=vD (ve A1 n1 c1) /\ Kg K w (ve A1 n1 c1) ls[i]
section
variable {K K' F F' tI T:Nat -> Prop} {w w':vv} {v:vw} {ls:List (List Nat)}
theorem VV {A:Option vx} {n c:Nat} (h:KRR K w (ve A n c) ls) {i:Nat} (hi:i<ls.length):∃ b q A1 n1 c1,A=vD ⟨b,q,vB⟩ /\ K b /\ b<w.1.size /\ w.cell? ⟨b,q+i,vB⟩=vD (ve A1 n1 c1) /\ Kg K w (ve A1 n1 c1) (ls.getD i []):=by
 obtain ⟨A',n',c',h1,h2,h3,h4,h5⟩:=h
 injection h1 with e1 e2 e3
 subst e1 e2 e3;obtain ⟨b,q,A1,n1,c1,e1,e2,e3,e4,e5⟩:=h5 i hi;exact ⟨b,q,A1,n1,c1,e1,e2,e3,e4,by rw [Gc,Dc hi];exact e5⟩
theorem zEf {w0:vv} {row:Option Nat} (m:Moved F F' w0 w) (hg:w.grownBy w' row) (hr:∀ b,row=vD b -> w0.1.size <= b):Moved F F' w0 w' :=
 ⟨hg.os.trans m.os,hg.tape.trans m.tape,hg.output.trans m.output,Cb m.size hg.size,fun b hb hn=>(hg.block b (zQ m.size) (fun e=>by have:=hr b e.symm;omega)).trans (m.block b hb hn),m.foot⟩
theorem Hk {w0:vv} {x:Nat} (m:Moved F F' w0 w) (hx:w0.1.size <= x) (i:Nat) (u:vw):Moved F F' w0 (w.setCell ⟨x,i,vB⟩ u) :=
 ⟨m.os,m.tape,m.output,by simpa [vE] using m.size,fun b hb hn=>(Tg w _ u b (fun e=>by subst e;exact absurd hb (by simpa using hx))).trans (m.block b hb hn),m.foot⟩
theorem zC0 {x i N:Nat} (hx:F x) (u:vw):Ul F N w (w.setCell ⟨x,i,vB⟩ u):=⟨rfl,rfl,rfl,by simp [vE],fun b _ hn=>Tg w _ u b (fun e=>hn (by subst e;exact hx))⟩
theorem OrcAt.set {g x i:Nat} {O:Oa} (h:OrcAt w g O F) (hx:¬F x) (u:vw):OrcAt (w.setCell ⟨x,i,vB⟩ u) g O F :=
 h.keep (by simp [vE]) fun b hb=>Tg w _ u b (fun e=>hx (by subst e;exact hb))
end
structure Od (K:Nat -> Prop) (w u:vv):Prop where
 os:u.os=w.os
 tape:u.tape=w.tape
 output:u.output=w.output
 size:w.1.size <= u.1.size
 block:∀ b,K b -> b<w.1.size -> u.1[b]?=w.1[b]?
section
variable {K K' F F':Nat -> Prop} {w u v:vv} {Q Q':vv -> Prop}
theorem QT:Od K w w:=⟨rfl,rfl,rfl,zR,fun _ _ _=>rfl⟩
theorem Rx (h:Od K w u) (k:Od K u v):Od K w v:=⟨k.os.trans h.os,k.tape.trans h.tape,k.output.trans h.output,Cb h.size k.size,fun b hb hl=>(k.block b hb (Be hl h.size)).trans (h.block b hb hl)⟩
theorem Pu (h:Od K w u) (hk:∀ b,K' b -> K b):Od K' w u:=⟨h.os,h.tape,h.output,h.size,fun b hb hl=>h.block b (hk b hb) hl⟩
theorem Yb (h:vz w.1.size w u):Od K w u:=⟨h.os,h.tape,h.output,h.size,fun b _ hl=>h.block b hl⟩
theorem IL (m:Moved F F' w u) (hK:∀ b,K b -> ¬F b):Od K w u:=⟨m.os,m.tape,m.output,m.size,fun b hb hl=>m.block b hl (hK b hb)⟩
theorem Oo:Od K w w.drew:=⟨rfl,rfl,rfl,zR,fun _ _ _=>rfl⟩
theorem zBj {row:Option Nat} (h:w.grownBy u row) (hr:∀ b,row=vD b -> ¬K b):Od K w u:=⟨h.os,h.tape,h.output,h.size,fun b hb hl=>h.block b hl (fun e=>hr b e.symm hb)⟩
theorem dQ {x i:Nat} {c:vw} (hx:¬K x):Od K w (w.setCell ⟨x,i,vB⟩ c):=⟨rfl,rfl,rfl,by simp [vE],fun b hb _=>Tg w _ c b (fun e=>hx (by subst e;exact hb))⟩
def Hd (K:Nat -> Prop) (w:vv) (Q:vv -> Prop):Prop:=∀ u,Od K w u -> Q u
theorem ym (h:Hd K w Q):Q w:=h w QT
theorem Za (h:Hd K w Q) (a:Od K w u):Hd K u Q:=fun v k=>h v (Rx a k)
theorem Wn (h:Hd K w Q) (a:Od K w u):Q u:=h u a
theorem Xp (h:Hd K w Q) (hk:∀ b,K b -> K' b):Hd K' w Q:=fun v k=>h v (Pu k hk)
theorem zk (h:Hd K w Q):Hd (fun b=>K b /\ b<w.1.size) w Q:=fun u k=>h u ⟨k.os,k.tape,k.output,k.size,fun b hb hl=>k.block b ⟨hb,hl⟩ hl⟩
theorem mO (h:Hd K w Q) (hq:∀ u,Q u -> Q' u):Hd K w Q':=fun v k=>hq v (h v k)
theorem X0 {α:Type} {R:vv -> List vw -> α -> Prop} {w0:vv} {cs:List vw} {x:α} (hR:xz R) (h:R w0 cs x) (hb:vz w0.1.size w0 w):Hd (fun b=>b<w0.1.size) w fun u=>R u cs x:=fun u a =>
 hR w0 u cs x ⟨a.os.trans hb.os,a.tape.trans hb.tape,a.output.trans hb.output,Cb hb.size a.size,fun b hl=>(a.block b hl (Be hl hb.size)).trans (hb.block b hl)⟩ h
theorem Z0 {w0:vv} {Q:vv -> Prop} (hQ:∀ u,vz w0.1.size w0 u -> Q u) (hb:vz w0.1.size w0 w):Hd (fun b=>b<w0.1.size) w Q:=fun u a =>
 hQ u ⟨a.os.trans hb.os,a.tape.trans hb.tape,a.output.trans hb.output,Cb hb.size a.size,fun b hl=>(a.block b hl (Be hl hb.size)).trans (hb.block b hl)⟩
theorem nO {base n size:Nat} {e:vy} {x:vw} {xs:List vw} (h:w.ownsRow base e size x n xs):Hd (fun b=>x.ownBlock=vD b) w fun u=>u.ownsRow base e size x n xs:=fun _ a =>
 Ge h fun b hb=>a.block b hb (h.lt b hb).2
def MF (w:vv) (b:Nat):vv:={ w with heap:=w.1.setIfInBounds b (.cells #[] 0) }
theorem eQ {b:Nat} (h:¬K b):Od K w (MF w b):=⟨rfl,rfl,rfl,by simp [MF],fun c hc hl=>by
 have Ua:b≠c:=fun e=>h (e ▸ hc)
 simp [MF,Ua]⟩
theorem yS {b i:Nat} (hb:b<w.1.size):(MF w b).cell? ⟨b,i,vB⟩=vB:=by
 simp [MF,World.cell?,hb]
theorem zDK {x:vw} {l:List Nat} (h:Hd K w fun u=>RWd u [x] l):Kg K w x l:=fun u hu=>by
 obtain ⟨A,n,c,e,h2,h3,h4,h5⟩:=ym h;refine ⟨A,n,c,e,h2,h3,?_,h5⟩;by_cases h0:0<n
 ·obtain ⟨b,q,rfl,hb,hc⟩:=MC h4 h0
  have hK:K b:=rI fun hn=>by
   obtain ⟨A',n',c',e',-,-,k4,-⟩:=h (MF w b) (eQ hn);rw [e] at e'
   injection e' with e' _
   injection e' with e1 e2 e3
   subst e1 e2;obtain ⟨b',q',e4,Hh,So⟩:=MC k4 h0
   injection e4 with e4
   injection e4 with e5 e6
   subst e5 e6;have k1:=So 0 h0;rw [yS hb] at k1;have k2:=h4.1;rw [Dc zO] at k1;cases k1
  refine ⟨h4.1,fun _=>⟨_,rfl,fun j y hj=>?_⟩⟩
  have EE:j<n:=by
   have:=(List.getElem?_eq_some_iff.1 hj).1;have:=h4.1;omega
  rw [yt];have:=hc j EE;rw [hj] at this;simp only [World.cell?,hu b hK hb] at this |-;exact this
 ·exact ⟨h4.1,fun h=>absurd h h0⟩
theorem WV {x:vw} {ls:List (List Nat)} (h:Hd K w fun u=>Ye u [x] ls):KRR K w x ls:=by
 have h0:=ym h;obtain ⟨A,n,c,e0,-⟩:=id h0
 injection e0 with e0
 subst e0;obtain ⟨h1,h2,h3,h4⟩:=Ki h0;refine ⟨A,n,c,rfl,h1,h2,h3,fun i hi=>?_⟩
 obtain ⟨b,q,A1,n1,c1,rfl,e2,e3,e4⟩:=yp h4 hi;have hK:K b:=rI fun hn=>by
  obtain ⟨-,-,-,k4⟩:=Ki (h (MF w b) (eQ hn));obtain ⟨b',q',A2,n2,c2,f1,f2,f3,f4⟩:=yp k4 hi
  injection f1 with f1
  injection f1 with f5 f6
  subst f5 f6;rw [yS e2] at f3;cases f3
 refine ⟨b,q,A1,n1,c1,rfl,hK,e2,e3,zDK fun u a=>?_⟩
 obtain ⟨-,-,-,k4⟩:=Ki (h u a);obtain ⟨b',q',A2,n2,c2,f1,f2,f3,f4⟩:=yp k4 hi
 injection f1 with f1
 injection f1 with f5 f6
 subst f5 f6;have e5:u.cell? ⟨b,q+i,vB⟩=w.cell? ⟨b,q+i,vB⟩:=by simp only [World.cell?,a.block b hK e2]
 rw [e5,e3] at f3
 injection f3 with f3
 injection f3 with g1 g2 g3
 subst g1 g2 g3;exact f4
end
end Go.Proofs.YtodmnanljoaocaaGreat
