/- A part of the proof. No condition. -/
import Derived.Test.YteoghgbnielkpaaGreatPP6
import Derived.Test.YteoghgbnielkpaaGreatPP10
import Derived.Test.YteoghgbnielkpaaGreatPP9

set_option maxRecDepth 100000
set_option maxHeartbeats 8000000
set_option linter.unusedVariables false
set_option linter.unusedSimpArgs false
namespace Go.Proofs.YteoghgbnielkpaaGreat
open Go.RowKit
open Tryz
open Go renaming World->vu, Value->vw, Addr->vx, TypeId->vy, Calls->vA
open Go.Value renaming int->vd, slice->ve, agg->vf
open Go.IntKind renaming u64->vo, i64->vq
open Go.Ending renaming returned->vn
open Go.RowKit renaming Below->vz
open Go.Act renaming put->vF
open Option renaming none->vB, some->vD
def RA (L:Tb) (rows:List (List Nat)) (l1 l2 l3 l4:List Nat):Bool :=
 decide (rows.length=L.a+L.b+L.b+L.b)&&(rows.all (fun r=>wm r L.queries L.p)&&(wm l1 L.k L.p&&(wm l2 (L.k+L.block-2) L.p&&(wm l3 (L.block+2*L.queries-1) L.p&&wm l4 L.n nc))))
theorem zBX {l:List (List Nat)} {f:List Nat -> Bool} {i:Nat} (h:(l.take i).all f=true) (hi:i<l.length) (hx:f l[i]=true):(l.take (i+1)).all f=true:=by
 rw [Cy hi,List.all_append,h,List.all_cons,hx]
 rfl
theorem zBW {l:List (List Nat)} {f:List Nat -> Bool} {i:Nat} (hi:i<l.length) (hx:f l[i]=false):l.all f=false:=by
 rw [uE];exact ⟨l[i],Qe _,by rw [hx];decide⟩
theorem Z6 (L:Tb) (A0 A1 A2 A3 A4:Option vx) (n0 c0 n1 c1 n2 c2 n3 c3 n4 c4:Nat) (rows:List (List Nat)) (l1 l2 l3 l4:List Nat) (w:vu) (hL:Ad L)
  (h0:Kd w [ve A0 n0 c0] rows) (h1:RWd w [ve A1 n1 c1] l1) (h2:RWd w [ve A2 n2 c2] l2) (h3:RWd w [ve A3 n3 c3] l3) (h4:RWd w [ve A4 n4 c4] l4) :
  vA prog 57 #[vf (Ub L),vf #[ve A0 n0 c0,ve A1 n1 c1,ve A2 n2 c2,ve A3 n3 c3,ve A4 n4 c4]] w fun e w'=>e=vn (.bool (RA L rows l1 l2 l3 l4)) /\ vz w.1.size w w':=by
 have HC:=zH (fun w=>zCn L w hL)
 have HT:=zH (fun w=>bT L.p L.block L.queries L.k L.n L.secret L.rows L.a L.b L.b L.b w hL.a hL.b hL.b hL.b)
 have gy:=zH (fun w' (hb:vz w.1.size w w')=>QO A1 n1 c1 L.k L.p l1 w' (Wa hb h1))
 have bE:=zH (fun w' (hb:vz w.1.size w w')=>QO A2 n2 c2 (L.k+L.block-2) L.p l2 w' (Wa hb h2))
 have sG:=zH (fun w' (hb:vz w.1.size w w')=>QO A3 n3 c3 (L.block+2*L.queries-1) L.p l3 w' (Wa hb h3))
 have HE4:=zH (fun w' (hb:vz w.1.size w w')=>QO A4 n4 c4 L.n nc l4 w' (Wa hb h4))
 obtain ⟨gu,a1,a2,r0⟩:=Ig h0;have gm:=ti a1 a2;obtain ⟨ans,ha⟩:=zEX (RA L rows l1 l2 l3 l4);rw [<- ha];unfold RA at ha;rw [gu] at ha;have HN:=zH gu;obtain ⟨kl,kc,Uy,Db⟩:=Xf w 101 41 (Ub L) #[ve A0 n0 c0,ve A1 n1 c1,ve A2 n2 c2,ve A3 n3 c3,ve A4 n4 c4];generalize wm l1 L.k L.p=b1 at *;generalize wm l2 (L.k+L.block-2) L.p=b2 at *;generalize wm l3 (L.block+2*L.queries-1) L.p=b3 at *;generalize wm l4 L.n nc=b4 at *;generalize L.k+L.block-2=m2 at *;generalize L.block+2*L.queries-1=m3 at *;generalize L.a+L.b+L.b+L.b=T at *;have HA:=zH ha;clear ha h0 h1 h2 h3 h4 hL a1 a2 gu;unfold Ub at *;unfold nc at HE4;go_enter func57,ntmps57
 go_wp2_with fail
 generalize (w.alloc _).alloc _=w1 at kl kc Uy Db |-;refine (HC.out _).mono ?_;rintro e w2 ⟨rfl,Fa⟩;obtain ⟨ks,mq⟩:=zN w2 216 #[vd vq L.k,vd vq m2,vd vq m3];replace kl:=pa kl Fa;replace kc:=pa kc Fa;replace kl:=pa kl mq;replace kc:=pa kc mq;have da:=ta (ta Uy Fa) mq;go_upto_region 2 with fail
 generalize w2.alloc _=w3 at kl kc ks da |-;generalize w2.1.size=gs at ks |-;clear Uy Fa mq Db HC;have cl:=kl.cell;have cc:=kc.cell;have cs:=ks.cell;have ll:=kl.lt;have lc:=kc.lt;have ls:=ks.lt;by_cases hT:n0=T
 rotate_left
 ·have HF:=zH (show ans=false by rw [HA.out,Xb hT];rfl)
  have t1:((n0:Int)!=T)=true:=by rw [dk];omega
  have t2:((n0:Int)==T)=false:=by rw [Ke];omega
  clear HA hT;refine tg (Rc) (Da) [] [] [0,1,2,3,4,5,6,7,8,9,10,11,12,13,14,15,16,17,18,19,20,21,22,23,24,25] zK zK ?_;refine ug (Da) ?_;intro Wc ja;refine Cf ?_;refine yd Da rfl rfl rfl rfl (fun w' hR=>HT.out _) ?_
  refine zPU ?_;refine Cf ?_;refine dw rfl ?_;intro wd Le;replace ja:=zM Da ja Le;clear Le;go_wp2_with fail
  go_ret
  exact ⟨by rw [HF.out];rfl,ta da.drew ja⟩
 have t1:((n0:Int)!=T)=false:=by rw [Qw];omega
 have t2:((n0:Int)==T)=true:=by rw [Qo];omega
 have HB:=zH (show ans=(rows.all (fun r=>wm r L.queries L.p)&&(b1&&(b2&&(b3&&b4)))) by rw [HA.out,xc hT];rfl)
 clear HA hT;cases b1
 ·have HF:=zH (show ans=false by rw [HB.out];simp)
  refine tg (Rc) (Da) [] [] [0,1,2,3,4,5,6,7,8,9,10,11,12,13,14,15,16,17,18,19,20,21,22,23,24,25] zK zK ?_;refine ug (Da) ?_;intro Wc ja;refine Cf ?_;refine yd Da rfl rfl rfl rfl (fun w' hR=>HT.out _) ?_
  refine zPU ?_;refine Cf ?_;refine yd Da rfl rfl rfl rfl (fun w' hR=>gy.out _ (ta da.drew (ta ja hR))) ?_
  refine zPU ?_;refine Cf ?_;refine dw rfl ?_;intro wd Le;replace ja:=zM Da ja Le;clear Le;go_wp2_with fail
  go_ret
  exact ⟨by rw [HF.out];rfl,ta da.drew ja⟩
 cases b2
 ·have HF:=zH (show ans=false by rw [HB.out];simp)
  refine tg (Rc) (Da) [] [] [0,1,2,3,4,5,6,7,8,9,10,11,12,13,14,15,16,17,18,19,20,21,22,23,24,25] zK zK ?_;refine ug (Da) ?_;intro Wc ja;refine Cf ?_;refine yd Da rfl rfl rfl rfl (fun w' hR=>HT.out _) ?_
  refine zPU ?_;refine Cf ?_;refine yd Da rfl rfl rfl rfl (fun w' hR=>gy.out _ (ta da.drew (ta ja hR))) ?_
  refine zPU ?_;refine Cf ?_;refine yd Da rfl rfl rfl rfl (fun w' hR=>bE.out _ (ta da.drew (ta ja hR))) ?_
  refine zPU ?_;refine Cf ?_;refine dw rfl ?_;intro wd Le;replace ja:=zM Da ja Le;clear Le;go_wp2_with fail
  go_ret
  exact ⟨by rw [HF.out];rfl,ta da.drew ja⟩
 refine tg (Rc) (Da) [] [] [0,1,2,3,4,5,6,7,8,9,10,11,12,13,14,15,16,17,18,19,20,21,22,23,24,25] zK zK ?_;refine ug (Da) ?_;intro Wc ja;refine Cf ?_;refine yd Da rfl rfl rfl rfl (fun w' hR=>HT.out _) ?_
 refine zPU ?_;refine Cf ?_;refine yd Da rfl rfl rfl rfl (fun w' hR=>gy.out _ (ta da.drew (ta ja hR))) ?_
 refine zPU ?_;refine Cf ?_;refine yd Da rfl rfl rfl rfl (fun w' hR=>bE.out _ (ta da.drew (ta ja hR))) ?_
 refine zPU ?_;refine Cf ?_;refine dw rfl ?_;intro wd Le;replace ja:=zM Da ja Le;clear Le;replace kl:=kl.drew.below ja kl.lt;replace kc:=kc.drew.below ja kc.lt;replace ks:=ks.drew.below ja ks.lt;replace da:=ta da.drew ja;clear cl cc cs ll lc ls ja gy bE HT;have cl:=kl.cell;have cc:=kc.cell;have cs:=ks.cell;have eU:=zH (sG.out _ da);cases b3
 ·have HF:=zH (show ans=false by rw [HB.out];simp)
  go_wp2_with fail
  refine eU.out.mono ?_;rintro e w5 ⟨rfl,Bb⟩;go_wp2;go_ret
  exact ⟨by rw [HF.out];rfl,ta da Bb⟩
 go_wp2_with fail
 refine eU.out.mono ?_;rintro e w5 ⟨rfl,Bb⟩;replace kl:=pa kl Bb;replace kc:=pa kc Bb;replace da:=ta da Bb;clear cl cc cs ks Bb eU sG;have cl:=kl.cell;have cc:=kc.cell;have fU:=zH (HE4.out _ da);cases b4
 ·have HF:=zH (show ans=false by rw [HB.out];simp)
  go_wp2_with fail
  refine fU.out.mono ?_;rintro e w6 ⟨rfl,Lc⟩;go_wp2;go_ret
  exact ⟨by rw [HF.out];rfl,ta da Lc⟩
 go_wp2_with fail
 refine fU.out.mono ?_;rintro e w6 ⟨rfl,Lc⟩;replace kl:=pa kl Lc;replace kc:=pa kc Lc;replace da:=ta da Lc;clear cl cc Lc fU HE4;have oc:=zH (show ans=rows.all (fun r=>wm r L.queries L.p) by rw [HB.out];simp)
 clear HB;have cc:=kc.cell;go_wp2_with fail
 clear cc;go_loopw [55] (fun y wr=>∃ i:Nat,i <= n0 /\ y=vd vq i /\ Hid ((rows.take i).all (fun r=>wm r L.queries L.p)=true) /\ Blk wr w.1.size 101 #[vd vo L.p,vd vq L.block,vd vq L.queries,vd vq L.k,vd vq L.n,vd vq L.secret,vd vq L.rows,vd vq L.a,vd vq L.b,vd vq L.b,vd vq L.b] /\ vz w.1.size w wr) (fun y _=>n0-(intOf y).toNat)
 case atStart=>exact ⟨0,Qb _,rfl,rfl,kl,da⟩
 case round =>
  clear kl kc da;obtain ⟨i,hi,rfl,HTk,kl,da⟩:=hrel;by_cases ya:i<n0
  ·have g1:(0:Int)<=i:=by omega
   have g2:(i:Int)<n0:=by omega
   have i1:i<rows.length:=by rw [HN.out];exact ya
   obtain ⟨x1,y1,B1,m1,k1,rfl,v1,d1,s1⟩:=Dl (r0.below rD da) i1;have HS:=zH (QO B1 m1 k1 L.queries L.p rows[i] wr s1);have cl:=kl.cell;clear s1;cases hx:wm rows[i] L.queries L.p
   ·have HF:=zH (oc.out.trans (zBW i1 hx))
    rw [hx] at HS;clear hx HTk i1;go_wp2_with fail
    refine HS.out.mono ?_;rintro e w7 ⟨rfl,Zb⟩;go_wp2;go_ret
    exact ⟨by rw [HF.out];rfl,ta da Zb⟩
   ·have qy:=zH (zBX HTk.out i1 hx)
    rw [hx] at HS;clear hx HTk i1;go_wp2_with fail
    refine HS.out.mono ?_;rintro e w7 ⟨rfl,Zb⟩;replace kl:=pa kl Zb;replace da:=ta da Zb;clear cl Zb d1 v1;go_wp2
    go_roundw
    case rel=>exact ⟨i+1,zO,by go_num,qy.out,kl,da⟩
    case measure=>simp [intOf];omega
  ·obtain rfl:i=n0:=by omega
   have HF:=zH (show ans=true by rw [oc.out];have:=HTk.out;rwa [<- HN.out,By] at this)
   go_wp2;go_ret
   exact ⟨by rw [HF.out];rfl,da⟩
def Vp (p s:Nat) (F G:Nat -> Nat) (t:Nat):Nat -> Nat:=Ug (fun k=>(F k+s*G k%p)%p) F t
theorem zBI (p s g base gb na ca nb cb mb t:Nat) (F G:Nat -> Nat) (w:vu) (hp:jc p=true) (ka:w.ownsRow base 22 1 (ve (vD ⟨g,0,vB⟩) na ca) na (Qa ((List.range na).map F))) (kb:Blk w gb 22 (Ya mb G)) (hg:g≠gb) (hb:nb <= mb) (ht:t=min na nb) (hm:na <= 65536) :
  vA prog 143 #[fv p,ve (vD ⟨g,0,vB⟩) na ca,ve (vD ⟨gb,0,vB⟩) nb cb,vd vo s] w fun e w'=>e=vn (.tuple #[]) /\ w'.ownsRow base 22 1 (ve (vD ⟨g,0,vB⟩) na ca) na (Qa ((List.range na).map (Vp p s F G t))) /\ w.grownBy w' (vD g):=by
 have HA:=zH (fun a b w=>Rt p a b w hp)
 have HM:=zH (fun a b w=>UC p a b w hp)
 have hmin:min (na:Int) (nb:Int)=t:=by omega
 have gl:(na:Int) <= 65536:=by omega
 have lg:g<w.1.size:=(ka.lt g rfl).2;have lgb:=kb.lt;have ht1:t <= na:=by omega
 have ht2:t <= nb:=by omega
 have gt:(t:Int) <= 65536:=by omega
 clear ht hp;unfold fv Vp at *;obtain ⟨kf,da⟩:=zN w 224 #[vd vo p];have g1:w.1.size≠g:=by omega
 replace ka:=Za ka da zR;replace kb:=pa kb da;have Ta:=Gr (mg w (vD g)) da zR;clear da;obtain ⟨S,hS⟩:∃ S:Nat -> Nat,S=fun k=>(F k+s*G k%p)%p:=⟨_,rfl⟩
 have HSE:=zH (show ∀ k,(F k+s*G k%p)%p=S k from fun k=>by rw [hS])
 rw [<- hS];clear hS;have HZ:=zH (zY na S F);go_enter func143,ntmps143
 go_upto_region 1 with fail
 generalize w.alloc _=w0 at kf ka kb Ta |-;go_wp2_with fail
 go_loopw [14] (fun y wr=>∃ i:Nat,i <= t /\ y=vd vq i /\ Blk wr w.1.size 224 #[vd vo p] /\ wr.ownsRow base 22 1 (ve (vD ⟨g,0,vB⟩) na ca) na (Qa ((List.range na).map (Ug S F i))) /\ Blk wr gb 22 (Ya mb G) /\ w.grownBy wr (vD g)) (fun y _=>t-(intOf y).toNat)
 case atStart=>exact ⟨0,Qb _,rfl,kf,by rw [HZ.out];exact ka,kb,Ta⟩
 case round =>
  clear kf ka kb Ta;obtain ⟨i,hi,rfl,kf,ka,kb,Ta⟩:=hrel;by_cases ya:i<t
  ·have q1:(0:Int)<=i:=by omega
   have q2:(i:Int)<t:=by omega
   have q3:(i:Int)<na:=by omega
   have q4:(i:Int)<nb:=by omega
   have uF:i<na:=by omega
   have himb:i<mb:=by omega
   have Hs:=zH (HSE.out i);obtain ⟨x,hx⟩:=zEX (F i);obtain ⟨y,hy⟩:=zEX (G i);obtain ⟨u,hu⟩:=zEX (s*y%p);obtain ⟨z,hz⟩:=zEX (S i);have Mf:=zH (yY (n:=na) (G:=F) hz);rw [<- hx,<- hy,<- hu,<- hz] at Hs;have HX:=zH (show (Qa ((List.range na).map (Ug S F i)))[i]?=vD (vd vo x) by rw [LQ _ _ uF,hx])
   have Kf:Hid (∀ w:vu,vA prog 142 #[vf #[vd vo p],vd vo s,vd vo y] w fun e w'=>e=vn (vd vo u) /\ vz w.1.size w w'):=zH (fun w=>by rw [hu];exact HM.out s y w)
   have HC:Hid (∀ w:vu,vA prog 215 #[vf #[vd vo p],vd vo x,vd vo u] w fun e w'=>e=vn (vd vo z) /\ vz w.1.size w w'):=zH (fun w=>by rw [<- Hs.out];exact HA.out x u w)
   have ca1:=ka.cellAt i zO;rw [HX.out] at ca1;have cb1:=kb.cell i;rw [Ei _ himb,<- hy] at cb1;clear hx hy hz hu;have cf:=kf.cell;have lf:=kf.lt;have la:g<wr.1.size:=(ka.lt g rfl).2;have lb:=kb.lt;go_upto_region 4 with fail
   refine tg (Rc) (Da) [16] [16] [0,1,2,3,4,5,6,7,8,9,10,11,12,13,14,15,16] zK zK ?_;refine ug (Da) ?_;intro Wc ja;refine Cd ?_;refine yd Da rfl rfl rfl rfl (fun w' hR=>Kf.out _) ?_
   refine zPU ?_;refine Cd ?_;refine yd Da rfl rfl rfl rfl (fun w' hR=>HC.out _) ?_
   refine zPU ?_;refine Cd ?_;refine Xj rfl rfl rfl rfl ?_;intro wh Tc;replace ja:=zM Da ja Tc;have Ic:=ta (Kb wr.1.size wr).drew ja;have Yy:=Gr Ta Ic Ta.size;replace kf:=pa kf Ic;replace ka:=Za ka Ic zR;replace kb:=pa kb Ic;clear Ic ja Tc cf lf la lb ca1 cb1 Ta;have c2:=ka.cellAt i zO;rw [HX.out] at c2;have f2:=ka.frozenAt i;go_simp;refine ⟨fun h=>Bool.noConfusion h,?_⟩
   obtain ⟨ka,yh⟩:=ka.stored i (vd vo z);replace kf:=kf.grown yh (fun e=>g1 (Nb e))
   replace kb:=kb.grown yh (fun e=>hg (Nb e).symm)
   rw [Mf.out] at ka;have Ta:=XE Yy yh (fun _ e=>.inl e)
   clear yh f2 c2 Yy;generalize wh.setCell _ _=we at kf ka kb Ta |-;refine Fk rfl ?_;go_wp2_with fail
   go_roundw
   case rel=>exact ⟨i+1,zO,by go_num,kf,ka,kb,Ta⟩
   case measure=>simp [intOf];omega
  ·obtain rfl:i=t:=by omega
   have q2:¬((i:Int)<i):=by omega
   go_wp2;exact bodyPost_end (v:=.tuple #[]) (by simp [results,results143,go_sem]) rfl ⟨rfl,ka,Ta⟩
def JO (A:Option vx) (c t m:Nat):vw:=ve (if c=t then A else Option.map (fun x=>x.add t) A) (m-t) (c-t)
theorem zHY (L:Tb) (A:Option vx) (n c x y z:Nat) (w:vu) (hL:Ad L) (hx:x=L.a) (hy:y=L.a+L.b) (hz:z=L.a+L.b+L.b) (hn:z <= n) (Nd:n <= c) (hm:c <= maxLen) :
  vA prog 146 #[vf (Ub L),ve A n c] w fun e w'=>e=vn (.tuple #[ve A x c,JO A c x y,JO A c y z,JO A c z n]) /\ vz w.1.size w w':=by
 have du:=hL.a;have Jr:=hL.b;have gm:(c:Int) <= 9223372036854775807:=by
  simp [maxLen] at hm
  omega
 have e1:(L.a:Int)+L.b=(y:Int):=by omega
 have e2:=Xd y;have e3:(y:Int)+L.b=(z:Int):=by omega
 have e4:=Xd z;have i0:(0:Int)<=x:=by omega
 have i1:(x:Int)<=y:=by omega
 have i2:(y:Int)<=z:=by omega
 have i3:(z:Int)<=n:=by omega
 have i4:(n:Int)<=c:=by omega
 have i5:(x:Int)<=c:=by omega
 have i6:(y:Int)<=c:=by omega
 have i7:(z:Int)<=c:=by omega
 have i8:(0:Int)<=y:=by omega
 have i9:(0:Int)<=z:=by omega
 obtain ⟨kl,da⟩:=zN w 101 #[vd vo L.p,vd vq L.block,vd vq L.queries,vd vq L.k,vd vq L.n,vd vq L.secret,vd vq L.rows,vd vq L.a,vd vq L.b,vd vq L.b,vd vq L.b];clear hL du Jr hn hy hz Nd hm;subst hx;unfold Ub JO;obtain ⟨B1,Ll⟩:=zEX ((if c=L.a then A else Option.map (fun x=>x.add L.a) A))
 obtain ⟨B2,Bm⟩:=zEX ((if c=y then A else Option.map (fun x=>x.add y) A))
 obtain ⟨B3,hB3⟩:=zEX ((if c=z then A else Option.map (fun x=>x.add z) A))
 obtain ⟨n1,Ue⟩:=zEX (y-L.a);obtain ⟨n2,Ce⟩:=zEX (z-y);obtain ⟨n3,mn⟩:=zEX (n-z);obtain ⟨c1,kd⟩:=zEX (c-L.a);obtain ⟨c2,ef⟩:=zEX (c-y);obtain ⟨c3,sj⟩:=zEX (c-z);rw [<- Ll,<- Bm,<- hB3,<- Ue,<- Ce,<- mn,<- kd,<- ef,<- sj];have HX:=zH (And.intro Ll (And.intro Bm (And.intro hB3 (And.intro Ue (And.intro Ce (And.intro mn (And.intro kd (And.intro ef sj))))))));clear Ll Bm hB3 Ue Ce mn kd ef sj;go_enter func146,ntmps146
 go_upto_region 1 with fail
 generalize w.alloc _=w1 at kl da |-;have cl:=kl.cell;go_upto_region 4 with fail
 refine Pd (Rc) [] [0,1,2,3,4,5,6,7,8,9,10,11,12,13,14,15,16,17] zK zK ?_;refine oe (Da) ?_;intro Wc Ga ja;have Pa:=Uf Ga;refine Mc ?_;refine Vc ?_;obtain ⟨Ll,Bm,hB3,Ue,Ce,mn,kd,ef,sj⟩:=HX.out;rw [<- Ll,<- Bm,<- hB3,<- Ue,<- Ce,<- mn,<- kd,<- ef,<- sj];clear Ll Bm hB3 Ue Ce mn kd ef sj;go_wp2;exact Uc (v:=.tuple #[ve A L.a c,ve B1 n1 c1,ve B2 n2 c2,ve B3 n3 c3]) (by simp [results,results146,go_sem]) rfl ⟨rfl,ta da Pa⟩
def tD (p N J:Nat) (a b:List Nat):Nat -> Nat:=uu p N J ((List.range N).map fun i=>Il p N J a 1 i*Il p N J b 1 i%p)
theorem zA1 (p:Nat) (A B:Option vx) (n c m d J N len:Nat) (a b:List Nat) (w:vu) (hp:jc p=true) (ha:RWd w [ve A n c] a) (hb:RWd w [ve B m d] b) (Ue:1 <= n) (jf:1 <= m) (hn8:n <= 4096) (hm8:m <= 4096) (hN:fl p N) (hJ:N=2^J) (hlen:n+m=len+1) (h1:len <= N) (h2:∀ j,j<J -> 2^j<len) :
  vA prog 145 #[fv p,ve A n c,ve B m d] w fun e w'=>∃ g,e=vn (.tuple #[ve (vD ⟨g,0,vB⟩) len N,vd vq 0]) /\ w.1.size <= g /\ Blk w' g 22 (Ya N (tD p N J a b)) /\ vz w.1.size w w':=by
 obtain ⟨Sd,Vb⟩:=Cc hp;have hN4:=hN.le;have Uo:=hN.pos;have HV:=zH (fun w=>qv p w hp)
 have HR:=zH (fun w=>tY p N w hp hN)
 have HEa:=zH (fun w' (sk:vz w.1.size w w')=>rY p A n c N J 1 a w' hp (Wa sk ha) hN hJ (by rw [Lk zO];decide) zO)
 have HEb:=zH (fun w' (sk:vz w.1.size w w')=>rY p B m d N J 1 b w' hp (Wa sk hb) hN hJ (by rw [Lk zO];decide) zO)
 have HM:=zH (fun x y w=>UC p x y w hp)
 have HI:=zH (fun g l w hl=>sY p (vD ⟨g,0,vB⟩) N N J l w hp hl hN hJ)
 have HJ:=zH hJ;have H2:=zH h2;have HQ:=zH (show ∀ j,j <= J -> 2^j <= N from fun j hj=>by rw [hJ];exact Jt zD hj)
 obtain ⟨Ea,hEa⟩:=zEX (Il p N J a 1);obtain ⟨Eb,hEb⟩:=zEX (Il p N J b 1);obtain ⟨Pr,hPr⟩:∃ Pr:Nat -> Nat,Pr=fun i=>Ea i*Eb i%p:=⟨_,rfl⟩
 have im:=zH (show ∀ i,Ea i*Eb i%p=Pr i from fun i=>by rw [hPr])
 have HPX:=zH (show ∀ i,Pr i<18446744073709551616 from fun i=>by rw [hPr];exact Je (Sc _ zO) Vb)
 rw [show tD p N J a b=uu p N J ((List.range N).map Pr) by rw [hPr,hEa,hEb];rfl]
 rw [<- hEa] at HEa;rw [<- hEb] at HEb;have e1:(n:Int)+m=((len+1:Nat):Int):=by omega
 obtain ⟨s,hs⟩:=zEX (len+1);rw [<- hs] at e1;have e2:=Xd s;have e3:(s:Int)-1=(len:Int):=by omega
 have e4:=Xd len;have d1:((n:Int) == 0)=false:=by rw [Ke];omega
 have d2:((m:Int) == 0)=false:=by rw [Ke];omega
 have z1:¬((n:Int)=0):=by omega
 have z2:¬((m:Int)=0):=by omega
 have z3:¬(n=0):=by omega
 have z4:¬(m=0):=by omega
 have gN:(N:Int) <= 4096:=by omega
 have gl:(len:Int)<=N:=by omega
 have gl2:len <= N:=h1;have gl0:(0:Int)<=len:=by omega
 unfold fv at *;obtain ⟨kf,da⟩:=zN w 224 #[vd vo p];clear hEa hEb hPr hJ h2 ha hb hp hN hs hlen h1;go_enter func145,ntmps145
 go_wp2_with fail
 generalize w.alloc _=w1 at kf da |-;refine (HV.out _).mono ?_;rintro e w2 ⟨rfl,Ca⟩;replace kf:=pa kf Ca;replace da:=ta da Ca;clear Ca;go_wp2_with fail
 go_loopw [9] (fun v wr=>∃ j q:Nat,j <= J /\ Hid (q=2^j) /\ v=vd vq q /\ Blk wr w.1.size 224 #[vd vo p] /\ vz w.1.size w wr) (fun v _=>8194-(intOf v).toNat)
 case atStart=>exact ⟨0,1,Qb _,zH rfl,rfl,kf,da⟩
 case round =>
  clear kf da;obtain ⟨j,q,hj,HQj,rfl,kf,da⟩:=hrel;by_cases ya:j<J
  ·have qi:q<len:=by have:=H2.out j ya;rw [HQj.out];exact this
   have mo:q <= N:=by have:=HQ.out j hj;rw [HQj.out];exact this
   have hq3:1 <= q:=by rw [HQj.out];exact Nat.one_le_two_pow
   have q1:(q:Int)<len:=by omega
   have q2:(q:Int) <= 4096:=by omega
   have q1d:decide ((q:Int)<len)=true:=xc q1;have q2d:decide ((q:Int) <= 4096)=true:=xc q2;obtain ⟨r,hr⟩:=zEX (q*2);have x1:(q:Int)*2=(r:Int):=by omega
   have x2:=Xd r;have HQn:Hid (r=2^(j+1)):=zH (by rw [hr,HQj.out,Zg])
   have hrq:q<r:=by omega
   have Fm:r <= 8192:=by omega
   clear hr;go_wp2
   go_roundw
   case rel=>exact ⟨j+1,r,zO,HQn,rfl,kf,da⟩
   case measure=>simp [intOf];omega
  ·obtain rfl:j=J:=by omega
   have hqN:q=N:=by rw [HQj.out,HJ.out]
   subst hqN;have q1:¬((q:Int)<len):=by omega
   have q1d:decide ((q:Int)<len)=false:=Xb q1;clear H2 HQ HQj HJ;have cf:=kf.cell;go_wp2_with fail
   refine (HR.out _).mono ?_;rintro e w3 ⟨rfl,Ca⟩;replace kf:=pa kf Ca;replace da:=ta da Ca;clear Ca cf HR;have cf:=kf.cell;go_wp2_with fail
   refine (HEa.out _ da).mono ?_;rintro e w4 ⟨g1,rfl,Nh,k1,Ca⟩;have xx:=kf.lt;replace kf:=pa kf Ca;replace da:=ta da Ca;clear Ca cf HEa;have cf:=kf.cell;go_wp2_with fail
   refine (HEb.out _ da).mono ?_;rintro e w5 ⟨g2,rfl,Xn,k2,Ca⟩;have NH:=k1.lt;replace kf:=pa kf Ca;replace k1:=pa k1 Ca;replace da:=ta da Ca;clear Ca cf HEb HV;have QK:w.1.size<g1:=by omega
   have hg12:g1<g2:=by omega
   have HZ:=zH (jM q Pr Ea);clear Nh Xn xx NH q1d;go_wp2_with fail
   go_loopw [73] (fun y wr=>∃ i:Nat,i <= q /\ y=vd vq i /\ Blk wr w.1.size 224 #[vd vo p] /\ Blk wr g1 22 (Ya q (Ug Pr Ea i)) /\ Blk wr g2 22 (Ya q Eb) /\ vz w.1.size w wr) (fun y _=>q-(intOf y).toNat)
   case atStart=>exact ⟨0,Qb _,rfl,kf,by rw [HZ.out];exact k1,k2,da⟩
   case round =>
    clear kf k1 k2 da;obtain ⟨i,hi,rfl,kf,k1,k2,da⟩:=hrel;by_cases ya:i<q
    ·have q3:(i:Int)<q:=by omega
     have q4:(0:Int)<=i:=by omega
     have c1:=k1.cell i;rw [PD _ _ ya] at c1;have c2:=k2.cell i;rw [Ei _ ya] at c2;have nA:=zH (im.out i);obtain ⟨x,hx⟩:=zEX (Ea i);obtain ⟨y,hy⟩:=zEX (Eb i);obtain ⟨z,hz⟩:=zEX (Pr i);have Mf:=zH (lG (n:=q) (G:=Ea) hz);have HX:=zH hx;rw [<- hx] at c1 nA;rw [<- hy] at c2 nA;rw [<- hz] at nA;have Kf:=zH (fun w=>by have:=HM.out x y w;rw [nA.out] at this;exact this)
     clear hx hy hz nA;have cf:=kf.cell;have lf:=kf.lt;have l1:=k1.lt;have l2:=k2.lt;go_upto_region 20 with fail
     refine tg (Rc) (Da) [13] [13] [0,1,2,3,4,5,6,7,8,9,10,11,12,13] zK zK ?_;refine ug (Da) ?_;intro Wc ja;refine Cd ?_;refine yd Da rfl rfl rfl rfl (fun w' hR=>Kf.out _) ?_
     refine zPU ?_;refine Cd ?_;refine Xj rfl rfl rfl rfl ?_;intro wh Tc;replace ja:=zM Da ja Tc;have Ic:=ta (Kb wr.1.size wr).drew ja;replace kf:=pa kf Ic;replace k1:=pa k1 Ic;replace k2:=pa k2 Ic;replace da:=ta da Ic;clear Ic ja Tc cf lf l1 l2 c1 c2;have c3:=k1.cell i;rw [PD _ _ ya,<- HX.out] at c3;have f3:=k1.frozen;go_simp;refine ⟨fun h=>Bool.noConfusion h,?_⟩
     have hg:=Hh (w:=wh) g1 i (vd vo z);replace k1:=k1.set_ i (vd vo z);rw [Mf.out] at k1;replace kf:=kf.grown hg (fun e=>by have:=Nb e;omega)
     replace k2:=k2.grown hg (fun e=>by have:=Nb e;omega)
     replace da:=Ee da hg;clear hg f3 c3;generalize wh.setCell _ _=we at kf k1 k2 da |-;refine Fk rfl ?_;go_wp2_with fail
     go_roundw
     case rel=>exact ⟨i+1,zO,by go_num,kf,k1,k2,da⟩
     case measure=>simp [intOf];omega
    ·obtain rfl:i=q:=by omega
     have q3:¬((i:Int)<i):=by omega
     rw [JQ] at k1;have hl:=UE k1 (fun k _=>HPX.out k) (by simp [maxLen];omega)
     have cf:=kf.cell;clear k2 k1;go_wp2_with fail
     refine (HI.out _ _ _ hl).mono ?_;rintro e w7 ⟨g3,rfl,yh,k3,Ca⟩;have hs:=da.size;go_wp2
     go_ret2
     exact ⟨g3,rfl,zO,k3,ta da Ca⟩
theorem zE4 {F F':Nat -> Prop} {w w':vu} (h:Moved F F' w w') {N:Nat} {V0:Nat -> Prop} (hN:N <= w.1.size) (hV:∀ b,b<N -> F b -> V0 b):∀ b,b<N -> F' b -> V0 b:=fun b hb hf=>by
 rcases h.foot b hf with e | e
 ·exact hV b hb e
 ·omega
structure Ui (V0:Nat -> Prop) (N:Nat) (V:Nat -> Prop) (w:vu):Prop where
 size:N <= w.1.size
 lt:∀ b,V b -> b<w.1.size
 old:∀ b,b<N -> V b -> V0 b
theorem Kl {V0 V V':Nat -> Prop} {N:Nat} {w w':vu} (h:Ui V0 N V w) (m:Moved V V' w w') (ya:∀ b,V' b -> b<w'.1.size):Ui V0 N V' w':=⟨jb h.size m.size,ya,zE4 m h.size h.old⟩
theorem Te {V0 V:Nat -> Prop} {N:Nat} {w w':vu} (h:Ui V0 N V w) (m:vz w.1.size w w'):Ui V0 N V w':=⟨jb h.size m.size,fun b hb=>We (h.lt b hb) m.size,h.old⟩
theorem zDy {V:Nat -> Prop} {w:vu} (ya:∀ b,V b -> b<w.1.size):Ui V w.1.size V w:=⟨zR,ya,fun _ _ h=>h⟩
theorem jk {V0 V V':Nat -> Prop} {N:Nat} {w w':vu} (h:Ui V0 N V w) (m:Moved V V' w w'):Fl V0 N w w':=IV m h.size h.old
section
variable {P:Program} {l:List Oper} {hs tail:List Nat} {Q:Exit -> Act -> vu -> Prop} {V0 V:Nat -> Prop} {N j:Nat} {t:vy} {z:Array vw} {rest:List Nat} {i:Nat} {o:Oper} {Ka:Array Bool} {a:Act} {w:vu}
end
def gM:List Nat -> List (List Nat)
 | []=>[[]]
 | j :: js=>gM js++(gM js).map (j :: ·)
theorem MS (f:Nat -> Bool):∀ js:List Nat,js.filter f∈gM js
 | []=>by simp [gM]
 | j :: js=>by
  rw [gM,Tp];cases h:f j
  ·rw [GJ (by rw [h];exact zt)]
   exact .inl (MS f js)
  ·rw [IJ h]
   exact .inr (ee.2 ⟨_,MS f js,rfl⟩)
def ak (L:Array Bool) (S:List Nat):Array Bool:=S.foldl (fun L j=>L.setIfInBounds j true) L
theorem uO:∀ (S:List Nat) (L:Array Bool) (i:Nat),(ak L S)[i]?=if i∈S then L[i]?.map (fun _=>true) else L[i]?
 | [],_,_=>by simp [ak]
 | j :: S,L,i=>by
  show (ak (L.setIfInBounds j true) S)[i]?=_
  rw [uO S,Array.getElem?_setIfInBounds];by_cases e:j=i
  ·subst e
   by_cases hj:j<L.size
   ·simp [hj]
   ·simp [hj]
  ·have e':¬i=j:=fun h=>e h.symm
   simp [e,e']
theorem vO {S:List Nat} {L:Array Bool} {i:Nat} (h:i ∉ S):(ak L S).setIfInBounds i true=ak (L.setIfInBounds i true) S:=by
 refine Array.ext_getElem? fun k=>?_
 have Db:∀ (S:List Nat) (L:Array Bool),(ak L S).size=L.size:=fun S=>by
  induction S with
  | nil=>intro L;rfl
  | cons j S ih=>intro L;show (ak (L.setIfInBounds j true) S).size=_;rw [ih];simp
 rw [Array.getElem?_setIfInBounds,uO,uO,Array.getElem?_setIfInBounds,Db];by_cases e:i=k
 ·subst e
  simp [h]
 ·simp [e]
theorem zBJ {J:List Nat} {f f':Nat -> Bool} {L:Array Bool} {j:Nat} (hj:j∈J) (h1:f' j=true) (h2:∀ k,k≠j -> f' k=f k):(ak L (J.filter f)).setIfInBounds j true=ak L (J.filter f'):=by
 refine Array.ext_getElem? fun k=>?_
 have Db:∀ (S:List Nat) (L:Array Bool),(ak L S).size=L.size:=fun S=>by
  induction S with
  | nil=>intro L;rfl
  | cons j S ih=>intro L;show (ak (L.setIfInBounds j true) S).size=_;rw [ih];simp
 rw [Array.getElem?_setIfInBounds,uO,uO,Db];by_cases e:j=k
 ·subst e
  simp only [if_true,Hl,hj,h1,true_and];by_cases hs:j<L.size
  ·simp [hs]
  ·simp [hs]
 ·have e':k≠j:=fun h=>e h.symm
  simp only [e,if_false,Hl,h2 k e']
structure rG (V:Nat -> Prop) (N:Nat) (w:vu) (js:List (Nat × vy × Array vw)) (f:Nat -> Bool) (gs:Nat -> Nat):Prop where
 blk:∀ x∈js,f x.1=true -> Blk w (gs x.1) x.2.1 x.2.2 /\ N <= gs x.1 /\ ¬V (gs x.1)
 dif:∀ x∈js,∀ y∈js,f x.1=true -> f y.1=true -> x.1≠y.1 -> gs x.1≠gs y.1
def Zl (gs:Nat -> Nat):Nat -> vw:=fun j=>.pointer (vD ⟨gs j,0,vB⟩)
def NI (gs:Nat -> Nat) (j g:Nat):Nat -> Nat:=fun k=>if k=j then g else gs k
theorem zGr (gs:Nat -> Nat) (j g:Nat):Zl (NI gs j g)=Hq (Zl gs) j (.pointer (vD ⟨g,0,vB⟩)):=by
 funext k
 unfold Zl NI Hq;split <;> rfl
def EI (l:List Oper) (hs tail js:List Nat):List Nat -> Array Bool -> Bool
 | [],L=>(gM js).all (fun S=>js.all (fun j=>S.contains j)||(!(Region.ready .any l.toArray (ak L S)).isEmpty&&(Region.ready .any l.toArray (ak L S)).all fun k=>js.contains k&&!S.contains k))&&ZF l hs tail (ak L js)
 | i :: rest,L=>decide (i<l.length)&&!js.contains i&&(js.all fun j=>NC l i j) &&
   ((gM js).all fun S=>Region.free .any l.toArray (ak L S) i&&(Region.ready .any l.toArray (ak L S)).contains i&&(!hs.contains i||(Region.ready .any l.toArray (ak L S)).all fun k=>k == i||(js.contains k&&!S.contains k))) &&
   EI l hs tail js rest (L.setIfInBounds i true)
def yN (l:List Oper) (js:List Nat):Bool:=decide js.Nodup&&js.all fun j=>decide (j<l.length)&&js.all fun k=>j == k||(Se l j).isNone||Se l j != Se l k
def Ju (P:Program) (l:List Oper) (hs tail:List Nat) (Q:Exit -> Act -> vu -> Prop) (V0:Nat -> Prop) (N:Nat) (js:List (Nat × vy × Array vw)) (order:List Nat) (Ka:Array Bool) (V:Nat -> Prop) (a:Act) (w:vu):Prop :=
 Region.noSelect l.toArray=true -> EI l hs tail (js.map (·.1)) order Ka=true -> yN l (js.map (·.1))=true -> (∀ x∈js,∃ oj,l[x.1]?=vD oj /\ iR P oj x.2.1 x.2.2) ->
  ∀ (f:Nat -> Bool) (gs:Nat -> Nat) (w1:vu),vz w.1.size w w1 -> rG V N w1 js f gs ->
   Gp P l.toArray Q (Fl V0 N) (order.length+((js.map (·.1)).filter fun j=>!f j).length+tail.length) (ak Ka ((js.map (·.1)).filter f)) (dh l (Zl gs) a ((js.map (·.1)).filter f)) w1
section
variable {P:Program} {l:List Oper} {hs tail:List Nat} {Q:Exit -> Act -> vu -> Prop} {V0 V:Nat -> Prop} {N:Nat} {js:List (Nat × vy × Array vw)} {rest:List Nat} {i:Nat} {o:Oper} {Ka:Array Bool} {a:Act} {w:vu}
theorem zDx:rG V N w js (fun _=>false) (fun _=>0):=⟨fun _ _ h=>(nomatch h),fun _ _ _ _ h=>(nomatch h)⟩
theorem DV {V':Nat -> Prop} {f:Nat -> Bool} {gs:Nat -> Nat} {w1 w2:vu} (h:rG V N w1 js f gs) (hm:Moved V V' w1 w2):rG V' N w2 js f gs :=
 ⟨fun x hx hf=>let ⟨a,b,c⟩:=h.blk x hx hf;⟨a.moved hm c,b,Yl hm a.lt c⟩,h.dif⟩
theorem fw {id:Nat} (V0 V:Nat -> Prop) (N:Nat) (hs order:List Nat) (js:List (Nat × vy × Array vw)) (tail:List Nat) (hm:P.follows .mixedOrders=true)
  (ah:∀ x∈js,∃ oj,l[x.1]?=vD oj /\ iR P oj x.2.1 x.2.2)
  (Fb:(Region.noSelect l.toArray&&order.length+js.length+tail.length == l.length&&EI l hs tail (js.map (·.1)) order (List.replicate l.length false).toArray&&yN l (js.map (·.1)))=true)
  (h:Ju P l hs tail Q V0 N js order (List.replicate l.length false).toArray V a w.drew):(Code.region id l.toArray true).wp P Q a w:=by
 simp only [pe,Qo] at Fb;refine MQ (Fl V0 N) hm ?_;have:=h Fb.1.1.1 Fb.1.2 Fb.2 ah (fun _=>false) (fun _=>0) w.drew (Kb _ _) zDx
 have e0:(js.map (·.1)).filter (fun _=>!false)=js.map (·.1):=List.filter_eq_self.2 (fun _ _=>rfl)
 rw [List.filter_eq_nil_iff.2 (fun _ _=>zt),e0,Tm] at this
 rw [<- Fb.1.1.2];rw [<- Fb.1.1.2] at this;exact this
theorem jw {order:List Nat} (h:∀ W,Hid (W=w) -> Fl V0 N w W -> Ju P l hs tail Q V0 N js order Ka V a W):Ju P l hs tail Q V0 N js order Ka V a w:=h w rfl ((mc V0 N).refl w)
structure zBH (l:List Oper) (hs js:List Nat) (i:Nat) (L:Array Bool):Prop where
 lt:i<l.length
 nj:i ∉ js
 ap:∀ j∈js,NC l i j=true
 fr:∀ f:Nat -> Bool,Region.free .any l.toArray (ak L (js.filter f)) i=true
 rd:∀ f:Nat -> Bool,(Region.ready .any l.toArray (ak L (js.filter f))).contains i=true
 hv:hs.contains i=true -> ∀ (f:Nat -> Bool),∀ k∈Region.ready .any l.toArray (ak L (js.filter f)),k=i \/ (k∈js /\ f k=false)
theorem sX {J:List Nat} (h:EI l hs tail J (i :: rest) Ka=true):zBH l hs J i Ka /\ EI l hs tail J rest (Ka.setIfInBounds i true)=true:=by
 unfold EI at h;simp only [pe,Mm,My] at h;obtain ⟨⟨⟨⟨h1,h2⟩,h3⟩,h4⟩,h5⟩:=h;rw [oh] at h3 h4;have h4':=fun f:Nat -> Bool=>h4 _ (MS f J)
 simp only [pe,Bool.or_eq_true,Mm] at h4';refine ⟨⟨h1,fun hj=>?_,h3,fun f=>(h4' f).1.1,fun f=>(h4' f).1.2,fun hh f k hk=>?_⟩,h5⟩
 ·rw [xE.2 hj] at h2;cases h2
 ·rcases (h4' f).2 with h6 | h6
  ·rw [hh] at h6;cases h6
  ·rw [oh] at h6
   have h7:=h6 k hk;simp only [Bool.or_eq_true,Qo,pe,Mm,xE] at h7;rcases h7 with h7 | ⟨h7,h8⟩
   ·exact .inl h7
   ·refine .inr ⟨h7,?_⟩
    cases hf:f k
    ·rfl
    ·rw [xE.2 (Hl.2 ⟨h7,hf⟩)] at h8;cases h8
structure JsOk (l:List Oper) (J:List Nat):Prop where
 nodup:J.Nodup
 lt:∀ j∈J,j<l.length
 dst:∀ j∈J,∀ k∈J,j≠k -> ∀ t,Se l j=vD t -> Se l k≠vD t
theorem zFn {J:List Nat} (h:yN l J=true):JsOk l J:=by
 unfold yN at h;simp only [pe,My] at h;have h2:=oh.1 h.2;simp only [pe,My] at h2;refine ⟨h.1,fun j hj=>(h2 j hj).1,fun j hj k hk db t e e'=>?_⟩
 have h3:=oh.1 (h2 j hj).2 k hk;simp only [Bool.or_eq_true,Qo,dk] at h3;rcases h3 with (h3 | h3) | h3
 ·exact db h3
 ·rw [e] at h3;cases h3
 ·exact h3 (e.trans e'.symm)
theorem MO {j:Nat} {oj:Oper} (h:l[j]?=vD oj):Se l j=oj.dst:=by
 unfold Se;rw [h]
 rfl
theorem XM (vs:Nat -> vw) (Ve:∀ cs b,o.op≠.select cs b) (ho:l[i]?=vD o):∀ (S:List Nat) (a:Act),(∀ j∈S,NC l i j=true) -> execOp (dh l vs a S).eval o=execOp a.eval o /\ (∀ ops:Array Oper,ops=l.toArray -> Region.wanted o (yielded ops (dh l vs a S).tmps)=Region.wanted o (yielded ops a.tmps))
 | [],_,_=>⟨rfl,fun _ _=>rfl⟩
 | j :: S,a,h=>by
  have hj:=h j zS;have h0:∃ oj,l[j]?=vD oj:=by
   unfold NC at hj;rw [ho] at hj;cases e:l[j]? with
   | none=>rw [e] at hj;cases hj
   | some oj=>exact ⟨oj,rfl⟩
  obtain ⟨oj,Sj⟩:=h0;obtain ⟨a1,a2,a3⟩:=Oper.apart_spec (pZ hj ho Sj);have ih:=XM vs Ve ho S (a.put (Se l j) (vs j)) fun k hk=>h k (by simp [hk])
  rw [MO Sj] at ih;refine ⟨?_,fun ops hops=>?_⟩
  ·show execOp (dh l vs (a.put (Se l j) (vs j)) S).eval o=_
   rw [MO Sj];exact ih.1.trans (execOp_put _ Ve _ _ _ a3)
  ·show Region.wanted o (yielded ops (dh l vs (a.put (Se l j) (vs j)) S).tmps)=_
   rw [MO Sj];refine (ih.2 ops hops).trans ?_;subst hops;exact wanted_put _ _ _ _ a3
theorem pQ {S:List Nat} {vs:Nat -> vw} {v:vw} (ho:l[i]?=vD o) (h:∀ j∈S,NC l i j=true):(dh l vs a S).put o.dst v=dh l vs (a.put o.dst v) S:=by
 refine (DX l vs o.dst v S a fun j hj t e e'=>?_).symm
 have hj:=h j hj;cases Sj:l[j]? with
 | none=>unfold Se at e';rw [Sj] at e';cases e'
 | some oj =>
  obtain ⟨a1,a2,a3⟩:=Oper.apart_spec (pZ hj ho Sj);rw [MO Sj] at e';exact a2 t e e'
theorem MC {J:List Nat} {f:Nat -> Bool} (h:∀ j∈J,NC l i j=true):∀ j∈J.filter f,NC l i j=true:=fun j hj=>h j (Hl.1 hj).1
theorem zIF {v:vw} (ho:l[i]?=vD o) (hw:Region.wanted o (yielded l.toArray a.tmps)=true) (hF:Hid (Ui V0 N V w)) (hQ:∀ c a w,Q (.panic c) (a.put o.dst v) w -> Q (.panic c) a w)
  (Ld:∀ w',Fl V0 N w w' -> (execOp a.eval o).run P w'= .ok (.value v) w') (h:Ju P l hs tail Q V0 N js rest (Ka.setIfInBounds i true) V (a.put o.dst v) w):Ju P l hs tail Q V0 N js (i :: rest) Ka V a w:=by
 intro hn Fb hj ah f gs w1 hb uj;obtain ⟨C,hr⟩:=sX Fb;have k:=h hn hr hj ah f gs w1 hb uj;have WH:=C.lt;have e:=UA (h:=WH) ho;subst e;have Ve:∀ cs b,l[i].op≠.select cs b:=fun cs b=>Zu hn i l[i] cs b (by rw [Hn];exact ho)
 have hx:=XM (a:=a) (Zl gs) Ve ho _ (MC (f:=f) C.ap);rw [<- vO (fun hm=>C.nj (Hl.1 hm).1),<- pQ ho (MC (f:=f) C.ap)] at k
 have:=so (a:=dh l (Zl gs) a ((js.map (·.1)).filter f)) i (mc V0 N) C.lt hn (C.fr f) (C.rd f) hQ (.inl ⟨by rw [hx.2 _ rfl];exact hw,fun w' FF=>by rw [hx.1];exact Ld w' (zM (mc V0 N) (ze hb hF.out.size) FF)⟩) k
 rwa [show (i :: rest).length+((js.map (·.1)).filter fun j=>!f j).length+tail.length=rest.length+((js.map (·.1)).filter fun j=>!f j).length+tail.length+1 by simp only [Yh];omega]
theorem zIG (ho:l[i]?=vD o) (hw:Region.wanted o (yielded l.toArray a.tmps)=false) (hQ:∀ c a w,Q (.panic c) (a.put o.dst undef) w -> Q (.panic c) a w)
  (h:Ju P l hs tail Q V0 N js rest (Ka.setIfInBounds i true) V (a.put o.dst undef) w):Ju P l hs tail Q V0 N js (i :: rest) Ka V a w:=by
 intro hn Fb hj ah f gs w1 hb uj;obtain ⟨C,hr⟩:=sX Fb;have k:=h hn hr hj ah f gs w1 hb uj;have WH:=C.lt;have e:=UA (h:=WH) ho;subst e;have Ve:∀ cs b,l[i].op≠.select cs b:=fun cs b=>Zu hn i l[i] cs b (by rw [Hn];exact ho)
 have hx:=XM (a:=a) (Zl gs) Ve ho _ (MC (f:=f) C.ap);rw [<- vO (fun hm=>C.nj (Hl.1 hm).1),<- pQ ho (MC (f:=f) C.ap)] at k
 have:=so (a:=dh l (Zl gs) a ((js.map (·.1)).filter f)) i (mc V0 N) C.lt hn (C.fr f) (C.rd f) hQ (.inr ⟨by rw [hx.2 _ rfl];exact hw,rfl⟩) k
 rwa [show (i :: rest).length+((js.map (·.1)).filter fun j=>!f j).length+tail.length=rest.length+((js.map (·.1)).filter fun j=>!f j).length+tail.length+1 by simp only [Yh];omega]
theorem yi {a b:Prop} (h:a) (s:Imp a b:=by
 (repeat ((first | (apply Imp.via (zIG rfl rfl (fun _ _ _ h=>h))) | (apply Imp.via (zIF (v:=?_) rfl rfl La (fun _ _ _ h=>h) ?hr);case hr=>(intro w' hR;(first | have Us:=GV ((mc _ _).trans _ _ _ ja hR) | skip);go_simp;try with_reducible rfl)));simp only [vF,zLa,zLb,zLc]))
 exact Imp.rfl'):b:=s h
theorem zEV {J:List (Nat × vy × Array vw)} {k:Nat} (h:k∈J.map (·.1)):∃ x∈J,x.1=k:=by
 obtain ⟨x,hx,e⟩:=ee.1 h;exact ⟨x,hx,e⟩
theorem zCx {J:List Nat} {f f':Nat -> Bool} {j:Nat} (hn:J.Nodup) (hj:j∈J) (h0:f j=false) (h1:f' j=true) (h2:∀ k,k≠j -> f' k=f k):(J.filter fun k=>!f k).length=(J.filter fun k=>!f' k).length+1:=by
 induction J with
 | nil=>cases hj
 | cons x J ih =>
  obtain ⟨hx,WK⟩:=List.nodup_cons.1 hn;by_cases e:x=j
  ·subst e
   have:J.filter (fun k=>!f k)=J.filter (fun k=>!f' k):=List.filter_congr fun k hk=>by rw [h2 k (by rintro rfl;exact hx hk)]
   rw [IJ (by rw [h0];rfl),GJ (by rw [h1];exact zt),this]
   rfl
  ·have SK:j∈J:=by
    rcases Kk.1 hj with h | h
    ·exact absurd h.symm e
    ·exact h
   have:=ih WK SK;cases hf:f x
   ·rw [IJ (by rw [hf];rfl),IJ (by rw [h2 x e,hf];rfl)]
    simp only [Yh];omega
   ·rw [GJ (by rw [hf];exact zt),GJ (by rw [h2 x e,hf];exact zt)]
    exact this
theorem K3 {order:List Nat} (hF:Ui V0 N V w) (hj:yN l (js.map (·.1))=true) (ah:∀ x∈js,∃ oj,l[x.1]?=vD oj /\ iR P oj x.2.1 x.2.2) {f:Nat -> Bool} {gs:Nat -> Nat} {w1:vu} (hb:vz w.1.size w w1) (uj:rG V N w1 js f gs) {k:Nat}
  (hk:k∈js.map (·.1)) (hf:f k=false) {fu:Nat} (hfu:order.length+((js.map (·.1)).filter fun j=>!f j).length+tail.length=fu+1)
  (ih:∀ (f':Nat -> Bool) (gs':Nat -> Nat) (w2:vu),((js.map (·.1)).filter fun j=>!f' j).length<((js.map (·.1)).filter fun j=>!f j).length -> vz w.1.size w w2 -> rG V N w2 js f' gs' ->
   Gp P l.toArray Q (Fl V0 N) (order.length+((js.map (·.1)).filter fun j=>!f' j).length+tail.length) (ak Ka ((js.map (·.1)).filter f')) (dh l (Zl gs') a ((js.map (·.1)).filter f')) w2) :
  wpS P l Q (Fl V0 N) k fu (ak Ka ((js.map (·.1)).filter f)) (dh l (Zl gs) a ((js.map (·.1)).filter f)) w1:=by
 have J:=zFn hj;obtain ⟨x,hx,rfl⟩:=zEV hk;obtain ⟨oj,Sj,gj,hmj⟩:=ah x hx;have ya:=J.lt _ hk;have e:=UA (h:=ya) Sj;subst e;refine ⟨ya,by simp [Region.wanted,gj],?_⟩
 unfold Oper.wp;rw [hmj];have ma:vz w1.1.size w1 (w1.alloc (.cells x.2.2 x.2.1)):=(Kb _ w1).alloc zR _;have hVlt:∀ b,V b -> b<w1.1.size:=fun b sk=>We (hF.lt b sk) hb.size
 refine ⟨ze ma (jb hF.size hb.size),?_⟩;have Ev:=zCx (f:=f) (f':=fun k=>if k=x.1 then true else f k) J.nodup hk hf (Lb rfl) (fun k db=>Gb db)
 have:=ih (fun k=>if k=x.1 then true else f k) (NI gs x.1 w1.1.size) (w1.alloc (.cells x.2.2 x.2.1)) zO (ta hb ma) ⟨fun y hy hfy=>?_,fun y hy z hz hfy hfz db=>?_⟩
 ·rw [<- zBJ (f:=f) (f':=fun k=>if k=x.1 then true else f k) hk (Lb rfl) (fun k db=>Gb db),zGr,
   FX l (Zl gs) x.1 _ f (fun k=>if k=x.1 then true else f k) _ a J.nodup hk hf (Lb rfl) (fun k _ db=>Gb db) (fun k hk' db t e=>J.dst _ hk k hk' (fun e=>db e.symm) t e),MO Sj] at this
  rwa [show fu=order.length+((js.map (·.1)).filter fun j=>!(if j=x.1 then true else f j)).length+tail.length by omega]
 ·by_cases e:y.1=x.1
  ·have exy:y=x:=by
    refine wM fun db=>?_
    obtain ⟨i,hi,rfl⟩:=Vq hx;obtain ⟨i',pB,rfl⟩:=Vq hy;have XK:=List.pairwise_iff_getElem.1 J.nodup;by_cases c:i<i'
    ·exact XK i i' (by simpa using hi) (by simpa using pB) c (by simpa using e.symm)
    ·by_cases c':i'<i
     ·exact XK i' i (by simpa using pB) (by simpa using hi) c' (by simpa using e)
     ·obtain rfl:i=i':=by omega
      exact db rfl
   subst exy;have eg:NI gs y.1 w1.1.size y.1=w1.1.size:=Lb rfl;rw [eg];exact ⟨Blk.new w1 y.2.1 y.2.2,jb hF.size hb.size,fun hv=>Nat.lt_irrefl _ (hVlt _ hv)⟩
  ·have eg:NI gs x.1 w1.1.size y.1=gs y.1:=Gb e
   rw [eg];rw [Gb e] at hfy;obtain ⟨b1,b2,b3⟩:=uj.blk y hy hfy;exact ⟨pa b1 ma,b2,b3⟩
 ·by_cases e1:y.1=x.1
  ·have e2:z.1≠x.1:=fun e2=>db (e1.trans e2.symm)
   rw [Gb e2] at hfz;have:=(uj.blk z hz hfz).1.lt;unfold NI;rw [Lb e1,Gb e2];omega
  ·rw [Gb e1] at hfy
   have hyl:=(uj.blk y hy hfy).1.lt;by_cases e2:z.1=x.1
   ·unfold NI
    rw [Gb e1,Lb e2];omega
   ·rw [Gb e2] at hfz
    unfold NI;rw [Gb e1,Gb e2];exact uj.dif y hy z hz hfy hfz db
theorem zBy {fuel:Nat} {L:Array Bool} {w:vu} (M:Ie (Fl V0 N)) (db:Region.ready .any l.toArray L≠[]) (h:∀ k∈Region.ready .any l.toArray L,wpS P l Q (Fl V0 N) k fuel L a w):Gp P l.toArray Q (Fl V0 N) (fuel+1) L a w :=
 ⟨fun h0=>absurd h0 db,fun k hk=>wpS_op M (h k hk)⟩
theorem zHm {L:Array Bool} (h:(Region.ready .any l.toArray L).contains i=true):Region.ready .any l.toArray L≠[]:=fun e=>by rw [e] at h;simp at h
theorem OY (hh:hs.contains i=true) (ho:l[i]?=vD o) (hF:Hid (Ui V0 N V w))
  (h:∀ (_:Region.noSelect l.toArray=true) (_:i<l.length),EI l hs tail (js.map (·.1)) rest (Ka.setIfInBounds i true)=true -> yN l (js.map (·.1))=true -> (∀ x∈js,∃ oj,l[x.1]?=vD oj /\ iR P oj x.2.1 x.2.2) -> (∀ j∈js.map (·.1),NC l i j=true) -> i ∉ js.map (·.1) ->
   ∀ (f:Nat -> Bool) (gs:Nat -> Nat) (w1:vu),vz w.1.size w w1 -> rG V N w1 js f gs ->
   wpS P l Q (Fl V0 N) i (rest.length+((js.map (·.1)).filter fun j=>!f j).length+tail.length) (ak Ka ((js.map (·.1)).filter f)) (dh l (Zl gs) a ((js.map (·.1)).filter f)) w1):Ju P l hs tail Q V0 N js (i :: rest) Ka V a w:=by
 intro hn Fb hj ah f gs w1 hb uj;obtain ⟨C,hr⟩:=sX Fb;obtain ⟨m,hm⟩:=zEX (((js.map (·.1)).filter fun j=>!f j).length)
 induction m using Nat.strongRecOn generalizing f gs w1 with
 | ind m ih =>
  subst hm;rw [show (i :: rest).length+((js.map (·.1)).filter fun j=>!f j).length+tail.length=rest.length+((js.map (·.1)).filter fun j=>!f j).length+tail.length+1 by simp only [Yh];omega]
  refine zBy (mc V0 N) (zHm (C.rd f)) fun k hk=>?_
  rcases C.hv hh f k hk with rfl | ⟨hkj,hkf⟩
  ·exact h hn C.lt hr hj ah C.ap C.nj f gs w1 hb uj
  ·refine K3 (order:=i :: rest) (tail:=tail) hF.out hj ah hb uj hkj hkf (by simp only [Yh];omega) fun f' gs' w2 ya Fa eW=>?_
   exact ih _ ya f' gs' w2 Fa eW rfl
theorem Nz {f:FuncId} {vals:Array vw} (hh:hs.contains i=true) (ho:l[i]?=vD o) (hw:Region.wanted o (yielded l.toArray a.tmps)=true) (hF:Hid (Ui V0 N V w))
  (Ld:∀ w,(execOp a.eval o).run P w= .ok (.enter f vals) w)
  (h:∀ w1,vz w.1.size w w1 -> vA P f vals w1 fun e w'=>∃ v V',e=vn v /\ Moved V V' w1 w' /\ (∀ b,V' b -> b<w'.1.size) /\ Ju P l hs tail Q V0 N js rest (Ka.setIfInBounds i true) V' (a.put o.dst v) w'):Ju P l hs tail Q V0 N js (i :: rest) Ka V a w:=by
 refine OY hh ho hF fun hn hi hr hj ah Xt AF f' gs w1 hb uj=>?_
 have e:=UA (h:=hi) ho;subst e;have Ve:∀ cs b,l[i].op≠.select cs b:=fun cs b=>Zu hn i l[i] cs b (by rw [Hn];exact ho)
 have hx:=XM (a:=a) (Zl gs) Ve ho _ (MC (f:=f') Xt);refine zIB hi (by rw [hx.2 _ rfl];exact hw) ((h w1 hb).mono ?_) (fun w=>by rw [hx.1];exact Ld w)
 rintro e w' ⟨v,V',rfl,hm,ya,hz⟩;refine ⟨v,rfl,jk (Te hF.out hb) hm,?_⟩;have:=hz hn hr hj ah f' gs w' (Kb _ _) (DV uj hm)
 rwa [<- vO (fun hm=>AF (Hl.1 hm).1),<- pQ ho (MC (f:=f') Xt)] at this
theorem YN (hh:hs.contains i=true) (ho:l[i]?=vD o) (hw:Region.wanted o (yielded l.toArray a.tmps)=true) (hF:Hid (Ui V0 N V w))
  (h:∀ w1,vz w.1.size w w1 -> ∃ v w' V',(execOp a.eval o).run P w1= .ok (.value v) w' /\ Moved V V' w1 w' /\ (∀ b,V' b -> b<w'.1.size) /\ Ju P l hs tail Q V0 N js rest (Ka.setIfInBounds i true) V' (a.put o.dst v) w'):Ju P l hs tail Q V0 N js (i :: rest) Ka V a w:=by
 refine OY hh ho hF fun hn hi hr hj ah Xt AF f' gs w1 hb uj=>?_
 have e:=UA (h:=hi) ho;subst e;have Ve:∀ cs b,l[i].op≠.select cs b:=fun cs b=>Zu hn i l[i] cs b (by rw [Hn];exact ho)
 have hx:=XM (a:=a) (Zl gs) Ve ho _ (MC (f:=f') Xt);obtain ⟨v,w',V',Ld,hm,ya,hz⟩:=h w1 hb;refine ⟨hi,by rw [hx.2 _ rfl];exact hw,?_⟩
 unfold Oper.wp;rw [hx.1,Ld];refine ⟨jk (Te hF.out hb) hm,?_⟩;have:=hz hn hr hj ah f' gs w' (Kb _ _) (DV uj hm)
 rwa [<- vO (fun hm=>AF (Hl.1 hm).1),<- pQ ho (MC (f:=f') Xt)] at this
theorem zHz {t e:vy} {size bytes base n:Nat} {z v:vw} {xs news:List vw} {A:Option vx} {m c:Nat} {o:Oper} {w:vu} (s x:Operand) (hop:o.op= .call { callee:=.builtin .append,args:=#[s,x],argTypes:=#[t,t] }) (E:Ds P t e size bytes z) (hs:a.eval s=v) (hx:a.eval x=ve A m c)
  (oa:w.ownsRow base e size v n xs) (hr:Rd w size A m news) (h1:∀ u∈news,u.oneCell'=true) (Ts:(n+m)*(bytes+1) <= 140737488355328) (Ok:base <= w.1.size) :
  ∃ v' w',(execOp a.eval o).run P w= .ok (.value v') w' /\ w'.ownsRow base e size v' (n+m) (xs++news) /\ w.grownBy w' v.ownBlock /\ (v'.ownBlock=v.ownBlock \/ v'.ownBlock=vD w.1.size):=by
 obtain ⟨v',w',Ld,h2,h3,h4⟩:=zAB (P:=P) (c:=c) E o.type oa hr h1 Ts Ok;refine ⟨v',w',?_,h2,h3,h4⟩;unfold execOp;simp only [hop,resolve,invoke,builtin,Sem.run_bind,Sem.run_pure,Result.andThen_ok,List.map_toArray,List.map_cons,List.map_nil,hs,hx,Ld]
theorem OQ {t e:vy} {size bytes base n:Nat} {z v:vw} {xs news:List vw} {A:Option vx} {m c:Nat} (hh:hs.contains i=true) (ho:l[i]?=vD o) (hw:Region.wanted o (yielded l.toArray a.tmps)=true) (s x:Operand) (hop:o.op= .call { callee:=.builtin .append,args:=#[s,x],argTypes:=#[t,t] })
  (E:Ds P t e size bytes z) (hs':a.eval s=v) (hx':a.eval x=ve A m c) (hF:Hid (Ui V0 N V w)) (oa:w.ownsRow base e size v n xs) (hr:Rd w size A m news) (h1:∀ u∈news,u.oneCell'=true) (Ts:(n+m)*(bytes+1) <= 140737488355328) (Ok:base <= w.1.size)
  (hV:∀ b,v.ownBlock=vD b -> V b)
  (h:∀ w1 v' w',vz w.1.size w w1 -> w'.ownsRow base e size v' (n+m) (xs++news) -> Moved V (fun b=>V b \/ v'.ownBlock=vD b) w1 w' -> (∀ b,(V b \/ v'.ownBlock=vD b) -> b<w'.1.size) -> Ju P l hs tail Q V0 N js rest (Ka.setIfInBounds i true) (fun b=>V b \/ v'.ownBlock=vD b) (a.put o.dst v') w'):Ju P l hs tail Q V0 N js (i :: rest) Ka V a w:=by
 refine OY hh ho hF fun hn hi fp hj ah Xt AF f' gs w1 hb uj=>?_
 have e:=UA (h:=hi) ho;subst e;have Ve:∀ cs b,l[i].op≠.select cs b:=fun cs b=>Zu hn i l[i] cs b (by rw [Hn];exact ho)
 have hx:=XM (a:=a) (Zl gs) Ve ho _ (MC (f:=f') Xt);obtain ⟨v',w',Ld,iI,hg,Cb⟩:=zHz (P:=P) s x hop E hs' hx' (Za oa hb zR) (hr.below hb) h1 Ts (jb Ok hb.size);have hm:Moved V (fun b=>V b \/ v'.ownBlock=vD b) w1 w':=mX (vN (F:=V) hg hV) fun b sk=>by
  rcases sk with h | h
  ·exact .inl h
  ·rcases Cb with h2 | h2
   ·exact .inl (hV b (h2.symm.trans h))
   ·rw [h2] at h
    injection h with h
    exact .inr zO
 have ya:∀ b,(V b \/ v'.ownBlock=vD b) -> b<w'.1.size:=fun b sk=>by
  rcases sk with h | h
  ·have:=hF.out.lt b h
   have:=hb.size;have:=hg.size;omega
  ·exact (iI.lt b h).2
 have hz:=h w1 v' w' hb iI hm ya;refine ⟨hi,by rw [hx.2 _ rfl];exact hw,?_⟩
 unfold Oper.wp;rw [hx.1,Ld];refine ⟨jk (Te hF.out hb) hm,?_⟩;have:=hz hn fp hj ah f' gs w' (Kb _ _) (DV uj hm)
 rwa [<- vO (fun hm=>AF (Hl.1 hm).1),<- pQ ho (MC (f:=f') Xt)] at this
theorem iw (jd:List (Option Tmp × Nat)) (xF:((js.map (·.1)).map fun j=>(Se l j,j))=jd) (hF:Hid (Ui V0 N V w))
  (h:∀ (gs:Nat -> Nat) (w1:vu),vz w.1.size w w1 -> rG V N w1 js (fun _=>true) gs -> Iq P l hs Q (Fl V0 N) tail (ak Ka (js.map (·.1))) (Jm a (Zl gs) jd) w1):Ju P l hs tail Q V0 N js [] Ka V a w:=by
 intro hn Fb hj ah f gs w1 hb uj;unfold EI at Fb;rw [pe,oh] at Fb;obtain ⟨Fb,hk⟩:=Fb;obtain ⟨m,hm⟩:=zEX (((js.map (·.1)).filter fun j=>!f j).length)
 induction m using Nat.strongRecOn generalizing f gs w1 with
 | ind m ih =>
  subst hm;have h1:=Fb _ (MS f (js.map (·.1)))
  by_cases uh:∀ j∈js.map (·.1),f j=true
  ·have e1:(js.map (·.1)).filter f=js.map (·.1):=List.filter_eq_self.2 uh
   have e2:(js.map (·.1)).filter (fun j=>!f j)=[]:=List.filter_eq_nil_iff.2 fun j SK=>by rw [uh j SK];exact zt
   rw [e1,e2,pT,xF];have:=h gs w1 hb ⟨fun x hx _=>uj.blk x hx (uh _ (ee.2 ⟨x,hx,rfl⟩)),fun x hx y hy _ _ db=>uj.dif x hx y hy (uh _ (ee.2 ⟨x,hx,rfl⟩)) (uh _ (ee.2 ⟨y,hy,rfl⟩)) db⟩ hn hk
   simpa using this
  ·have hns:¬((js.map (·.1)).all fun j=>((js.map (·.1)).filter f).contains j)=true:=fun h0=>uh fun j SK=>by
    have:=oh.1 h0 j SK;exact (Hl.1 (xE.1 this)).2
   rw [Bool.or_eq_true] at h1;replace h1:=h1.resolve_left hns;rw [pe] at h1;obtain ⟨hne0,h2⟩:=h1;have db:Region.ready .any l.toArray (ak Ka ((js.map (·.1)).filter f))≠[]:=by simpa using hne0
   rw [oh] at h2;have ao:0<((js.map (·.1)).filter fun j=>!f j).length:=by
    obtain ⟨j,SK⟩:=Classical.not_forall.1 uh;obtain ⟨YH,Zo⟩:=Classical.not_imp.1 SK;exact List.length_pos_of_mem (Hl.2 ⟨YH,by simp [Bool.eq_false_iff.2 Zo]⟩)
   obtain ⟨fu,hfu⟩:∃ fu,([]:List Nat).length+((js.map (·.1)).filter fun j=>!f j).length+tail.length=fu+1:=⟨((js.map (·.1)).filter fun j=>!f j).length+tail.length-1,by simp only [List.length_nil];omega⟩
   rw [hfu];refine zBy (mc V0 N) db fun k hk'=>?_
   have h3:=h2 k hk';simp only [pe,Mm,xE] at h3;have hkf:f k=false:=by
    cases hf:f k
    ·rfl
    ·have:=h3.2
     rw [xE.2 (Hl.2 ⟨h3.1,hf⟩)] at this;cases this
   exact K3 (order:=[]) (tail:=tail) hF.out hj ah hb uj h3.1 hkf hfu fun f' gs' w2 ya Fa eW=>ih _ ya f' gs' w2 Fa eW rfl
end
def Yf (V:Nat -> Prop) (w w':vu):Nat -> Prop:=fun b=>V b \/ (w.1.size <= b /\ b<w'.1.size)
theorem Rh {V:Nat -> Prop} {w w':vu} (h:vz w.1.size w w'):Moved V (Yf V w w') w w':=mX (Af (F:=V) h) fun _ hb=>hb.elim .inl fun h=>.inr h.1
theorem zm {V0 V:Nat -> Prop} {N:Nat} {w w':vu} (hF:Ui V0 N V w) (h:vz w.1.size w w'):∀ b,Yf V w w' b -> b<w'.1.size:=fun b hb=>hb.elim (fun e=>We (hF.lt b e) h.size) fun e=>e.2
def XJ (p:Nat):List Nat :=
 if p=97 then [2,3] else if p=193 then [2,3] else if p=12289 then [2,3] else if p=18446744069414584321 then [2,3,5,17,257,65537] else [2]
theorem zDE {p:Nat} (h:jc p=true):∀ q∈XJ p,(p-1)%q=0 /\ MD p 64 (pc p).1 ((p-1) / q)≠1 /\ MD p 64 (pc p).1 ((p-1) / q)<p /\ (p-1) / q<2^64:=by
 rcases Wv h with rfl | rfl | rfl | rfl | rfl | rfl | rfl <;> decide +kernel
def ZL:List (Nat × Nat) -> Nat
 | []=>1
 | (q,e) :: l=>q^e*ZL l
def QR (p:Nat):List (Nat × Nat) :=
 if p=97 then [(2,5),(3,1)] else if p=193 then [(2,6),(3,1)] else if p=12289 then [(2,12),(3,1)] else if p=18446744069414584321 then [(2,32),(3,1),(5,1),(17,1),(257,1),(65537,1)] else [(2,(pc p).2.1)]
theorem zC8 {p:Nat} (h:jc p=true):ZL (QR p)=p-1 /\ ((QR p).map (·.1))=XJ p:=by
 rcases Wv h with rfl | rfl | rfl | rfl | rfl | rfl | rfl <;> decide +kernel
theorem zDa {p q:Nat} (h:jc p=true) (hq:q∈XJ p):2 <= q /\ q <= 65537:=by
 have:∀ q∈XJ p,2 <= q /\ q <= 65537:=by
  rcases Wv h with rfl | rfl | rfl | rfl | rfl | rfl | rfl <;> decide +kernel
 exact this q hq
theorem BX {p:Nat} {g:Int} (hg:∃ v,Cg p (g*v) 1):∀ (n a b:Nat),a+b <= n -> Cg p (g^a) 1 -> Cg p (g^b) 1 -> Cg p (g^Nat.gcd a b) 1
 | 0,a,b,h,ha,hb=>by
  have h1:a=0:=by omega
  have h2:b=0:=by omega
  subst h1 h2;exact ha
 | n+1,a,b,h,ha,hb=>by
  obtain ⟨v,hv⟩:=hg;rcases Jn a with h0 | h0
  ·subst h0;rw [Nat.gcd_zero_left];exact hb
  rcases Jn b with h1 | h1
  ·subst h1;rw [Nat.gcd_zero_right];exact ha
  have cancel:∀ s t:Nat,Cg p (g^(s+t)) 1 -> Cg p (g^s) 1 -> Cg p (g^t) 1:=fun s t h1 h2=>by
   rw [Int.pow_add] at h1;exact ((Cg.of_eq (Ls _).symm).trans (h2.symm.mul Cg.rfl')).trans h1
  rcases Nat.le_total a b with fF | fF
  ·obtain ⟨d,rfl⟩:∃ d,b=a+d:=⟨b-a,zO⟩
   have:=BX ⟨v,hv⟩ n a d zO ha (cancel _ _ hb ha)
   rwa [Nat.gcd_self_add_right]
  ·obtain ⟨d,rfl⟩:∃ d,a=b+d:=⟨a-b,zO⟩
   have:=BX ⟨v,hv⟩ n d b zO (cancel _ _ ha hb) hb
   rwa [Nat.gcd_self_add_left]
theorem zGp:∀ (l:List (Nat × Nat)) (d:Nat),(∀ x∈l,∀ k,k∣x.1 -> k=1 \/ k=x.1) -> d∣ZL l -> d≠ZL l -> ∃ x∈l,d∣ZL l / x.1
 | l,d,hp,hd,db=>by
  obtain ⟨m,hm⟩:=hd;have jf:m≠1:=fun e=>by rw [e,Ns] at hm;exact db hm.symm
  have key:∀ (l':List (Nat × Nat)),(∀ x∈l',∀ k,k∣x.1 -> k=1 \/ k=x.1) -> (∀ x∈l',¬x.1∣m) -> Nat.Coprime m (ZL l'):=by
   intro l'
   induction l' with
   | nil=>intro _ _;exact Nat.coprime_one_right m
   | cons x l' ih =>
    intro h1 h2;have hc:Nat.Coprime m x.1:=by
     rcases h1 x (.head _) (Nat.gcd m x.1) (Nat.gcd_dvd_right _ _) with e | e
     ·exact e
     ·exact absurd (e ▸ Nat.gcd_dvd_left m x.1) (h2 x (.head _))
    exact Nat.Coprime.mul_right (Nat.Coprime.pow_right _ hc) (ih (fun y hy=>h1 y (.tail _ hy)) fun y hy=>h2 y (.tail _ hy))
  by_cases hx:∃ x∈l,x.1∣m
  ·obtain ⟨x,GF,c,hc⟩:=hx
   refine ⟨x,GF,?_⟩;rcases Jn x.1 with h0 | h0
   ·rw [h0,Nat.div_zero]
    exact Nat.dvd_zero _
   ·rw [hm,hc,<- Nat.mul_assoc,xg d x.1,Nat.mul_assoc,Nat.mul_div_cancel_left _ h0]
    exact Nat.dvd_mul_right _ _
  ·have pq:=key l hp fun x hx' hd'=>hx ⟨x,hx',hd'⟩
   have jn:m∣ZL l:=by rw [hm];exact Nat.dvd_mul_left _ _
   exact absurd (pq.eq_one_of_dvd jn) jf
theorem zAM:∀ q∈[2,3,5,17,257,65537],∀ k∈List.range 257,q%k=0 -> k=1 \/ k=q:=by decide +kernel
theorem zC9 {p q:Nat} (h:jc p=true) (hq:q∈XJ p):∀ k,k∣q -> k=1 \/ k=q:=by
 have Ed:q∈[2,3,5,17,257,65537]:=by
  have:∀ q∈XJ p,q∈[2,3,5,17,257,65537]:=by
   rcases Wv h with rfl | rfl | rfl | rfl | rfl | rfl | rfl <;> decide +kernel
  exact this q hq
 obtain ⟨h2,hle⟩:=zDa h hq;intro k ⟨c,hc⟩;rcases Zj k 257 with hk | hk
 ·exact zAM q Ed k (Mj.2 hk) (by rw [hc];exact Nat.mul_mod_right _ _)
 ·have Vs:c<257:=by
   rcases Zj c 257 with h' | h'
   ·exact h'
   ·have:=Nat.mul_le_mul hk h'
    omega
  rcases zAM q Ed c (Mj.2 Vs) (by rw [hc];exact Nat.mul_mod_left _ _) with h' | h'
  ·right;rw [hc,h',Ns]
  ·left
   rw [h'] at hc;have:q*1=q*k:=by rw [Ns,xg];exact hc
   exact (Nat.eq_of_mul_eq_mul_left zO this).symm
theorem p4 {p k:Nat} (h:jc p=true) (h0:0<k) (hk:k<p-1):¬Cg p (((pc p).1:Int)^k) 1:=by
 intro hc;have hp:=Cc h;have hinv:∃ v,Cg p (((pc p).1:Int)*v) 1:=⟨((pc p).1:Int)^(p-2),by
  rw [Rp,<- Zk,show (p-2).succ=p-1 by omega]
  exact ZJ h⟩
 have hd:=BX hinv _ k (p-1) zR hc (ZJ h);have EK:Nat.gcd k (p-1)∣p-1:=Nat.gcd_dvd_right _ _;have hdk:Nat.gcd k (p-1) <= k:=Nat.le_of_dvd h0 (Nat.gcd_dvd_left _ _);obtain ⟨e1,e2⟩:=zC8 h;have hmem:∀ x∈QR p,x.1∈XJ p:=fun x hx=>by rw [<- e2];exact ee.2 ⟨x,hx,rfl⟩
 obtain ⟨x,hx,hdx⟩:=zGp (QR p) (Nat.gcd k (p-1)) (fun x hx=>zC9 h (hmem x hx)) (by rw [e1];exact EK) (by rw [e1];omega)
 rw [e1] at hdx;obtain ⟨-,g1,g2,g3⟩:=zDE h x.1 (hmem x hx);have hs:=DQ p 64 (pc p).1 ((p-1) / x.1) g3;obtain ⟨c,Un⟩:=hdx;have h1:Cg p (((pc p).1:Int)^((p-1) / x.1)) 1:=by
  rw [Un,Yk];exact (hd.pow c).trans (Cg.of_eq Int.one_pow)
 exact g1 (Cg.eq (p:=p) (hs.trans h1) g2 zO)
theorem Y8:∀ (n:Nat) (f:Nat -> Nat),(∀ i,i<n+1 -> f i<n) -> (∀ i j,i<n+1 -> j<n+1 -> f i=f j -> i=j) -> False
 | 0,f,h,_=>absurd (h 0 zO) (Nat.not_lt_zero _)
 | n+1,f,h,hi=>by
  have db:∀ i,i<n+1 -> f i≠f (n+1):=fun i h1 e=>by
   have:=hi i (n+1) zO zO e;omega
  refine Y8 n (fun i=>if f i=n then f (n+1) else f i) (fun i h1=>?_) fun i j h1 h2 e=>?_
  ·split
   ·rename_i e
    have h3:=db i h1;have h4:=h (n+1) zO;omega
   ·have:=h i zO
    omega
  ·change (if f i=n then f (n+1) else f i)=(if f j=n then f (n+1) else f j) at e
   by_cases e1:f i=n <;> by_cases e2:f j=n
   ·exact hi i j zO zO zO
   ·rw [Lb e1,Gb e2] at e
    exact absurd e.symm (db j h2)
   ·rw [Gb e1,Lb e2] at e
    exact absurd e (db i h1)
   ·rw [Gb e1,Gb e2] at e
    exact hi i j zO zO e
theorem onto {n:Nat} {f:Nat -> Nat} (h:∀ i,i<n -> f i<n) (hi:∀ i j,i<n -> j<n -> f i=f j -> i=j) {y:Nat} (hy:y<n):∃ i,i<n /\ f i=y:=by
 refine wM fun Ex=>?_
 have db:∀ i,i<n -> f i≠y:=fun i h1 e=>Ex ⟨i,h1,e⟩
 obtain ⟨m,rfl⟩:∃ m,n=m+1:=⟨n-1,zO⟩;refine Y8 m (fun i=>if f i=m then y else f i) (fun i h1=>?_) fun i j h1 h2 e=>?_
 ·split
  ·rename_i e
   have:=db i h1;omega
  ·have:=h i h1
   omega
 ·change (if f i=m then y else f i)=(if f j=m then y else f j) at e
  by_cases e1:f i=m <;> by_cases e2:f j=m
  ·exact hi i j h1 h2 zO
  ·rw [Lb e1,Gb e2] at e
   exact absurd e.symm (db j h2)
  ·rw [Gb e1,Lb e2] at e
   exact absurd e (db i h1)
  ·rw [Gb e1,Gb e2] at e
   exact hi i j h1 h2 e
theorem one_ne {p:Nat} (h:jc p=true):¬Cg p (0:Int) 1:=by
 have hp:=Cc h;intro hc;have:=Cg.eq (p:=p) (a:=0) (b:=1) hc zO zO;omega
theorem zDF {p a:Nat} (h:jc p=true) (h0:0<a) (ha:a<p):∃ k,(pc p).1^k%p=a:=by
 have hp:=Cc h;have ao:∀ i,0<(pc p).1^i%p:=fun i=>by
  rcases Jn ((pc p).1^i%p) with e | e
  ·exfalso
   have h1:Cg p (((pc p).1:Int)^i) 0:=by
    have h2:=Cg.mod (p:=p) ((pc p).1^i);rw [e,Xu] at h2;exact h2.symm
   have h2:Cg p ((((pc p).1:Int)^i)^(p-1)) 1:=by
    rw [<- Yk,xg,Yk];exact ((ZJ h).pow i).trans (Cg.of_eq Int.one_pow)
   have h3:=(h1.pow (p-1)).symm.trans h2;rw [Int.zero_pow zO] at h3;exact one_ne h h3
  ·exact e
 obtain ⟨i,-,hi⟩:=onto (n:=p-1) (f:=fun i=>(pc p).1^i%p-1) (fun i _=>by
   have:=ao i;have:=Sc ((pc p).1^i) (show p > 0 by omega)
   show (pc p).1^i%p-1<p-1
   omega) (fun i j h1 h2 e=>by
   have e':(pc p).1^i%p=(pc p).1^j%p:=by
    have:=ao i;have:=ao j;change (pc p).1^i%p-1=(pc p).1^j%p-1 at e
    omega
   have key:∀ i j,i<j -> j<p-1 -> (pc p).1^i%p=(pc p).1^j%p -> False:=fun i j hij hj e=>by
    have c1:Cg p (((pc p).1:Int)^i) (((pc p).1:Int)^j):=by
     have h1:=Cg.mod (p:=p) ((pc p).1^i);have h2:=Cg.mod (p:=p) ((pc p).1^j);rw [e] at h1;rw [Xu] at h1 h2;exact h1.symm.trans h2
    obtain ⟨d,rfl⟩:∃ d,j=i+d:=⟨j-i,zO⟩;rw [Int.pow_add] at c1;have c2:Cg p (((pc p).1:Int)^(i*(p-2))*((pc p).1:Int)^i) 1:=by
     rw [<- Int.pow_add,show i*(p-2)+i=(p-1)*i by
      rw [xg (p-1),<- Nat.mul_succ]
      congr 1
      omega,Yk]
     exact ((ZJ h).pow i).trans (Cg.of_eq Int.one_pow)
    have c3:=(Cg.rfl' (x:=((pc p).1:Int)^(i*(p-2)))).mul c1;rw [<- Ks] at c3;have c4:Cg p (((pc p).1:Int)^d) 1:=((Cg.of_eq (Ls _).symm).trans (c2.symm.mul Cg.rfl')).trans (c3.symm.trans c2);exact p4 h zO zO c4
   rcases Nat.lt_trichotomy i j with ya | heq | hgt
   ·exact absurd e' fun e=>key i j ya h2 e
   ·exact heq
   ·exact absurd e'.symm fun e=>key j i hgt h1 e) (y:=a-1) zO
 refine ⟨i,?_⟩;have:=ao i;change (pc p).1^i%p-1=a-1 at hi
 omega
theorem zEh {p a:Nat} (h:jc p=true) (h0:0<a) (ha:a<p):Cg p ((a:Int)*((a^(p-2)%p:Nat):Int)) 1:=by
 have hp:=Cc h;obtain ⟨k,hk⟩:=zDF h h0 ha;have h1:Cg p (a:Int) (((pc p).1:Int)^k):=by
  have:=Cg.mod (p:=p) ((pc p).1^k);rw [hk,Xu] at this;exact this
 refine (Cg.rfl'.mul (Cg.mod _)).trans ?_;rw [Xu,Rp,<- Zk,show (p-2).succ=p-1 by omega]
 refine (h1.pow _).trans ?_;rw [<- Yk,xg,Yk];exact ((ZJ h).pow k).trans (Cg.of_eq Int.one_pow)
theorem zEe {p a:Nat} (h:jc p=true) (h0:¬Cg p (a:Int) 0):Cg p ((a:Int)*((a^(p-2)%p:Nat):Int)) 1:=by
 have hp:=Cc h;have h1:a%p≠0:=fun e=>h0 (by
  have:=Cg.mod (p:=p) a;rw [e] at this;exact this.symm)
 have:=zEh h (Nat.pos_of_ne_zero h1) (Sc a zO);rw [<- Nat.pow_mod] at this;exact ((Cg.mod a).symm.mul Cg.rfl').trans this
theorem zEg {p:Nat} {x:Int} (h:jc p=true) (h0:¬Cg p x 0):∃ v,Cg p (x*v) 1:=by
 have hp:=Cc h;obtain ⟨a,ha⟩:∃ a:Nat,(a:Int)=x%(p:Int):=⟨(x%(p:Int)).toNat,Int.toNat_of_nonneg (Int.emod_nonneg _ zO)⟩;have hx:Cg p x (a:Int):=⟨x / (p:Int),by rw [ha];have:=Int.mul_ediv_add_emod x (p:Int);omega⟩
 exact ⟨_,(hx.mul Cg.rfl').trans (zEe h fun e=>h0 (hx.trans e))⟩
theorem zE8 {p:Nat} {x y:Int} (h:jc p=true) (hxy:Cg p (x*y) 0):Cg p x 0 \/ Cg p y 0:=by
 by_cases hx:Cg p x 0
 ·exact .inl hx
 ·obtain ⟨v,hv⟩:=zEg h hx
  refine .inr ?_;have h1:Cg p y (v*(x*y)):=(Cg.of_eq (Ls y).symm).trans ((hv.symm.mul Cg.rfl').trans (Cg.of_eq (by rw [Rp x v,Ks])))
  exact h1.trans ((Cg.rfl'.mul hxy).trans (Cg.of_eq (Int.mul_zero _)))
def ND (p:Nat) (a b:List Nat):List Nat:=Mg p a (dm p b (qg p 1))
theorem zHh (p:Nat) (A B:Option vx) (n c m d:Nat) (a b:List Nat) (w:vu) (hp:jc p=true) (ha:RWd w [ve A n c] a) (hb:RWd w [ve B m d] b) (hn:n <= 100000) (hm:m <= 100000) :
  vA prog 182 #[vd vo p,ve A n c,ve B m d] w fun e w'=>∃ v,e=vn v /\ RWd w' [v] (ND p a b) /\ vz w.1.size w w':=by
 have dc:=(Pb hb).1;have HN:=zH (fun w=>Y9 p 1 w hp)
 have LG:=zH (fun A n c s l w hl hn=>vT p A n c s l w hp hl hn)
 have HA:=zH (fun A B n c m d a b w ha hb hn hm=>aM p A B n c m d a b w hp ha hb hn hm)
 have HL:=zH (show (dm p b (qg p 1)).length <= 100000 by have:=JD p b (qg p 1);omega)
 obtain ⟨x,hx⟩:=zEX (qg p 1);unfold ND;rw [<- hx] at HN HL |-;clear hx dc hp;go_enter func182,ntmps182
 go_wp2_with fail
 refine (HN.out _).mono ?_;rintro e w1 ⟨rfl,Oa⟩;have Wo:=Wa Oa ha;have hb1':=Wa Oa hb;go_wp2_with fail
 refine (LG.out _ _ _ x _ _ hb1' zO).mono ?_;rintro e w2 ⟨v2,rfl,h2,Fa⟩;have uK:=Wa Fa Wo;obtain ⟨A2,c2,rfl⟩:=eh h2;go_wp2_with fail
 refine (HA.out _ _ _ _ _ _ _ _ _ uK h2 zO (zQ HL.out)).mono ?_;rintro e w3 ⟨v3,rfl,h3,Ra⟩;go_wp2;go_ret
 exact ⟨_,rfl,h3,ta (ta Oa Fa) Ra⟩
def Nt (p:Nat) (rows:List (List Nat)) (al:Nat):Nat -> List Nat
 | 0=>[]
 | i+1=>Mg p (Nt p rows al i) (dm p (rows.getD i []) (Cl p al (i+1)))
def yu (p:Nat) (rows ws:List (List Nat)):Nat -> List Nat
 | 0=>[]
 | i+1=>Mg p (yu p rows ws i) (Dg p (ws.getD i []) (rows.getD i []))
def aN (p a b:Nat) (rows:List (List Nat)) (j:Nat):List Nat:=ND p (Dg p (rows.getD (a+j) []) (rows.getD (a+b+j) [])) (rows.getD (a+b+b+j) [])
def ss (p a b:Nat) (rows:List (List Nat)) (be:Nat):Nat -> List Nat
 | 0=>[]
 | j+1=>Mg p (ss p a b rows be j) (dm p (aN p a b rows j) (Cl p be (j+1)))
theorem bN {rows:List (List Nat)} {M:Nat} (h:∀ r∈rows,r.length <= M) (i:Nat):(rows.getD i []).length <= M:=by
 rw [Hc];by_cases hi:i<rows.length
 ·rw [Ec hi];exact h _ (Qe hi)
 ·rw [It zO];exact Qb _
theorem FR {p al M:Nat} {rows:List (List Nat)} (h:∀ r∈rows,r.length <= M):∀ i,(Nt p rows al i).length <= M
 | 0=>Qb _
 | i+1=>by
  have h1:=Pw p (Nt p rows al i) (dm p (rows.getD i []) (Cl p al (i+1)));have h2:=JD p (rows.getD i []) (Cl p al (i+1));have h3:=FR (p:=p) (al:=al) h i;have h4:=bN h i;rw [Nt];omega
theorem LS {p M m:Nat} {rows ws:List (List Nat)} (h:∀ r∈rows,r.length <= M) (h2:∀ r∈ws,r.length <= m):∀ i,(yu p rows ws i).length <= m-1+M
 | 0=>Qb _
 | i+1=>by
  have h3:=Pw p (yu p rows ws i) (Dg p (ws.getD i []) (rows.getD i []));have h4:=uD p (ws.getD i []) (rows.getD i []);have h5:=LS (p:=p) h h2 i;have h6:=bN h i;have h7:=bN h2 i;rw [yu];omega
theorem zAV (p:Nat) (a b:List Nat):(ND p a b).length <= max a.length b.length:=by
 have h1:=Pw p a (dm p b (qg p 1));have h2:=JD p b (qg p 1);unfold ND;omega
theorem zDB {p a b M:Nat} {rows:List (List Nat)} (h:∀ r∈rows,r.length <= M) (j:Nat):(aN p a b rows j).length <= M-1+M:=by
 have h1:=zAV p (Dg p (rows.getD (a+j) []) (rows.getD (a+b+j) [])) (rows.getD (a+b+b+j) []);have h2:=uD p (rows.getD (a+j) []) (rows.getD (a+b+j) []);have h3:=bN h (a+j);have h4:=bN h (a+b+j);have h5:=bN h (a+b+b+j);unfold aN;omega
theorem qT {p a b be M:Nat} {rows:List (List Nat)} (h:∀ r∈rows,r.length <= M):∀ i,(ss p a b rows be i).length <= M-1+M
 | 0=>Qb _
 | i+1=>by
  have h1:=Pw p (ss p a b rows be i) (dm p (aN p a b rows i) (Cl p be (i+1)));have h2:=JD p (aN p a b rows i) (Cl p be (i+1));have h3:=qT (p:=p) (a:=a) (b:=b) (be:=be) h i;have h4:=zDB (p:=p) (a:=a) (b:=b) h i;rw [ss];omega
theorem XX (w:vu):RWd w [ve vB 0 0] []:=⟨vB,0,0,rfl,zR,by simp [maxLen],⟨rfl,fun h=>absurd h zO⟩,fun x hx=>by cases hx⟩
theorem WE {rows:List (List Nat)} {i:Nat} (h:i<rows.length):rows.getD i []=rows[i]:=by rw [Hc,Ec h];rfl
theorem zGD (L:Tb) (A:Option vx) (n c al:Nat) (rows:List (List Nat)) (w:vu) (hL:Ad L) (hr:Kd w [ve A n c] rows) (Pe:∀ r∈rows,r.length <= 1000) :
  vA prog 172 #[vf (Ub L),ve A n c,vd vo al] w fun e w'=>∃ v,e=vn v /\ RWd w' [v] (Nt L.p rows al n) /\ vz w.1.size w w':=by
 obtain ⟨ni,BH,DH,gL⟩:=Ig hr;have gm:=ti BH DH;have HM:=zH (fun x y w=>Bz L.p x y w hL.p)
 have LG:=zH (fun A n c s l w hl hn=>vT L.p A n c s l w hL.p hl hn)
 have HA:=zH (fun A B n c m d a b w ha hb hn hm=>aM L.p A B n c m d a b w hL.p ha hb hn hm)
 have iy:=zH (FR (p:=L.p) (al:=al) Pe);have Vf:=zH Pe;have qA:=zH (fun a s=>JD L.p a s)
 obtain ⟨D,hD⟩:=zEX (Nt L.p rows al);obtain ⟨P,hP⟩:=zEX (Cl L.p al);have HDS:=zH (show ∀ i,D (i+1)=Mg L.p (D i) (dm L.p (rows.getD i []) (P (i+1))) from fun i=>by rw [hD,hP];rfl)
 rw [<- hD] at iy |-;have HD0:=zH (show D 0=[] by rw [hD];rfl)
 have Io:=zH (show P 0=1 by rw [hP];rfl)
 have im:=zH (show ∀ i,P (i+1)=P i*al%L.p from fun i=>by rw [hP];rfl)
 have gJ:=zH ni;clear hD hP ni BH DH hL hr Pe;unfold Ub at *;obtain ⟨kl,da⟩:=zN w 35 #[vd vo L.p,vd vq L.block,vd vq L.queries,vd vq L.k,vd vq L.n,vd vq L.secret,vd vq L.rows,vd vq L.a,vd vq L.b,vd vq L.b,vd vq L.b];go_enter func172,ntmps172
 go_wp2_with fail
 generalize w.alloc _=w1 at kl da |-;go_loopw [7,8,9] (fun u b y wr=>∃ (i:Nat) (v:vw),v=u /\ i <= n /\ y=vd vq i /\ b=vd vo (P i:Int) /\ RWd wr [v] (D i) /\ Blk wr w.1.size 35 #[vd vo L.p,vd vq L.block,vd vq L.queries,vd vq L.k,vd vq L.n,vd vq L.secret,vd vq L.rows,vd vq L.a,vd vq L.b,vd vq L.b,vd vq L.b] /\ vz w.1.size w wr) (fun _ _ y _=>n-(intOf y).toNat)
 case atStart=>exact ⟨0,_,rfl,Qb _,rfl,by rw [Io.out];rfl,by rw [HD0.out];exact XX _,kl,da⟩
 case round =>
  clear kl da;obtain ⟨i,v,rfl,hi,rfl,rfl,hv,kl,da⟩:=hrel;by_cases ya:i<n
  ·have q1:(i:Int)<n:=by omega
   have q2:(0:Int)<=i:=by omega
   have Yo:i<rows.length:=by rw [gJ.out];exact ya
   obtain ⟨b1,fG,A1,n1,c1,rfl,tk,kd,jf⟩:=Dl gL Yo;have Eo:=zH (HDS.out i);have nA:=zH (im.out i);rw [WE Yo] at Eo;have Gi:=Vf.out _ (Qe Yo);obtain ⟨x,hx⟩:=zEX (rows[i]);rw [<- hx] at jf Gi Eo;have Ue:=(Pb jf).1;have Oe:=Wa da jf;obtain ⟨y0,po⟩:=zEX (P i);obtain ⟨y1,qf⟩:=zEX (P (i+1));rw [<- po,<- qf] at nA;rw [<- qf] at Eo;rw [<- po];have BJ:=zH qf;have Kf:Hid (∀ w:vu,vA prog 181 #[vd vo L.p,vd vo y0,vd vo al] w fun e w'=>e=vn (vd vo y1) /\ vz w.1.size w w'):=zH (fun w=>by rw [nA.out];exact HM.out y0 al w)
   have Gs:=zH (iy.out i);have Hs:=zH (qA.out x y1);have dj:=zH Gi;have Pp:=zH Ue;clear hx po qf Gi Ue jf;obtain ⟨Av,cv,rfl⟩:=eh hv;have cl:=kl.cell;have ll:=kl.lt;go_wp2_with fail
   refine (Kf.out _).mono ?_;rintro e w6 ⟨rfl,Ca⟩;replace kl:=pa kl Ca;replace da:=ta da Ca;replace hv:=Wa Ca hv;replace Oe:=Wa Ca Oe;clear Ca cl ll;have ME:=(da.cell (p:=⟨b1,fG+i,vB⟩) tk).trans kd;have FL:b1<w6.1.size:=We tk da.size;have cl:=kl.cell;have ll:=kl.lt;go_upto_region 7 with fail
   refine Pd (Rc) [10,11] [0,1,2,3,4,5,6,7,8,9,10,11,12] zK zK ?_;refine oe (Da) ?_;intro Wc Ga ja;have Pa:=Uf Ga;replace kl:=pa kl Pa;replace da:=ta da Pa;replace hv:=Wa Pa hv;replace Oe:=Wa Pa Oe;refine Mc ?_;refine ud Da rfl rfl rfl ((LG.out _ _ _ _ _ _ Oe (by have:=dj.out;have:=Pp.out;omega)).mono ?_)
   rintro e w7 ⟨v7,rfl,h7,Zb⟩;refine ⟨_,rfl,Zb,?_⟩;replace ja:=zM Da ja (Zb);refine zPU ?_;replace kl:=pa kl Zb;replace da:=ta da Zb;replace hv:=Wa Zb hv;obtain ⟨A7,c7,rfl⟩:=eh h7;refine Mc ?_;refine ud Da rfl rfl rfl ((HA.out _ _ _ _ _ _ _ _ _ hv h7 (zQ Gs.out) (by have:=dj.out;have:=Hs.out;omega)).mono ?_)
   rintro e w8 ⟨v8,rfl,h8,Zf⟩;refine ⟨_,rfl,Zf,?_⟩;replace ja:=zM Da ja (Zf);refine zPU ?_;replace kl:=pa kl Zf;replace da:=ta da Zf;refine Mc ?_;refine Vc ?_;rw [<- Eo.out] at h8;clear Pa Zb Zf ja Ga ME FL cl ll h7 hv Oe;go_wp2_with fail
   go_roundw
   case rel=>exact ⟨i+1,_,rfl,zO,by go_num,by rw [BJ.out],h8,kl,da⟩
   case measure=>simp [intOf];omega
  ·obtain rfl:i=n:=by omega
   have q1:¬((i:Int)<i):=by omega
   go_wp2;go_ret
   exact ⟨_,rfl,hv,da⟩
theorem zGT (L:Tb) (A B:Option vx) (n c m d:Nat) (rows ws:List (List Nat)) (w:vu) (hL:Ad L) (hr:Kd w [ve A n c] rows) (hs:Kd w [ve B m d] ws) (hnm:n <= m) (Pe:∀ r∈rows,r.length <= 1000) (nu:∀ r∈ws,r.length <= 1000) :
  vA prog 173 #[vf (Ub L),ve A n c,ve B m d] w fun e w'=>∃ v,e=vn v /\ RWd w' [v] (yu L.p rows ws n) /\ vz w.1.size w w':=by
 obtain ⟨ni,BH,DH,gL⟩:=Ig hr;obtain ⟨Kr,-,-,hrb⟩:=Ig hs;have gm:=ti BH DH;have fJ:=zH (fun A B n c m d a b w ha hb hn hm=>rQ L.p A B n c m d a b w hL.p ha hb hn hm)
 have HA:=zH (fun A B n c m d a b w ha hb hn hm=>aM L.p A B n c m d a b w hL.p ha hb hn hm)
 have iy:=zH (LS (p:=L.p) Pe nu);have Vf:=zH Pe;have qA:=zH nu;have Np:=zH (fun a b=>uD L.p a b)
 obtain ⟨D,hD⟩:=zEX (yu L.p rows ws);have HDS:=zH (show ∀ i,D (i+1)=Mg L.p (D i) (Dg L.p (ws.getD i []) (rows.getD i [])) from fun i=>by rw [hD];rfl)
 rw [<- hD] at iy |-;have HD0:=zH (show D 0=[] by rw [hD];rfl)
 have gJ:=zH ni;have HNB:=zH Kr;have HNM:=zH hnm;have HII:=zH (fun (i:Nat) (h:i<n)=>show (i:Int)<m by omega)
 clear hD ni Kr BH DH hL hr hs Pe nu hnm;unfold Ub at *;obtain ⟨kl,da⟩:=zN w 35 #[vd vo L.p,vd vq L.block,vd vq L.queries,vd vq L.k,vd vq L.n,vd vq L.secret,vd vq L.rows,vd vq L.a,vd vq L.b,vd vq L.b,vd vq L.b];go_enter func173,ntmps173
 go_wp2_with fail
 generalize w.alloc _=w1 at kl da |-;go_loopw [7,8] (fun u y wr=>∃ (i:Nat) (v:vw),v=u /\ i <= n /\ y=vd vq i /\ RWd wr [v] (D i) /\ Blk wr w.1.size 35 #[vd vo L.p,vd vq L.block,vd vq L.queries,vd vq L.k,vd vq L.n,vd vq L.secret,vd vq L.rows,vd vq L.a,vd vq L.b,vd vq L.b,vd vq L.b] /\ vz w.1.size w wr) (fun _ y _=>n-(intOf y).toNat)
 case atStart=>exact ⟨0,_,rfl,Qb _,rfl,by rw [HD0.out];exact XX _,kl,da⟩
 case round =>
  clear kl da;obtain ⟨i,v,rfl,hi,rfl,hv,kl,da⟩:=hrel;by_cases ya:i<n
  ·have q1:(i:Int)<n:=by omega
   have q2:(0:Int)<=i:=by omega
   have q3:=HII.out i ya;have Yo:i<rows.length:=by rw [gJ.out];exact ya
   have yx:i<ws.length:=by rw [HNB.out];have:=HNM.out;omega
   obtain ⟨b1,fG,A1,n1,c1,rfl,tk,kd,jf⟩:=Dl gL Yo;obtain ⟨b2,q2',A2,n2,c2,rfl,Pk,ef,Oe⟩:=Dl hrb yx;have Eo:=zH (HDS.out i);rw [WE Yo,WE yx] at Eo;have Gi:=Vf.out _ (Qe Yo);have Ul:=qA.out _ (Qe yx);obtain ⟨x,hx⟩:=zEX (rows[i]);obtain ⟨z,hz⟩:=zEX (ws[i]);rw [<- hx] at jf Gi Eo;rw [<- hz] at Oe Ul Eo;have Pp:=zH (And.intro (Pb jf).1 Gi);have jy:=zH (And.intro (Pb Oe).1 Ul);replace jf:=Wa da jf;replace Oe:=Wa da Oe;have Gs:=zH (iy.out i);have HMi:=zH (Np.out z x);clear hx hz Gi Ul;obtain ⟨Av,cv,rfl⟩:=eh hv;have ME:=(da.cell (p:=⟨b1,fG+i,vB⟩) tk).trans kd;have FL:b1<wr.1.size:=We tk da.size;have cc2:=(da.cell (p:=⟨b2,q2'+i,vB⟩) Pk).trans ef;have lb2:b2<wr.1.size:=We Pk da.size;have cl:=kl.cell;have ll:=kl.lt;go_upto_region 5 with fail
   refine Pd (Rc) [13,14] [0,1,2,3,4,5,6,7,8,9,10,11,12,13,14,15] zK zK ?_;refine oe (Da) ?_;intro Wc Ga ja;have Pa:=Uf Ga;replace kl:=pa kl Pa;replace da:=ta da Pa;replace hv:=Wa Pa hv;replace jf:=Wa Pa jf;replace Oe:=Wa Pa Oe;refine Mc ?_;refine ud Da rfl rfl rfl ((fJ.out _ _ _ _ _ _ _ _ _ Oe jf (zQ jy.out) (zQ Pp.out)).mono ?_);rintro e w7 ⟨v7,rfl,h7,Zb⟩;refine ⟨_,rfl,Zb,?_⟩;replace ja:=zM Da ja (Zb);refine zPU ?_;replace kl:=pa kl Zb;replace da:=ta da Zb;replace hv:=Wa Zb hv;obtain ⟨A7,c7,rfl⟩:=eh h7;refine Mc ?_;refine ud Da rfl rfl rfl ((HA.out _ _ _ _ _ _ _ _ _ hv h7 (zQ Gs.out) (by have:=Pp.out;have:=jy.out;have:=HMi.out;omega)).mono ?_)
   rintro e w8 ⟨v8,rfl,h8,Zf⟩;refine ⟨_,rfl,Zf,?_⟩;replace ja:=zM Da ja (Zf);refine zPU ?_;replace kl:=pa kl Zf;replace da:=ta da Zf;refine Mc ?_;refine Vc ?_;rw [<- Eo.out] at h8;clear Pa Zb Zf ja Ga ME cc2 FL lb2 cl ll h7 hv jf Oe;go_wp2_with fail
   go_roundw
   case rel=>exact ⟨i+1,_,rfl,zO,by go_num,h8,kl,da⟩
   case measure=>simp [intOf];omega
  ·obtain rfl:i=n:=by omega
   have q1:¬((i:Int)<i):=by omega
   go_wp2;go_ret
   exact ⟨_,rfl,hv,da⟩
theorem zG5 (L:Tb) (A:Option vx) (n c be:Nat) (rows:List (List Nat)) (w:vu) (hL:Ad L) (hr:Kd w [ve A n c] rows) (Pe:∀ r∈rows,r.length <= 1000) (hn:L.a+L.b+L.b+L.b=n) :
  vA prog 88 #[vf (Ub L),ve A n c,vd vo be] w fun e w'=>∃ v,e=vn v /\ RWd w' [v] (ss L.p L.a L.b rows be L.b) /\ vz w.1.size w w':=by
 obtain ⟨ni,BH,DH,gL⟩:=Ig hr;have gm:=ti BH DH;have du:=hL.a;have Jr:=hL.b;have HM:=zH (fun x y w=>Bz L.p x y w hL.p)
 have fJ:=zH (fun A B n c m d a b w ha hb hn hm=>rQ L.p A B n c m d a b w hL.p ha hb hn hm)
 have HSu:=zH (fun A B n c m d a b w ha hb hn hm=>zHh L.p A B n c m d a b w hL.p ha hb hn hm)
 have LG:=zH (fun A n c s l w hl hn=>vT L.p A n c s l w hL.p hl hn)
 have HA:=zH (fun A B n c m d a b w ha hb hn hm=>aM L.p A B n c m d a b w hL.p ha hb hn hm)
 have iy:=zH (qT (p:=L.p) (a:=L.a) (b:=L.b) (be:=be) Pe);have Vf:=zH Pe;have qA:=zH (fun a s=>JD L.p a s)
 have Np:=zH (fun a b=>uD L.p a b)
 have HSuL:=zH (fun a b=>zAV L.p a b)
 obtain ⟨D,hD⟩:=zEX (ss L.p L.a L.b rows be);obtain ⟨P,hP⟩:=zEX (Cl L.p be);obtain ⟨y,hy⟩:=zEX (L.a+L.b);obtain ⟨z,hz⟩:=zEX (L.a+L.b+L.b);have HDS:=zH (show ∀ i,D (i+1)=Mg L.p (D i) (dm L.p (ND L.p (Dg L.p (rows.getD (L.a+i) []) (rows.getD (y+i) [])) (rows.getD (z+i) [])) (P (i+1))) from fun i=>by rw [hD,hP,hy,hz];rfl)
 rw [<- hD] at iy |-;have HD0:=zH (show D 0=[] by rw [hD];rfl)
 have Io:=zH (show P 0=1 by rw [hP];rfl)
 have im:=zH (show ∀ i,P (i+1)=P i*be%L.p from fun i=>by rw [hP];rfl)
 have e1:(L.a:Int)+L.b=(y:Int):=by omega
 have e2:=Xd y;have e3:(y:Int)+L.b=(z:Int):=by omega
 have e4:=Xd z;have gJ:=zH ni;have HIX:=zH (show ∀ i,i<L.b -> L.a+i<n /\ y+i<n /\ z+i<n /\ n <= 400000 from fun i hi=>zO)
 have gb:(L.b:Int) <= 100000:=by omega
 clear hD hP ni BH DH hL hr Pe hy hz du Jr hn;unfold Ub at *;obtain ⟨kl,da⟩:=zN w 35 #[vd vo L.p,vd vq L.block,vd vq L.queries,vd vq L.k,vd vq L.n,vd vq L.secret,vd vq L.rows,vd vq L.a,vd vq L.b,vd vq L.b,vd vq L.b];go_enter func88,ntmps88
 go_upto_region 2 with fail
 generalize w.alloc _=w1 at kl da |-;have cl:=kl.cell;go_wp2_with fail
 clear cl;go_loopw [7,11,12] (fun u b t wr=>∃ (i:Nat) (v:vw),v=u /\ i <= L.b /\ t=vd vq i /\ b=vd vo (P i:Int) /\ RWd wr [v] (D i) /\ Blk wr w.1.size 35 #[vd vo L.p,vd vq L.block,vd vq L.queries,vd vq L.k,vd vq L.n,vd vq L.secret,vd vq L.rows,vd vq L.a,vd vq L.b,vd vq L.b,vd vq L.b] /\ vz w.1.size w wr) (fun _ _ t _=>L.b-(intOf t).toNat)
 case atStart=>exact ⟨0,_,rfl,Qb _,rfl,by rw [Io.out];rfl,by rw [HD0.out];exact XX _,kl,da⟩
 case round =>
  clear kl da;obtain ⟨i,v,rfl,hi,rfl,rfl,hv,kl,da⟩:=hrel;by_cases ya:i<L.b
  ·have q1:(i:Int)<L.b:=by omega
   obtain ⟨h1,h2,h3,h4⟩:=HIX.out i ya;obtain ⟨j1,YH⟩:=zEX (L.a+i);obtain ⟨j2,Zo⟩:=zEX (y+i);obtain ⟨j3,xk⟩:=zEX (z+i);have Eo:=zH (HDS.out i);rw [<- YH,<- Zo,<- xk] at Eo;rw [<- YH] at h1;rw [<- Zo] at h2;rw [<- xk] at h3;have f1:(L.a:Int)+i=(j1:Int):=by omega
   have f2:(y:Int)+i=(j2:Int):=by omega
   have f3:(z:Int)+i=(j3:Int):=by omega
   have f4:=Xd j1;have f5:=Xd j2;have f6:=Xd j3;have r1:(0:Int)<=j1:=by omega
   have r2:(0:Int)<=j2:=by omega
   have r3:(0:Int)<=j3:=by omega
   have r4:(j1:Int)<n:=by omega
   have r5:(j2:Int)<n:=by omega
   have r6:(j3:Int)<n:=by omega
   clear YH Zo xk h4;have g1:j1<rows.length:=by rw [gJ.out];exact h1
   have g2:j2<rows.length:=by rw [gJ.out];exact h2
   have g3:j3<rows.length:=by rw [gJ.out];exact h3
   obtain ⟨b1,fG,A1,n1,c1,rfl,dc,kd,jf⟩:=Dl gL g1;obtain ⟨b2,q2',A2,n2,c2,hA,-,ef,Oe⟩:=Dl gL g2
   injection hA with hA;injection hA with hA1 hA2 hA3;subst hA1 hA2
   obtain ⟨b3,q3',A3,n3,c3,hA,-,sj,Em⟩:=Dl gL g3
   injection hA with hA;injection hA with hA1 hA2 hA3;subst hA1 hA2
   rw [WE g1,WE g2,WE g3] at Eo;have nA:=zH (im.out i);have Gi:=Vf.out _ (Qe g1);have Ul:=Vf.out _ (Qe g2);have Cx:=Vf.out _ (Qe g3);obtain ⟨x1,ld⟩:=zEX (rows[j1]);obtain ⟨x2,yf⟩:=zEX (rows[j2]);obtain ⟨x3,Hm⟩:=zEX (rows[j3]);rw [<- ld] at jf Gi Eo;rw [<- yf] at Oe Ul Eo;rw [<- Hm] at Em Cx Eo;have Pp:=zH (And.intro (Pb jf).1 Gi);have jy:=zH (And.intro (Pb Oe).1 Ul);have HN3:=zH (And.intro (Pb Em).1 Cx);replace jf:=Wa da jf;replace Oe:=Wa da Oe;replace Em:=Wa da Em;obtain ⟨y0,po⟩:=zEX (P i);obtain ⟨y1,qf⟩:=zEX (P (i+1));rw [<- po,<- qf] at nA;rw [<- qf] at Eo;rw [<- po];have BJ:=zH qf;have Kf:Hid (∀ w:vu,vA prog 181 #[vd vo L.p,vd vo y0,vd vo be] w fun e w'=>e=vn (vd vo y1) /\ vz w.1.size w w'):=zH (fun w=>by rw [nA.out];exact HM.out y0 be w)
   have Gs:=zH (iy.out i);have HMi:=zH (Np.out x1 x2);obtain ⟨xy,hxy⟩:=zEX (Dg L.p x1 x2);rw [<- hxy] at HMi Eo;have Hs:=zH (HSuL.out xy x3);obtain ⟨gp,Zt⟩:=zEX (ND L.p xy x3);rw [<- Zt] at Hs Eo;have vJ:=zH (qA.out gp y1);have HXY:=zH hxy;have HGP:=zH Zt;clear ld yf Hm po qf Gi Ul Cx hxy Zt;obtain ⟨Av,cv,rfl⟩:=eh hv;have cl:=kl.cell;have ll:=kl.lt;go_wp2_with fail
   refine (Kf.out _).mono ?_;rintro e w6 ⟨rfl,Ca⟩;replace kl:=pa kl Ca;replace da:=ta da Ca;replace hv:=Wa Ca hv;replace jf:=Wa Ca jf;replace Oe:=Wa Ca Oe;replace Em:=Wa Ca Em;clear Ca cl ll;have ME:=(da.cell (p:=⟨b1,fG+j1,vB⟩) dc).trans kd;have cc2:=(da.cell (p:=⟨b1,fG+j2,vB⟩) dc).trans ef;have cc3:=(da.cell (p:=⟨b1,fG+j3,vB⟩) dc).trans sj;have FL:b1<w6.1.size:=We dc da.size;have cl:=kl.cell;have ll:=kl.lt;go_upto_region 10 with fail
   refine Pd (Rc) [16,23] [0,1,2,3,4,5,6,7,8,9,10,11,12,13,14,15,17,18,19,20,21,22,16,23,24] zK zK ?_;refine oe (Da) ?_;intro Wc Ga ja;have Pa:=Uf Ga;replace kl:=pa kl Pa;replace da:=ta da Pa;replace hv:=Wa Pa hv;replace jf:=Wa Pa jf;replace Oe:=Wa Pa Oe;replace Em:=Wa Pa Em;refine Mc ?_;refine ud Da rfl rfl rfl ((fJ.out _ _ _ _ _ _ _ _ _ jf Oe (zQ Pp.out) (zQ jy.out)).mono ?_);rintro e w7 ⟨v7,rfl,h7,Zb⟩;refine ⟨_,rfl,Zb,?_⟩;replace ja:=zM Da ja (Zb);refine zPU ?_;replace kl:=pa kl Zb;replace da:=ta da Zb;replace hv:=Wa Zb hv;replace Em:=Wa Zb Em;rw [<- HXY.out] at h7;obtain ⟨A7,c7,rfl⟩:=eh h7;refine Mc ?_;refine ud Da rfl rfl rfl ((HSu.out _ _ _ _ _ _ _ _ _ h7 Em (by have:=HMi.out;have:=Pp.out;have:=jy.out;omega) (zQ HN3.out)).mono ?_)
   rintro e w8 ⟨v8,rfl,h8,Zf⟩;refine ⟨_,rfl,Zf,?_⟩;replace ja:=zM Da ja (Zf);refine zPU ?_;replace kl:=pa kl Zf;replace da:=ta da Zf;replace hv:=Wa Zf hv;refine Mc ?_;refine Vc ?_;rw [<- HGP.out] at h8;obtain ⟨A8,c8,rfl⟩:=eh h8;clear Pa Zb Zf ja Ga ME cc2 cc3 FL cl ll h7 jf Oe Em;have cl:=kl.cell;have ll:=kl.lt;go_upto_region 11 with fail
   refine Pd (Rc) [7,8] [0,1,2,3,4,5,6,7,8,9] zK zK ?_;refine oe (Da) ?_;intro Wc Ga ja;have Pa:=Uf Ga;replace kl:=pa kl Pa;replace da:=ta da Pa;replace hv:=Wa Pa hv;replace h8:=Wa Pa h8;refine Mc ?_;refine ud Da rfl rfl rfl ((LG.out _ _ _ _ _ _ h8 (by have:=Hs.out;have:=HMi.out;have:=Pp.out;have:=jy.out;have:=HN3.out;omega)).mono ?_)
   rintro e w9 ⟨v9,rfl,h9,df⟩;refine ⟨_,rfl,df,?_⟩;replace ja:=zM Da ja (df);refine zPU ?_;replace kl:=pa kl df;replace da:=ta da df;replace hv:=Wa df hv;obtain ⟨A9,c9,rfl⟩:=eh h9;refine Mc ?_;refine ud Da rfl rfl rfl ((HA.out _ _ _ _ _ _ _ _ _ hv h9 (zQ Gs.out) (by have:=vJ.out;have:=Hs.out;have:=HMi.out;have:=Pp.out;have:=jy.out;have:=HN3.out;omega)).mono ?_)
   rintro e sn ⟨v10,rfl,h10,xh⟩;refine ⟨_,rfl,xh,?_⟩;replace ja:=zM Da ja (xh);refine zPU ?_;replace kl:=pa kl xh;replace da:=ta da xh;refine Mc ?_;refine Vc ?_;rw [<- Eo.out] at h10;clear Pa df xh ja Ga cl ll h8 h9 hv;go_wp2_with fail
   go_roundw
   case rel=>exact ⟨i+1,_,rfl,zO,by go_num,by rw [BJ.out],h10,kl,da⟩
   case measure=>simp [intOf];omega
  ·obtain rfl:i=L.b:=by omega
   have q1:¬((L.b:Int)<L.b):=by omega
   have cl:=kl.cell;have ll:=kl.lt;go_wp2;go_ret
   exact ⟨_,rfl,hv,da⟩
end Go.Proofs.YteoghgbnielkpaaGreat
