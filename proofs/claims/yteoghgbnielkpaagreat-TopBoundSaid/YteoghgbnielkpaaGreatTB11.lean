/- A part of the proof. No condition. -/
import Derived.Test.YteoghgbnielkpaaGreatTB8
import Derived.Carry
import Derived.Maps.Views

set_option maxRecDepth 100000
set_option maxHeartbeats 8000000
set_option linter.unusedVariables false
set_option linter.unusedSimpArgs false
namespace Go.Proofs.YteoghgbnielkpaaGreat
open Go.RowKit
open Tryz
open Go renaming World->vw, Value->vx, Addr->vy, TypeId->vz, Calls->vB
open Go.Value renaming int->vd, slice->ve, agg->vf
open Go.IntKind renaming u64->vn, i64->vq
open Go.Ending renaming returned->vl
open Go.RowKit renaming Below->vA
open Go.World renaming setCell->vF
open Go.Act renaming put->vG
open Option renaming none->vD, some->vE
def Yz (l:List Oper) (i j:Nat):Bool:=match l[i]?,l[j]? with
 | some x,vE y=>x.apart l.toArray y
 | _,_=>false
def BO (P:Program) (o:Oper) (t:vz) (z:Array vx):Prop:=o.guard=vD /\ ∀ a w,(execOp a o).run P w= .ok (.value (.pointer (vE ⟨w.1.size,0,vD⟩))) (w.alloc (.cells z t))
section
variable {P:Program} {l:List Oper} {hs tail:List Nat} {Q:Exit -> Act -> vw -> Prop} {N j:Nat} {t:vz} {z:Array vx} {rest:List Nat} {i:Nat} {o:Oper} {Aa:Array Bool} {a:Act} {w:vw}
theorem bZ {oj:Oper} (h:Yz l i j=true) (ho:l[i]?=vE o) (Fi:l[j]?=vE oj):o.apart l.toArray oj=true:=by
 unfold Yz at h;rw [ho,Fi] at h;exact h
end
theorem jW {w:vw} {base:Nat} {e:vz} {size:Nat} {v:vx} {n:Nat} {xs:List vx} {g:Nat} {t:vz} {cs:Array vx} (h:w.ownsRow base e size v n xs) (k:Blk w g t cs) (ht:t≠e):∀ q,v.ownBlock=vE q -> vE g=vE q -> False:=fun q hq hg=>by
 obtain rfl:=Ya hg;obtain ⟨h1,h2⟩:=h;rcases h2 with ⟨rfl,-⟩ | ⟨q,cap,cur,rfl,-,hh,-⟩
 ·cases hq
 ·obtain rfl:q=g:=Ya hq
  unfold Blk at k;rw [hh] at k;cases k
  exact ht rfl
def uo (p s:Nat) (F G:Nat -> Nat) (t:Nat):Nat -> Nat:=ni (fun k=>(F k+s*G k%p)%p) F t
theorem zCl (p s g base gb na ca nb cb mb t:Nat) (F G:Nat -> Nat) (w:vw) (hp:Jb p=true) (ka:w.ownsRow base 22 1 (ve (vE ⟨g,0,vD⟩) na ca) na (Oa ((List.range na).map F))) (kb:Blk w gb 22 (Qa mb G)) (hg:g≠gb) (hb:nb <= mb) (ht:t=min na nb) (hm:na <= 65536) :
  vB prog 143 #[fv p,ve (vE ⟨g,0,vD⟩) na ca,ve (vE ⟨gb,0,vD⟩) nb cb,vd vn s] w fun e w'=>e=vl (.tuple #[]) /\ w'.ownsRow base 22 1 (ve (vE ⟨g,0,vD⟩) na ca) na (Oa ((List.range na).map (uo p s F G t))) /\ w.grownBy w' (vE g):=by
 have HA:=zH (fun a b w=>mn p a b w hp)
 have HM:=zH (fun a b w=>Kr p a b w hp)
 have ZU:min (na:Int) (nb:Int)=t:=by omega
 have gl:(na:Int) <= 65536:=by omega
 have lg:g<w.1.size:=(ka.lt g rfl).2;have lgb:=kb.lt;have eG:t <= na:=by omega
 have ht2:t <= nb:=by omega
 have gt:(t:Int) <= 65536:=by omega
 clear ht hp;unfold fv uo at *;obtain ⟨kf,da⟩:=zN w 224 #[vd vn p];have g1:w.1.size≠g:=by omega
 replace ka:=Mc ka da zR;replace kb:=ia kb da;have Wa:=Vf (Ce w (vE g)) da zR;clear da;obtain ⟨S,hS⟩:∃ S:Nat -> Nat,S=fun k=>(F k+s*G k%p)%p:=⟨_,rfl⟩
 have HSE:=zH (show ∀ k,(F k+s*G k%p)%p=S k from fun k=>by rw [hS])
 rw [<- hS];clear hS;have HZ:=zH (zJB na S F);go_enter func143,ntmps143
 go_upto_region 1 with fail
 generalize w.alloc _=w0 at kf ka kb Wa |-;go_wp2_with fail
 go_loopw [14] (fun y wr=>∃ i:Nat,i <= t /\ y=vd vq i /\ Blk wr w.1.size 224 #[vd vn p] /\ wr.ownsRow base 22 1 (ve (vE ⟨g,0,vD⟩) na ca) na (Oa ((List.range na).map (ni S F i))) /\ Blk wr gb 22 (Qa mb G) /\ w.grownBy wr (vE g)) (fun y _=>t-(intOf y).toNat)
 case atStart=>exact ⟨0,Kb _,rfl,kf,by rw [HZ.out];exact ka,kb,Wa⟩
 case round =>
  clear kf ka kb Wa;obtain ⟨i,hi,rfl,kf,ka,kb,Wa⟩:=hrel;by_cases ta:i<t
  ·have q1:(0:Int)<=i:=by omega
   have q2:(i:Int)<t:=by omega
   have q3:(i:Int)<na:=by omega
   have q4:(i:Int)<nb:=by omega
   have SC:i<na:=by omega
   have himb:i<mb:=by omega
   have Lz:=zH (HSE.out i);obtain ⟨x,hx⟩:=zEX (F i);obtain ⟨y,hy⟩:=zEX (G i);obtain ⟨u,hu⟩:=zEX (s*y%p);obtain ⟨z,hz⟩:=zEX (S i);have xg:=zH (zJA (n:=na) (G:=F) hz);rw [<- hx,<- hy,<- hu,<- hz] at Lz;have HX:=zH (show (Oa ((List.range na).map (ni S F i)))[i]?=vE (vd vn x) by rw [zJz _ _ SC,hx])
   have Of:Hid (∀ w:vw,vB prog 142 #[vf #[vd vn p],vd vn s,vd vn y] w fun e w'=>e=vl (vd vn u) /\ vA w.1.size w w'):=zH (fun w=>by rw [hu];exact HM.out s y w)
   have HC:Hid (∀ w:vw,vB prog 215 #[vf #[vd vn p],vd vn x,vd vn u] w fun e w'=>e=vl (vd vn z) /\ vA w.1.size w w'):=zH (fun w=>by rw [<- Lz.out];exact HA.out x u w)
   have ca1:=ka.cellAt i zO;rw [HX.out] at ca1;have cb1:=kb.cell i;rw [Uf _ himb,<- hy] at cb1;clear hx hy hz hu;have cf:=kf.cell;have lf:=kf.lt;have la:g<wr.1.size:=(ka.lt g rfl).2;have lb:=kb.lt;go_upto_region 4 with fail
   refine kh (Wb) (oa) [16] [16] [0,1,2,3,4,5,6,7,8,9,10,11,12,13,14,15,16] zK zK ?_;refine lh (oa) ?_;intro Wc ea;refine Xe ?_;refine Nd oa rfl rfl rfl rfl (fun w' hR=>Of.out _) ?_
   refine zPU ?_;refine Xe ?_;refine Nd oa rfl rfl rfl rfl (fun w' hR=>HC.out _) ?_
   refine zPU ?_;refine Xe ?_;refine Oo rfl rfl rfl rfl ?_;intro wh Qd;replace ea:=zM oa ea Qd;have Sb:=ma (tb wr.1.size wr).drew ea;have QC:=Vf Wa Sb Wa.size;replace kf:=ia kf Sb;replace ka:=Mc ka Sb zR;replace kb:=ia kb Sb;clear Sb ea Qd cf lf la lb ca1 cb1 Wa;have c2:=ka.cellAt i zO;rw [HX.out] at c2;have f2:=ka.frozenAt i;go_simp;refine ⟨fun h=>Bool.noConfusion h,?_⟩
   obtain ⟨ka,ah⟩:=ka.stored i (vd vn z);replace kf:=kf.grown ah (fun e=>g1 (Ya e))
   replace kb:=kb.grown ah (fun e=>hg (Ya e).symm)
   rw [xg.out] at ka;have Wa:=Mr QC ah (fun _ e=>.inl e)
   clear ah f2 c2 QC;generalize wh.setCell _ _=we at kf ka kb Wa |-;refine Up rfl ?_;go_wp2_with fail
   go_roundw
   case rel=>exact ⟨i+1,zO,by go_num,kf,ka,kb,Wa⟩
   case measure=>simp [intOf];omega
  ·obtain rfl:i=t:=by omega
   have q2:¬((i:Int)<i):=by omega
   go_wp2;exact bodyPost_end (v:=.tuple #[]) (by simp [results,results143,go_sem]) rfl ⟨rfl,ka,Wa⟩
def cA (A:Option vy) (c t m:Nat):vx:=ve (if c=t then A else Option.map (fun x=>x.add t) A) (m-t) (c-t)
theorem zI1 (L:Na) (A:Option vy) (n c x y z:Nat) (w:vw) (hL:Nb L) (hx:x=L.a) (hy:y=L.a+L.b) (hz:z=L.a+L.b+L.b) (hn:z <= n) (Sd:n <= c) (hm:c <= maxLen) :
  vB prog 295 #[vf (ib L),ve A n c] w fun e w'=>e=vl (.tuple #[ve A x c,cA A c x y,cA A c y z,cA A c z n]) /\ vA w.1.size w w':=by
 have VC:=hL.a;have Dw:=hL.b;have gm:(c:Int) <= 9223372036854775807:=by
  simp [maxLen] at hm
  omega
 have e1:(L.a:Int)+L.b=(y:Int):=by omega
 have e2:=Qc y;have e3:(y:Int)+L.b=(z:Int):=by omega
 have e4:=Qc z;have i0:(0:Int)<=x:=by omega
 have i1:(x:Int)<=y:=by omega
 have i2:(y:Int)<=z:=by omega
 have i3:(z:Int)<=n:=by omega
 have i4:(n:Int)<=c:=by omega
 have i5:(x:Int)<=c:=by omega
 have i6:(y:Int)<=c:=by omega
 have i7:(z:Int)<=c:=by omega
 have i8:(0:Int)<=y:=by omega
 have i9:(0:Int)<=z:=by omega
 obtain ⟨kl,da⟩:=zN w 101 #[vd vn L.p,vd vq L.block,vd vq L.queries,vd vq L.k,vd vq L.n,vd vq L.secret,vd vq L.rows,vd vq L.a,vd vq L.b,vd vq L.b,vd vq L.b];clear hL VC Dw hn hy hz Sd hm;subst hx;unfold ib cA;obtain ⟨B1,Jd⟩:=zEX ((if c=L.a then A else Option.map (fun x=>x.add L.a) A))
 obtain ⟨B2,Fh⟩:=zEX ((if c=y then A else Option.map (fun x=>x.add y) A))
 obtain ⟨B3,Uu⟩:=zEX ((if c=z then A else Option.map (fun x=>x.add z) A))
 obtain ⟨n1,Re⟩:=zEX (y-L.a);obtain ⟨n2,Xd⟩:=zEX (z-y);obtain ⟨n3,zn⟩:=zEX (n-z);obtain ⟨c1,Ad⟩:=zEX (c-L.a);obtain ⟨c2,Xf⟩:=zEX (c-y);obtain ⟨c3,Bj⟩:=zEX (c-z);rw [<- Jd,<- Fh,<- Uu,<- Re,<- Xd,<- zn,<- Ad,<- Xf,<- Bj];have HX:=zH (And.intro Jd (And.intro Fh (And.intro Uu (And.intro Re (And.intro Xd (And.intro zn (And.intro Ad (And.intro Xf Bj))))))));clear Jd Fh Uu Re Xd zn Ad Xf Bj;go_enter func295,ntmps295
 go_upto_region 1 with fail
 generalize w.alloc _=w1 at kl da |-;have cl:=kl.cell;go_upto_region 4 with fail
 refine zd (Wb) [] [0,1,2,3,4,5,6,7,8,9,10,11,12,13,14,15,16,17] zK zK ?_;refine Ue (oa) ?_;intro Wc Ja ea;have Ma:=jg Ja;refine Pb ?_;refine Hc ?_;obtain ⟨Jd,Fh,Uu,Re,Xd,zn,Ad,Xf,Bj⟩:=HX.out;rw [<- Jd,<- Fh,<- Uu,<- Re,<- Xd,<- zn,<- Ad,<- Xf,<- Bj];clear Jd Fh Uu Re Xd zn Ad Xf Bj;go_wp2;exact Sc (v:=.tuple #[ve A L.a c,ve B1 n1 c1,ve B2 n2 c2,ve B3 n3 c3]) (by simp [results,results295,go_sem]) rfl ⟨rfl,ma da Ma⟩
theorem zI0 (L:Na) (A:Option vy) (n c x y z:Nat) (w:vw) (hL:Nb L) (hx:x=L.a) (hy:y=L.a+L.b) (hz:z=L.a+L.b+L.b) (hn:z <= n) (Sd:n <= c) (hm:c <= maxLen) :
  vB prog 146 #[vf (ib L),ve A n c] w fun e w'=>e=vl (.tuple #[ve A x c,cA A c x y,cA A c y z,cA A c z n]) /\ vA w.1.size w w':=by
 have VC:=hL.a;have Dw:=hL.b;have gm:(c:Int) <= 9223372036854775807:=by
  simp [maxLen] at hm
  omega
 have e1:(L.a:Int)+L.b=(y:Int):=by omega
 have e2:=Qc y;have e3:(y:Int)+L.b=(z:Int):=by omega
 have e4:=Qc z;have i0:(0:Int)<=x:=by omega
 have i1:(x:Int)<=y:=by omega
 have i2:(y:Int)<=z:=by omega
 have i3:(z:Int)<=n:=by omega
 have i4:(n:Int)<=c:=by omega
 have i5:(x:Int)<=c:=by omega
 have i6:(y:Int)<=c:=by omega
 have i7:(z:Int)<=c:=by omega
 have i8:(0:Int)<=y:=by omega
 have i9:(0:Int)<=z:=by omega
 obtain ⟨kl,da⟩:=zN w 101 #[vd vn L.p,vd vq L.block,vd vq L.queries,vd vq L.k,vd vq L.n,vd vq L.secret,vd vq L.rows,vd vq L.a,vd vq L.b,vd vq L.b,vd vq L.b];clear hL VC Dw hn hy hz Sd hm;subst hx;unfold ib cA;obtain ⟨B1,Jd⟩:=zEX ((if c=L.a then A else Option.map (fun x=>x.add L.a) A))
 obtain ⟨B2,Fh⟩:=zEX ((if c=y then A else Option.map (fun x=>x.add y) A))
 obtain ⟨B3,Uu⟩:=zEX ((if c=z then A else Option.map (fun x=>x.add z) A))
 obtain ⟨n1,Re⟩:=zEX (y-L.a);obtain ⟨n2,Xd⟩:=zEX (z-y);obtain ⟨n3,zn⟩:=zEX (n-z);obtain ⟨c1,Ad⟩:=zEX (c-L.a);obtain ⟨c2,Xf⟩:=zEX (c-y);obtain ⟨c3,Bj⟩:=zEX (c-z);rw [<- Jd,<- Fh,<- Uu,<- Re,<- Xd,<- zn,<- Ad,<- Xf,<- Bj];have HX:=zH (And.intro Jd (And.intro Fh (And.intro Uu (And.intro Re (And.intro Xd (And.intro zn (And.intro Ad (And.intro Xf Bj))))))));clear Jd Fh Uu Re Xd zn Ad Xf Bj;go_enter func146,ntmps146
 go_upto_region 1 with fail
 generalize w.alloc _=w1 at kl da |-;have cl:=kl.cell;go_upto_region 4 with fail
 refine zd (Wb) [] [0,1,2,3,4,5,6,7,8,9,10,11,12,13,14,15,16,17] zK zK ?_;refine Ue (oa) ?_;intro Wc Ja ea;have Ma:=jg Ja;refine Pb ?_;refine Hc ?_;obtain ⟨Jd,Fh,Uu,Re,Xd,zn,Ad,Xf,Bj⟩:=HX.out;rw [<- Jd,<- Fh,<- Uu,<- Re,<- Xd,<- zn,<- Ad,<- Xf,<- Bj];clear Jd Fh Uu Re Xd zn Ad Xf Bj;go_wp2;exact Sc (v:=.tuple #[ve A L.a c,ve B1 n1 c1,ve B2 n2 c2,ve B3 n3 c3]) (by simp [results,results146,go_sem]) rfl ⟨rfl,ma da Ma⟩
def TA (p N J:Nat) (a b:List Nat):Nat -> Nat:=Dn p N J ((List.range N).map fun i=>rk p N J a 1 i*rk p N J b 1 i%p)
theorem zBm (p:Nat) (A B:Option vy) (n c m d J N len:Nat) (a b:List Nat) (w:vw) (hp:Jb p=true) (ha:RWd w [ve A n c] a) (hb:RWd w [ve B m d] b) (Re:1 <= n) (Eo:1 <= m) (hn8:n <= 4096) (hm8:m <= 4096) (hN:Tk p N) (hJ:N=2^J) (hlen:n+m=len+1) (h1:len <= N) (h2:∀ j,j<J -> 2^j<len) :
  vB prog 145 #[fv p,ve A n c,ve B m d] w fun e w'=>∃ g,e=vl (.tuple #[ve (vE ⟨g,0,vD⟩) len N,vd vq 0]) /\ w.1.size <= g /\ Blk w' g 22 (Qa N (TA p N J a b)) /\ vA w.1.size w w':=by
 obtain ⟨zf,Kd⟩:=Rb hp;have hN4:=hN.le;have Ql:=hN.pos;have HV:=zH (fun w=>zp p w hp)
 have HR:=zH (fun w=>cS p N w hp hN)
 have HEa:=zH (fun w' (Sl:vA w.1.size w w')=>LX p A n c N J 1 a w' hp (Ab Sl ha) hN hJ (by rw [qj zO];decide) zO)
 have HEb:=zH (fun w' (Sl:vA w.1.size w w')=>LX p B m d N J 1 b w' hp (Ab Sl hb) hN hJ (by rw [qj zO];decide) zO)
 have HM:=zH (fun x y w=>Kr p x y w hp)
 have HI:=zH (fun g l w hl=>aS p (vE ⟨g,0,vD⟩) N N J l w hp hl hN hJ)
 have HJ:=zH hJ;have H2:=zH h2;have HQ:=zH (show ∀ j,j <= J -> 2^j <= N from fun j hj=>by rw [hJ];exact bn zD hj)
 obtain ⟨Ea,hEa⟩:=zEX (rk p N J a 1);obtain ⟨Eb,hEb⟩:=zEX (rk p N J b 1);obtain ⟨Pr,hPr⟩:∃ Pr:Nat -> Nat,Pr=fun i=>Ea i*Eb i%p:=⟨_,rfl⟩
 have Uo:=zH (show ∀ i,Ea i*Eb i%p=Pr i from fun i=>by rw [hPr])
 have Xs:=zH (show ∀ i,Pr i<18446744073709551616 from fun i=>by rw [hPr];exact Uk (mc _ zO) Kd)
 rw [show TA p N J a b=Dn p N J ((List.range N).map Pr) by rw [hPr,hEa,hEb];rfl]
 rw [<- hEa] at HEa;rw [<- hEb] at HEb;have e1:(n:Int)+m=((len+1:Nat):Int):=by omega
 obtain ⟨s,hs⟩:=zEX (len+1);rw [<- hs] at e1;have e2:=Qc s;have e3:(s:Int)-1=(len:Int):=by omega
 have e4:=Qc len;have d1:((n:Int) == 0)=false:=by rw [Gd];omega
 have d2:((m:Int) == 0)=false:=by rw [Gd];omega
 have z1:¬((n:Int)=0):=by omega
 have z2:¬((m:Int)=0):=by omega
 have z3:¬(n=0):=by omega
 have z4:¬(m=0):=by omega
 have gN:(N:Int) <= 4096:=by omega
 have gl:(len:Int)<=N:=by omega
 have gl2:len <= N:=h1;have gl0:(0:Int)<=len:=by omega
 unfold fv at *;obtain ⟨kf,da⟩:=zN w 224 #[vd vn p];clear hEa hEb hPr hJ h2 ha hb hp hN hs hlen h1;go_enter func145,ntmps145
 go_wp2_with fail
 generalize w.alloc _=w1 at kf da |-;refine (HV.out _).mono ?_;rintro e w2 ⟨rfl,xa⟩;replace kf:=ia kf xa;replace da:=ma da xa;clear xa;go_wp2_with fail
 go_loopw [9] (fun v wr=>∃ j q:Nat,j <= J /\ Hid (q=2^j) /\ v=vd vq q /\ Blk wr w.1.size 224 #[vd vn p] /\ vA w.1.size w wr) (fun v _=>8194-(intOf v).toNat)
 case atStart=>exact ⟨0,1,Kb _,zH rfl,rfl,kf,da⟩
 case round =>
  clear kf da;obtain ⟨j,q,hj,HQj,rfl,kf,da⟩:=hrel;by_cases ta:j<J
  ·have Ek:q<len:=by have:=H2.out j ta;rw [HQj.out];exact this
   have Yu:q <= N:=by have:=HQ.out j hj;rw [HQj.out];exact this
   have hq3:1 <= q:=by rw [HQj.out];exact Nat.one_le_two_pow
   have q1:(q:Int)<len:=by omega
   have q2:(q:Int) <= 4096:=by omega
   have q1d:decide ((q:Int)<len)=true:=xb q1;have q2d:decide ((q:Int) <= 4096)=true:=xb q2;obtain ⟨r,hr⟩:=zEX (q*2);have x1:(q:Int)*2=(r:Int):=by omega
   have x2:=Qc r;have HQn:Hid (r=2^(j+1)):=zH (by rw [hr,HQj.out,Sf])
   have hrq:q<r:=by omega
   have Cn:r <= 8192:=by omega
   clear hr;go_wp2
   go_roundw
   case rel=>exact ⟨j+1,r,zO,HQn,rfl,kf,da⟩
   case measure=>simp [intOf];omega
  ·obtain rfl:j=J:=by omega
   have hqN:q=N:=by rw [HQj.out,HJ.out]
   subst hqN;have q1:¬((q:Int)<len):=by omega
   have q1d:decide ((q:Int)<len)=false:=db q1;clear H2 HQ HQj HJ;have cf:=kf.cell;go_wp2_with fail
   refine (HR.out _).mono ?_;rintro e w3 ⟨rfl,xa⟩;replace kf:=ia kf xa;replace da:=ma da xa;clear xa cf HR;have cf:=kf.cell;go_wp2_with fail
   refine (HEa.out _ da).mono ?_;rintro e w4 ⟨g1,rfl,og,k1,xa⟩;have RI:=kf.lt;replace kf:=ia kf xa;replace da:=ma da xa;clear xa cf HEa;have cf:=kf.cell;go_wp2_with fail
   refine (HEb.out _ da).mono ?_;rintro e w5 ⟨g2,rfl,Jp,k2,xa⟩;have SI:=k1.lt;replace kf:=ia kf xa;replace k1:=ia k1 xa;replace da:=ma da xa;clear xa cf HEb HV;have XI:w.1.size<g1:=by omega
   have hg12:g1<g2:=by omega
   have HZ:=zH (jK q Pr Ea);clear og Jp RI SI q1d;go_wp2_with fail
   go_loopw [73] (fun y wr=>∃ i:Nat,i <= q /\ y=vd vq i /\ Blk wr w.1.size 224 #[vd vn p] /\ Blk wr g1 22 (Qa q (ni Pr Ea i)) /\ Blk wr g2 22 (Qa q Eb) /\ vA w.1.size w wr) (fun y _=>q-(intOf y).toNat)
   case atStart=>exact ⟨0,Kb _,rfl,kf,by rw [HZ.out];exact k1,k2,da⟩
   case round =>
    clear kf k1 k2 da;obtain ⟨i,hi,rfl,kf,k1,k2,da⟩:=hrel;by_cases ta:i<q
    ·have q3:(i:Int)<q:=by omega
     have q4:(0:Int)<=i:=by omega
     have c1:=k1.cell i;rw [nE _ _ ta] at c1;have c2:=k2.cell i;rw [Uf _ ta] at c2;have HPi:=zH (Uo.out i);obtain ⟨x,hx⟩:=zEX (Ea i);obtain ⟨y,hy⟩:=zEX (Eb i);obtain ⟨z,hz⟩:=zEX (Pr i);have xg:=zH (oE (n:=q) (G:=Ea) hz);have HX:=zH hx;rw [<- hx] at c1 HPi;rw [<- hy] at c2 HPi;rw [<- hz] at HPi;have Of:=zH (fun w=>by have:=HM.out x y w;rw [HPi.out] at this;exact this)
     clear hx hy hz HPi;have cf:=kf.cell;have lf:=kf.lt;have l1:=k1.lt;have l2:=k2.lt;go_upto_region 20 with fail
     refine kh (Wb) (oa) [13] [13] [0,1,2,3,4,5,6,7,8,9,10,11,12,13] zK zK ?_;refine lh (oa) ?_;intro Wc ea;refine Xe ?_;refine Nd oa rfl rfl rfl rfl (fun w' hR=>Of.out _) ?_
     refine zPU ?_;refine Xe ?_;refine Oo rfl rfl rfl rfl ?_;intro wh Qd;replace ea:=zM oa ea Qd;have Sb:=ma (tb wr.1.size wr).drew ea;replace kf:=ia kf Sb;replace k1:=ia k1 Sb;replace k2:=ia k2 Sb;replace da:=ma da Sb;clear Sb ea Qd cf lf l1 l2 c1 c2;have c3:=k1.cell i;rw [nE _ _ ta,<- HX.out] at c3;have f3:=k1.frozen;go_simp;refine ⟨fun h=>Bool.noConfusion h,?_⟩
     have hg:=Zj (w:=wh) g1 i (vd vn z);replace k1:=k1.set_ i (vd vn z);rw [xg.out] at k1;replace kf:=kf.grown hg (fun e=>by have:=Ya e;omega)
     replace k2:=k2.grown hg (fun e=>by have:=Ya e;omega)
     replace da:=Ef da hg;clear hg f3 c3;generalize wh.setCell _ _=we at kf k1 k2 da |-;refine Up rfl ?_;go_wp2_with fail
     go_roundw
     case rel=>exact ⟨i+1,zO,by go_num,kf,k1,k2,da⟩
     case measure=>simp [intOf];omega
    ·obtain rfl:i=q:=by omega
     have q3:¬((i:Int)<i):=by omega
     rw [OL] at k1;have hl:=tC k1 (fun k _=>Xs.out k) (by simp [maxLen];omega)
     have cf:=kf.cell;clear k2 k1;go_wp2_with fail
     refine (HI.out _ _ _ hl).mono ?_;rintro e w7 ⟨g3,rfl,ah,k3,xa⟩;have hs:=da.size;go_wp2
     go_ret2
     exact ⟨g3,rfl,zO,k3,ma da xa⟩
def ey (L:Na) (rows:List (List Nat)) (l1 l2 l3 l4:List Nat):Bool :=
 decide (rows.length=L.a+L.b+L.b+L.b)&&(rows.all (fun r=>Rj r L.queries L.p)&&(Rj l1 L.k L.p&&(Rj l2 (L.k+L.block-2) L.p&&(Rj l3 (L.block+2*L.queries-1) L.p&&Rj l4 L.n Bb))))
theorem zCz {l:List (List Nat)} {f:List Nat -> Bool} {i:Nat} (h:(l.take i).all f=true) (hi:i<l.length) (hx:f l[i]=true):(l.take (i+1)).all f=true:=by
 rw [Lv hi,List.all_append,h,List.all_cons,hx]
 rfl
theorem zCy {l:List (List Nat)} {f:List Nat -> Bool} {i:Nat} (hi:i<l.length) (hx:f l[i]=false):l.all f=false:=by
 rw [Oz];exact ⟨l[i],He _,by rw [hx];decide⟩
theorem L7 (L:Na) (A0 A1 A2 A3 A4:Option vy) (n0 c0 n1 c1 n2 c2 n3 c3 n4 c4:Nat) (rows:List (List Nat)) (l1 l2 l3 l4:List Nat) (w:vw) (hL:Nb L)
  (h0:Xg w [ve A0 n0 c0] rows) (h1:RWd w [ve A1 n1 c1] l1) (h2:RWd w [ve A2 n2 c2] l2) (h3:RWd w [ve A3 n3 c3] l3) (h4:RWd w [ve A4 n4 c4] l4) :
  vB prog 57 #[vf (ib L),vf #[ve A0 n0 c0,ve A1 n1 c1,ve A2 n2 c2,ve A3 n3 c3,ve A4 n4 c4]] w fun e w'=>e=vl (.bool (ey L rows l1 l2 l3 l4)) /\ vA w.1.size w w':=by
 have HC:=zH (fun w=>yZ L w hL)
 have HT:=zH (fun w=>GG L.p L.block L.queries L.k L.n L.secret L.rows L.a L.b L.b L.b w hL.a hL.b hL.b hL.b)
 have Xp:=zH (fun w' (hb:vA w.1.size w w')=>IM A1 n1 c1 L.k L.p l1 w' (Ab hb h1))
 have Ii:=zH (fun w' (hb:vA w.1.size w w')=>IM A2 n2 c2 (L.k+L.block-2) L.p l2 w' (Ab hb h2))
 have BE:=zH (fun w' (hb:vA w.1.size w w')=>IM A3 n3 c3 (L.block+2*L.queries-1) L.p l3 w' (Ab hb h3))
 have HE4:=zH (fun w' (hb:vA w.1.size w w')=>IM A4 n4 c4 L.n Bb l4 w' (Ab hb h4))
 obtain ⟨BA,a1,a2,r0⟩:=Yj h0;have gm:=Mm a1 a2;obtain ⟨ans,ha⟩:=zEX (ey L rows l1 l2 l3 l4);rw [<- ha];unfold ey at ha;rw [BA] at ha;have HN:=zH BA;obtain ⟨kl,kc,Zk,jb⟩:=Yg w 101 41 (ib L) #[ve A0 n0 c0,ve A1 n1 c1,ve A2 n2 c2,ve A3 n3 c3,ve A4 n4 c4];generalize Rj l1 L.k L.p=b1 at *;generalize Rj l2 (L.k+L.block-2) L.p=b2 at *;generalize Rj l3 (L.block+2*L.queries-1) L.p=b3 at *;generalize Rj l4 L.n Bb=b4 at *;generalize L.k+L.block-2=m2 at *;generalize L.block+2*L.queries-1=m3 at *;generalize L.a+L.b+L.b+L.b=T at *;have HA:=zH ha;clear ha h0 h1 h2 h3 h4 hL a1 a2 BA;unfold ib at *;unfold Bb at HE4;go_enter func57,ntmps57
 go_wp2_with fail
 generalize (w.alloc _).alloc _=w1 at kl kc Zk jb |-;refine (HC.out _).mono ?_;rintro e w2 ⟨rfl,Ba⟩;obtain ⟨ks,zj⟩:=zN w2 216 #[vd vq L.k,vd vq m2,vd vq m3];replace kl:=ia kl Ba;replace kc:=ia kc Ba;replace kl:=ia kl zj;replace kc:=ia kc zj;have da:=ma (ma Zk Ba) zj;go_upto_region 2 with fail
 generalize w2.alloc _=w3 at kl kc ks da |-;generalize w2.1.size=gs at ks |-;clear Zk Ba zj jb HC;have cl:=kl.cell;have cc:=kc.cell;have cs:=ks.cell;have ll:=kl.lt;have lc:=kc.lt;have ls:=ks.lt;by_cases hT:n0=T
 rotate_left
 ·have HF:=zH (show ans=false by rw [HA.out,db hT];rfl)
  have t1:((n0:Int)!=T)=true:=by rw [ef];omega
  have t2:((n0:Int)==T)=false:=by rw [Gd];omega
  clear HA hT;refine kh (Wb) (oa) [] [] [0,1,2,3,4,5,6,7,8,9,10,11,12,13,14,15,16,17,18,19,20,21,22,23,24,25] zK zK ?_;refine lh (oa) ?_;intro Wc ea;refine Me ?_;refine Nd oa rfl rfl rfl rfl (fun w' hR=>HT.out _) ?_
  refine zPU ?_;refine Me ?_;refine Qs rfl ?_;intro wd me;replace ea:=zM oa ea me;clear me;go_wp2_with fail
  go_ret
  exact ⟨by rw [HF.out];rfl,ma da.drew ea⟩
 have t1:((n0:Int)!=T)=false:=by rw [Hr];omega
 have t2:((n0:Int)==T)=true:=by rw [Dh];omega
 have HB:=zH (show ans=(rows.all (fun r=>Rj r L.queries L.p)&&(b1&&(b2&&(b3&&b4)))) by rw [HA.out,xb hT];rfl)
 clear HA hT;cases b1
 ·have HF:=zH (show ans=false by rw [HB.out];simp)
  refine kh (Wb) (oa) [] [] [0,1,2,3,4,5,6,7,8,9,10,11,12,13,14,15,16,17,18,19,20,21,22,23,24,25] zK zK ?_;refine lh (oa) ?_;intro Wc ea;refine Me ?_;refine Nd oa rfl rfl rfl rfl (fun w' hR=>HT.out _) ?_
  refine zPU ?_;refine Me ?_;refine Nd oa rfl rfl rfl rfl (fun w' hR=>Xp.out _ (ma da.drew (ma ea hR))) ?_
  refine zPU ?_;refine Me ?_;refine Qs rfl ?_;intro wd me;replace ea:=zM oa ea me;clear me;go_wp2_with fail
  go_ret
  exact ⟨by rw [HF.out];rfl,ma da.drew ea⟩
 cases b2
 ·have HF:=zH (show ans=false by rw [HB.out];simp)
  refine kh (Wb) (oa) [] [] [0,1,2,3,4,5,6,7,8,9,10,11,12,13,14,15,16,17,18,19,20,21,22,23,24,25] zK zK ?_;refine lh (oa) ?_;intro Wc ea;refine Me ?_;refine Nd oa rfl rfl rfl rfl (fun w' hR=>HT.out _) ?_
  refine zPU ?_;refine Me ?_;refine Nd oa rfl rfl rfl rfl (fun w' hR=>Xp.out _ (ma da.drew (ma ea hR))) ?_
  refine zPU ?_;refine Me ?_;refine Nd oa rfl rfl rfl rfl (fun w' hR=>Ii.out _ (ma da.drew (ma ea hR))) ?_
  refine zPU ?_;refine Me ?_;refine Qs rfl ?_;intro wd me;replace ea:=zM oa ea me;clear me;go_wp2_with fail
  go_ret
  exact ⟨by rw [HF.out];rfl,ma da.drew ea⟩
 refine kh (Wb) (oa) [] [] [0,1,2,3,4,5,6,7,8,9,10,11,12,13,14,15,16,17,18,19,20,21,22,23,24,25] zK zK ?_;refine lh (oa) ?_;intro Wc ea;refine Me ?_;refine Nd oa rfl rfl rfl rfl (fun w' hR=>HT.out _) ?_
 refine zPU ?_;refine Me ?_;refine Nd oa rfl rfl rfl rfl (fun w' hR=>Xp.out _ (ma da.drew (ma ea hR))) ?_
 refine zPU ?_;refine Me ?_;refine Nd oa rfl rfl rfl rfl (fun w' hR=>Ii.out _ (ma da.drew (ma ea hR))) ?_
 refine zPU ?_;refine Me ?_;refine Qs rfl ?_;intro wd me;replace ea:=zM oa ea me;clear me;replace kl:=kl.drew.below ea kl.lt;replace kc:=kc.drew.below ea kc.lt;replace ks:=ks.drew.below ea ks.lt;replace da:=ma da.drew ea;clear cl cc cs ll lc ls ea Xp Ii HT;have cl:=kl.cell;have cc:=kc.cell;have cs:=ks.cell;have AS:=zH (BE.out _ da);cases b3
 ·have HF:=zH (show ans=false by rw [HB.out];simp)
  go_wp2_with fail
  refine AS.out.mono ?_;rintro e w5 ⟨rfl,Za⟩;go_wp2;go_ret
  exact ⟨by rw [HF.out];rfl,ma da Za⟩
 go_wp2_with fail
 refine AS.out.mono ?_;rintro e w5 ⟨rfl,Za⟩;replace kl:=ia kl Za;replace kc:=ia kc Za;replace da:=ma da Za;clear cl cc cs ks Za AS BE;have cl:=kl.cell;have cc:=kc.cell;have BS:=zH (HE4.out _ da);cases b4
 ·have HF:=zH (show ans=false by rw [HB.out];simp)
  go_wp2_with fail
  refine BS.out.mono ?_;rintro e w6 ⟨rfl,tc⟩;go_wp2;go_ret
  exact ⟨by rw [HF.out];rfl,ma da tc⟩
 go_wp2_with fail
 refine BS.out.mono ?_;rintro e w6 ⟨rfl,tc⟩;replace kl:=ia kl tc;replace kc:=ia kc tc;replace da:=ma da tc;clear cl cc tc BS HE4;have xd:=zH (show ans=rows.all (fun r=>Rj r L.queries L.p) by rw [HB.out];simp)
 clear HB;have cc:=kc.cell;go_wp2_with fail
 clear cc;go_loopw [55] (fun y wr=>∃ i:Nat,i <= n0 /\ y=vd vq i /\ Hid ((rows.take i).all (fun r=>Rj r L.queries L.p)=true) /\ Blk wr w.1.size 101 #[vd vn L.p,vd vq L.block,vd vq L.queries,vd vq L.k,vd vq L.n,vd vq L.secret,vd vq L.rows,vd vq L.a,vd vq L.b,vd vq L.b,vd vq L.b] /\ vA w.1.size w wr) (fun y _=>n0-(intOf y).toNat)
 case atStart=>exact ⟨0,Kb _,rfl,rfl,kl,da⟩
 case round =>
  clear kl kc da;obtain ⟨i,hi,rfl,HTk,kl,da⟩:=hrel;by_cases ta:i<n0
  ·have g1:(0:Int)<=i:=by omega
   have g2:(i:Int)<n0:=by omega
   have i1:i<rows.length:=by rw [HN.out];exact ta
   obtain ⟨x1,y1,B1,m1,k1,rfl,v1,d1,s1⟩:=zv (r0.below tD da) i1;have HS:=zH (IM B1 m1 k1 L.queries L.p rows[i] wr s1);have cl:=kl.cell;clear s1;cases hx:Rj rows[i] L.queries L.p
   ·have HF:=zH (xd.out.trans (zCy i1 hx))
    rw [hx] at HS;clear hx HTk i1;go_wp2_with fail
    refine HS.out.mono ?_;rintro e w7 ⟨rfl,Cd⟩;go_wp2;go_ret
    exact ⟨by rw [HF.out];rfl,ma da Cd⟩
   ·have PB:=zH (zCz HTk.out i1 hx)
    rw [hx] at HS;clear hx HTk i1;go_wp2_with fail
    refine HS.out.mono ?_;rintro e w7 ⟨rfl,Cd⟩;replace kl:=ia kl Cd;replace da:=ma da Cd;clear cl Cd d1 v1;go_wp2
    go_roundw
    case rel=>exact ⟨i+1,zO,by go_num,PB.out,kl,da⟩
    case measure=>simp [intOf];omega
  ·obtain rfl:i=n0:=by omega
   have HF:=zH (show ans=true by rw [xd.out];have:=HTk.out;rwa [<- HN.out,qt] at this)
   go_wp2;go_ret
   exact ⟨by rw [HF.out];rfl,da⟩
theorem zF0 {p:Nat} (hp:0<p) {a b:List Nat} {x:Nat} (h:x∈zl p a b):x<p:=by
 unfold zl at h;cases e:a.length with
 | zero=>rw [e] at h;cases h
 | succ k=>rw [e,Ik] at h;exact zJr hp h
def sI (p:Nat):List Nat :=
 if p=97 then [2,3] else if p=193 then [2,3] else if p=12289 then [2,3] else if p=18446744069414584321 then [2,3,5,17,257,65537] else [2]
theorem zEH {p:Nat} (h:Jb p=true):∀ q∈sI p,(p-1)%q=0 /\ mB p 64 (Mb p).1 ((p-1) / q)≠1 /\ mB p 64 (Mb p).1 ((p-1) / q)<p /\ (p-1) / q<2^64:=by
 rcases cu h with rfl | rfl | rfl | rfl | rfl | rfl | rfl <;> decide +kernel
def WJ:List (Nat × Nat) -> Nat
 | []=>1
 | (q,e) :: l=>q^e*WJ l
def zP (p:Nat):List (Nat × Nat) :=
 if p=97 then [(2,5),(3,1)] else if p=193 then [(2,6),(3,1)] else if p=12289 then [(2,12),(3,1)] else if p=18446744069414584321 then [(2,32),(3,1),(5,1),(17,1),(257,1),(65537,1)] else [(2,(Mb p).2.1)]
theorem zEd {p:Nat} (h:Jb p=true):WJ (zP p)=p-1 /\ ((zP p).map (·.1))=sI p:=by
 rcases cu h with rfl | rfl | rfl | rfl | rfl | rfl | rfl <;> decide +kernel
theorem zEf {p q:Nat} (h:Jb p=true) (hq:q∈sI p):2 <= q /\ q <= 65537:=by
 have:∀ q∈sI p,2 <= q /\ q <= 65537:=by
  rcases cu h with rfl | rfl | rfl | rfl | rfl | rfl | rfl <;> decide +kernel
 exact this q hq
theorem zW {p:Nat} {g:Int} (hg:∃ v,Cg p (g*v) 1):∀ (n a b:Nat),a+b <= n -> Cg p (g^a) 1 -> Cg p (g^b) 1 -> Cg p (g^Nat.gcd a b) 1
 | 0,a,b,h,ha,hb=>by
  have h1:a=0:=by omega
  have h2:b=0:=by omega
  subst h1 h2;exact ha
 | n+1,a,b,h,ha,hb=>by
  obtain ⟨v,hv⟩:=hg;rcases dp a with h0 | h0
  ·subst h0;rw [Nat.gcd_zero_left];exact hb
  rcases dp b with h1 | h1
  ·subst h1;rw [Nat.gcd_zero_right];exact ha
  have cancel:∀ s t:Nat,Cg p (g^(s+t)) 1 -> Cg p (g^s) 1 -> Cg p (g^t) 1:=fun s t h1 h2=>by
   rw [Int.pow_add] at h1;exact ((Cg.of_eq (mo _).symm).trans (h2.symm.mul Cg.rfl')).trans h1
  rcases Nat.le_total a b with KI | KI
  ·obtain ⟨d,rfl⟩:∃ d,b=a+d:=⟨b-a,zO⟩
   have:=zW ⟨v,hv⟩ n a d zO ha (cancel _ _ hb ha)
   rwa [Nat.gcd_self_add_right]
  ·obtain ⟨d,rfl⟩:∃ d,a=b+d:=⟨a-b,zO⟩
   have:=zW ⟨v,hv⟩ n d b zO (cancel _ _ ha hb) hb
   rwa [Nat.gcd_self_add_left]
theorem zHO:∀ (l:List (Nat × Nat)) (d:Nat),(∀ x∈l,∀ k,k∣x.1 -> k=1 \/ k=x.1) -> d∣WJ l -> d≠WJ l -> ∃ x∈l,d∣WJ l / x.1
 | l,d,hp,hd,Sa=>by
  obtain ⟨m,hm⟩:=hd;have Eo:m≠1:=fun e=>by rw [e,fp] at hm;exact Sa hm.symm
  have key:∀ (l':List (Nat × Nat)),(∀ x∈l',∀ k,k∣x.1 -> k=1 \/ k=x.1) -> (∀ x∈l',¬x.1∣m) -> Nat.Coprime m (WJ l'):=by
   intro l'
   induction l' with
   | nil=>intro _ _;exact Nat.coprime_one_right m
   | cons x l' ih =>
    intro h1 h2;have hc:Nat.Coprime m x.1:=by
     rcases h1 x (.head _) (Nat.gcd m x.1) (Nat.gcd_dvd_right _ _) with e | e
     ·exact e
     ·exact absurd (e ▸ Nat.gcd_dvd_left m x.1) (h2 x (.head _))
    exact Nat.Coprime.mul_right (Nat.Coprime.pow_right _ hc) (ih (fun y hy=>h1 y (.tail _ hy)) fun y hy=>h2 y (.tail _ hy))
  by_cases hx:∃ x∈l,x.1∣m
  ·obtain ⟨x,qD,c,hc⟩:=hx
   refine ⟨x,qD,?_⟩;rcases dp x.1 with h0 | h0
   ·rw [h0,Nat.div_zero]
    exact Nat.dvd_zero _
   ·rw [hm,hc,<- Nat.mul_assoc,ye d x.1,Nat.mul_assoc,Nat.mul_div_cancel_left _ h0]
    exact Nat.dvd_mul_right _ _
  ·have Sj:=key l hp fun x hx' hd'=>hx ⟨x,hx',hd'⟩
   have Nt:m∣WJ l:=by rw [hm];exact Nat.dvd_mul_left _ _
   exact absurd (Sj.eq_one_of_dvd Nt) Eo
theorem zA6:∀ q∈[2,3,5,17,257,65537],∀ k∈List.range 257,q%k=0 -> k=1 \/ k=q:=by decide +kernel
theorem zEe {p q:Nat} (h:Jb p=true) (hq:q∈sI p):∀ k,k∣q -> k=1 \/ k=q:=by
 have Pc:q∈[2,3,5,17,257,65537]:=by
  have:∀ q∈sI p,q∈[2,3,5,17,257,65537]:=by
   rcases cu h with rfl | rfl | rfl | rfl | rfl | rfl | rfl <;> decide +kernel
  exact this q hq
 obtain ⟨h2,hle⟩:=zEf h hq;intro k ⟨c,hc⟩;rcases Wg k 257 with hk | hk
 ·exact zA6 q Pc k (pj.2 hk) (by rw [hc];exact Nat.mul_mod_right _ _)
 ·have Kg:c<257:=by
   rcases Wg c 257 with h' | h'
   ·exact h'
   ·have:=Nat.mul_le_mul hk h'
    omega
  rcases zA6 q Pc c (pj.2 Kg) (by rw [hc];exact Nat.mul_mod_left _ _) with h' | h'
  ·right;rw [hc,h',fp]
  ·left
   rw [h'] at hc;have:q*1=q*k:=by rw [fp,ye];exact hc
   exact (Nat.eq_of_mul_eq_mul_left zO this).symm
theorem G4 {p k:Nat} (h:Jb p=true) (h0:0<k) (hk:k<p-1):¬Cg p (((Mb p).1:Int)^k) 1:=by
 intro hc;have hp:=Rb h;have hinv:∃ v,Cg p (((Mb p).1:Int)*v) 1:=⟨((Mb p).1:Int)^(p-2),by
  rw [ik,<- Jj,show (p-2).succ=p-1 by omega]
  exact xI h⟩
 have hd:=zW hinv _ k (p-1) zR hc (xI h);have PI:Nat.gcd k (p-1)∣p-1:=Nat.gcd_dvd_right _ _;have hdk:Nat.gcd k (p-1) <= k:=Nat.le_of_dvd h0 (Nat.gcd_dvd_left _ _);obtain ⟨e1,e2⟩:=zEd h;have hmem:∀ x∈zP p,x.1∈sI p:=fun x hx=>by rw [<- e2];exact Od.2 ⟨x,hx,rfl⟩
 obtain ⟨x,hx,hdx⟩:=zHO (zP p) (Nat.gcd k (p-1)) (fun x hx=>zEe h (hmem x hx)) (by rw [e1];exact PI) (by rw [e1];omega)
 rw [e1] at hdx;obtain ⟨-,g1,g2,g3⟩:=zEH h x.1 (hmem x hx);have hs:=iO p 64 (Mb p).1 ((p-1) / x.1) g3;obtain ⟨c,yq⟩:=hdx;have h1:Cg p (((Mb p).1:Int)^((p-1) / x.1)) 1:=by
  rw [yq,Sh];exact (hd.pow c).trans (Cg.of_eq Int.one_pow)
 exact g1 (Cg.eq (p:=p) (hs.trans h1) g2 zO)
theorem zAd:∀ (n:Nat) (f:Nat -> Nat),(∀ i,i<n+1 -> f i<n) -> (∀ i j,i<n+1 -> j<n+1 -> f i=f j -> i=j) -> False
 | 0,f,h,_=>absurd (h 0 zO) (Nat.not_lt_zero _)
 | n+1,f,h,hi=>by
  have Sa:∀ i,i<n+1 -> f i≠f (n+1):=fun i h1 e=>by
   have:=hi i (n+1) zO zO e;omega
  refine zAd n (fun i=>if f i=n then f (n+1) else f i) (fun i h1=>?_) fun i j h1 h2 e=>?_
  ·split
   ·rename_i e
    have h3:=Sa i h1;have h4:=h (n+1) zO;omega
   ·have:=h i zO
    omega
  ·change (if f i=n then f (n+1) else f i)=(if f j=n then f (n+1) else f j) at e
   by_cases e1:f i=n <;> by_cases e2:f j=n
   ·exact hi i j zO zO zO
   ·rw [Ka e1,ya e2] at e
    exact absurd e.symm (Sa j h2)
   ·rw [ya e1,Ka e2] at e
    exact absurd e (Sa i h1)
   ·rw [ya e1,ya e2] at e
    exact hi i j zO zO e
theorem onto {n:Nat} {f:Nat -> Nat} (h:∀ i,i<n -> f i<n) (hi:∀ i j,i<n -> j<n -> f i=f j -> i=j) {y:Nat} (hy:y<n):∃ i,i<n /\ f i=y:=by
 refine oK fun Fq=>?_
 have Sa:∀ i,i<n -> f i≠y:=fun i h1 e=>Fq ⟨i,h1,e⟩
 obtain ⟨m,rfl⟩:∃ m,n=m+1:=⟨n-1,zO⟩;refine zAd m (fun i=>if f i=m then y else f i) (fun i h1=>?_) fun i j h1 h2 e=>?_
 ·split
  ·rename_i e
   have:=Sa i h1;omega
  ·have:=h i h1
   omega
 ·change (if f i=m then y else f i)=(if f j=m then y else f j) at e
  by_cases e1:f i=m <;> by_cases e2:f j=m
  ·exact hi i j h1 h2 zO
  ·rw [Ka e1,ya e2] at e
   exact absurd e.symm (Sa j h2)
  ·rw [ya e1,Ka e2] at e
   exact absurd e (Sa i h1)
  ·rw [ya e1,ya e2] at e
   exact hi i j h1 h2 e
theorem one_ne {p:Nat} (h:Jb p=true):¬Cg p (0:Int) 1:=by
 have hp:=Rb h;intro hc;have:=Cg.eq (p:=p) (a:=0) (b:=1) hc zO zO;omega
theorem zEI {p a:Nat} (h:Jb p=true) (h0:0<a) (ha:a<p):∃ k,(Mb p).1^k%p=a:=by
 have hp:=Rb h;have ql:∀ i,0<(Mb p).1^i%p:=fun i=>by
  rcases dp ((Mb p).1^i%p) with e | e
  ·exfalso
   have h1:Cg p (((Mb p).1:Int)^i) 0:=by
    have h2:=Cg.mod (p:=p) ((Mb p).1^i);rw [e,jo] at h2;exact h2.symm
   have h2:Cg p ((((Mb p).1:Int)^i)^(p-1)) 1:=by
    rw [<- Sh,ye,Sh];exact ((xI h).pow i).trans (Cg.of_eq Int.one_pow)
   have h3:=(h1.pow (p-1)).symm.trans h2;rw [Int.zero_pow zO] at h3;exact one_ne h h3
  ·exact e
 obtain ⟨i,-,hi⟩:=onto (n:=p-1) (f:=fun i=>(Mb p).1^i%p-1) (fun i _=>by
   have:=ql i;have:=mc ((Mb p).1^i) (show p > 0 by omega)
   show (Mb p).1^i%p-1<p-1
   omega) (fun i j h1 h2 e=>by
   have e':(Mb p).1^i%p=(Mb p).1^j%p:=by
    have:=ql i;have:=ql j;change (Mb p).1^i%p-1=(Mb p).1^j%p-1 at e
    omega
   have key:∀ i j,i<j -> j<p-1 -> (Mb p).1^i%p=(Mb p).1^j%p -> False:=fun i j hij hj e=>by
    have c1:Cg p (((Mb p).1:Int)^i) (((Mb p).1:Int)^j):=by
     have h1:=Cg.mod (p:=p) ((Mb p).1^i);have h2:=Cg.mod (p:=p) ((Mb p).1^j);rw [e] at h1;rw [jo] at h1 h2;exact h1.symm.trans h2
    obtain ⟨d,rfl⟩:∃ d,j=i+d:=⟨j-i,zO⟩;rw [Int.pow_add] at c1;have c2:Cg p (((Mb p).1:Int)^(i*(p-2))*((Mb p).1:Int)^i) 1:=by
     rw [<- Int.pow_add,show i*(p-2)+i=(p-1)*i by
      rw [ye (p-1),<- Nat.mul_succ]
      congr 1
      omega,Sh]
     exact ((xI h).pow i).trans (Cg.of_eq Int.one_pow)
    have c3:=(Cg.rfl' (x:=((Mb p).1:Int)^(i*(p-2)))).mul c1;rw [<- Xo] at c3;have c4:Cg p (((Mb p).1:Int)^d) 1:=((Cg.of_eq (mo _).symm).trans (c2.symm.mul Cg.rfl')).trans (c3.symm.trans c2);exact G4 h zO zO c4
   rcases Nat.lt_trichotomy i j with ta | heq | hgt
   ·exact absurd e' fun e=>key i j ta h2 e
   ·exact heq
   ·exact absurd e'.symm fun e=>key j i hgt h1 e) (y:=a-1) zO
 refine ⟨i,?_⟩;have:=ql i;change (Mb p).1^i%p-1=a-1 at hi
 omega
theorem zFa {p a:Nat} (h:Jb p=true) (h0:0<a) (ha:a<p):Cg p ((a:Int)*((a^(p-2)%p:Nat):Int)) 1:=by
 have hp:=Rb h;obtain ⟨k,hk⟩:=zEI h h0 ha;have h1:Cg p (a:Int) (((Mb p).1:Int)^k):=by
  have:=Cg.mod (p:=p) ((Mb p).1^k);rw [hk,jo] at this;exact this
 refine (Cg.rfl'.mul (Cg.mod _)).trans ?_;rw [jo,ik,<- Jj,show (p-2).succ=p-1 by omega]
 refine (h1.pow _).trans ?_;rw [<- Sh,ye,Sh];exact ((xI h).pow k).trans (Cg.of_eq Int.one_pow)
theorem zE7 {p a:Nat} (h:Jb p=true) (h0:¬Cg p (a:Int) 0):Cg p ((a:Int)*((a^(p-2)%p:Nat):Int)) 1:=by
 have hp:=Rb h;have h1:a%p≠0:=fun e=>h0 (by
  have:=Cg.mod (p:=p) a;rw [e] at this;exact this.symm)
 have:=zFa h (Nat.pos_of_ne_zero h1) (mc a zO);rw [<- Nat.pow_mod] at this;exact ((Cg.mod a).symm.mul Cg.rfl').trans this
theorem zE9 {p:Nat} {x:Int} (h:Jb p=true) (h0:¬Cg p x 0):∃ v,Cg p (x*v) 1:=by
 have hp:=Rb h;obtain ⟨a,ha⟩:∃ a:Nat,(a:Int)=x%(p:Int):=⟨(x%(p:Int)).toNat,Int.toNat_of_nonneg (Int.emod_nonneg _ zO)⟩;have hx:Cg p x (a:Int):=⟨x / (p:Int),by rw [ha];have:=Int.mul_ediv_add_emod x (p:Int);omega⟩
 exact ⟨_,(hx.mul Cg.rfl').trans (zE7 h fun e=>h0 (hx.trans e))⟩
theorem zF2 {p:Nat} {x y:Int} (h:Jb p=true) (hxy:Cg p (x*y) 0):Cg p x 0 \/ Cg p y 0:=by
 by_cases hx:Cg p x 0
 ·exact .inl hx
 ·obtain ⟨v,hv⟩:=zE9 h hx
  refine .inr ?_;have h1:Cg p y (v*(x*y)):=(Cg.of_eq (mo y).symm).trans ((hv.symm.mul Cg.rfl').trans (Cg.of_eq (by rw [ik x v,Xo])))
  exact h1.trans ((Cg.rfl'.mul hxy).trans (Cg.of_eq (Int.mul_zero _)))
def Bt (l:List Nat) (i:Nat):Int:=((l.getD i 0:Nat):Int)
def Lc (l:List Nat) (x:Int):Int:=Cb (Bt l) x l.length
theorem S0 {a:Nat -> Int} {x:Int} {m:Nat} (h:∀ i,m <= i -> a i=0):∀ t,Cb a x (m+t)=Cb a x m
 | 0=>rfl
 | t+1=>by
  rw [<- Nat.add_assoc,Cb,S0 h t,h (m+t) zO,Int.zero_mul,Int.add_zero]
theorem pI (l:List Nat) (x:Int) {n:Nat} (h:l.length <= n):Cb (Bt l) x n=Lc l x:=by
 obtain ⟨t,rfl⟩:∃ t,n=l.length+t:=⟨n-l.length,zO⟩;exact S0 (fun i hi=>by rw [Bt,PK hi];rfl) t
theorem UT (a b:Nat -> Int) (x:Int):∀ n,Cb (fun i=>a i+b i) x n=Cb a x n+Cb b x n
 | 0=>rfl
 | n+1=>by rw [Cb,Cb,Cb,UT a b x n,Int.add_mul];omega
theorem VT (c:Int) (a:Nat -> Int) (x:Int):∀ n,Cb (fun i=>c*a i) x n=c*Cb a x n
 | 0=>by rw [Cb,Cb,Int.mul_zero]
 | n+1=>by rw [Cb,Cb,VT c a x n,Int.mul_add,Xo]
theorem dU (l:List Nat) (n:Nat) (x:Int):Lc (iz l n) x=Lc l x:=by
 rw [<- pI l x (n:=(iz l n).length) (by rw [wL];omega)]
 unfold Lc
 congr 1
 funext i
 unfold Bt;rw [vL]
theorem pF {p:Nat} (a b:List Nat) (x:Int):Cg p (Lc (Cr p a b) x) (Lc a x+Lc b x):=by
 have hl:=Xx p a b;rw [<- pI (Cr p a b) x (n:=max a.length b.length) hl,<- pI a x (n:=max a.length b.length) zO,<- pI b x (n:=max a.length b.length) zO,<- UT];refine yp (fun i=>?_) Cg.rfl' _
 unfold Bt;rw [Iu];exact (Cg.mod _).trans (Cg.of_eq (um _ _))
theorem vP {p:Nat} (a:List Nat) (n:Nat) (x:Int):Cg p (Lc (Ls p a n) x) ((n:Int)*Lc a x):=by
 rw [<- pI (Ls p a n) x (DL p a n),Lc,<- VT];refine yp (fun i=>?_) Cg.rfl' _
 unfold Bt;rw [cK];exact (Cg.mod _).trans (Cg.of_eq (by rw [Qf,ik]))
theorem R0 (a:Nat -> Int) (x:Int) (k:Nat) (h:∀ i,i<k -> a i=0):∀ n,Cb a x (k+n)=x^k*Cb (fun i=>a (k+i)) x n
 | 0=>by
  show Cb a x k=x^k*0
  rw [Int.mul_zero,Wv,<- dE k];have:∀ n,n <= k -> Pa (fun i=>a i*x^i) n=Pa (fun _=>0) n:=fun n=>by
   induction n with
   | zero=>exact fun _=>rfl
   | succ n ih=>intro hn;rw [Pa,Pa,ih zO,h n zO,Int.zero_mul]
  exact this k zR
 | n+1=>by
  rw [<- Nat.add_assoc,Cb,R0 a x k h n,Cb,Int.mul_add,Int.pow_add]
  congr 1
  rw [<- Xo,<- Xo,ik (a (k+n))]
theorem zD0 (a:List Nat) (k:Nat) (x:Int):Lc (bE a k) x=x^k*Lc a x:=by
 have e:(bE a k).length=k+a.length:=rX a k;unfold Lc;rw [e,R0 _ _ k (fun i hi=>by unfold Bt;rw [fO,Ka hi];rfl)]
 congr 2
 funext i
 unfold Bt;rw [fO,ya zO,TB]
theorem Y0 {p:Nat} (a b:List Nat) (x:Int):∀ k,Cg p (Lc (Ik p a b k) x) (Cb (Bt a) x k*Lc b x)
 | 0=>Cg.of_eq (by rw [Ik,Cb,Int.zero_mul];rfl)
 | k+1=>by
  rw [Ik,Cb,Int.add_mul];refine (pF _ _ x).trans ((Y0 a b x k).add ?_);rw [zD0];refine (Cg.rfl'.mul (vP b _ x)).trans (Cg.of_eq ?_);rw [<- Xo,ik (x^k)]
  rfl
theorem cU {p:Nat} (a b:List Nat) (x:Int):Cg p (Lc (zl p a b) x) (Lc a x*Lc b x):=Y0 a b x _
theorem Jr {p x:Nat} (l:List Nat):Cg p (Vc p l x:Int) (Lc l x):=IK l
def Al (a:Nat -> Int) (r:Int) (n i:Nat):Int:=Cb (fun j=>a (i+j)) r (n-i)
theorem zAp (a:Nat -> Int) (r:Int) {n i:Nat} (h:i<n):Al a r n i=a i+r*Al a r n (i+1):=by
 unfold Al;rw [show n-i=(n-(i+1))+1 by omega,ZT]
 rw [tt]
 congr 3
 funext j
 congr 1
 omega
theorem zAq (a:Nat -> Int) (r x:Int) (n:Nat):∀ m,m <= n -> Cb a x m=Al a r n 0+(x-r)*Cb (fun i=>Al a r n (i+1)) x m-Al a r n m*x^m
 | 0,_=>by rw [Cb,Cb,Int.mul_zero,Int.pow_zero];omega
 | m+1,h=>by
  rw [Cb,zAq a r x n m zO,Cb,zAp a r (i:=m) zO,Jj]
  grind
theorem zHX (a:Nat -> Int) (r x:Int) (n:Nat):Cb a x (n+1)=Cb a r (n+1)+(x-r)*Cb (fun i=>Al a r (n+1) (i+1)) x n:=by
 have h:=zAq a r x (n+1) (n+1) zR;have h1:Al a r (n+1) (n+1)=0:=by unfold Al;rw [Nat.sub_self];rfl
 have h0:Al a r (n+1) 0=Cb a r (n+1):=by
  unfold Al;rw [Nat.sub_zero]
  congr 1
  funext j
  rw [Nj]
 rw [h1,h0,Int.zero_mul,Int.sub_zero] at h;have e:Cb (fun i=>Al a r (n+1) (i+1)) x (n+1)=Cb (fun i=>Al a r (n+1) (i+1)) x n:=by rw [Cb,h1,Int.zero_mul,Int.add_zero]
 rw [h,e]
theorem TY {p:Nat} (h:Jb p=true):∀ (n:Nat) (a:Nat -> Int) (xs:Nat -> Int),(∀ i j,i<n -> j<n -> i≠j -> ¬Cg p (xs i) (xs j)) -> (∀ k,k<n -> Cg p (Cb a (xs k) n) 0) -> ∀ i,i<n -> Cg p (a i) 0
 | 0,_,_,_,_=>fun i hi=>absurd hi (Nat.not_lt_zero _)
 | n+1,a,xs,hx,hr=>by
  have hq:∀ i,i<n -> Cg p (Al a (xs n) (n+1) (i+1)) 0:=TY h n (fun i=>Al a (xs n) (n+1) (i+1)) xs (fun i j hi hj Sa=>hx i j zO zO Sa) fun k hk=>by
   have h1:=hr k zO;rw [zHX a (xs n) (xs k) n] at h1;have h2:=hr n zO;have h3:Cg p ((xs k-xs n)*Cb (fun i=>Al a (xs n) (n+1) (i+1)) (xs k) n) 0:=by
    have:=(h1.trans h2.symm);obtain ⟨c,hc⟩:=this;exact ⟨c,by rw [<- hc];omega⟩
   rcases zF2 h h3 with h4 | h4
   ·exact absurd (by obtain ⟨c,hc⟩:=h4;exact ⟨c,by rw [<- hc];omega⟩) (hx k n zO zO zO)
   ·exact h4
  have Jw:∀ i,i<n+1 -> Cg p (Al a (xs n) (n+1) (i+1)) 0:=fun i hi=>by
   rcases Wg i n with h1 | h1
   ·exact hq i h1
   ·have e:i=n:=by omega
    subst e;unfold Al;rw [Nat.sub_self];exact Cg.rfl'
  have h0:Cg p (Al a (xs n) (n+1) 0) 0:=by
   have e:Al a (xs n) (n+1) 0=Cb a (xs n) (n+1):=by
    unfold Al;rw [Nat.sub_zero]
    congr 1
    funext j
    rw [Nj]
   rw [e];exact hr n zO
  intro i hi;have hs:=zAp a (xs n) hi;have h1:Cg p (Al a (xs n) (n+1) i) 0:=by
   cases i with
   | zero=>exact h0
   | succ i=>exact Jw i zO
  rw [hs] at h1;have h2:=(Cg.rfl' (p:=p) (x:=xs n)).mul (Jw i hi);rw [Int.mul_zero] at h2;obtain ⟨c,hc⟩:=h1;obtain ⟨d,hd⟩:=h2;exact ⟨c-d,by rw [Int.mul_sub,<- hc,<- hd];omega⟩
theorem zIF {p n:Nat} (h:Jb p=true) {a b:Nat -> Int} {xs:Nat -> Int} (hx:∀ i j,i<n -> j<n -> i≠j -> ¬Cg p (xs i) (xs j)) (hv:∀ k,k<n -> Cg p (Cb a (xs k) n) (Cb b (xs k) n)):∀ i,i<n -> Cg p (a i) (b i):=fun i hi=>by
 have:=TY h n (fun i=>a i+(-1)*b i) xs hx (fun k hk=>by
  rw [UT,VT];exact ((hv k hk).add (Cg.rfl' (x:=(-1)*Cb b (xs k) n))).trans (Cg.of_eq zO)) i hi
 obtain ⟨c,hc⟩:=this;exact ⟨c,by rw [<- hc];omega⟩
theorem Q9 (p:Nat) (A:Option vy) (n c x:Nat) (l:List Nat) (w:vw) (hp:Jb p=true) (hl:RWd w [ve A n c] l) :
  vB prog 249 #[fv p,ve A n c,vd vn x] w fun e w'=>e=vl (vd vn ((Ot p x l:Nat):Int)) /\ vA w.1.size w w':=by
 obtain ⟨rfl,h1,h2,ta,Ra⟩:=Ob hl;have gm:=Mm h1 h2;have HM:=zH (fun a b w=>Kr p a b w hp)
 have HA:=zH (fun a b w=>mn p a b w hp)
 have HD:=zH (zET p x l);obtain ⟨f,hf⟩:=zEX (fun k=>Ot p x (l.drop k))
 have Kx:=zH (show f 0=Ot p x l by rw [hf];rfl)
 have HF9:=zH (show f l.length=0 by rw [hf];simp [Ot])
 have HF:=zH (fun k (hk:k<l.length)=>show f k=(f (k+1)*x%p+l.getD k 0)%p by rw [hf];exact HD.out k hk)
 rw [<- Kx.out];clear HD hl h1 h2 hp ta hf Kx;obtain ⟨m,hm⟩:∃ m:Int,m=(l.length:Int)-1:=⟨_,rfl⟩;have g0:(l.length:Int)-1=m:=hm.symm;have gw:vq.wrap m=m:=El _ zO zO;have DE:=zH hm;clear hm;unfold fv at *;obtain ⟨kf,da⟩:=zN w 224 #[vd vn p];go_enter func249,ntmps249
 go_upto_region 1 with fail
 generalize w.alloc _=w0 at kf da |-;go_wp2_with fail
 clear g0 gw;go_loopw [7,8] (fun y i wr=>∃ (k:Nat) (j:Int),Hid (j+1=(k:Int)) /\ k <= l.length /\ i=vd vq j /\ y=vd vn (f k:Int) /\ Blk wr w.1.size 224 #[vd vn p] /\ vA w.1.size w wr) (fun _ i _=>(intOf i+1).toNat)
 case atStart=>exact ⟨l.length,m,zH (zQ DE.out),zR,rfl,by rw [HF9.out];rfl,kf,da⟩
 case round =>
  clear kf da;obtain ⟨k,j,HJ,hk,rfl,rfl,kf,hb⟩:=hrel;rcases dp k with h0 | h0
  ·subst h0
   have hj:j=-1:=by have:=HJ.out;omega
   subst hj;go_wp2;go_ret
   exact ⟨rfl,hb⟩
  ·obtain ⟨i,hi⟩:=zEX (k-1)
   have hj:j=(i:Int):=by have:=HJ.out;omega
   subst hj;have SF:i<l.length:=by omega
   obtain ⟨b,q,rfl,Gb,hc⟩:=Rg (Ra.below hb) SF;have Yp:=zH (HF.out i SF);rw [show i+1=k by omega] at Yp
   obtain ⟨y,hy⟩:=zEX (f k);rw [<- hy] at Yp |-;generalize l.getD i 0=a at *;obtain ⟨z,hz⟩:=zEX (y*x%p);have Of:=zH (fun w=>by have:=HM.out y x w;rw [<- hz] at this;exact this)
   rw [<- hz] at Yp;have Pk:=zH (fun w=>by have:=HA.out z a w;rw [<- Yp.out] at this;exact this)
   have HI:=zH hi;obtain ⟨y2,sD⟩:=zEX (f i);rw [<- sD] at Pk;have HY2:=zH sD;have gi1:(0:Int)<=i:=by omega
   have gi2:(i:Int)<l.length:=by omega
   obtain ⟨j2,AA⟩:∃ j2:Int,j2=(i:Int)-1:=⟨_,rfl⟩;have gj:(i:Int)-1=j2:=AA.symm;have gw:vq.wrap j2=j2:=El _ zO zO;have HJ2:=zH AA;clear hz hy hi Yp sD AA;have cf:=kf.cell;have lf:=kf.lt;go_upto_region 5 with fail
   refine kh (Wb) (oa) [] [] [0,1,2,3,4,5,6,7,8,9,10] zK zK ?_;refine lh (oa) ?_;intro Wc ea;refine Me ?_;refine Nd oa rfl rfl rfl rfl (fun w' hR=>Of.out _) ?_
   refine zPU ?_;refine Me ?_;refine Nd oa rfl rfl rfl rfl (fun w' hR=>Pk.out _) ?_
   refine zPU ?_;refine Me ?_;refine Qs rfl ?_;intro wd me;replace ea:=zM oa ea me;clear me;have Sb:=ma (tb wr.1.size wr).drew ea;replace kf:=ia kf Sb;replace hb:=ma hb Sb;clear Sb ea cf lf;go_wp2
   go_roundw
   case rel=>exact ⟨i,j2,zH (zQ HJ2.out),zO,rfl,by rw [HY2.out],kf,hb⟩
   case measure=>have:=HJ2.out;simp [intOf];omega
theorem zBl (p s n:Nat) (w:vw) (hp:Jb p=true) (hn:Tk p n) (hs:s%p≠0) :
  vB prog 292 #[fv p,vd vn s,vd vq n] w fun e w'=>∃ g,e=vl (.tuple #[ve (vE ⟨g,0,vD⟩) n n,vd vq 0]) /\ w.1.size <= g /\ Blk w' g 22 (Qa n (Th p s n)) /\ vA w.1.size w w':=by
 have Ly:=hn.le;have HV:=zH (fun w=>zp p w hp)
 have HR:=zH (fun w=>cS p n w hp hn)
 have HD:=zH (fun w=>rI p s w hp)
 have HM:=zH (fun a b w=>Kr p a b w hp)
 obtain ⟨r,hr⟩:=zEX (Ee p n);obtain ⟨x0,hx0⟩:=zEX (s%p);obtain ⟨F,hF⟩:=zEX (Th p s n);have Kx:=zH (show F 0=x0 by rw [hF,hx0];rfl)
 have HF:=zH (show ∀ k,F (k+1)=F k*r%p from fun k=>by rw [hF,hr];rfl)
 rw [<- hr] at HR;rw [<- hx0] at HD hs;rw [<- hF];have d0:((x0:Int) == 0)=false:=by rw [Gd];omega
 have mk:=Xw n zO;have gn:(n:Int) <= 4096:=by omega
 have gn0:(0:Int)<=n:=by omega
 clear hr hx0 hF hp hn hs;unfold fv at *;obtain ⟨kf,da⟩:=zN w 224 #[vd vn p];go_enter func292,ntmps292
 go_wp2_with fail
 generalize w.alloc _=w1 at kf da |-;refine (HV.out _).mono ?_;rintro e w2 ⟨rfl,xa⟩;replace kf:=ia kf xa;replace da:=ma da xa;clear xa;have cf:=kf.cell;go_wp2_with fail
 refine (HR.out _).mono ?_;rintro e w3 ⟨rfl,xa⟩;replace kf:=ia kf xa;replace da:=ma da xa;clear xa cf;have cf:=kf.cell;go_wp2_with fail
 refine (HD.out _).mono ?_;rintro e w4 ⟨rfl,xa⟩;replace kf:=ia kf xa;replace da:=ma da xa;clear xa cf;have cf:=kf.cell;go_wp2_with fail
 have kg:=Blk.new w4 22 (Qa n fun _=>0)
 have ja:=zA w4 (.cells (Qa n fun _=>0) 22)
 have og:w.1.size<w4.1.size:=kf.lt;replace kf:=ia kf ja;replace da:=ma da ja;clear ja mk cf;generalize w4.alloc _=w5 at kf kg da |-;generalize w4.1.size=g at kg og |-;have H0:=zH (jK n F fun _=>0)
 go_loopw [1,34] (fun y i wr=>∃ k:Nat,k <= n /\ i=vd vq k /\ y=vd vn (F k:Int) /\ Blk wr w.1.size 224 #[vd vn p] /\ Blk wr g 22 (Qa n (ni F (fun _=>0) k)) /\ vA w.1.size w wr) (fun _ i _=>n-(intOf i).toNat)
 case atStart=>exact ⟨0,Kb _,rfl,by rw [Kx.out],kf,by rw [H0.out];exact kg,da⟩
 case round =>
  clear kf kg da;obtain ⟨k,hk,rfl,rfl,kf,kg,da⟩:=hrel;by_cases ta:k<n
  ·have q1:(k:Int)<n:=by omega
   have q2:(0:Int)<=k:=by omega
   obtain ⟨z,hz⟩:=zEX (F k);obtain ⟨z2,Ve⟩:=zEX (F (k+1));have xg:=zH (oE (n:=n) (G:=fun _=>0) hz)
   have Yp:=zH (HF.out k);rw [<- hz,<- Ve] at Yp;have Of:=zH (fun w=>by have:=HM.out z r w;rw [<- Yp.out] at this;exact this)
   have HZ2:=zH Ve;rw [<- hz];clear hz Ve Yp;have cg:=kg.cell k;rw [nE _ _ ta] at cg;have fg:=kg.frozen;have lg:=kg.lt;have cf:=kf.cell;have lf:=kf.lt;have nfg:w.1.size≠g:=by omega
   go_upto_region 12 with fail
   have hg:=Zj (w:=wr) g k (vd vn z);replace kg:=kg.set_ k (vd vn z);rw [xg.out] at kg;replace kf:=Fe kf hg;replace da:=Ef da hg;clear hg cg fg lg cf lf;generalize wr.setCell _ _=w6 at kf kg da |-;have cf:=kf.cell;go_wp2_with fail
   refine (Of.out _).mono ?_;rintro e w7 ⟨rfl,xa⟩;replace kf:=ia kf xa;replace kg:=ia kg xa;replace da:=ma da xa;clear xa cf;go_wp2_with fail
   go_roundw
   case rel=>exact ⟨k+1,zO,by go_num,by rw [HZ2.out],kf,kg,da⟩
   case measure=>simp [intOf];omega
  ·obtain rfl:k=n:=by omega
   have q1:¬((k:Int)<k):=by omega
   rw [OL] at kg;go_wp2
   go_ret2
   exact ⟨g,rfl,zO,kg,da⟩
theorem T9 (L:Na) (w:vw) (hL:Nb L) :
  vB prog 248 #[vf (ib L)] w fun e w'=>∃ g1 g2,e=vl (.tuple #[ve (vE ⟨g1,0,vD⟩) L.block L.block,ve (vE ⟨g2,0,vD⟩) L.n L.n]) /\ Blk w' g1 22 (Qa L.block (Th L.p 1 L.block)) /\ Blk w' g2 22 (Qa L.n (Th L.p (Mb L.p).1 L.n)) /\ w.1.size <= g1 /\ w.1.size <= g2 /\ vA w.1.size w w':=by
 obtain ⟨zf,Kd⟩:=Rb hL.p;have H1:=zH (fun w=>zBl L.p 1 L.block w hL.p (Vy hL).1 (by rw [qj zO];decide))
 have H2:=zH (fun w=>zBl L.p (Mb L.p).1 L.n w hL.p (CQ hL).1 (I4 hL.p))
 have HG:=zH (fun w=>lU L.p w hL.p)
 generalize (Mb L.p).1=gn at *;clear hL zf Kd;unfold ib fv at *;obtain ⟨kl,kf,da,jb⟩:=Yg w 101 224 #[vd vn L.p,vd vq L.block,vd vq L.queries,vd vq L.k,vd vq L.n,vd vq L.secret,vd vq L.rows,vd vq L.a,vd vq L.b,vd vq L.b,vd vq L.b] #[vd vn L.p];go_enter func248,ntmps248
 go_upto_region 2 with fail
 generalize (w.alloc _).alloc _=w1 at kl kf da jb |-;have Xc:w.1.size+2 <= w1.1.size:=by omega
 clear jb;have cl:=kl.cell;have cf:=kf.cell;have ll:=kl.lt;have lf:=kf.lt;go_wp2_with fail
 refine (H1.out _).mono ?_;rintro e w2 ⟨g1,rfl,og,k1,xa⟩;replace kl:=ia kl xa;replace kf:=ia kf xa;replace da:=ma da xa;have Dd:=zb Xc xa.size;clear xa cl cf ll lf;have cl:=kl.cell;have cf:=kf.cell;have ll:=kl.lt;have lf:=kf.lt;go_upto_region 3 with fail
 refine zd (Wb) [2,5] [0,1,3,4,2,5,6,7,8,9,10] zK zK ?_;refine Ue (oa) ?_;intro Wc Ja ea;have Ma:=jg Ja;replace k1:=ia k1 Ma;replace da:=ma da Ma;have JA:=zb Dd Ma.size;refine Pb ?_;refine Ic oa rfl rfl rfl ((HG.out _).mono ?_);rintro e w3 ⟨rfl,Ta⟩;refine ⟨_,rfl,Ta,?_⟩;replace ea:=zM oa ea (Ta);refine zPU ?_;replace k1:=ia k1 Ta;replace da:=ma da Ta;have kJ:=zb JA Ta.size;refine Pb ?_;refine Ic oa rfl rfl rfl ((H2.out _).mono ?_);rintro e w4 ⟨g2,rfl,Jp,k2,Db⟩;refine ⟨_,rfl,Db,?_⟩;replace ea:=zM oa ea (Db);refine zPU ?_;replace k1:=ia k1 Db;replace da:=ma da Db;refine Pb ?_;refine Hc ?_;go_wp2
 go_ret2
 exact ⟨g1,g2,rfl,k1,k2,zO,zO,da⟩
theorem zFQ (n:Nat) (hn:n <= 1000000) (w:vw) :
  (Instr.makeSlice 39 (vd vq 0) (vd vq n)).run prog w= .ok (ve (vE ⟨w.1.size,0,vD⟩) 0 n) (w.alloc (.cells (ph n fun _=>ve vD 0 0) 28)):=by
 obtain ⟨ht,⟨i,hi,hz,hs,Em⟩,uJ,jb⟩:=fA;have:=run_make (P:=prog) w 39 28 i _ ht hi hz vq vq 0 (n:Int) zO zO (by rw [Em];omega) zO
 rw [Rk,hs,N7] at this;exact this
theorem zGF (n base:Nat) (hn:n <= 1000000) (w:vw) (hb:base <= w.1.size):(w.alloc (.cells (ph n fun _=>ve vD 0 0) 28)).ownsRow base 28 1 (ve (vE ⟨w.1.size,0,vD⟩) 0 n) 0 [] :=
 World.ownsRow_made w _ n hb (by simp [maxLen];omega) (by simp [ph])
theorem zFC (L:Na) (A0 A1 A2 A3 A4 AM:Option vy) (n0 n1 n2 n3 n4 nM c0 c1 c2 c3 c4 cM:Nat) (m r:List (List Nat)) (co li qu:List Nat) (w:vw) (hL:Nb L)
  (hm:Xg w [ve AM nM cM] m) (hr:Xg w [ve A0 n0 c0] r) (hc:RWd w [ve A1 n1 c1] co) (hl:RWd w [ve A2 n2 c2] li) (hq:RWd w [ve A3 n3 c3] qu)
  (hlen:m.length=r.length) (Tj:∀ x∈m,x.length=L.block) (Nw:∀ x∈r,x.length <= 2000) (hT:m.length <= 400000) (h1:co.length <= 2000) (h2:li.length <= 2000) (h3:qu.length <= 2000) :
  vB prog 60 #[vf (ib L),ve AM nM cM,vf #[ve A0 n0 c0,ve A1 n1 c1,ve A2 n2 c2,ve A3 n3 c3,ve A4 n4 c4]] w fun e w'=>∃ v,e=vl v /\ ((∀ q,v.ownBlock=vE q -> w.1.size <= q) /\ ∀ u:vw,(∀ b,w.1.size <= b -> b<w'.1.size -> u.1[b]?=w'.1[b]?) -> Xg u [v] ((List.range L.n).map fun i=>(List.range (m.length+3)).map (Ct L (Wj L m r co li qu) i))) /\ vA w.1.size w w':=by
 have hp:=hL.p;have jf:=Rb hp;have Ba:=hL.b2;obtain ⟨hmn,-,-,hMd⟩:=Yj hm;obtain ⟨iJ,-,-,me⟩:=Yj hr;subst hmn;subst iJ;have af:=zHs L m r co li qu;have Pt:=zHt (L:=L) (m:=m) (r:=r) (c:=co) (l:=li) (q:=qu) Ba Nw h1 h2 h3;have HEv:=zH (fun A k c l w hl hk=>LX L.p A k c L.n L.n.log2 (Mb L.p).1 l w hp hl (CQ hL).1 (CQ hL).2 (I4 hp) hk)
 have HGen:=zH (fun w=>lU L.p w hp)
 have HCV:=zH (show ∀ ps i,(List.range (m.length+3)).map (Ct L ps i)=(List.range (m.length+3)).map (fun j=>rk L.p L.n L.n.log2 (ps.getD j []) (Mb L.p).1 i) from fun _ _=>rfl)
 have xO:=zH (fun A B n c m d msg Bf w hl hk hn hm=>K7 L A B n c m d msg Bf w hL hl hk hn hm)
 have su:=zH (fun w' (hb:vA w.1.size w w')=>H7 L (ve A0 r.length c0) (ve A2 n2 c2) (ve A3 n3 c3) (ve A4 n4 c4) A1 n1 c1 co w' ⟨_,_,_,rfl⟩ ⟨_,_,_,rfl⟩ ⟨_,_,_,rfl⟩ ⟨_,_,_,rfl⟩ (Ab hb hc) (zQ ((Ob hc).1)))
 have qH:=zH (fun w' (hb:vA w.1.size w w')=>I7 L (ve A0 r.length c0) (ve A1 n1 c1) (ve A3 n3 c3) (ve A4 n4 c4) A2 n2 c2 li w' hL ⟨_,_,_,rfl⟩ ⟨_,_,_,rfl⟩ ⟨_,_,_,rfl⟩ ⟨_,_,_,rfl⟩ (Ab hb hl) (zQ ((Ob hl).1)))
 have HQu:=zH (fun w' (hb:vA w.1.size w w')=>J7 L (ve A0 r.length c0) (ve A1 n1 c1) (ve A2 n2 c2) (ve A4 n4 c4) A3 n3 c3 qu w' hL ⟨_,_,_,rfl⟩ ⟨_,_,_,rfl⟩ ⟨_,_,_,rfl⟩ ⟨_,_,_,rfl⟩ (Ab hb hq) (zQ ((Ob hq).1)))
 have hlt1:=(Ob hc).2.2.2.1;have Ck:=(Ob hl).2.2.2.1;have e1:=(Ob hc).1;have e2:=(Ob hl).1;have e3:=(Ob hq).1;have Xb:=zH (And.intro hlt1 Ck);subst e1 e2 e3;clear hlt1 Ck hc hl hq hm hr;have Ff:=zH hlen;have rH:=zH Tj;have Rx:=zH Nw;have nm:=zH jf;have HL:=zH hL;have Xd:=hL.n2;have ZU:min (m.length:Int) (r.length:Int)=m.length:=Int.min_eq_left zO;obtain ⟨T,zy⟩:=zEX (m.length);obtain ⟨M,jw⟩:=zEX (m.length+3);have x1:(m.length:Int)+3=(M:Int):=by omega
 have x2:=Qc M;have x3:(M:Int) <= 400003:=by omega
 have x4:(0:Int)<=M:=by omega
 have x5:(m.length:Int) <= 400000:=by omega
 have DI:M <= 400003:=by omega
 have hM1':M <= 1000000:=by omega
 rw [<- jw];have DE:=zH jw;rw [<- jw] at af HCV;obtain ⟨ps,Gq⟩:=zEX (Wj L m r co li qu);rw [<- Gq] at af Pt |-;have IE:=zH (show jz L m r m.length++[co,Fg L li,UN L qu]=ps from Gq.symm)
 have Zn:=zH af;have Uo:=zH Pt;replace HCV:=zH (HCV.out ps);clear Gq af Pt;obtain ⟨gen,hgen⟩:=zEX ((Mb L.p).1);rw [<- hgen] at HEv HGen HCV;clear hgen;have HFF:=zH (show ∀ k q,rk L.p L.n L.n.log2 (ps.getD q []) gen k<18446744073709551616 from fun k q=>Uk (xP (zQ nm.out) _ _ _ _ _) nm.out.2)
 have mk0:=zFQ M zO;have mkC:=R7 L.n zO;have mkM:=Xw M zO;clear hlen Tj Nw jf hL hp jw zy;unfold ib fv at *;obtain ⟨kl,kc,kf,da,jb⟩:=oq w 101 41 224 #[vd vn L.p,vd vq L.block,vd vq L.queries,vd vq L.k,vd vq L.n,vd vq L.secret,vd vq L.rows,vd vq L.a,vd vq L.b,vd vq L.b,vd vq L.b] #[ve A0 r.length c0,ve A1 co.length c1,ve A2 li.length c2,ve A3 qu.length c3,ve A4 n4 c4] #[vd vn L.p];go_enter func60,ntmps60
 go_upto_region 2 with fail
 generalize ((w.alloc _).alloc _).alloc _=w1 at kl kc kf da jb |-;have HZ:=zH jb;clear jb;have cc:=kc.cell;go_upto_region 3 with fail
 have Ca:=zGF M w1.1.size hM1' w1 zR;have ja:=zA w1 (.cells (ph M fun _=>ve vD 0 0) 28)
 have Ql:w1.1.size <= (w1.alloc (.cells (ph M fun _=>ve vD 0 0) 28)).1.size:=ja.size
 replace kl:=ia kl ja;replace kc:=ia kc ja;replace kf:=ia kf ja;replace da:=ma da ja;clear ja cc mk0;obtain ⟨N,Ni⟩:=zEX (w1.1.size);have xN:w.1.size+3 <= N:=by rw [Ni,HZ.out];omega
 rw [<- Ni] at Ca Ql |-;clear Ni HZ;generalize w1.alloc _=w2 at kl kc kf da Ca Ql |-;have cc:=kc.cell;go_wp2_with fail
 clear cc;go_loopw [8,31] (fun u y wr=>∃ (i:Nat) (v:vx) (cs:List vx),v=u /\ i <= m.length /\ y=vd vq i /\ Blk wr w.1.size 101 #[vd vn L.p,vd vq L.block,vd vq L.queries,vd vq L.k,vd vq L.n,vd vq L.secret,vd vq L.rows,vd vq L.a,vd vq L.b,vd vq L.b,vd vq L.b] /\ Blk wr (w.1.size+1) 41 #[ve A0 r.length c0,ve A1 co.length c1,ve A2 li.length c2,ve A3 qu.length c3,ve A4 n4 c4] /\ Blk wr (w.1.size+1+1) 224 #[vd vn L.p] /\ wr.ownsRow N 28 1 v i cs /\ Us N wr v cs (jz L m r i) /\ vA w.1.size w wr /\ N <= wr.1.size) (fun _ y _=>m.length-(intOf y).toNat)
 case atStart=>exact ⟨0,_,[],rfl,Kb _,rfl,kl,kc,kf,Ca,O4 _ _ _,da,Ql⟩
 case round =>
  clear kl kc kf Ca da Ql;obtain ⟨i,v,cs,rfl,hi,rfl,kl,kc,kf,Ca,Wa,da,Qe⟩:=hrel;by_cases ta:i<m.length
  ·have q1:(0:Int)<=i:=by omega
   have q2:(i:Int)<m.length:=by omega
   have q3:(i:Int)<r.length:=by have:=Ff.out;omega
   obtain ⟨bm,qm,Am,lm,cm,rfl,hbm0,hcm0,hrm0⟩:=zv hMd ta;have Ao:=(da.cell (p:=⟨bm,qm+i,vD⟩) hbm0).trans hcm0;have gD:=Ab da hrm0;have hbm:bm<N:=by omega
   obtain ⟨br,qr,Ar,lr,cr,rfl,hbr0,hcr0,hrr0⟩:=zv me (show i<r.length by have:=Ff.out;omega)
   have Fy:=(da.cell (p:=⟨br,qr+i,vD⟩) hbr0).trans hcr0;have Im:=Ab da hrr0;have yb:br<N:=by omega
   have z1:=(Ob gD).1;have z2:=(Ob Im).1;have z3:lm=L.block:=by have:=rH.out _ (He ta);omega
   have z4:lr <= 2000:=by have:=Rx.out _ (He (show i<r.length by have:=Ff.out;omega));omega
   have HC:=zH (fun w' (hb:vA wr.1.size wr w')=>xO.out Am Ar lm cm lr cr m[i] _ w' (Ab hb gD) (Ab hb Im) z3 zO)
   have ir:=zH (show (List.range (L.block+lr)).map (uv L m[i] (r[i]'(zQ Ff.out)))=MG L m r i by
    unfold MG;rw [Fb,Fb,Qb ta,Qb (show i<r.length by have:=Ff.out;omega)]
    simp only [Option.getD_some]
    first | rw [z2] | rw [<- z2])
   have HMX:=zH (show ∀ k,uv L m[i] (r[i]'(zQ Ff.out)) k<18446744073709551616 from fun k=>Uk (U7 (zQ nm.out) _ _ _) nm.out.2)
   have HNX:=zH (zHr L m r i);revert HC ir HMX
   generalize uv L m[i] (r[i]'(zQ Ff.out))=PF;intro HC ir HMX;clear z1 z2 z3 gD Im hrm0 hrr0 hcm0 hcr0;have n1:w.1.size<N:=by omega
   have n2:w.1.size+1<N:=by omega
   have cl:=kl.cell;have ll:=kl.lt;have cc:=kc.cell;have lc:=kc.lt;go_upto_region 6 with fail
   refine zd (Fx N) [11,12,13] [0,1,2,3,4,5,6,7,8,9,10,11,12,13,14] zK zK ?_;refine Ue (Be N) ?_;intro Wc Ja ea;refine ou ?_;have Ma:=jg Ja;have pc:=Ma.size;have hNw0:=Qe;refine Ic (Be N) rfl rfl rfl ((HC.out _ Ma).mono ?_);rintro e w3 ⟨g',rfl,sn,df,Ta⟩;refine ⟨_,rfl,dw Ta (zb hNw0 pc),?_⟩;replace ea:=zM (Be N) ea (dw Ta (zb hNw0 pc));refine zPU ?_;have Db:=ma Ma Ta;have hNg:N <= g':=by omega
   have hvg:vE g'≠v.ownBlock:=fun e=>by have:=(Ca.lt _ e.symm).2;omega
   replace kl:=ia kl Db;replace kc:=ia kc Db;replace kf:=ia kf Db;replace Ca:=Mc Ca Db zR;replace Wa:=yC Wa Db;replace da:=ma da Db;replace Qe:=zb Qe Db.size;have hNd:=zb pc Ta.size;have hrx:sj N v.ownBlock w3 (ve (vE ⟨g',0,vD⟩) (L.block+lr) (L.block+lr)) (MG L m r i):=by
    rw [<- ir.out];exact MR df (fun k _=>HMX.out k) (by simp [maxLen];omega) hNg hvg
   have HNd:=zH (And.intro hNd (show wr.1.size <= w3.1.size from Db.size))
   clear df Ta Db hNg hvg sn pc Ma HC Ja ea cl ll cc lc hNd;have ea:=(Be N).refl w3;refine ou ?_;refine Te (Be N) rfl rfl rfl ?_;go_simp;refine ⟨dw ((tb _ _).alloc zR _) Qe,?_⟩;have ja:=zA w3 (.cells #[ve (vE ⟨g',0,vD⟩) (L.block+lr) (L.block+lr)] 28);have Ra:=sx w3 (ve (vE ⟨g',0,vD⟩) (L.block+lr) (L.block+lr)) 28;replace hrx:=YD hrx ja.size (fun b _ h2 _=>ja.block b h2)
   replace kl:=ia kl ja;replace kc:=ia kc ja;replace kf:=ia kf ja;replace Ca:=Mc Ca ja zR;replace Wa:=yC Wa ja;replace da:=ma da ja;replace Qe:=zb Qe ja.size;have HNe:=zH (zb HNd.out.2 ja.size)
   refine zPU ?_
   generalize w3.alloc _=w4 at kl kc kf Ca Wa hrx da Ra Qe HNe |-;generalize w3.1.size=g7 at Ra |-;clear ja HNd ea;have ea:=(Be N).refl w4;refine ou ?_;refine Te (Be N) rfl rfl rfl ?_;refine zx _ _ rfl fA rfl Ca rfl Ra (by intro u hu;simp at hu;subst hu;rfl) zO Qe ?_
   intro v' wn Tb Va Cc;have Uc:∀ q,v.ownBlock=vE q -> N <= q:=fun q e=>(Ca.lt q e).1
   have BI:=Sp Ca Va Qe;refine ⟨BI,?_⟩;have Iy:=N4 Wa hrx Va Cc;rw [HNX.out] at Iy;replace kl:=kl.grown Va (fun e=>by have:=Uc _ e.symm;omega)
   replace kc:=kc.grown Va (fun e=>by have:=Uc _ e.symm;omega)
   replace kf:=kf.grown Va (fun e=>by have:=Uc _ e.symm;omega)
   replace da:=da.trans (BI.mono zO);have Wh:N <= wn.1.size:=by have:=Va.size;omega
   clear Ca Wa hrx Va Cc Uc Ra ea BI HNe Qe;have ea:=(Be N).refl wn
   refine zPU ?_
   refine ou ?_;refine Hc ?_;go_wp2
   go_roundw
   case rel=>exact ⟨i+1,v',_,rfl,zO,by go_num,kl,kc,kf,Tb,Iy,da,Wh⟩
   case measure=>simp [intOf];omega
  ·obtain rfl:i=m.length:=by omega
   have g2:¬((m.length:Int)<m.length):=by omega
   clear hMd me xO;have cl:=kl.cell;have cc:=kc.cell;have n1:w.1.size<N:=by omega
   have n2:w.1.size+1<N:=by omega
   go_upto_region 8 with fail
   refine zd (Fx N) [3,6,9,10,11] [0,1,2,4,5,7,8,3,6,9,10,11,12] zK zK ?_;refine Ue (Be N) ?_;intro Wc Ja ea;refine ou ?_;have Ma:=jg Ja;replace kl:=ia kl Ma;replace kc:=ia kc Ma;replace kf:=ia kf Ma;replace Ca:=Mc Ca Ma zR;replace Wa:=yC Wa Ma;replace da:=ma da Ma;replace Qe:=zb Qe Ma.size;clear Ma Ja cl cc;refine Ic (Be N) rfl rfl rfl ((su.out _ da).mono ?_);rintro e w3 ⟨v1,rfl,o1,Ta⟩;refine ⟨_,rfl,dw Ta Qe,?_⟩;replace ea:=zM (Be N) ea (dw Ta Qe);refine zPU ?_;have Dj:∀ q,v.ownBlock=vE q -> q<Wc.1.size:=fun q e=>(Ca.lt q e).2
   have td:sj N v.ownBlock w3 v1 co:=jX o1 Xb.out.1 Qe Dj;obtain ⟨A1',pq,rfl,-⟩:=Ud o1;replace kl:=ia kl Ta;replace kc:=ia kc Ta;replace kf:=ia kf Ta;replace Ca:=Mc Ca Ta zR;replace Wa:=yC Wa Ta;replace da:=ma da Ta;replace Qe:=zb Qe Ta.size;clear Ta o1 ea Dj;have ea:=(Be N).refl w3;refine Ic (Be N) rfl rfl rfl ((qH.out _ da).mono ?_);rintro e w4 ⟨v2,rfl,o2,Db⟩;refine ⟨_,rfl,dw Db Qe,?_⟩;replace ea:=zM (Be N) ea (dw Db Qe);refine zPU ?_;have sh:∀ q,v.ownBlock=vE q -> q<w3.1.size:=fun q e=>(Ca.lt q e).2
   have Ej:sj N v.ownBlock w4 v2 (Fg L li):=jX o2 (by
    have hp:=nm.out;intro x hx;rcases Ah.1 hx with rfl | hx
    ·exact Uk (uN zO _ _) hp.2
    ·exact Xb.out.2 x hx) Qe sh
   obtain ⟨A2',Tv,rfl,-⟩:=Ud o2;replace td:=YD td Db.size (fun b _ h2 _=>Db.block b h2)
   replace kl:=ia kl Db;replace kc:=ia kc Db;replace kf:=ia kf Db;replace Ca:=Mc Ca Db zR;replace Wa:=yC Wa Db;replace da:=ma da Db;replace Qe:=zb Qe Db.size;clear Db o2 ea sh;have ea:=(Be N).refl w4;refine Ic (Be N) rfl rfl rfl ((HQu.out _ da).mono ?_);rintro e w5 ⟨g3,rfl,ah,k3,Za⟩;refine ⟨_,rfl,dw Za Qe,?_⟩;replace ea:=zM (Be N) ea (dw Za Qe);refine zPU ?_;have Qy:vE g3≠v.ownBlock:=fun e=>by have:=(Ca.lt _ e.symm).2;omega
   have pD:sj N v.ownBlock w5 (ve (vE ⟨g3,0,vD⟩) (L.block+qu.length) (L.block+qu.length)) (UN L qu) :=
    MR k3 (fun k _=>Uk (qE (zQ nm.out) _ _ _) nm.out.2) (by simp [maxLen];omega) zO Qy
   replace td:=YD td Za.size (fun b _ h2 _=>Za.block b h2)
   replace Ej:=YD Ej Za.size (fun b _ h2 _=>Za.block b h2)
   replace kl:=ia kl Za;replace kc:=ia kc Za;replace kf:=ia kf Za;replace Ca:=Mc Ca Za zR;replace Wa:=yC Wa Za;replace da:=ma da Za;replace Qe:=zb Qe Za.size;clear Za k3 ah ea Qy su qH HQu kc;have ea:=(Be N).refl w5;refine Te (Be N) rfl rfl rfl ?_;go_simp;refine ⟨dw ((tb _ _).alloc zR _) Qe,?_⟩;have ja:=zA w5 (.cells #[ve A1' co.length pq,ve A2' (li.length+1) Tv,ve (vE ⟨g3,0,vD⟩) (L.block+qu.length) (L.block+qu.length)] 28);have Ra:=zId w5 (ve A1' co.length pq) (ve A2' (li.length+1) Tv) (ve (vE ⟨g3,0,vD⟩) (L.block+qu.length) (L.block+qu.length)) 28;replace td:=YD td ja.size (fun b _ h2 _=>ja.block b h2)
   replace Ej:=YD Ej ja.size (fun b _ h2 _=>ja.block b h2)
   replace pD:=YD pD ja.size (fun b _ h2 _=>ja.block b h2)
   replace kl:=ia kl ja;replace kf:=ia kf ja;replace Ca:=Mc Ca ja zR;replace Wa:=yC Wa ja;replace da:=ma da ja;replace Qe:=zb Qe ja.size
   refine zPU ?_
   generalize w5.alloc _=w6 at kl kf Ca Wa td Ej pD da Ra Qe |-;generalize w5.1.size=g7 at Ra |-;clear ja ea;have ea:=(Be N).refl w6;refine ou ?_;refine Te (Be N) rfl rfl rfl ?_;refine zx _ _ rfl fA rfl Ca rfl Ra (by intro u hu;simp at hu;rcases hu with rfl | rfl | rfl <;> rfl) zO Qe ?_
   intro v' wn Tb Va Cc;have Uc:∀ q,v.ownBlock=vE q -> N <= q:=fun q e=>(Ca.lt q e).1
   have BI:=Sp Ca Va Qe;refine ⟨BI,?_⟩;have Iy:=zEM Wa td Ej pD Va Cc;replace kl:=kl.grown Va (fun e=>by have:=Uc _ e.symm;omega)
   replace kf:=kf.grown Va (fun e=>by have:=Uc _ e.symm;omega)
   replace da:=da.trans (BI.mono zO);have N5:=BU Iy Tb;clear Ca Wa td Ej pD Va Cc Uc Ra ea BI Qe Iy;have ea:=(Be N).refl wn
   refine zPU ?_
   refine ou ?_;refine Hc ?_;rw [IE.out] at N5;rw [<- DE.out] at Tb;obtain ⟨Ap,cp,rfl,rA,-⟩:=Ud Tb;clear Tb ea IE DE Ff rH Rx Xb;obtain ⟨-,-,Ao,hPd⟩:=Yj N5;obtain ⟨gC,hgC⟩:=zEX (wn.1.size);have y0:w.1.size+3 <= gC:=by rw [hgC];have:=da.size;have:=kf.lt;omega
   have lM:M <= maxLen:=by simp [maxLen];omega
   have hmaxn:max (0:Int) (L.n:Int)=L.n:=Int.max_eq_right zO;have xn:(L.n:Int) <= 1024:=by omega
   have cl:=kl.cell;go_upto_region 10 with fail
   have kC:=Blk.new wn 28 (ph L.n fun _=>ve vD 0 0)
   have ja:=zA wn (.cells (ph L.n fun _=>ve vD 0 0) 28)
   have hs7:(wn.alloc (.cells (ph L.n fun _=>ve vD 0 0) 28)).1.size=gC+1:=by rw [hgC];simp
   rw [<- hgC] at kC ja |-;clear cl mkC;generalize wn.alloc _=w7 at kC ja hs7 |-;rw [pU (g:=fun k=>if k<0 then Ed M (gC+1+k) else ve vD 0 0) (fun k _=>zS)] at kC
   have HGC:=zH hgC;have HS7:=zH hs7;clear hgC hs7;go_wp2_with fail
   go_loopw [67] (fun y wr=>∃ i:Nat,i <= L.n /\ y=vd vq i /\ Blk wr gC 28 (ph L.n fun k=>if k<i then Ed M (gC+1+k) else ve vD 0 0) /\ Hid (∀ k,k<i -> Blk wr (gC+1+k) 22 (Qa M fun _=>0)) /\ Hid (wr.1.size=gC+1+i) /\ vA gC wn wr) (fun y _=>L.n-(intOf y).toNat)
   case atStart=>exact ⟨0,Kb _,rfl,kC,fun k h=>zO,HS7.out,ja⟩
   case round =>
    clear kC ja HS7;obtain ⟨i,hi,rfl,kC,HK,OB,Xh⟩:=hrel;by_cases ta:i<L.n
    ·have q1:(0:Int)<=i:=by omega
     have q2:(i:Int)<L.n:=by omega
     have cC:=kC.cell i;rw [oU _ ta,ya (Nat.lt_irrefl i)] at cC;have lC:=kC.lt;have fC:=kC.frozen;go_wp2_with fail
     have Hy:=OB.out;rw [Hy];have hg:=Zj (w:=wr) gC i (Ed M (gC+1+i));replace kC:=kC.set_ i (Ed M (gC+1+i));rw [zEk,pU (g:=fun k=>if k<i+1 then Ed M (gC+1+k) else ve vD 0 0) (fun k _=>by
      by_cases e:k=i
      ·subst e;simp
      ·rw [ya e]
       by_cases e2:k<i
       ·rw [Ka e2,Ka zO]
       ·rw [ya e2,ya zO])] at kC
     have Iv:Hid (∀ k,k<i -> Blk (wr.setCell ⟨gC,i,vD⟩ (Ed M (gC+1+i))) (gC+1+k) 22 (Qa M fun _=>0)):=fun k h=>(HK.out k h).grown hg (fun e=>by have:=Ya e;omega)
     have oN:(wr.setCell ⟨gC,i,vD⟩ (Ed M (gC+1+i))).1.size=gC+1+i:=by simp [vF];exact Hy
     replace Xh:=Xh.trans (Er hg (by have:=Xh.size;have:=HGC.out;omega) zR)
     clear hg HK Hy OB cC fC lC;generalize wr.setCell _ _=w8 at kC Iv oN Xh |-;have ja:=zA w8 (.cells (Qa M fun _=>0) 22)
     have kN:=Blk.new w8 22 (Qa M fun _=>0)
     have HSN:=zH (show (w8.alloc (.cells (Qa M fun _=>0) 22)).1.size=gC+1+(i+1) by simp;omega)
     rw [oN] at kN;replace kC:=ia kC ja;have HK3:Hid (∀ k,k<i+1 -> Blk (w8.alloc (.cells (Qa M fun _=>0) 22)) (gC+1+k) 22 (Qa M fun _=>0)):=fun k h=>by
      by_cases e:k=i
      ·subst e;exact kN
      ·exact (Iv.out k zO).below ja (Iv.out k zO).lt
     replace Xh:=Xh.trans (ja.mono zO);clear ja kN Iv oN;generalize w8.alloc _=w9 at kC HK3 HSN Xh |-
     go_roundw
     case rel=>exact ⟨i+1,zO,by go_num,kC,HK3,HSN,Xh⟩
     case measure=>simp [intOf];omega
    ·obtain rfl:i=L.n:=by omega
     rw [pU (g:=fun k=>Ed M (gC+1+k)) (fun k hk=>Ka hk)] at kC
     have hs9:gC+1+L.n <= wr.1.size:=by rw [OB.out];omega
     have Iv:Hid (∀ k,k<L.n -> Blk wr (gC+1+k) 22 (Qa M fun q=>if q<0 then rk L.p L.n L.n.log2 (ps.getD q []) gen k else 0)):=fun k h=>by
      have:=HK.out k h;rw [Ol (g:=fun q=>if q<0 then rk L.p L.n L.n.log2 (ps.getD q []) gen k else 0) (fun q _=>zS)] at this
      exact this
     clear HK OB mkM;go_wp2_with fail
     go_loopw [79] (fun y wr=>∃ j:Nat,j <= M /\ y=vd vq j /\ Blk wr gC 28 (ph L.n fun k=>Ed M (gC+1+k)) /\ Hid (∀ k,k<L.n -> Blk wr (gC+1+k) 22 (Qa M fun q=>if q<j then rk L.p L.n L.n.log2 (ps.getD q []) gen k else 0)) /\ gC+1+L.n <= wr.1.size /\ vA gC wn wr) (fun y _=>M-(intOf y).toNat)
     case atStart=>exact ⟨0,Kb _,rfl,kC,Iv,hs9,Xh⟩
     case round =>
      clear kC Iv hs9 Xh;obtain ⟨j,hj,rfl,kC,HK,jb,Xh⟩:=hrel;by_cases ta:j<M
      ·have q1:(0:Int)<=j:=by omega
       have q2:(j:Int)<M:=by omega
       obtain ⟨bp,qp,Aj,lj,cj,rfl,hbp,hcp',dG⟩:=zv hPd (show j<ps.length by rw [Zn.out];exact ta)
       have hbp2:bp<gC:=by rw [HGC.out];exact hbp
       have FF:=(Xh.cell (p:=⟨bp,qp+j,vD⟩) hbp2).trans hcp';have hbn2:vA wn.1.size wn wr:=by rw [<- HGC.out];exact Xh
       have hrj:=Ab hbn2 dG;have hgd:ps[j]'(by rw [Zn.out];exact ta)=ps.getD j []:=by rw [Fb,Qb];rfl
       have YF:lj <= 8192:=by have h1:=Uo.out _ (He (show j<ps.length by rw [Zn.out];exact ta));have h2:=(Ob dG).1;omega
       rw [hgd] at hrj;have HE:=zH (fun w' (hb:vA wr.1.size wr w')=>HEv.out Aj lj cj (ps.getD j []) w' (Ab hb hrj) YF)
       have Vl:=kl.below Xh (show w.1.size<gC by omega)
       have Qp:=kf.below Xh (show w.1.size+1+1<gC by omega)
       have cl:=Vl.cell;have ll:=Vl.lt;have cf:=Qp.cell;have lf:=Qp.lt;clear hcp' dG hrj hgd hbn2;have hbpw:bp<wr.1.size:=by omega
       go_upto_region 18 with fail
       refine zd (Wb) [3,6] [0,1,2,4,5,3,6,7,8,9,10,11] zK zK ?_;refine Ue (oa) ?_;intro Wc Ja ea;refine Pb ?_;have Ma:=jg Ja;refine Ic oa rfl rfl rfl ((HGen.out _).mono ?_);rintro e w3 ⟨rfl,Ta⟩;refine ⟨_,rfl,Ta,?_⟩;replace ea:=zM oa ea (Ta);refine zPU ?_;have Db:=ma Ma Ta;refine Pb ?_;refine Ic oa rfl rfl rfl ((HE.out _ Db).mono ?_);rintro e w5 ⟨gv,rfl,hgv,kv,Za⟩;refine ⟨_,rfl,Za,?_⟩;replace ea:=zM oa ea (Za);refine zPU ?_;have tc:=ma Db Za;have hgv2:wr.1.size <= gv:=zb Db.size hgv;replace kC:=ia kC tc;have Iv:Hid (∀ k,k<L.n -> Blk w5 (gC+1+k) 22 (Qa M fun q=>if q<j \/ (q=j /\ k<0) then rk L.p L.n L.n.log2 (ps.getD q []) gen k else 0)):=fun k h=>by
        have:=(HK.out k h).below tc (HK.out k h).lt;rw [Ol (g:=fun q=>if q<j \/ (q=j /\ k<0) then rk L.p L.n L.n.log2 (ps.getD q []) gen k else 0) (fun q _=>zS)] at this
        exact this
       have hbn3:=Xh.trans (tc.mono zO);have hsz2:=zb jb tc.size;have hgv3:gC+1+L.n <= gv:=by omega
       clear Ma Ta Db Za tc Ja ea HK Xh jb cl ll cf lf Vl Qp HE FF hgv;refine Pb ?_;refine Hc ?_;obtain ⟨V,hV⟩:∃ V:Nat -> Nat -> Nat,V=fun q k=>rk L.p L.n L.n.log2 (ps.getD q []) gen k:=⟨_,rfl⟩
       have HV:=zH hV;rw [show rk L.p L.n L.n.log2 (ps.getD j []) gen=V j by rw [hV]] at kv
       replace Iv:Hid (∀ k,k<L.n -> Blk w5 (gC+1+k) 22 (Qa M fun q=>if q<j \/ (q=j /\ k<0) then V q k else 0)):=by rw [hV];exact Iv
       clear hV;go_wp2_with fail
       go_loopw [96] (fun y wr=>∃ i:Nat,i <= L.n /\ y=vd vq i /\ Blk wr gC 28 (ph L.n fun k=>Ed M (gC+1+k)) /\ Hid (∀ k,k<L.n -> Blk wr (gC+1+k) 22 (Qa M fun q=>if q<j \/ (q=j /\ k<i) then V q k else 0)) /\ gC+1+L.n <= wr.1.size /\ vA gC wn wr /\ Blk wr gv 22 (Qa L.n (V j))) (fun y _=>L.n-(intOf y).toNat)
       case atStart=>exact ⟨0,Kb _,rfl,kC,Iv,hsz2,hbn3,kv⟩
       case round =>
        clear kC Iv hsz2 hbn3 kv;obtain ⟨i,hi,rfl,kC,HK,jb,Xh,kv⟩:=hrel;by_cases XC:i<L.n
        ·have p1:(0:Int)<=i:=by omega
         have p2:(i:Int)<L.n:=by omega
         obtain ⟨x,hx⟩:=zEX (V j i);have cv:=kv.cell i;rw [Uf _ XC,<- hx] at cv;have lv:=kv.lt;have cC:=kC.cell i;rw [oU _ XC] at cC;have lC:=kC.lt;obtain ⟨gi,Hy⟩:=zEX (gC+1+i);have kI:Blk wr gi 22 (Qa M fun q=>if q<j \/ (q=j /\ i<i) then V q i else 0):=by rw [Hy];exact HK.out i XC
         have cI:=kI.cell j;rw [Uf _ ta] at cI;generalize (if j<j \/ (j=j /\ i<i) then V j i else 0)=old at cI
         have lI:=kI.lt;have fI:=kI.frozen;rw [<- Hy] at cC;have ngC:gi≠gC:=by omega
         have ngv:gi≠gv:=by omega
         dsimp only [Ed] at cC
         have HGI:=zH Hy;have fo:=zH hx;clear Hy hx;go_wp2_with fail
         have hg:=Zj (w:=wr) gi j (vd vn x);have hK2:Hid (∀ k,k<L.n -> Blk (wr.setCell ⟨gi,j,vD⟩ (vd vn x)) (gC+1+k) 22 (Qa M fun q=>if q<j \/ (q=j /\ k<i+1) then V q k else 0)):=fun k h=>by
          by_cases e:k=i
          ·subst e
           have h2:=kI.set_ j (vd vn x);rw [Lr] at h2;rw [<- HGI.out];rw [Ol (g:=fun q=>if q<j \/ (q=j /\ k<k+1) then V q k else 0) (fun q _=>by
            simp only [Cf];by_cases e:q=j
            ·subst e;rw [Ka rfl,Ka zO,fo.out]
            ·rw [ya e]
             by_cases e2:q<j
             ·rw [Ka (.inl e2),Ka (.inl e2)]
             ·rw [ya zO,ya zO])] at h2
           exact h2
          ·have h2:=(HK.out k h).grown hg (fun e2=>by have:=Ya e2;have:=HGI.out;omega)
           rw [Ol (g:=fun q=>if q<j \/ (q=j /\ k<i+1) then V q k else 0) (fun q _=>by
            by_cases e2:q<j \/ (q=j /\ k<i)
            ·rw [Ka e2,Ka zO]
            ·rw [ya e2,ya zO])] at h2
           exact h2
         replace kC:=kC.grown hg (fun e=>ngC (Ya e).symm)
         replace kv:=kv.grown hg (fun e=>ngv (Ya e).symm)
         replace jb:=zb jb hg.size;replace Xh:=Xh.trans (Er hg (by have:=Xh.size;have:=HGC.out;omega) (zQ HGI.out))
         clear hg HK kI cI cC cv lI fI lC lv fo
         go_roundw
         case rel=>exact ⟨i+1,zO,by go_num,kC,hK2,jb,Xh,kv⟩
         case measure=>simp [intOf];omega
        ·obtain rfl:i=L.n:=by omega
         have HK3:Hid (∀ k,k<L.n -> Blk wr (gC+1+k) 22 (Qa M fun q=>if q<j+1 then rk L.p L.n L.n.log2 (ps.getD q []) gen k else 0)):=fun k h=>by
          have h2:=HK.out k h;rw [Ol (g:=fun q=>if q<j+1 then rk L.p L.n L.n.log2 (ps.getD q []) gen k else 0) (fun q _=>by
           rw [HV.out];by_cases e2:q<j+1
           ·rw [Ka e2,Ka zO]
           ·rw [ya e2,ya zO])] at h2
          exact h2
         clear HK kv;go_wp2
         go_roundw
         case rel=>exact ⟨j+1,zO,by go_num,kC,HK3,jb,Xh⟩
         case measure=>simp [intOf];omega
      ·obtain rfl:j=M:=by omega
       go_wp2;go_ret
       have zw:w.1.size <= gC:=by have:=HGC.out;have:=da.size;omega
       refine ⟨_,rfl,⟨fun q e=>by have e':gC=q:=Ya e;omega,fun u hu=>?_⟩,da.trans (Xh.mono zO)⟩
       rw [show (fun i=>(List.range j).map (Ct L ps i))=fun i=>(List.range j).map fun q=>rk L.p L.n L.n.log2 (ps.getD q []) gen i from funext fun i=>HCV.out i]
       have kCu:Blk u gC 28 _:=(hu gC zw kC.lt).trans kC;refine xU (N:=gC+1) (gb:=vD) (cs:=ph L.n fun k=>Ed j (gC+1+k)) (fun k hk=>⟨_,oU _ hk,?_⟩) kCu (by simp [maxLen];omega)
       have h2:=HK.out k hk;rw [Ol (g:=fun q=>rk L.p L.n L.n.log2 (ps.getD q []) gen k) (fun q hq=>Ka hq)] at h2
       have h3:Blk u (gC+1+k) 22 _:=(hu (gC+1+k) zO h2.lt).trans h2;exact MR h3 (fun q _=>HFF.out k q) lM zO (fun e=>by cases e)
def dX (L:Na) (m r:List (List Nat)) (k:Nat):List Nat:=cO L (m.getD k []) (r.getD k [])
def VG (p:Nat) (a b:List Nat):List Nat:=Cr p a (Ls p b (tg p 1))
def Lu (p:Nat) (rows:List (List Nat)) (al:Nat):Nat -> List Nat
 | 0=>[]
 | i+1=>Cr p (Lu p rows al i) (Ls p (rows.getD i []) (eh p al (i+1)))
def Wt (p:Nat) (rows ws:List (List Nat)):Nat -> List Nat
 | 0=>[]
 | i+1=>Cr p (Wt p rows ws i) (zl p (ws.getD i []) (rows.getD i []))
def vI (p a b:Nat) (rows:List (List Nat)) (j:Nat):List Nat:=VG p (zl p (rows.getD (a+j) []) (rows.getD (a+b+j) [])) (rows.getD (a+b+b+j) [])
def Ko (p a b:Nat) (rows:List (List Nat)) (be:Nat):Nat -> List Nat
 | 0=>[]
 | j+1=>Cr p (Ko p a b rows be j) (Ls p (vI p a b rows j) (eh p be (j+1)))
theorem QK {rows:List (List Nat)} {M:Nat} (h:∀ r∈rows,r.length <= M) (i:Nat):(rows.getD i []).length <= M:=by
 rw [Fb];by_cases hi:i<rows.length
 ·rw [Qb hi];exact h _ (He hi)
 ·rw [oo zO];exact Kb _
theorem xZ {p al M:Nat} {rows:List (List Nat)} (h:∀ r∈rows,r.length <= M):∀ i,(Lu p rows al i).length <= M
 | 0=>Kb _
 | i+1=>by
  have h1:=Xx p (Lu p rows al i) (Ls p (rows.getD i []) (eh p al (i+1)));have h2:=DL p (rows.getD i []) (eh p al (i+1));have h3:=xZ (p:=p) (al:=al) h i;have h4:=QK h i;rw [Lu];omega
theorem Z6 {p M m:Nat} {rows ws:List (List Nat)} (h:∀ r∈rows,r.length <= M) (h2:∀ r∈ws,r.length <= m):∀ i,(Wt p rows ws i).length <= m-1+M
 | 0=>Kb _
 | i+1=>by
  have h3:=Xx p (Wt p rows ws i) (zl p (ws.getD i []) (rows.getD i []));have h4:=DN p (ws.getD i []) (rows.getD i []);have h5:=Z6 (p:=p) h h2 i;have h6:=QK h i;have h7:=QK h2 i;rw [Wt];omega
theorem zI8 (p:Nat) (a b:List Nat):(VG p a b).length <= max a.length b.length:=by
 have h1:=Xx p a (Ls p b (tg p 1));have h2:=DL p b (tg p 1);unfold VG;omega
theorem zEE {p a b M:Nat} {rows:List (List Nat)} (h:∀ r∈rows,r.length <= M) (j:Nat):(vI p a b rows j).length <= M-1+M:=by
 have h1:=zI8 p (zl p (rows.getD (a+j) []) (rows.getD (a+b+j) [])) (rows.getD (a+b+b+j) []);have h2:=DN p (rows.getD (a+j) []) (rows.getD (a+b+j) []);have h3:=QK h (a+j);have h4:=QK h (a+b+j);have h5:=QK h (a+b+b+j);unfold vI;omega
theorem zAn {p a b be M:Nat} {rows:List (List Nat)} (h:∀ r∈rows,r.length <= M):∀ i,(Ko p a b rows be i).length <= M-1+M
 | 0=>Kb _
 | i+1=>by
  have h1:=Xx p (Ko p a b rows be i) (Ls p (vI p a b rows i) (eh p be (i+1)));have h2:=DL p (vI p a b rows i) (eh p be (i+1));have h3:=zAn (p:=p) (a:=a) (b:=b) (be:=be) h i;have h4:=zEE (p:=p) (a:=a) (b:=b) h i;rw [Ko];omega
theorem zU {rows:List (List Nat)} {i:Nat} (h:i<rows.length):rows.getD i []=rows[i]:=by rw [Fb,Qb h];rfl
theorem zEJ {p a b:Nat} (h:Jb p=true) (KI:a<b) (hb:b-a<p-1):¬Cg p (((Mb p).1:Int)^a) (((Mb p).1:Int)^b):=fun hc=>by
 have hp:=Rb h;refine G4 h (k:=b-a) zO hb ?_;have hv:Cg p (((Mb p).1:Int)*((Mb p).1:Int)^(p-2)) 1:=by
  have:=xI h;rw [show p-1=(p-2)+1 by omega,Jj,ik] at this
  exact this
 have h1:Cg p (((Mb p).1:Int)^a*(((Mb p).1:Int)^(p-2))^a) 1:=by
  rw [<- Int.mul_pow];exact (hv.pow a).trans (Cg.of_eq Int.one_pow)
 have h2:Cg p (((Mb p).1:Int)^b*(((Mb p).1:Int)^(p-2))^a) (((Mb p).1:Int)^(b-a)):=by
  rw [show ((Mb p).1:Int)^b=((Mb p).1:Int)^(b-a)*((Mb p).1:Int)^a by rw [<- Int.pow_add];congr 1;omega,Xo]
  exact (Cg.rfl'.mul h1).trans (Cg.of_eq (Int.mul_one _))
 exact h2.symm.trans ((hc.symm.mul Cg.rfl').trans h1)
theorem I5 {p:Nat} (hp:0<p) (l:List Nat) (x:Nat):Ot p x l=Vc p l x:=Cg.eq (p:=p) ((eV l).trans (IK l).symm) (zEU hp x l) (Qu hp l x)
theorem zAJ {p n a b:Nat} (h:Jb p=true) (hn:Tk p n) (KI:a<b) (hb:b<n):¬Cg p ((Ee p n:Int)^a) ((Ee p n:Int)^b):=fun hc=>by
 have hp:=Rb h;have hd:=Nat.div_mul_cancel (Nat.dvd_of_mod_eq_zero hn.dvd);obtain ⟨m,hm⟩:=zEX ((p-1) / n);have he:∀ k,Cg p ((Ee p n:Int)^k) (((Mb p).1:Int)^(m*k)):=fun k=>by
  rw [Sh,hm];refine Cg.pow ?_ k;unfold Ee;exact (Cg.mod _).trans (Cg.of_eq (jo _ _))
 rw [<- hm] at hd;have Eo:0<m:=by
  rcases dp m with e | e
  ·rw [e,Nat.zero_mul] at hd;omega
  ·exact e
 refine zEJ h (a:=m*a) (b:=m*b) (Nat.mul_lt_mul_of_pos_left KI Eo) ?_ ((he a).symm.trans (hc.trans (he b)));have h1:m*(b-a)<m*n:=Nat.mul_lt_mul_of_pos_left zO Eo;rw [Nat.mul_sub] at h1;omega
theorem zIo {p n:Nat} (h:Jb p=true) (hn:Tk p n):∀ i j,i<n -> j<n -> i≠j -> ¬Cg p ((Ee p n:Int)^i) ((Ee p n:Int)^j):=fun i j hi hj Sa hc=>by
 rcases Nat.lt_or_gt_of_ne Sa with h1 | h1
 ·exact zAJ h hn h1 hj hc
 ·exact zAJ h hn h1 hi hc.symm
theorem X7 {p N J:Nat} (h:Jb p=true) (hN:Tk p N) (hJ:N=2^J) (a b:List Nat) (ha:1 <= a.length) (KI:a.length+b.length <= N+1) (k:Nat) (hk:k<N):Cg p (TA p N J a b k:Int) (Bt (zl p a b) k):=by
 have hp:=Rb h;refine zIF (n:=N) h (a:=fun k=>(TA p N J a b k:Int)) (b:=Bt (zl p a b)) (xs:=fun k=>(Ee p N:Int)^k) (zIo h hN) (fun q hq=>?_) k hk
 unfold TA;refine (sV (q:=q) _ h hN hJ hq).trans ?_;rw [Yl,Ka hq,eU h hN hJ a hq,eU h hN hJ b hq];have hl:=DN p a b;rw [pI _ _ zO];refine (Cg.mod _).trans ((Cg.of_eq (Qf _ _)).trans ?_);refine ((Jr a).mul (Jr b)).trans ?_;refine (cU a b _).symm.trans ?_;unfold Lc;exact yp (fun _=>Cg.rfl') yM _
theorem Y7 {p N J:Nat} (hp:0<p) (a b:List Nat) (k:Nat):TA p N J a b k<p:=mc _ hp
theorem zCT (x p B:Nat) (w:vw) (hc:w.cell? ⟨B,0,vD⟩=vE (vd vn p)) :
  vB prog 293 #[vd vn x, .pointer (vE ⟨B,0,vD⟩)] w fun e w'=>e=vl (.bool (decide (p <= x))) /\ vA w.1.size w w':=by
 obtain ⟨v,hv⟩:=zEX (decide (p <= x));have e1:decide ((p:Int)<=x)=v:=by rw [hv];by_cases h:p <= x <;> simp [h]
 rw [<- hv];have HV:=zH hv.symm;clear hv;go_enter func293,ntmps293
 go_wp2_with fail
 go_ret
 exact ⟨by first | rfl | (simp [HV.out]),tb _ _⟩
theorem zCP (A:Option vy) (n c p B:Nat) (l:List Nat) (w:vw) (hl:RWd w [ve A n c] l) (hc:w.cell? ⟨B,0,vD⟩=vE (vd vn p)) :
  vB prog 278 #[ve A n c, .func (.func 293) #[] #[.pointer (vE ⟨B,0,vD⟩)]] w fun e w'=>∃ r:Int,e=vl (vd vq r) /\ decide (0 <= r)=!(l.all fun x=>decide (x<p)) /\ vA w.1.size w w':=by
 obtain ⟨rfl,h1,h2,ta,Ra⟩:=Ob hl;have gm:=Mm h1 h2;have lB:B<w.1.size:=Gf _ _ hc;have HX:=zH (fun x w' (hb:vA w.1.size w w')=>zCT x p B w' ((hb.cell (p:=⟨B,0,vD⟩) lB).trans hc))
 clear hl h1 h2 ta hc lB;obtain ⟨ans,ha⟩:=zEX (!(l.all fun x=>decide (x<p)))
 rw [<- ha];have HA:=zH ha;clear ha;go_enter func278,ntmps278
 go_wp2_with fail
 go_loopw [5,8] (fun _ y wr=>∃ i:Nat,i <= l.length /\ y=vd vq i /\ Hid ((l.take i).all (fun x=>decide (x<p))=true) /\ vA w.1.size w wr) (fun _ y _=>l.length-(intOf y).toNat)
 case atStart=>exact ⟨0,Kb _,rfl,rfl,tb _ _⟩
 case round =>
  obtain ⟨i,hi,rfl,HT,yb⟩:=hrel;by_cases ta:i<l.length
  ·have g1:(0:Int)<=i:=by omega
   have g2:(i:Int)<l.length:=by omega
   obtain ⟨b,q,rfl,Gb,hc⟩:=Rg (Ra.below yb) ta;by_cases hx:p <= l.getD i 0
   ·have HF:=zH (show ans=true by rw [HA.out,RY ta hx];rfl)
    have HC:=zH (by have:=HX.out (l.getD i 0) wr yb;rw [xb hx] at this;exact this)
    generalize l.getD i 0=z at *;clear hx HT;go_wp2_with fail
    refine HC.out.mono ?_;rintro e w1 ⟨rfl,Ia⟩;go_wp2;go_ret
    exact ⟨_,rfl,by rw [HF.out];exact xb g1,ma yb Ia⟩
   ·have PB:=zH (SY HT.out ta hx)
    have HC:=zH (by have:=HX.out (l.getD i 0) wr yb;rw [db hx] at this;exact this)
    generalize l.getD i 0=z at *;clear hx HT;go_wp2_with fail
    refine HC.out.mono ?_;rintro e w1 ⟨rfl,Ia⟩;replace yb:=ma yb Ia;clear hc Ia Gb;go_wp2
    go_roundw
    case rel=>exact ⟨i+1,zO,by go_num,PB.out,yb⟩
    case measure=>simp [intOf];omega
  ·obtain rfl:i=l.length:=by omega
   have HF:=zH (show ans=false by rw [HA.out];have:=HT.out;rw [qt] at this;rw [this];rfl)
   go_wp2;go_ret
   exact ⟨_,rfl,by rw [HF.out];rfl,yb⟩
theorem zCN (A:Option vy) (n c p B:Nat) (l:List Nat) (w:vw) (hl:RWd w [ve A n c] l) (hc:w.cell? ⟨B,0,vD⟩=vE (vd vn p)) :
  vB prog 212 #[ve A n c, .func (.func 293) #[] #[.pointer (vE ⟨B,0,vD⟩)]] w fun e w'=>e=vl (.bool (!(l.all fun x=>decide (x<p)))) /\ vA w.1.size w w':=by
 have HI:=zH (zCP A n c p B l w hl hc);clear hl hc;generalize (!(l.all fun x=>decide (x<p)))=ans at *
 go_enter func212,ntmps212
 go_wp2_with fail
 refine HI.out.mono ?_;rintro e w1 ⟨r,rfl,hr,Ia⟩;go_wp2;go_ret
 exact ⟨by first | rfl | (simp [hr]),Ia⟩
theorem UO (L:Na) (A:Option vy) (n c:Nat) (l:List Nat) (w:vw) (hl:RWd w [ve A n c] l) :
  vB prog 251 #[vf (ib L),ve A n c] w fun e w'=>e=vl (.bool (l.all fun x=>decide (x<L.p))) /\ vA w.1.size w w':=by
 unfold ib;obtain ⟨kb,Zk⟩:=zN w 101 #[vd vn L.p,vd vq L.block,vd vq L.queries,vd vq L.k,vd vq L.n,vd vq L.secret,vd vq L.rows,vd vq L.a,vd vq L.b,vd vq L.b,vd vq L.b];have HC:=zH (zCN A n c L.p w.1.size l (w.alloc (.cells #[vd vn L.p,vd vq L.block,vd vq L.queries,vd vq L.k,vd vq L.n,vd vq L.secret,vd vq L.rows,vd vq L.a,vd vq L.b,vd vq L.b,vd vq L.b] 101)) (Ab Zk hl) (by rw [kb.cell];rfl))
 clear hl kb;generalize (l.all fun x=>decide (x<L.p))=v at *
 go_enter func251,ntmps251
 go_wp2_with fail
 refine HC.out.mono ?_;rintro e w1 ⟨rfl,Ia⟩;go_wp2;go_ret
 exact ⟨by cases v <;> rfl,ma Zk Ia⟩
def aw (L:Na) (a b c:List Nat):Bool :=
 decide (a.length=L.k)&&decide (b.length=L.k+L.block-1)&&decide (c.length=2*L.k-1)&&(a.all fun x=>decide (x<L.p))&&(b.all fun x=>decide (x<L.p))&&(c.all fun x=>decide (x<L.p))
theorem L3 (L:Na) (A B C:Option vy) (n1 c1 n2 c2 n3 c3:Nat) (a b c:List Nat) (w:vw) (hL:Nb L) (ha:RWd w [ve A n1 c1] a) (hb:RWd w [ve B n2 c2] b) (hc:RWd w [ve C n3 c3] c) (hn:n1=a.length /\ n2=b.length /\ n3=c.length) :
  vB prog 247 #[vf (ib L),ve A n1 c1,ve B n2 c2,ve C n3 c3] w fun e w'=>e=vl (.bool (aw L a b c)) /\ vA w.1.size w w':=by
 obtain ⟨rfl,rfl,rfl⟩:=hn;have Ia:=hL.b1;have Ba:=hL.b2;have Ek:=hL.q1;have Yu:=hL.q2;have hk:=hL.k;have HA:=zH (fun w' (h:vA w.1.size w w')=>UO L A a.length c1 a w' (Ab h ha))
 have HB:=zH (fun w' (h:vA w.1.size w w')=>UO L B b.length c2 b w' (Ab h hb))
 have HC:=zH (fun w' (h:vA w.1.size w w')=>UO L C c.length c3 c w' (Ab h hc))
 obtain ⟨t1,eG⟩:=zEX (L.k+L.block);obtain ⟨t2,ht2⟩:=zEX (L.k+L.block-1);obtain ⟨t3,ht3⟩:=zEX (2*L.k);obtain ⟨t4,ht4⟩:=zEX (2*L.k-1);have e1:(L.k:Int)+L.block=(t1:Int):=by omega
 have e2:=Qc t1;have e3:(t1:Int)-1=(t2:Int):=by omega
 have e4:=Qc t2;have e5:(2:Int)*L.k=(t3:Int):=by omega
 have e6:=Qc t3;have e7:(t3:Int)-1=(t4:Int):=by omega
 have e8:=Qc t4;have HE:=zH (show aw L a b c=(decide (a.length=L.k)&&decide (b.length=t2)&&decide (c.length=t4)&&(a.all fun x=>decide (x<L.p))&&(b.all fun x=>decide (x<L.p))&&(c.all fun x=>decide (x<L.p))) by rw [ht2,ht4];rfl)
 clear eG ht2 ht3 ht4 Ia Ba Ek Yu hk hL ha hb hc;generalize (a.all fun x=>decide (x<L.p))=b1 at *
 generalize (b.all fun x=>decide (x<L.p))=b2 at *
 generalize (c.all fun x=>decide (x<L.p))=b3 at *
 obtain ⟨R,hR⟩:=zEX (aw L a b c);rw [<- hR] at HE |-;clear hR;generalize a.length=n1 at *;generalize b.length=n2 at *;generalize c.length=n3 at *;unfold ib at *;obtain ⟨kl,da⟩:=zN w 101 #[vd vn L.p,vd vq L.block,vd vq L.queries,vd vq L.k,vd vq L.n,vd vq L.secret,vd vq L.rows,vd vq L.a,vd vq L.b,vd vq L.b,vd vq L.b];by_cases h1:n1=L.k
 rotate_left
 ·have d1:((n1:Int)!=L.k)=true:=by simp;omega
  have HF:=zH (show R=false by rw [HE.out,db h1];rfl)
  clear h1 HE HA HB HC;go_enter func247,ntmps247
  go_wp2;go_ret
  exact ⟨by rw [HF.out];rfl,da⟩
 have d1:((n1:Int)!=L.k)=false:=by simp;omega
 by_cases h2:n2=t2
 rotate_left
 ·have d2:((n2:Int)!=t2)=true:=by simp;omega
  have HF:=zH (show R=false by rw [HE.out,db h2];simp)
  clear h1 h2 HE HA HB HC;go_enter func247,ntmps247
  go_wp2;go_ret
  exact ⟨by rw [HF.out];rfl,da⟩
 have d2:((n2:Int)!=t2)=false:=by simp;omega
 by_cases h3:n3=t4
 rotate_left
 ·have d3:((n3:Int)!=t4)=true:=by simp;omega
  have HF:=zH (show R=false by rw [HE.out,db h3];simp)
  clear h1 h2 h3 HE HA HB HC;go_enter func247,ntmps247
  go_wp2;go_ret
  exact ⟨by rw [HF.out];rfl,da⟩
 have d3:((n3:Int)!=t4)=false:=by simp;omega
 have HF:=zH (show R=(b1&&b2&&b3) by rw [HE.out,xb h1,xb h2,xb h3];rfl)
 clear h1 h2 h3 HE;go_enter func247,ntmps247
 go_wp2_with fail
 generalize w.alloc _=w1 at kl da |-;refine (HA.out _ da).mono ?_;rintro e w2 ⟨rfl,xa⟩;replace kl:=ia kl xa;replace da:=ma da xa;clear xa;cases b1
 ·go_wp2
  go_ret
  exact ⟨by rw [HF.out];rfl,da⟩
 have cl:=kl.cell;go_wp2_with fail
 refine (HB.out _ da).mono ?_;rintro e w3 ⟨rfl,xa⟩;replace kl:=ia kl xa;replace da:=ma da xa;clear xa cl;cases b2
 ·go_wp2
  go_ret
  exact ⟨by rw [HF.out];rfl,da⟩
 have cl:=kl.cell;go_wp2_with fail
 refine (HC.out _ da).mono ?_;rintro e w4 ⟨rfl,xa⟩;go_wp2;go_ret
 exact ⟨by rw [HF.out];simp,ma da xa⟩
def LL (p:Nat) (a b:List (List Nat)):Nat -> Nat
 | 0=>0
 | k+1=>(LL p a b k+Pu p (a.getD k []) (b.getD k []) (a.getD k []).length)%p
theorem gX {w:vw} {base n:Nat} {v:vx} {l:List Nat} (h:w.ownsRow base 22 1 v n (Oa l)) (hl:∀ x∈l,x<18446744073709551616):∃ A c,v=ve A n c /\ RWd w [ve A n c] l:=by
 obtain ⟨A,c,rfl,-⟩:=Ud h;exact ⟨A,c,rfl,Hq h hl⟩
end Go.Proofs.YteoghgbnielkpaaGreat
