/- A part of the proof. No condition. -/
import Derived.Test.YteoghgbnielkpaaGreatTB13
import Derived.Test.YteoghgbnielkpaaGreatTB14

set_option maxRecDepth 100000
set_option maxHeartbeats 8000000
set_option linter.unusedVariables false
set_option linter.unusedSimpArgs false
namespace Go.Proofs.YteoghgbnielkpaaGreat
open Go.RowKit Go.Maps
open Tryz
open Go renaming World->vw, Value->vx, Addr->vy, Calls->vB
open Go.Value renaming int->vd, slice->ve, agg->vf
open Go.IntKind renaming u64->vn, i64->vq
open Go.Ending renaming returned->vl
open Go.RowKit renaming Below->vA
open Go.World renaming setCell->vF
open Go.Act renaming put->vG
open Option renaming none->vD, some->vE
theorem zDy (p:Nat) (pub vars:Int) (rows:List Ua):Jf p pub vars rows<18446744073709551616:=by
 unfold Jf;split
 ·exact Gr (gO _ _)
 ·decide
theorem tU {F:Nat -> Prop} {N g:Nat} (hg:F g):∀ (xs:List vx) (w:vw),Zi F N w (Cl w g xs 0):=fun xs w=>go xs 0 w
where
 go:∀ (xs:List vx) (k:Nat) (w:vw),Zi F N w (Cl w g xs k)
  | [],_,w=>(Bc F N).refl w
  | x :: r,k,w=>zM (Bc F N) (show Zi F N w (w.setCell ⟨g,k,vD⟩ x) from p4 hg x) (go r (k+1) _)
structure Nv (O:Da) (k:Nat):Prop where
 fair:qO O
 ans:yf O
 le:oc O k
 st:O.st<18446744073709551616
theorem zEO {O:Da} (h:O.st<18446744073709551616) (lab:Nat) (el:List Nat):(ld O lab el).st<18446744073709551616:=by
 unfold ld;split
 ·split
  ·exact h
  ·split
   ·exact mc _ zD
   ·exact h
 ·exact h
theorem zIg {O:Da} {k:Nat} (h:Nv O k) (lab:Nat) (el:List Nat):Nv (ld O lab el) (k+1):=⟨zEg h.fair lab el,TM h.ans lab el,Mq h.le lab el,zEO h.st lab el⟩
structure YS (s:Tr) (k c:Nat):Prop where
 o:Nv s.O k
 st:s.st<18446744073709551616
 ct:s.ct <= c
theorem zJq {s:Tr} {k c:Nat} (h:YS s k c) (tag:Nat) (l:List Nat):YS (Ki s tag l) (k+1) 0:=⟨zIg h.o _ _,Gr (mw h.o.ans _ _),zR⟩
theorem F9 {w:vw} {g:Nat} {O:Da} {F:Nat -> Prop} (h:OrcAt w g O F) (L:Na) (hL:Nb L) (p:Nat) (pub vars:Int) (T B:Option vy) (R cT m d:Nat) (rows:List Ua) (l:List Nat) (hr:RSl 3 je w [ve T R cT] rows) (hD:iH p pub vars rows) (Xa:Yc p pub vars rows=true)
  (hl:RWd w [ve B m d] l) (hO:oc O 1000000) (hm:l.length <= 90000) :
  vB prog 61 #[.pointer (vE ⟨g,0,vD⟩),vf (ib L),Zb p pub vars (ve T R cT),ve B m d] w fun e w' =>
   e=vl (vf #[vd vn ((Zd O L (Jf p pub vars rows) l).st:Int),vd vn 0]) /\ ∃ F',OrcAt w' g (Zd O L (Jf p pub vars rows) l).O F' /\ Moved F F' w w':=by
 obtain ⟨kl,kt,kr,da,jb⟩:=oq w 101 25 129 (ib L) #[vd vn p,vd vq pub,vd vq vars,ve T R cT] #[vd vn 0,vd vn 0];have HDg:=zH (fun w1 (hb:vA w.1.size w w1)=>zGU p pub vars T R cT rows w1 (Pg Og _ _ _ _ hb hr) hD Xa)
 obtain ⟨Tj,Nt,hmx2,Bi,Nw⟩:=Ob hl;obtain ⟨dg,tA⟩:=zEX (Jf p pub vars rows);have hdl:dg<18446744073709551616:=by rw [tA];exact zDy _ _ _ _
 rw [<- tA] at HDg |-;have b1:=hL.b2;have b2:=hL.n2;have b3:=hL.q2;have z1:vn.wrap (L.block:Int)=L.block:=by rw [Kj];omega
 have z2:vn.wrap (L.n:Int)=L.n:=by rw [Kj];omega
 have z3:vn.wrap (L.queries:Int)=L.queries:=by rw [Kj];omega
 have Tm:=zH (show ∀ x∈dg :: L.block :: L.n :: L.queries :: l,x<18446744073709551616 from Qj hdl (Qj zO (Qj zO (Qj zO Bi))))
 have Ff:=zH (show (dg :: L.block :: L.n :: L.queries :: l).length <= 100000 by simp;omega)
 have Rx:=zH Nw;have Ws:=zH h;have HO:=zH hO;obtain ⟨S',zF⟩:∃ S',S'=Zd O L dg l:=⟨_,rfl⟩;have Rh:=zH (show De O 18 (20 :: 1 :: dg :: L.block :: L.n :: L.queries :: l)=S'.st by rw [zF];rfl)
 have yr:=zH (show ld O 18 (20 :: 1 :: dg :: L.block :: L.n :: L.queries :: l)=S'.O by rw [zF];rfl)
 rw [<- zF];have hm':m <= 90000:=by omega
 have nF:∀ b,w.1.size <= b -> ¬F b:=fun b hb e=>by have:=h.lt b e;omega
 have lr0:w.1.size+2<w.1.size+3:=Nat.lt_succ_self _;clear hl hO hm Tj Nt hmx2 Bi Nw zF tA hdl hr hD Xa b1 b2 b3 h jb;unfold ib Zb at *;go_enter func61,ntmps61
 go_upto_region 1 with fail
 generalize ((w.alloc _).alloc _).alloc _=w1 at kl kt kr da |-;obtain ⟨NQ,Oi⟩:=zEX (w1.1.size);have cl:=kl.cell;have ct:=kt.cell;have ll:=kl.lt;have lt:=kt.lt;have KR:=zH kr;have HB:=zH da;clear kl kt kr da Oi;refine zd (Wb) [1,11] [0,2,3,4,5,6,7,8,9,10,1,11,12] zK zK ?_;refine Ue (oa) ?_;intro Wc Ja ea;have xd:=zH (show vA w.1.size w Wc by rw [Ja.out];exact HB.out.drew)
 have zh:=zH (show Blk Wc _ _ _ by rw [Ja.out];exact KR.out.drew)
 clear Ja HB KR;refine Pb ?_;refine Ic oa rfl rfl rfl ((HDg.out Wc xd.out).mono ?_);rintro e wD ⟨rfl,xa⟩;refine ⟨_,rfl,xa,?_⟩;replace ea:=zM oa ea (xa);refine zPU ?_;replace xd:=zH (ma xd.out xa);replace zh:=zH (zh.out.below xa zh.out.lt);have hWD:=zh.out.lt;clear xa;refine Pb ?_;refine Te (oa) rfl rfl rfl ?_;go_simp;have ja:=zA wD (.cells #[vd vn dg,vd vn L.block,vd vn L.n,vd vn L.queries] 22);have Ca:=p9 wD dg L.block L.n L.queries 22;refine ⟨ja,?_⟩;replace ea:=oa.trans _ _ _ ea ja;replace xd:=zH (ma xd.out ja);replace zh:=zH (zh.out.below ja zh.out.lt)
 refine zPU ?_
 have Ey:=ja.size;generalize wD.alloc _=wP at ja Ca xd zh ea Ey |-;have hgA:=xd.out.size;refine Pb ?_;refine Hc ?_;clear ea cl ct ja;generalize wD.1.size=gA at Ca Ey hWD |-;go_wp2_with fail
 refine (zJh 20 wP).mono ?_;rintro e w3 ⟨rfl,Ta⟩;replace xd:=zH (ma xd.out Ta);replace zh:=zH (zh.out.below Ta zh.out.lt);replace Ca:=Mc Ca Ta zR;have hbase3:=zb Ey Ta.size;have Ra:=Rx.out.below xd.out;clear Ta Ey hgA;go_wp2_with (at_builtin;refine Ok rfl _ _ rfl Et rfl Ca rfl Ra (Lq _) zO zO ?_)
 intro v' w4 fV Va Cc;have Db:=Sp Ca Va zO;have mv:=zh.out.below Db hWD;have HB4:=zH (xd.out.trans (Db.mono zO));have hkr:=zJ (l:=dg :: L.block :: L.n :: L.queries :: l) (BG (c:=dg :: L.block :: L.n :: L.queries :: l) fV rfl) Tm.out;have sh:∃ A' c',v'=ve A' (4+m) c':=by obtain ⟨A',c',e,-⟩:=Ud fV;exact ⟨A',c',e⟩
 obtain ⟨Av,cv,rfl⟩:=sh;have zE:=zH (JX (Ws.out.below HB4.out) 20 0 1 Av (4+m) cv (dg :: L.block :: L.n :: L.queries :: l) hkr Ff.out zD zD HO.out);have KR4:=zH mv;have di:=nF (w.1.size+2) (Nat.le_add_right _ _);clear Db hkr fV Ca Ra Va Cc xd zh mv hbase3;go_wp2_with fail
 refine zE.out.mono ?_;rintro _ w5 ⟨rfl,F',h5,m5⟩;rw [yr.out] at h5;simp only [Rh.out];have k5:=KR4.out.moved m5 di;have n5:=Td m5 KR4.out.lt di;have hs5:=eO (x:=vd vn S'.st) (y:=vd vn 0) (gr:=w.1.size+2) ((Zc (F:=F) HB4.out).trans m5) (Nat.le_add_right _ _) h5 n5 k5;have hc5:=k5.cell;have hf5:=k5.frozen;clear h5 m5 k5;go_wp2_with fail
 obtain ⟨s1,s2,s3⟩:=hs5;generalize (w5.setCell _ _).setCell _ _=w6 at s1 s2 s3 |-;have c6:=s3.cell;clear hc5 hf5;exact Sc (by simp [results,results61,go_sem,c6]) rfl ⟨rfl,F',s1,s2⟩
theorem zE3:(prog.info? 238).map (fun i=>(i.zero,i.size,i.bytes))=vE (vE (.pointer vD),1,8):=by kernel_rfl
theorem zEW {w:vw} {g i:Nat} (h:i<3):(Instr.index 239 (vf #[.pointer (vE ⟨g,0,vD⟩), .pointer (vE ⟨g,1,vD⟩), .pointer (vE ⟨g,2,vD⟩)]) (vd vq i)).run prog w= .ok (.pointer (vE ⟨g,i,vD⟩)) w:=by
 obtain ⟨i0,hi,-,hs,-⟩:=info_parts zE3;rcases (show i=0 \/ i=1 \/ i=2 by omega) with rfl | rfl | rfl <;> simp [Instr.index,run_underlying underlying239,asIntOf,part,Result.andThen,isAgg,run_underlying underlying238,sizeOf,typeInfo,hi,hs]
def Zz (s:Tr):Nat -> Tr
 | 0=>s
 | k+1=>Jc (Zz s k)
theorem xT (s:Tr):∀ k,(Zz s k).st=s.st
 | 0=>rfl
 | k+1=>xT s k
theorem wT (s:Tr):∀ k,(Zz s k).ct=s.ct+k
 | 0=>rfl
 | k+1=>by show (Zz s k).ct+1=_;rw [wT s k];omega
theorem J9 {w:vw} {g:Nat} {O:Da} {F:Nat -> Prop} (h:OrcAt w g O F) (st ct:Nat) (kd:st<18446744073709551616) (L:Na) (hp:0<L.p) (Kd:L.p<18446744073709551616) (root:Nat) (hr:root<18446744073709551616) (hO:oc O 900000) :
  vB prog 64 #[.pointer (vE ⟨g,0,vD⟩),vf #[vd vn st,vd vn ct],vf (ib L),vd vn root] w fun e w' =>
   e=vl (.tuple #[vf #[vd vn ((Bl ⟨O,st,ct⟩ L.p root).al:Int),vd vn ((Bl ⟨O,st,ct⟩ L.p root).rh:Int),vd vn ((Bl ⟨O,st,ct⟩ L.p root).be:Int)],vf #[vd vn ((xe ⟨O,st,ct⟩ root).st:Int),vd vn 3]]) /\
   ∃ F',OrcAt w' g (xe ⟨O,st,ct⟩ root).O F' /\ Moved F F' w w':=by
 obtain ⟨ks,kl,kc,kr,da,jb⟩:=sM w 129 101 136 129 #[vd vn st,vd vn ct] (ib L) #[vd vn 0,vd vn 0,vd vn 0] #[vd vn 0,vd vn 0];have Ep:=h.ok.ans;have Tm:=zH (show ∀ x∈[root],x<18446744073709551616 from Qj hr (fun _ h=>nomatch h))
 obtain ⟨Qh,iQ⟩:=zEX (De O 18 [st,2,root]);have Rh:=zH iQ;have Bk:=zH (show Qh<18446744073709551616 by rw [iQ];exact Gr (mw Ep 18 _))
 obtain ⟨a,ha⟩:=zEX (Ki ⟨O,st,ct⟩ 2 [root]);have nA:a.st=Qh:=by rw [ha,iQ];rfl
 have ha2:a.ct=0:=by rw [ha];rfl
 obtain ⟨OO,hOO⟩:∃ OO:Nat -> Da,OO=fun k=>(Zz a k).O:=⟨_,rfl⟩
 obtain ⟨V,hV⟩:∃ V:Nat -> Nat,V=fun k=>Ju (Zz a k)%L.p:=⟨_,rfl⟩
 have HO0:=zH (show ld O 18 [st,2,root]=OO 0 by rw [hOO,ha];rfl)
 have HON:=zH (show ∀ k,ld (OO k) 19 [Qh,k]=OO (k+1) from fun k=>by rw [hOO,<- nA,<- xT a k];show _=ld _ 19 [(Zz a k).st,(Zz a k).ct];rw [wT,ha2,Nj])
 have dt:=zH (show ∀ k,De (OO k) 19 [Qh,k]%L.p=V k from fun k=>by rw [hV,hOO,<- nA,<- xT a k];show _=De _ 19 [(Zz a k).st,(Zz a k).ct]%L.p;rw [wT,ha2,Nj])
 have Gz:=zH (show ∀ k,oc (OO k) (900001+k) from fun k=>by
  induction k with
  | zero=>rw [<- HO0.out];exact Mq hO 18 _
  | succ k ih=>rw [<- HON.out k];exact Mq ih 19 _)
 have Yp:=zH (show Bl ⟨O,st,ct⟩ L.p root=⟨V 0,V 1,V 2⟩ by unfold Bl;rw [<- ha,hV];rfl)
 have Wq:=zH (show (xe ⟨O,st,ct⟩ root).st=Qh /\ (xe ⟨O,st,ct⟩ root).O=OO 3 by unfold xe;rw [<- ha,hOO,<- nA];exact ⟨rfl,rfl⟩)
 rw [Yp.out,Wq.out.1,Wq.out.2];have Ws:=zH h;have HO:=zH hO;have xg:=zH kd;have HP:=zH (And.intro hp Kd);have nF:∀ b,w.1.size <= b -> ¬F b:=fun b hb e=>by have:=h.lt b e;omega
 clear iQ ha nA ha2 hOO hV h hO kd hr hp Kd Ep;unfold ib at *;go_enter func64,ntmps64
 go_upto_region 2 with fail
 generalize (((w.alloc _).alloc _).alloc _).alloc _=w1 at ks kl kc kr da jb |-;obtain ⟨kx,oA⟩:=zN w1 136 #[vd vn 0,vd vn 0,vd vn 0];replace ks:=ia ks oA;replace kl:=ia kl oA;replace kc:=ia kc oA;replace kr:=ia kr oA;replace da:=ma da oA;have jl:w1.1.size=w.1.size+4:=jb;generalize w1.alloc _=w2 at ks kl kc kr kx da |-;rw [jl] at kx;obtain ⟨gx,RU⟩:=zEX (w.1.size+4);rw [<- RU] at kx |-;have aj:=zH RU;have lx2:=kx.lt;clear oA jl jb RU;obtain ⟨kp,ja⟩:=zN w2 22 #[vd vn root];have zE:=zH (JX (Ws.out.below (ma da ja)) st ct 2 (vE ⟨w2.1.size,0,vD⟩) 1 1 [root] (gL (l:=[root]) kp rfl Tm.out (by simp [maxLen])) zS xg.out zD (Le HO.out zD))
 have kH:=zH (ma da ja);have cs:=ks.cell;have lss:=ks.lt;have KS:=zH (ia ks ja);have KL:=zH (ia kl ja);have KC:=zH (ia kc ja);have KR:=zH (ia kr ja);have KX:=zH (ia kx ja);clear kp ja ks kl kc kr kx da lx2;go_wp2_with fail
 refine zE.out.mono ?_;rintro _ w3 ⟨rfl,F1,h3,m3⟩;simp only [<- Rh.out];rw [HO0.out] at h3;have ks:=KS.out.moved m3 (nF _ zR);have kl:=KL.out.moved m3 (nF _ (Nat.le_add_right _ _));have kc:=KC.out.moved m3 (nF _ zO);have kr:=KR.out.moved m3 (nF _ zO);have kx:=KX.out.moved m3 (nF _ (by rw [aj.out];exact Nat.le_add_right _ _))
 have mm:=(Zc (F:=F) kH.out).trans m3;have au:∀ b,w.1.size <= b -> b<w.1.size+5 -> ¬F1 b:=fun b h1 h2=>Td m3 (pd h2 (by have:=KX.out.lt;rw [aj.out] at this;exact this)) (nF b h1)
 have ngx:w.1.size+3<gx:=by rw [aj.out];exact Nat.lt_succ_self _
 have n0:=au _ zR zO;have HO4:=zH ((h3.set n0 (vd vn Qh) (i:=0)).set n0 (vd vn 0) (i:=1));have HM4:=zH (Sg (Sg mm zR 0 (vd vn Qh)) zR 1 (vd vn 0));have NF1:=zH au;have cl:=kl.cell;clear h3 mm m3 n0 au zE kH KS KL KC KR KX cs lss cl;have cs_:=ks.cell;have fs_:=ks.frozen;have ksS:=ZD [vd vn Qh,vd vn 0] ks rfl;have klS:=(iB (g:=w.1.size) zO [vd vn Qh,vd vn 0] 0 w3).trans kl;have kcS:=(iB (g:=w.1.size) zO [vd vn Qh,vd vn 0] 0 w3).trans kc;have krS:=(iB (g:=w.1.size) zO [vd vn Qh,vd vn 0] 0 w3).trans kr;have kxS:=(iB (g:=w.1.size) zO [vd vn Qh,vd vn 0] 0 w3).trans kx;have hsS:w3.1.size <= (Cl w3 (w.1.size) [vd vn Qh,vd vn 0] 0).1.size:=by simp [Cl,vF]
 simp only [Cl,Nj] at ksS klS kcS krS kxS hsS
 try simp only [Nat.reduceAdd] at ksS klS kcS krS kxS hsS
 have OS:=zH ksS;have MS:=zH klS;have LS:=zH kcS;have NS:=zH krS;have QS:=zH kxS;have xY:=zH hsS;clear ksS klS kcS krS kxS ks kl kc kr kx hsS;go_wp2_with fail
 generalize vF (vF (w3) _ _) _ _=w4 at OS MS LS NS QS xY HO4 HM4 |-;clear cs_ fs_;have ks:Blk w4 _ _ _:=OS.out;have kl:Blk w4 _ _ _:=MS.out;have kc:Blk w4 _ _ _:=LS.out;have kr:Blk w4 _ _ _:=NS.out;have kx:Blk w4 _ _ _:=QS.out;clear OS MS LS NS QS;clear xY;go_loopw [23] (fun y wr=>∃ (i:Nat) (F2:Nat -> Prop),i <= 3 /\ y=vd vq i /\ OrcAt wr g (OO i) F2 /\ Moved F F2 w wr /\ Blk wr w.1.size 129 #[vd vn Qh,vd vn i] /\ Blk wr (w.1.size+1) 101 #[vd vn L.p,vd vq L.block,vd vq L.queries,vd vq L.k,vd vq L.n,vd vq L.secret,vd vq L.rows,vd vq L.a,vd vq L.b,vd vq L.b,vd vq L.b] /\ Blk wr (w.1.size+2) 136 #[vd vn 0,vd vn 0,vd vn 0] /\ Blk wr (w.1.size+3) 129 #[vd vn 0,vd vn 0] /\ Blk wr gx 136 (Qa 3 fun k=>if k<i then V k else 0) /\ (∀ b,w.1.size <= b -> b<w.1.size+5 -> ¬F2 b)) (fun y _=>3-(intOf y).toNat)
 case atStart=>exact ⟨0,F1,zD,rfl,HO4.out,HM4.out,ks,kl,kc,kr,kx,NF1.out⟩
 case round =>
  clear ks kl kc kr kx HO4 HM4;obtain ⟨i,F2,hi,rfl,h4,m4,ks,kl,kc,kr,kx,di⟩:=hrel;by_cases ta:i<3
  ·have q1:(0:Int)<=i:=by omega
   have q2:(i:Int)<3:=by omega
   have ix:=fun w=>zEW (w:=w) (g:=gx) ta
   have Xb:=zH ta;obtain ⟨hp,Kd⟩:=HP.out;have HC:=zH (zBk h4 Qh i L.p hp Kd Bk.out zO (Le (Gz.out i) zO));obtain ⟨i1,Cw⟩:=zEX (i+1);rw [<- Cw] at HC;have Mx:=zH Cw;have cs:=ks.cell;have cl:=kl.cell;have H4:=zH h4;clear Cw;clear ta hp Kd h4;go_wp2_with fail
   refine HC.out.mono ?_;rintro _ w5 ⟨rfl,F3,h5,m5⟩;rw [HON.out i,<- Mx.out] at h5;simp only [dt.out i];have k5s:=ks.moved m5 (di _ zR zO);have k5l:=kl.moved m5 (di _ zO zO);have k5c:=kc.moved m5 (di _ zO zO);have k5r:=kr.moved m5 (di _ zO zO);have k5x:=kx.moved m5 (di _ zO (by rw [aj.out];omega))
   have BD:∀ b,w.1.size <= b -> b<w.1.size+5 -> ¬F3 b:=fun b h1 h2=>Td m5 (pd h2 (by have:=kx.lt;rw [aj.out] at this;exact this)) (di b h1 h2)
   have n30:=BD _ zR zO;have n3x:=BD gx zO (by rw [aj.out];omega)
   have mm:=m4.trans m5;have H6:=zH (((h5.set n3x (vd vn (V i:Int)) (i:=i)).set n30 (vd vn Qh) (i:=0)).set n30 (vd vn i1) (i:=1));have M6:=zH (Sg (Sg (Sg mm (show w.1.size <= gx by omega) i (vd vn (V i:Int))) zR 0 (vd vn Qh)) zR 1 (vd vn i1))
   have kx6:=((k5x.set_ i (vd vn (V i:Int))).far (p:=⟨w.1.size,0,vD⟩) (show gx≠w.1.size by omega) (vd vn Qh)).far (p:=⟨w.1.size,1,vD⟩) (show gx≠w.1.size by omega) (vd vn i1)
   rw [Lr,IL,<- Mx.out] at kx6;have KX6:=zH kx6;have KS6:=zH (WH (k5s.far (p:=⟨gx,i,vD⟩) (show w.1.size≠gx by omega) (vd vn (V i:Int))) 0 1 (vd vn Qh) (vd vn i1))
   have KL6:=zH (((k5l.far (p:=⟨gx,i,vD⟩) (show w.1.size+1≠gx by omega) (vd vn (V i:Int))).far (p:=⟨w.1.size,0,vD⟩) (show w.1.size+1≠w.1.size by omega) (vd vn Qh)).far (p:=⟨w.1.size,1,vD⟩) (show w.1.size+1≠w.1.size by omega) (vd vn i1))
   have KC6:=zH (((k5c.far (p:=⟨gx,i,vD⟩) (show w.1.size+2≠gx by omega) (vd vn (V i:Int))).far (p:=⟨w.1.size,0,vD⟩) (show w.1.size+2≠w.1.size by omega) (vd vn Qh)).far (p:=⟨w.1.size,1,vD⟩) (show w.1.size+2≠w.1.size by omega) (vd vn i1))
   have KR6:=zH (((k5r.far (p:=⟨gx,i,vD⟩) (show w.1.size+3≠gx by omega) (vd vn (V i:Int))).far (p:=⟨w.1.size,0,vD⟩) (show w.1.size+3≠w.1.size by omega) (vd vn Qh)).far (p:=⟨w.1.size,1,vD⟩) (show w.1.size+3≠w.1.size by omega) (vd vn i1))
   have NF3:=zH BD;have Ih:=k5x.cell i;rw [Uf _ Xb.out] at Ih;have sc:=k5x.frozen;have Yf:=k5s.cell;have hfs:=k5s.frozen;have nex:w.1.size≠gx:=by omega
   clear h5 m5 mm m4 kx6 k5s k5l k5c k5r k5x BD n30 n3x di ks kl kc kr kx cs cl HC H4;go_wp2;generalize ((w5.setCell ⟨gx,i,vD⟩ _).setCell _ _).setCell _ _=w6 at H6 M6 KX6 KS6 KL6 KC6 KR6 |-;have ks7:Blk w6 w.1.size 129 #[vd vn Qh,vd vn i1]:=by simpa using KS6.out
   clear Ih sc Yf hfs
   go_roundw
   case rel=>exact ⟨i1,F3,by rw [Mx.out];exact Xb.out,by rw [Mx.out];go_num,H6.out,M6.out,ks7,KL6.out,KC6.out,KR6.out,KX6.out,NF3.out⟩
   case measure=>have:=Xb.out;simp [intOf];omega
  ·obtain rfl:i=3:=by omega
   have Kn:Blk wr gx 136 #[vd vn (V 0:Int),vd vn (V 1:Int),vd vn (V 2:Int)]:=kx;have Tt:Blk wr w.1.size 129 #[vd vn Qh,vd vn 3]:=ks;obtain ⟨NQ,Oi⟩:=zEX (wr.1.size);have lx:gx<NQ:=by rw [Oi];exact Kn.lt
   have l1:w.1.size<NQ:=by rw [Oi];exact Tt.lt
   obtain ⟨Vr,hVr⟩:∃ Vr:Nat -> Prop,Vr=fun b=>b=w.1.size+2 \/ b=w.1.size+3:=⟨_,rfl⟩
   have v1:¬Vr w.1.size:=by rw [hVr];omega
   have v2:¬Vr gx:=by rw [hVr];omega
   have Wo:=zH (show Vr (w.1.size+2) by rw [hVr];exact .inl rfl)
   have HV3:=zH (show Vr (w.1.size+3) by rw [hVr];exact .inr rfl)
   have cs:=Tt.cell;have cx:=Kn.cell;have KC:=zH kc;have KR:=zH kr;have H5:=zH h4;have M5:=zH m4;have n2:=di (w.1.size+2) zO zO;have n3:=di (w.1.size+3) zO zO;have ij:=zH Oi;clear ks Tt kl kc kr kx Kn hVr h4 m4 Oi di hi;go_upto_region 8 with fail
   refine SL (Vr) (NH) (NQ) [2,3] [0,1] [] [2,3] zK (RB _) zK ?_;refine VL ?_;intro Wc Ja ea;have ic:Hid (Un Vr NQ NH Wc):=zH (by rw [Ja.out,ij.out];exact ⟨zR,fun _ h=>h.elim,fun _ _ h=>h.elim⟩)
   have KC2:=zH (show Blk Wc _ _ _ by rw [Ja.out];exact KC.out.drew)
   have zh:=zH (show Blk Wc _ _ _ by rw [Ja.out];exact KR.out.drew)
   have H6:=zH (show OrcAt Wc _ _ _ by rw [Ja.out];exact H5.out.drew)
   have M6:=zH (show Moved F F2 w Wc by rw [Ja.out];exact Yw M5.out)
   clear Ja KC KR H5 M5;refine Cx ?_;refine UL [] rfl ic (fun iA wE rf Hp=>?_)
   clear Hp;unfold ki
   try simp only [List.foldl]
   replace KC2:=zH (KC2.out.below rf KC2.out.lt);replace zh:=zH (zh.out.below rf zh.out.lt);replace H6:=zH (H6.out.below rf);replace M6:=zH (M6.out.trans (Zc rf));replace ea:=zM (Bc Vr NQ) ea (uk rf ic.out.size);replace ic:=zH (Ru ic.out rf)
   refine zPU ?_
   clear rf;have cc:=KC2.out.cell;have fc:=KC2.out.frozen;refine Rs ?_;refine Te (Bc Vr NQ) rfl rfl rfl ?_;go_simp;refine ⟨tU Wo.out [vd vn (V 0:Int),vd vn (V 1:Int),vd vn (V 2:Int)] _,?_⟩
   refine zPU ?_
   have kc3:=ZD [vd vn (V 0:Int),vd vn (V 1:Int),vd vn (V 2:Int)] KC2.out rfl;have Lm:=(iB (g:=w.1.size+2) (b:=w.1.size+3) zO [vd vn (V 0:Int),vd vn (V 1:Int),vd vn (V 2:Int)] 0 wE).trans zh.out;simp only [Cl,Nj,Nat.reduceAdd] at kc3 Lm;have h7:=zH (((H6.out.set n2 (vd vn (V 0:Int)) (i:=0)).set n2 (vd vn (V 1:Int)) (i:=1)).set n2 (vd vn (V 2:Int)) (i:=2));have m7:=zH (Sg (Sg (Sg M6.out (show w.1.size <= w.1.size+2 by omega) 0 (vd vn (V 0:Int))) (show w.1.size <= w.1.size+2 by omega) 1 (vd vn (V 1:Int))) (show w.1.size <= w.1.size+2 by omega) 2 (vd vn (V 2:Int)))
   generalize vF (vF (vF wE _ _) _ _) _ _=wG at kc3 Lm h7 m7 |-;have mv:Blk wG _ _ _:=Lm;have cr:=mv.cell;have fr:=mv.frozen;have KC3:=zH kc3;clear kc3 Lm cc fc ea ic H6 M6;have ea:=(Bc Vr NQ).refl wG;refine Rs ?_;refine Te (Bc Vr NQ) rfl rfl rfl ?_;go_simp;refine ⟨tU HV3.out [vd vn Qh,vd vn 3] _,?_⟩
   refine zPU ?_
   refine Hc ?_;have kf:=WH mv 0 1 (vd vn Qh) (vd vn 3);have kcf:=(KC3.out.far (p:=⟨w.1.size+3,0,vD⟩) (show w.1.size+2≠w.1.size+3 by omega) (vd vn Qh)).far (p:=⟨w.1.size+3,1,vD⟩) (show w.1.size+2≠w.1.size+3 by omega) (vd vn 3)
   have h8:=(h7.out.set n3 (vd vn Qh) (i:=0)).set n3 (vd vn 3) (i:=1);have m8:=Sg (Sg m7.out (show w.1.size <= w.1.size+3 by omega) 0 (vd vn Qh)) (show w.1.size <= w.1.size+3 by omega) 1 (vd vn 3)
   generalize vF (vF wG _ _) _ _=wf at kf kcf h8 m8 |-;have cf:=kf.cell;have ccf:=kcf.cell;clear cr fr ea;go_wp2;exact Sc (by simp [results,results64,go_sem,cf,ccf]) rfl ⟨rfl,F2,h8,m8⟩
theorem U9 {w:vw} {g:Nat} {O:Da} {F:Nat -> Prop} (h:OrcAt w g O F) (st ct:Nat) (kd:st<18446744073709551616) (L:Na) (hL:Nb L) (P:ie) (S:PS) (hP:Ji w P S) (hO:oc O 800000) (hlen:(P.code++P.linear++P.quad).length <= 100000) :
  vB prog 66 #[.pointer (vE ⟨g,0,vD⟩),vf #[vd vn st,vd vn ct],vf (ib L),vf (Wd P S)] w fun e w'=>∃ gr d F',e=vl (ve (vE ⟨gr,0,vD⟩) L.queries d) /\
   OrcAt w' g (Xi ⟨O,st,ct⟩ (P.code++P.linear++P.quad) L.queries) F' /\ Moved F F' w w' /\ w'.ownsRow w.1.size 3 1 (ve (vE ⟨gr,0,vD⟩) L.queries d) L.queries (Kl (Ho (Rn ⟨O,st,ct⟩ (P.code++P.linear++P.quad) L.n L.queries))) /\ ¬F' gr:=by
 obtain ⟨ks,kl,kp,da,jb⟩:=oq w 129 101 46 #[vd vn st,vd vn ct] (ib L) (Wd P S);obtain ⟨q1,-,-,e1,r1⟩:=Ob hP.code;obtain ⟨q2,-,-,e2,r2⟩:=Ob hP.linear;obtain ⟨q3,-,-,e3,r3⟩:=Ob hP.quad;have hle:S.n1+S.n2+S.n3 <= 100000:=by simp at hlen;omega
 obtain ⟨all,Gh⟩:=zEX (P.code++P.linear++P.quad);have Co:∀ x∈all,x<18446744073709551616:=fun x hx=>by
  rw [Gh,jq,jq] at hx;rcases hx with (hx | hx) | hx
  ·exact e1 x hx
  ·exact e2 x hx
  ·exact e3 x hx
 have IA:L.queries <= L.n:=by have:=hL.nk;have:=hL.k;omega
 have Xd:=hL.n2;have Ep:=h.ok.ans;obtain ⟨RG,nN⟩:=zEX (De O 18 (st :: 3 :: all));obtain ⟨O2,yF⟩:=zEX (ld O 18 (st :: 3 :: all));have IS:=zH (show RG<18446744073709551616 by rw [nN];exact Gr (mw Ep 18 _))
 have jm:=zH (show oc O2 900000 by rw [yF];exact Le (Mq hO 18 _) zD)
 have hT1:Xi ⟨O,st,ct⟩ (P.code++P.linear++P.quad) L.queries=dc O2 19 (Pj RG 0 L.queries):=by rw [<- Gh,yF,nN];rfl
 have DC:Rn ⟨O,st,ct⟩ (P.code++P.linear++P.quad) L.n L.queries=ox O2 RG 0 L.n L.queries:=by rw [<- Gh,yF,nN];rfl
 rw [hT1,DC];have yr:=zH nN;have mg:=zH yF;have Qk:=zH Gh;have Tm:=zH Co;have Ff:=zH (show all.length <= 100000 by rw [Gh];exact hlen)
 have Jl:=zH q1;have HN2:=zH q2;have HN3:=zH q3;have R1:=zH r1;have R2:=zH r2;have R3:=zH r3;have Ws:=zH h;have HO:=zH hO;have xg:=zH kd;have HQN:=zH IA;have HN:=zH Xd;have nF:∀ b,w.1.size <= b -> ¬F b:=fun b hb e=>by have:=h.lt b e;omega
 clear hT1 DC nN yF Ep Xd IA Co Gh hlen q1 q2 q3 e1 e2 e3 r1 r2 r3 hP hL hO kd h jb;unfold ib Wd at *;go_enter func66,ntmps66
 go_upto_region 1 with fail
 generalize ((w.alloc _).alloc _).alloc _=w1 at ks kl kp da |-;have cp:=kp.cell;have lp:=kp.lt;have Xc:=da.size;have ZE:=zA w1 (.cells #[] 22);have dz:=GN w1 22 (za w1.1.size);have Cj:=(R1.out.below da).below ZE;go_wp2_with (at_builtin;refine Ok rfl _ _ rfl Et rfl dz rfl Cj (Lq _) zO zS ?_)
 intro v2 w2 tL Jp hk2;have Ba:=ZE.trans (Sp dz Jp zS);replace ks:=ia ks Ba;replace kl:=ia kl Ba;replace kp:=ia kp Ba;replace da:=ma da Ba;clear cp dz Cj ZE Jp hk2;have cp:=kp.cell;have gJ:=R2.out.below da;go_wp2_with (at_builtin;refine Ok rfl _ _ rfl Et rfl tL rfl gJ (Lq _) zO (by exact Ba.size) ?_)
 intro v3 w3 uL ah hk3;have Ta:=Sp tL ah Ba.size;have lp0:w.1.size<w1.1.size:=by omega
 have lp1:w.1.size+1<w1.1.size:=by omega
 have ks3:=ks.below Ta lp0;have Ds:=kl.below Ta lp1;have kp3:=kp.below Ta lp;have FU:=da.trans (Ta.mono Xc);have sz3:=zb Ba.size Ta.size;clear cp tL gJ ah hk3 ks kl kp da Ta;have cp:=kp3.cell;have cQ:=R3.out.below FU;go_wp2_with (at_builtin;refine Ok rfl _ _ rfl Et rfl uL rfl cQ (Lq _) zO sz3 ?_)
 intro v4 w4 Kk Aq hk4;have Db:=Sp uL Aq sz3;have ks4:=ks3.below Db lp0;have Uw:=Ds.below Db lp1;have hb04:=FU.trans (Db.mono Xc);have Io:w4.ownsRow w1.1.size 22 1 v4 (S.n1+S.n2+S.n3) (Oa all):=by
  rw [Qk.out]
  simpa [Oa,iq] using Kk
 obtain ⟨nv,hnv⟩:=zEX (S.n1+S.n2+S.n3);rw [<- hnv] at Io;have hv4:∃ A' c',v4=ve A' nv c':=by obtain ⟨A',c',e,-⟩:=Ud Io;exact ⟨A',c',e⟩
 obtain ⟨Av,cv,rfl⟩:=hv4;have HKR:=zH (zJ Io Tm.out);have HB:=zH hb04;have nW0:=nF w.1.size zR;have nW1:=nF (w.1.size+1) (Nat.le_add_right _ _);obtain ⟨NQ,Oi⟩:=zEX (w4.1.size);have ij:=zH Oi;have l0:w.1.size<NQ:=by rw [Oi];exact ks4.lt
 have l1:w.1.size+1<NQ:=by rw [Oi];exact Uw.lt
 have cs:=ks4.cell;have cl:=Uw.cell;clear cp uL cQ Aq hk4 Db ks3 Ds kp3 FU Kk Io ks4 Uw hb04 Ba Xc sz3 lp lp0 lp1 hnv Oi hle;go_upto_region 4 with fail
 have tO:Hid (Un F NQ F w4):=zH (by rw [ij.out];exact zEC (Ws.out.below HB.out).lt)
 refine SL (F) (F) (NQ) [4,9,15] [0,1,2,3,5,6,7,8,4,9,10,11,12] [(13,129,#[vd vn 0,vd vn 0])] [14,15] zK (Rf.2 ⟨⟨_,rfl,rfl,fun a w=>by go_simp <;> rfl⟩,RB _⟩) zK ?_
 refine VL ?_;intro Wc Ja ea;have ic:Hid (Un F NQ F Wc):=zH (by rw [Ja.out];exact ⟨tO.out.size,tO.out.lt,tO.out.old⟩)
 have H8:=zH (show OrcAt Wc g O F by rw [Ja.out];exact (Ws.out.below HB.out).drew)
 have M8:=zH (show Moved F F w Wc by rw [Ja.out];exact Yw (Zc HB.out))
 have uO:=zH (show Ye _ Wc _ _ by rw [Ja.out];exact Vw HKR.out (w':=w4.drew) zR fun _ _ _=>rfl)
 clear Ja tO HKR;refine Cx ?_;refine TL (f:=?_) (vals:=?_) rfl rfl rfl ic ?_ (fun wF Af=>?_)
 rotate_left 3
 replace H8:=zH (H8.out.below Af);replace uO:=zH (Jn uO.out Af);replace M8:=zH (M8.out.trans (Zc Af));replace ea:=zM (Bc F NQ) ea (uk Af ic.out.size);replace ic:=zH (Ru ic.out Af);refine (JX H8.out st ct 3 Av nv cv all uO.out Ff.out xg.out zD (Le HO.out zD)).mono ?_
 rotate_left
 ·intro w_;go_simp <;> rfl
 rintro e w9 ⟨rfl,F4,h9,m9⟩;clear Af;refine ⟨_,F4,rfl,m9,h9.lt,?_⟩;replace ea:=zM (Bc F NQ) ea (tI ic.out (m9));replace ic:=zH (LK ic.out (m9) (h9.lt));refine zPU ?_;rw [<- mg.out] at h9;simp only [<- yr.out];replace H8:=zH h9;replace M8:=zH (M8.out.trans m9);clear h9 m9 uO;refine Cx ?_;refine TL (f:=?_) (vals:=?_) rfl rfl rfl ic ?_ (fun wF Af=>?_)
 rotate_left 3
 replace H8:=zH (H8.out.below Af);replace M8:=zH (M8.out.trans (Zc Af));replace ea:=zM (Bc F NQ) ea (uk Af ic.out.size);replace ic:=zH (Ru ic.out Af);refine (zHw H8.out RG 0 L.n L.queries HN.out HQN.out IS.out zD jm.out).mono ?_
 rotate_left
 ·intro w_;go_simp <;> rfl
 rintro e eH ⟨gr,dr,F5,rfl,h10,Ln,Y8,nr5⟩;clear Af;refine ⟨_,F5,rfl,Ln,h10.lt,?_⟩;replace ea:=zM (Bc F NQ) ea (tI ic.out (Ln));replace ic:=zH (LK ic.out (Ln) (h10.lt));refine zPU ?_;have OW:=zH (yv Y8 M8.out.size);replace H8:=zH h10;replace M8:=zH (M8.out.trans Ln);clear h10 Ln Y8;refine Cx ?_;refine UL [(vE 11,13)] rfl ic (fun iA wE rf Hp=>?_)
 have qI:=Hp.blk _ (.head _) rfl;clear Hp;unfold ki Jo;simp only [List.foldl];dsimp only at qI
 generalize iA 13=g13 at qI  |-;obtain ⟨Ty,XK,mG⟩:=qI;replace H8:=zH (H8.out.below rf);replace M8:=zH (M8.out.trans (Zc rf));replace OW:=zH (Mc OW.out rf zR);replace ea:=zM (Bc F NQ) ea (uk rf ic.out.size);replace ic:=zH (Ru ic.out rf)
 refine zPU ?_
 have cE0:=Ty.cell 0;have cE1:=Ty.cell 1;have fE:=Ty.frozen;have lE:w.1.size <= g13:=by omega
 refine Rs ?_;refine Te (Bc F NQ) rfl rfl rfl ?_;go_simp;refine ⟨uk ((qF _ _ XK).trans (qF _ _ XK)) zR,?_⟩
 refine zPU ?_
 refine Hc ?_;have OWE:=zH (jW OW.out Ty zD);have Wa:gr≠g13:=fun e=>OWE.out gr rfl (by rw [e])
 have M9:=Sg (Sg M8.out lE 0 (vd vn RG)) lE 1 (vd vn L.queries);have H9:=(H8.out.set mG (vd vn RG) (i:=0)).set mG (vd vn L.queries) (i:=1);have OW9:=ji OW.out (u:=(wE.setCell ⟨g13,0,vD⟩ (vd vn RG)).setCell ⟨g13,1,vD⟩ (vd vn L.queries)) fun b hb=>by
  obtain rfl:gr=b:=Ya hb;rw [wg _ ⟨g13,1,vD⟩ _ gr Wa,wg _ ⟨g13,0,vD⟩ _ gr Wa]
 generalize ((wE.setCell ⟨g13,0,vD⟩ (vd vn RG)).setCell ⟨g13,1,vD⟩ (vd vn L.queries))=wZ at M9 H9 OW9 |-;clear cE0 cE1 fE ea;go_wp2;go_ret
 exact ⟨gr,dr,F5,rfl,H9,M9,OW9,nr5⟩
theorem zIM (O:Da) (st ct root:Nat):(xe ⟨O,st,ct⟩ root).O=ld (ld (ld (ld O 18 [st,2,root]) 19 [De O 18 [st,2,root],0]) 19 [De O 18 [st,2,root],1]) 19 [De O 18 [st,2,root],2]:=rfl
theorem iR {O:Da} {k:Nat} (h:oc O k) (st ct root:Nat):oc (xe ⟨O,st,ct⟩ root).O (k+4):=by
 rw [zIM];exact Mq (Mq (Mq (Mq h 18 _) 19 _) 19 _) 19 _
theorem zGO {w:vw} {g:Nat} {O:Da} {F K:Nat -> Prop} (h:OrcAt w g O F) (L:Na) (j:Nat) (hL:Nb L) (hn:L.n=2^j) (hj:j <= 10) (Kd:L.p<18446744073709551616) (p:Nat) (pub:Nat) (vars:Int) (T B:Option vy) (R cT m d:Nat) (rows:List Ua) (l:List Nat) (P:ie) (S:PS)
  (hr:RSl 3 je w [ve T R cT] rows) (hD:iH p (pub:Int) vars rows) (Xa:Yc p (pub:Int) vars rows=true) (hl:RWd w [ve B m d] l) (hP:Hd K w fun u=>Ji u P S) (hK:∀ b,K b -> ¬F b) (hO:oc O 700000)
  (hv:Oh L j P=true) (hm:m=pub) (cJ:m <= 90000) (Gb:l.all (fun x=>decide (x<L.p))=true) (hlen:(P.code++P.linear++P.quad).length <= 100000) (iD:P.root<18446744073709551616) :
  vB prog 175 #[.pointer (vE ⟨g,0,vD⟩),vf (ib L),Zb p (pub:Int) vars (ve T R cT),ve B m d,vf (Wd P S)] w fun e w' =>
   ∃ gr dd F',e=vl (.tuple #[vf #[vd vn ((Bl (Zd O L (Jf p (pub:Int) vars rows) l) L.p P.root).al:Int),vd vn ((Bl (Zd O L (Jf p (pub:Int) vars rows) l) L.p P.root).rh:Int),vd vn ((Bl (Zd O L (Jf p (pub:Int) vars rows) l) L.p P.root).be:Int)],ve (vE ⟨gr,0,vD⟩) L.queries dd]) /\
    OrcAt w' g (Xi (xe (Zd O L (Jf p (pub:Int) vars rows) l) P.root) (P.code++P.linear++P.quad) L.queries) F' /\ Moved F F' w w' /\
    w'.ownsRow w.1.size 3 1 (ve (vE ⟨gr,0,vD⟩) L.queries dd) L.queries (Kl (Ho (Rn (xe (Zd O L (Jf p (pub:Int) vars rows) l) P.root) (P.code++P.linear++P.quad) L.n L.queries))) /\ ¬F' gr:=by
 obtain ⟨kl,kt,kp,kr,da,jb⟩:=sM w 101 25 46 136 (ib L) #[vd vn p,vd vq pub,vd vq vars,ve T R cT] (Wd P S) #[vd vn 0,vd vn 0,vd vn 0];have HV:=zH (fun w1 (hb:vA w.1.size w w1)=>by have:=pW L j P S w1 hL hn hj (Ri hP (yg hb));rw [hv] at this;exact this)
 have HBl:=zH (fun w1 (hb:vA w.1.size w w1)=>by have:=rT B m d l L.p w1 (Ab hb hl);exact this)
 rw [Gb] at HBl;obtain ⟨dg,tA⟩:=zEX (Jf p (pub:Int) vars rows);obtain ⟨s1,Xc⟩:=zEX (Zd O L dg l);have h10:s1.ct=0:=by rw [Xc];rfl
 have eQ:s1.st<18446744073709551616:=by rw [Xc];exact Gr (mw h.ok.ans 18 _)
 have jJ:oc s1.O 700001:=by rw [Xc];exact Mq hO 18 _
 have To:=zH (fun w1 (hb:vA w.1.size w w1)=>by have:=F9 (h.below hb) L hL p (pub:Int) vars T B R cT m d rows l (Pg Og _ _ _ _ hb hr) hD Xa (Ab hb hl) (Le hO zD) (by rw [<- (Ob hl).1];exact cJ);rw [<- tA,<- Xc] at this;exact this)
 rw [<- tA,<- Xc];have Mf:0<L.p:=by have:=Rb hL.p;omega
 have Ws:=zH h;have HP:=zH hP;have HK:=zH hK;have Yn:=zH hL;have Rh:=zH (And.intro h10 (And.intro eQ jJ));have nm:=zH (And.intro Mf (And.intro Kd iD));have HLN:=zH hlen;have HS3:=zH (And.intro (show (xe s1 P.root).st<18446744073709551616 from Gr (mw (by rw [Xc];exact TM h.ok.ans 18 _) 18 _)) (show oc (xe s1 P.root).O 800000 from Le (iR (ct:=s1.ct) jJ s1.st P.root) zD))
 have nF:∀ b,w.1.size <= b -> ¬F b:=fun b hb e=>by have:=h.lt b e;omega
 subst hm;obtain ⟨s2,Dd⟩:=zEX (xe s1 P.root);obtain ⟨ch,Kt⟩:=zEX (Bl s1 L.p P.root);have Wn:=zH (show Bl ⟨s1.O,s1.st,0⟩ L.p P.root=ch from Kt.symm)
 have yr:=zH (show xe ⟨s1.O,s1.st,0⟩ P.root=s2 from Dd.symm)
 have HS2':=zH Dd;rw [<- Dd,<- Kt];rw [<- Dd] at HS3;clear Dd Kt;clear h hL hn hj Kd hr hD Xa hl hP hK hO hv cJ Gb hlen iD tA Xc h10 eQ jJ Mf jb;unfold ib Wd Zb at *;have d1:((m:Int)!=m)=false:=by simp
 go_enter func175,ntmps175
 go_upto_region 1 with fail
 generalize (((w.alloc _).alloc _).alloc _).alloc _=w1 at kl kt kp kr da |-;have cl:=kl.cell;have cp:=kp.cell;go_wp2_with fail
 refine (HV.out w1 da).mono ?_;rintro e w2 ⟨rfl,Ba⟩;replace kl:=ia kl Ba;replace kt:=ia kt Ba;replace kp:=ia kp Ba;replace kr:=ia kr Ba;replace da:=ma da Ba;clear cl cp Ba;have ct:=kt.cell;have cl:=kl.cell;go_wp2_with fail
 refine (HBl.out w2 da).mono ?_;rintro e _ ⟨rfl,rfl⟩;obtain ⟨NQ,Oi⟩:=zEX (w2.1.size);have l0:w.1.size<NQ:=by rw [Oi];exact kl.lt
 have l1:w.1.size+1<NQ:=by rw [Oi];exact kt.lt
 have l2:w.1.size+2<NQ:=by rw [Oi];exact kp.lt
 have n0:=nF w.1.size zR;have n1:=nF (w.1.size+1) (Nat.le_add_right _ _);have n2:=nF (w.1.size+2) (Nat.le_add_right _ _);have cl:=kl.cell;have ct:=kt.cell;have cp:=kp.cell;have ij:=zH Oi;have KL:=zH kl;have KP:=zH kp;have KR:=zH kr;have HB:=zH da;clear Oi kl kt kp kr da;go_upto_region 3 with fail
 refine SL (F) (F) (NQ) [5,9,15,16] [0,1,2,3,4,6,7,8,5,9,10,11,12] [(13,136,#[vd vn 0,vd vn 0,vd vn 0]),(14,129,#[vd vn 0,vd vn 0])] [15,16] zK (Rf.2 ⟨⟨_,rfl,rfl,fun a w=>by go_simp <;> rfl⟩,Rf.2 ⟨⟨_,rfl,rfl,fun a w=>by go_simp <;> rfl⟩,RB _⟩⟩) zK ?_
 refine VL ?_;intro Wc Ja ea;have xd:=zH (show vA w.1.size w Wc by rw [Ja.out];exact HB.out.drew)
 have ic:Hid (Un F NQ F Wc):=zH (by rw [Ja.out,ij.out];exact ⟨zR,(Ws.out.below HB.out).lt,fun _ _ h=>h⟩)
 have M8:=zH (show Moved F F w2 Wc by rw [Ja.out];exact Yw (Zc (tb _ _)))
 clear Ja;refine Cx ?_;refine TL (f:=?_) (vals:=?_) rfl rfl rfl ic ?_ (fun wF Af=>?_)
 rotate_left 3
 replace xd:=zH (ma xd.out Af);replace M8:=zH (M8.out.trans (Zc Af));replace ea:=zM (Bc F NQ) ea (uk Af ic.out.size);replace ic:=zH (Ru ic.out Af);refine (To.out wF xd.out).mono ?_
 rotate_left
 ·intro w_;go_simp <;> rfl
 rintro e wA ⟨rfl,F1,h1,m1⟩;clear Af;refine ⟨_,F1,rfl,m1,h1.lt,?_⟩;replace ea:=zM (Bc F NQ) ea (tI ic.out (m1));replace ic:=zH (LK ic.out (m1) (h1.lt));refine zPU ?_;have H8:=zH h1;replace M8:=zH (M8.out.trans m1);clear h1 m1 xd;refine Cx ?_;refine TL (f:=?_) (vals:=?_) rfl rfl rfl ic ?_ (fun wF Af=>?_)
 rotate_left 3
 replace H8:=zH (H8.out.below Af);replace M8:=zH (M8.out.trans (Zc Af));replace ea:=zM (Bc F NQ) ea (uk Af ic.out.size);replace ic:=zH (Ru ic.out Af);refine (J9 H8.out s1.st 0 Rh.out.2.1 L nm.out.1 nm.out.2.1 P.root nm.out.2.2 (Le Rh.out.2.2 zD)).mono ?_
 rotate_left
 ·intro w_;go_simp <;> rfl
 rintro e wB ⟨rfl,F2,h2,m2⟩;clear Af;refine ⟨_,F2,rfl,m2,h2.lt,?_⟩;replace ea:=zM (Bc F NQ) ea (tI ic.out (m2));replace ic:=zH (LK ic.out (m2) (h2.lt));refine zPU ?_;rw [yr.out] at h2;simp only [Wn.out,yr.out];replace H8:=zH h2;replace M8:=zH (M8.out.trans m2);clear h2 m2;refine Cx ?_;refine UL [(vE 12,13),(vE 13,14)] rfl ic (fun iA wE rf Hp=>?_)
 have qI:=Hp.blk _ (.head _) rfl;have jU:=Hp.blk _ (.tail _ (.head _)) rfl;have pL:=Hp.dif _ (.head _) _ (.tail _ (.head _)) rfl rfl zD;clear Hp;unfold ki Jo;simp only [List.foldl];dsimp only at qI jU pL
 generalize iA 13=g13 at qI pL |-;obtain ⟨Ty,XK,mG⟩:=qI;generalize iA 14=g14 at jU pL |-;obtain ⟨k14,TP,lQ⟩:=jU;replace H8:=zH (H8.out.below rf);replace M8:=zH (M8.out.trans (Zc rf));replace ea:=zM (Bc F NQ) ea (uk rf ic.out.size);replace ic:=zH (Ru ic.out rf)
 refine zPU ?_
 have tN:w2.1.size <= g13:=by rw [<- ij.out];exact XK
 have GQ:w2.1.size <= g14:=by rw [<- ij.out];exact TP
 have KRL:=zH (show w.1.size+3<g13 /\ w.1.size+3<g14 from ⟨pd KR.out.lt tN,pd KR.out.lt GQ⟩)
 have c13:=Ty.cell;have f13:=Ty.frozen;refine Rs ?_;refine Te (Bc F NQ) rfl rfl rfl ?_;go_simp;refine ⟨uk (QR XK [vd vn ch.al,vd vn ch.rh,vd vn ch.be] 0 _) zR,?_⟩
 refine zPU ?_
 have rQ:=ZD [vd vn ch.al,vd vn ch.rh,vd vn ch.be] Ty rfl;have sQ:=(iB (g:=g13) (b:=g14) (fun e=>pL e.symm) [vd vn ch.al,vd vn ch.rh,vd vn ch.be] 0 wE).trans k14
 simp only [Cl,Nj,Nat.reduceAdd] at rQ sQ;have h9:=zH (((H8.out.set mG (vd vn ch.al) (i:=0)).set mG (vd vn ch.rh) (i:=1)).set mG (vd vn ch.be) (i:=2));have m9:=zH (Sg (Sg (Sg M8.out tN 0 (vd vn ch.al)) tN 1 (vd vn ch.rh)) tN 2 (vd vn ch.be));generalize vF (vF (vF wE _ _) _ _) _ _=wG at rQ sQ h9 m9 |-;have tQ:Blk wG g14 _ _:=sQ;have c14:=tQ.cell;have f14:=tQ.frozen;have K13:=zH rQ;clear c13 f13 Ty k14 rQ sQ ea ic H8 M8 rf;have ea:=(Bc F NQ).refl wG;refine Rs ?_;refine Te (Bc F NQ) rfl rfl rfl ?_;go_simp;refine ⟨uk ((qF _ _ TP).trans (qF _ _ TP)) zR,?_⟩
 refine zPU ?_
 refine Hc ?_;have zV:=WH tQ 0 1 (vd vn s2.st) (vd vn 3);have xV:=(K13.out.far (p:=⟨g14,0,vD⟩) pL (vd vn s2.st)).far (p:=⟨g14,1,vD⟩) pL (vd vn 3);have h10:=(h9.out.set lQ (vd vn s2.st) (i:=0)).set lQ (vd vn 3) (i:=1);have Ln:=Sg (Sg m9.out GQ 0 (vd vn s2.st)) GQ 1 (vd vn 3);generalize vF (vF wG _ _) _ _=wZ at zV xV h10 Ln |-;have yV:Blk wZ g14 129 #[vd vn s2.st,vd vn 3]:=by simpa using zV
 have klz:=KL.out.moved Ln n0;have yJ:=KP.out.moved Ln n2;have n3:=nF (w.1.size+3) (Nat.le_add_right _ _);have krz:=KR.out.moved Ln n3;have n3z:=Td Ln KR.out.lt n3;have nlz:=Td Ln KL.out.lt n0;have npz:=Td Ln KP.out.lt n2;have MZ:=zH ((Zc (F:=F) HB.out).trans Ln);have HZ:=zH h10;clear c14 f14 ea zV tQ K13 h9 m9 h10 Ln KL KP KR cl ct cp l0 l1 l2;have vV:Blk wZ g13 136 #[vd vn ch.al,vd vn ch.rh,vd vn ch.be]:=xV;have nz13:¬F2 g13:=mG;have nz14:¬F2 g14:=lQ;obtain ⟨NZ,hNZ⟩:=zEX (wZ.1.size);have l13:g13<NZ:=by rw [hNZ];exact vV.lt
 have l14:g14<NZ:=by rw [hNZ];exact yV.lt
 have ll:w.1.size<NZ:=by rw [hNZ];exact klz.lt
 have lp:w.1.size+2<NZ:=by rw [hNZ];exact yJ.lt
 have q13:g13≠w.1.size+3:=fun e=>by have:=KRL.out;omega
 have q14:g14≠w.1.size+3:=fun e=>by have:=KRL.out;omega
 obtain ⟨V0,Ay⟩:∃ V0:Nat -> Prop,V0=fun b=>F2 b \/ b=w.1.size+3:=⟨_,rfl⟩
 have Ps:¬V0 g13:=by rw [Ay];exact fun e=>e.elim nz13 q13
 have w14:¬V0 g14:=by rw [Ay];exact fun e=>e.elim nz14 q14
 have wl:¬V0 w.1.size:=by rw [Ay];exact fun e=>e.elim nlz (fun e=>zO)
 have wp:¬V0 (w.1.size+2):=by rw [Ay];exact fun e=>e.elim npz (fun e=>zO)
 have HV0:=zH (show V0 (w.1.size+3) by rw [Ay];exact .inr rfl)
 have ao:=zH (show ∀ b,F2 b -> V0 b from fun b e=>by rw [Ay];exact .inl e)
 have c13:=vV.cell;have c14:=yV.cell;have cl:=klz.cell;have cp:=yJ.cell;have KR:=zH krz;have HNZ:=zH hNZ;have AG:=zH (Ml (K:=K) MZ.out HK.out);clear vV xV yV klz yJ krz hNZ Ay nlz npz nz13 nz14 mG lQ XK TP tN GQ q13 q14;go_upto_region 4 with fail
 have Ys:=zH (fun w1 F1 (h1:OrcAt w1 g s2.O F1) (zf:Ji w1 P S)=>by have:=U9 h1 s2.st 3 HS3.out.1 L Yn.out P S zf HS3.out.2 HLN.out;unfold ib Wd at this;exact this)
 refine SL (V0) (F2) (NZ) [5,6] [0,1,2,3,4,5] [] [6,7] zK (RB _) zK ?_;refine VL ?_;intro Wc Ja ea;have ic:Hid (Un V0 NZ F2 Wc):=zH (by rw [Ja.out,HNZ.out];exact ⟨zR,HZ.out.lt,fun b _ h=>ao.out b h⟩)
 have H8:=zH (show OrcAt Wc g s2.O F2 by rw [Ja.out];exact HZ.out.drew)
 have M8:=zH (show Moved F F2 w Wc by rw [Ja.out];exact Yw MZ.out)
 have KR8:=zH (show Blk Wc _ _ _ by rw [Ja.out];exact KR.out.drew)
 have HP8:=zH (show Hd K Wc _ by rw [Ja.out];exact te HP.out (XB AG.out FY))
 clear Ja HZ MZ KR HP AG;refine Cx ?_;refine TL (f:=?_) (vals:=?_) rfl rfl rfl ic ?_ (fun wF Af=>?_)
 rotate_left 3
 replace H8:=zH (H8.out.below Af);replace M8:=zH (M8.out.trans (Zc Af));replace KR8:=zH (KR8.out.below Af KR8.out.lt);replace HP8:=zH (te HP8.out (yg Af));replace ea:=zM (Bc V0 NZ) ea (uk Af ic.out.size);replace ic:=zH (Ru ic.out Af);refine (Ys.out wF F2 H8.out (qh HP8.out)).mono ?_
 rotate_left
 ·intro w_;go_simp <;> rfl
 rintro e wB ⟨gr,dr,F3,rfl,h3,m3,uL,n3r⟩;clear Af;refine ⟨_,F3,rfl,m3,h3.lt,?_⟩;replace ea:=zM (Bc V0 NZ) ea (tI ic.out (m3));replace ic:=zH (LK ic.out (m3) (h3.lt));refine zPU ?_;have OW:=zH (yv uL M8.out.size);have GH:=zH (KR8.out.moved m3 n3z);have n39:=Td m3 KR8.out.lt n3z;replace H8:=zH h3;replace M8:=zH (M8.out.trans m3);clear h3 m3 uL KR8 HP8;refine Cx ?_;refine UL [] rfl ic (fun iA wE rf Hp=>?_)
 clear Hp;unfold ki
 try simp only [List.foldl]
 replace H8:=zH (H8.out.below rf);replace M8:=zH (M8.out.trans (Zc rf));replace GH:=zH (GH.out.below rf GH.out.lt);replace OW:=zH (Mc OW.out rf zR);replace ea:=zM (Bc V0 NZ) ea (uk rf ic.out.size);replace ic:=zH (Ru ic.out rf)
 refine zPU ?_
 clear rf;have cr:=GH.out.cell;have fr:=GH.out.frozen;refine Rs ?_;refine Te (Bc V0 NZ) rfl rfl rfl ?_;go_simp;refine ⟨tU HV0.out [vd vn ch.al,vd vn ch.rh,vd vn ch.be] _,?_⟩
 refine zPU ?_
 have kf:=ZD [vd vn ch.al,vd vn ch.rh,vd vn ch.be] GH.out rfl;simp only [Cl,Nj,Nat.reduceAdd] at kf;have h9:=((H8.out.set n39 (vd vn ch.al) (i:=0)).set n39 (vd vn ch.rh) (i:=1)).set n39 (vd vn ch.be) (i:=2);have lr:w.1.size <= w.1.size+3:=Nat.le_add_right _ _;have m9:=Sg (Sg (Sg M8.out lr 0 (vd vn ch.al)) lr 1 (vd vn ch.rh)) lr 2 (vd vn ch.be);have OWE:=zH (jW OW.out GH.out zD);have Wa:gr≠w.1.size+3:=fun e=>OWE.out gr rfl (by rw [e])
 have OW9:=ji OW.out (u:=((wE.setCell ⟨w.1.size+3,0,vD⟩ (vd vn ch.al)).setCell ⟨w.1.size+3,1,vD⟩ (vd vn ch.rh)).setCell ⟨w.1.size+3,2,vD⟩ (vd vn ch.be)) fun b hb=>by
  obtain rfl:gr=b:=Ya hb;rw [wg _ ⟨w.1.size+3,2,vD⟩ _ gr Wa,wg _ ⟨w.1.size+3,1,vD⟩ _ gr Wa,wg _ ⟨w.1.size+3,0,vD⟩ _ gr Wa]
 generalize vF (vF (vF wE _ _) _ _) _ _=wf at kf h9 m9 OW9 |-;have cf:=kf.cell;clear cr fr ea ic;have ea:=(Bc V0 NZ).refl wf;refine Rs ?_;refine Hc ?_;go_wp2;exact Sc (by simp [results,results175,go_sem,cf]) rfl ⟨gr,dr,F3,rfl,h9,m9,OW9,n3r⟩
def ND (real:Bool) (Gg:Nat):Da:=if real then ⟨false,0,0,[]⟩ else ⟨true,Gg,0,[]⟩
abbrev uT (p:Nat) (pub vars:Int) (A B:Option vy) (n c m d:Nat) (bl bw qs coin:Int) (real:Bool) (Gg:Nat):Array vx :=
 #[vd vn p,vd vq pub,vd vq vars,ve A n c,vd vq bl,vd vq bw,vd vq qs,ve B m d,vd vn coin, .bool real,vd vn Gg]
end Go.Proofs.YteoghgbnielkpaaGreat
