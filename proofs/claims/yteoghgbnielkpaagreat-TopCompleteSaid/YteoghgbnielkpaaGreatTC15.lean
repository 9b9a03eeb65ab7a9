/- A part of the proof. No condition. -/
import Derived.Test.YteoghgbnielkpaaGreatTC13
import Derived.Test.YteoghgbnielkpaaGreatTC14

set_option maxRecDepth 100000
set_option maxHeartbeats 8000000
set_option linter.unusedVariables false
set_option linter.unusedSimpArgs false
namespace Go.Proofs.YteoghgbnielkpaaGreat
open Go.RowKit Go.Maps
open Tryz
open Go renaming World->vw, Value->vx, Addr->vy, Calls->vB
open Go.Value renaming int->vd, slice->ve, agg->vf
open Go.IntKind renaming u64->vn, i64->vq
open Go.Ending renaming returned->vl
open Go.RowKit renaming Below->vA
open Go.World renaming setCell->vF
open Go.Act renaming put->vG
open Option renaming none->vD, some->vE
theorem zCe (p:Nat) (pub vars:Int) (rows:List Ua):Cf p pub vars rows<18446744073709551616:=by
 unfold Cf;split
 ·exact Fs (nN _ _)
 ·decide
theorem pT {F:Nat -> Prop} {N g:Nat} (hg:F g):∀ (xs:List vx) (w:vw),Ji F N w (ao w g xs 0):=fun xs w=>go xs 0 w
where
 go:∀ (xs:List vx) (k:Nat) (w:vw),Ji F N w (ao w g xs k)
  | [],_,w=>(Cc F N).refl w
  | x :: r,k,w=>(Cc F N).trans _ _ _ (show Ji F N w (w.setCell ⟨g,k,vD⟩ x) from BZ hg x) (go r (k+1) _)
structure du (O:Ha) (k:Nat):Prop where
 fair:kL O
 ans:Gl O
 le:pc O k
 st:O.st<18446744073709551616
theorem zDs {O:Ha} (h:O.st<18446744073709551616) (lab:Nat) (el:List Nat):(Pc O lab el).st<18446744073709551616:=by
 unfold Pc;split
 ·split
  ·exact h
  ·split
   ·exact ic _ (by decide)
   ·exact h
 ·exact h
theorem zGU {O:Ha} {k:Nat} (h:du O k) (lab:Nat) (el:List Nat):du (Pc O lab el) (k+1):=⟨nZ h.fair lab el,KO h.ans lab el,pq h.le lab el,zDs h.st lab el⟩
structure SR (s:Tr) (k c:Nat):Prop where
 o:du s.O k
 st:s.st<18446744073709551616
 ct:s.ct <= c
theorem zHW {s:Tr} {k c:Nat} (h:SR s k c) (tag:Nat) (l:List Nat):SR (Kg s tag l) (k+1) 0:=⟨zGU h.o _ _,Fs (Mz h.o.ans _ _),zR⟩
theorem v7 {w:vw} {g:Nat} {O:Ha} {F:Nat -> Prop} (h:OrcAt w g O F) (L:Ma) (hL:Lb L) (p:Nat) (pub vars:Int) (T B:Option vy) (R cT m d:Nat) (rows:List Ua) (l:List Nat) (hr:RSl 3 Ud w [ve T R cT] rows) (hD:yG p pub vars rows) (Xa:Nc p pub vars rows=true)
  (hl:RWd w [ve B m d] l) (hO:pc O 1000000) (hm:l.length <= 90000) :
  vB prog 61 #[.pointer (vE ⟨g,0,vD⟩),vf (jb L),Tb p pub vars (ve T R cT),ve B m d] w fun e w' =>
   e=vl (vf #[vd vn ((Jd O L (Cf p pub vars rows) l).st:Int),vd vn 0]) /\ ∃ F',OrcAt w' g (Jd O L (Cf p pub vars rows) l).O F' /\ Moved F F' w w':=by
 obtain ⟨kl,kt,kr,da,ib⟩:=Sp w 101 25 129 (jb L) #[vd vn p,vd vq pub,vd vq vars,ve T R cT] #[vd vn 0,vd vn 0];have HDg:=zH (fun w1 (hb:vA w.1.size w w1)=>zFu p pub vars T R cT rows w1 (Dg Bg _ _ _ _ hb hr) hD Xa)
 obtain ⟨zj,Xs,hmx2,Jk,dA⟩:=Nb hl;obtain ⟨dg,Rz⟩:=zEX (Cf p pub vars rows);have hdl:dg<18446744073709551616:=by rw [Rz];exact zCe _ _ _ _
 rw [<- Rz] at HDg |-;have b1:=hL.b2;have b2:=hL.n2;have b3:=hL.q2;have z1:vn.wrap (L.block:Int)=L.block:=by rw [pj];omega
 have z2:vn.wrap (L.n:Int)=L.n:=by rw [pj];omega
 have z3:vn.wrap (L.queries:Int)=L.queries:=by rw [pj];omega
 have zm:=zH (show ∀ x∈dg :: L.block :: L.n :: L.queries :: l,x<18446744073709551616 from sj hdl (sj (by omega) (sj (by omega) (sj (by omega) Jk))))
 have Rg:=zH (show (dg :: L.block :: L.n :: L.queries :: l).length <= 100000 by simp;omega)
 have tx:=zH dA;have Sr:=zH h;have HO:=zH hO;obtain ⟨S',KE⟩:∃ S',S'=Jd O L dg l:=⟨_,rfl⟩;have Bh:=zH (show me O 18 (20 :: 1 :: dg :: L.block :: L.n :: L.queries :: l)=S'.st by rw [KE];rfl)
 have Hq:=zH (show Pc O 18 (20 :: 1 :: dg :: L.block :: L.n :: L.queries :: l)=S'.O by rw [KE];rfl)
 rw [<- KE];have hm':m <= 90000:=by omega
 have nF:∀ b,w.1.size <= b -> ¬F b:=fun b hb e=>by have:=h.lt b e;omega
 have lr0:w.1.size+2<w.1.size+3:=Nat.lt_succ_self _;clear hl hO hm zj Xs hmx2 Jk dA KE Rz hdl hr hD Xa b1 b2 b3 h ib;unfold jb Tb at *;go_enter func61,ntmps61
 go_upto_region 1 with fail
 generalize ((w.alloc _).alloc _).alloc _=w1 at kl kt kr da |-;obtain ⟨NQ,Xg⟩:=zEX (w1.1.size);have cl:=kl.cell;have ct:=kt.cell;have ll:=kl.lt;have lt:=kt.lt;have KR:=zH kr;have HB:=zH da;clear kl kt kr da Xg;refine zd (Ub) [1,11] [0,2,3,4,5,6,7,8,9,10,1,11,12] (by kernel_rfl) (by kernel_rfl) ?_
 refine Se (ra) ?_;intro Wc Ja ia;have He:=zH (show vA w.1.size w Wc by rw [Ja.out];exact HB.out.drew)
 have Mi:=zH (show Blk Wc _ _ _ by rw [Ja.out];exact KR.out.drew)
 clear Ja HB KR;refine Qb ?_;refine Bc (ra) rfl rfl rfl (fun _=>by go_simp <;> rfl) ((HDg.out Wc He.out).mono ?_)
 rintro e wD ⟨rfl,xa⟩;refine ⟨_,rfl,xa,?_⟩;replace ia:=(ra).trans _ _ _ ia (xa);refine zPU ?_;replace He:=zH (pa He.out xa);replace Mi:=zH (Mi.out.below xa Mi.out.lt);have hWD:=Mi.out.lt;clear xa;refine Qb ?_;refine ef (ra) rfl rfl rfl ?_;go_simp;have ma:=(Ca wD.1.size wD).alloc zR (.cells #[vd vn dg,vd vn L.block,vd vn L.n,vd vn L.queries] 22);have Aa:=X6 wD dg L.block L.n L.queries 22;refine ⟨ma,?_⟩;replace ia:=ra.trans _ _ _ ia ma;replace He:=zH (pa He.out ma);replace Mi:=zH (Mi.out.below ma Mi.out.lt)
 refine zPU ?_
 have cy:=ma.size;generalize wD.alloc _=wP at ma Aa He Mi ia cy |-;have hgA:=He.out.size;refine Qb ?_;refine Jc ?_;clear ia cl ct ma;generalize wD.1.size=gA at Aa cy hWD |-;go_wp2_with fail
 refine (zHN 20 wP).mono ?_;rintro e w3 ⟨rfl,Sa⟩;replace He:=zH (pa He.out Sa);replace Mi:=zH (Mi.out.below Sa Mi.out.lt);replace Aa:=Mc Aa Sa zR;have hbase3:=xb cy Sa.size;have Ra:=tx.out.below He.out;clear Sa cy hgA;go_wp2_with (at_builtin;refine uk rfl _ _ rfl Ls rfl Aa rfl Ra (oq _) (by omega) (by omega) ?_)
 intro v' w4 gU Wa Dc;have Ab:=tp Aa Wa (by omega)
 have Gu:=Mi.out.below Ab hWD;have HB4:=zH (He.out.trans (Ab.mono (by omega)))
 have hkr:=PI (l:=dg :: L.block :: L.n :: L.queries :: l) (MF (c:=dg :: L.block :: L.n :: L.queries :: l) gU rfl) zm.out;have ah:∃ A' c',v'=ve A' (4+m) c':=by obtain ⟨A',c',e,-⟩:=de gU;exact ⟨A',c',e⟩
 obtain ⟨Av,cv,rfl⟩:=ah;have KD:=zH (DW (Sr.out.below HB4.out) 20 0 1 Av (4+m) cv (dg :: L.block :: L.n :: L.queries :: l) hkr Rg.out (by decide) (by decide) HO.out)
 have KR4:=zH Gu;have Mh:=nF (w.1.size+2) (Nat.le_add_right _ _);clear Ab hkr gU Aa Ra Wa Dc He Mi Gu hbase3;go_wp2_with fail
 refine KD.out.mono ?_;rintro _ w5 ⟨rfl,F',h5,m5⟩;rw [Hq.out] at h5;simp only [Bh.out];have k5:=KR4.out.moved m5 Mh;have n5:=Sd m5 KR4.out.lt Mh;have hs5:=jN (x:=vd vn S'.st) (y:=vd vn 0) (gr:=w.1.size+2) ((Qc (F:=F) HB4.out).trans m5) (Nat.le_add_right _ _) h5 n5 k5;have hc5:=k5.cell;have hf5:=k5.frozen;clear h5 m5 k5;go_wp2_with fail
 obtain ⟨s1,s2,s3⟩:=hs5;generalize (w5.setCell _ _).setCell _ _=w6 at s1 s2 s3 |-;have c6:=s3.cell;clear hc5 hf5;exact Tc (by simp [results,results61,go_sem,c6]) rfl ⟨rfl,F',s1,s2⟩
theorem zDH:(prog.info? 238).map (fun i=>(i.zero,i.size,i.bytes))=vE (vE (.pointer vD),1,8):=by kernel_rfl
theorem zDB {w:vw} {g i:Nat} (h:i<3):(Instr.index 239 (vf #[.pointer (vE ⟨g,0,vD⟩), .pointer (vE ⟨g,1,vD⟩), .pointer (vE ⟨g,2,vD⟩)]) (vd vq i)).run prog w= .ok (.pointer (vE ⟨g,i,vD⟩)) w:=by
 obtain ⟨i0,hi,-,hs,-⟩:=info_parts zDH;rcases (show i=0 \/ i=1 \/ i=2 by omega) with rfl | rfl | rfl <;> simp [Instr.index,run_underlying underlying239,asIntOf,part,Result.andThen,isAgg,run_underlying underlying238,sizeOf,typeInfo,hi,hs]
def zz (s:Tr):Nat -> Tr
 | 0=>s
 | k+1=>uc (zz s k)
theorem sS (s:Tr):∀ k,(zz s k).st=s.st
 | 0=>rfl
 | k+1=>sS s k
theorem rS (s:Tr):∀ k,(zz s k).ct=s.ct+k
 | 0=>rfl
 | k+1=>by show (zz s k).ct+1=_;rw [rS s k];omega
theorem A7 {w:vw} {g:Nat} {O:Ha} {F:Nat -> Prop} (h:OrcAt w g O F) (st ct:Nat) (Sc:st<18446744073709551616) (L:Ma) (hp:0<L.p) (Wd:L.p<18446744073709551616) (root:Nat) (hr:root<18446744073709551616) (hO:pc O 900000) :
  vB prog 64 #[.pointer (vE ⟨g,0,vD⟩),vf #[vd vn st,vd vn ct],vf (jb L),vd vn root] w fun e w' =>
   e=vl (.tuple #[vf #[vd vn ((fj ⟨O,st,ct⟩ L.p root).al:Int),vd vn ((fj ⟨O,st,ct⟩ L.p root).rh:Int),vd vn ((fj ⟨O,st,ct⟩ L.p root).be:Int)],vf #[vd vn ((Td ⟨O,st,ct⟩ root).st:Int),vd vn 3]]) /\
   ∃ F',OrcAt w' g (Td ⟨O,st,ct⟩ root).O F' /\ Moved F F' w w':=by
 obtain ⟨ks,kl,kc,kr,da,ib⟩:=BL w 129 101 136 129 #[vd vn st,vd vn ct] (jb L) #[vd vn 0,vd vn 0,vd vn 0] #[vd vn 0,vd vn 0];have Ev:=h.ok.ans;have zm:=zH (show ∀ x∈[root],x<18446744073709551616 from sj hr (fun _ h=>nomatch h))
 obtain ⟨Ah,jP⟩:=zEX (me O 18 [st,2,root]);have Bh:=zH jP;have dm:=zH (show Ah<18446744073709551616 by rw [jP];exact Fs (Mz Ev 18 _))
 obtain ⟨a,ha⟩:=zEX (Kg ⟨O,st,ct⟩ 2 [root]);have Kz:a.st=Ah:=by rw [ha,jP];rfl
 have ha2:a.ct=0:=by rw [ha];rfl
 obtain ⟨OO,hOO⟩:∃ OO:Nat -> Ha,OO=fun k=>(zz a k).O:=⟨_,rfl⟩
 obtain ⟨V,hV⟩:∃ V:Nat -> Nat,V=fun k=>Mo (zz a k)%L.p:=⟨_,rfl⟩
 have HO0:=zH (show Pc O 18 [st,2,root]=OO 0 by rw [hOO,ha];rfl)
 have HON:=zH (show ∀ k,Pc (OO k) 19 [Ah,k]=OO (k+1) from fun k=>by rw [hOO,<- Kz,<- sS a k];show _=Pc _ 19 [(zz a k).st,(zz a k).ct];rw [rS,ha2,Lj])
 have Yr:=zH (show ∀ k,me (OO k) 19 [Ah,k]%L.p=V k from fun k=>by rw [hV,hOO,<- Kz,<- sS a k];show _=me _ 19 [(zz a k).st,(zz a k).ct]%L.p;rw [rS,ha2,Lj])
 have Vy:=zH (show ∀ k,pc (OO k) (900001+k) from fun k=>by
  induction k with
  | zero=>rw [<- HO0.out];exact pq hO 18 _
  | succ k ih=>rw [<- HON.out k];exact pq ih 19 _)
 have Jp:=zH (show fj ⟨O,st,ct⟩ L.p root=⟨V 0,V 1,V 2⟩ by unfold fj;rw [<- ha,hV];rfl)
 have Bq:=zH (show (Td ⟨O,st,ct⟩ root).st=Ah /\ (Td ⟨O,st,ct⟩ root).O=OO 3 by unfold Td;rw [<- ha,hOO,<- Kz];exact ⟨rfl,rfl⟩)
 rw [Jp.out,Bq.out.1,Bq.out.2];have Sr:=zH h;have HO:=zH hO;have ig:=zH Sc;have HP:=zH (And.intro hp Wd);have nF:∀ b,w.1.size <= b -> ¬F b:=fun b hb e=>by have:=h.lt b e;omega
 clear jP ha Kz ha2 hOO hV h hO Sc hr hp Wd Ev;unfold jb at *;go_enter func64,ntmps64
 go_upto_region 2 with fail
 generalize (((w.alloc _).alloc _).alloc _).alloc _=w1 at ks kl kc kr da ib |-;have kx:=Blk.new w1 136 #[vd vn 0,vd vn 0,vd vn 0];have Lz:=(Ca w1.1.size w1).alloc zR (.cells #[vd vn 0,vd vn 0,vd vn 0] 136);replace ks:=ja ks Lz;replace kl:=ja kl Lz;replace kc:=ja kc Lz;replace kr:=ja kr Lz;replace da:=pa da Lz;have Mk:w1.1.size=w.1.size+4:=ib;generalize w1.alloc _=w2 at ks kl kc kr kx da |-;rw [Mk] at kx;obtain ⟨gx,TT⟩:=zEX (w.1.size+4);rw [<- TT] at kx |-;have Ki:=zH TT;have lx2:=kx.lt;clear Lz Mk ib TT;have ma:=(Ca w2.1.size w2).alloc zR (.cells #[vd vn root] 22);have kp:=Blk.new w2 22 #[vd vn root];have KD:=zH (DW (Sr.out.below (pa da ma)) st ct 2 (vE ⟨w2.1.size,0,vD⟩) 1 1 [root] (nK (l:=[root]) kp rfl zm.out (by simp [maxLen])) (by simp) ig.out (by decide) (uf HO.out (by decide)))
 have HB3:=zH (pa da ma);have cs:=ks.cell;have lss:=ks.lt;have KS:=zH (ja ks ma);have KL:=zH (ja kl ma);have KC:=zH (ja kc ma);have KR:=zH (ja kr ma);have KX:=zH (ja kx ma);clear kp ma ks kl kc kr kx da lx2;go_wp2_with fail
 refine KD.out.mono ?_;rintro _ w3 ⟨rfl,F1,h3,m3⟩;simp only [<- Bh.out];rw [HO0.out] at h3;have ks:=KS.out.moved m3 (nF _ zR);have kl:=KL.out.moved m3 (nF _ (Nat.le_add_right _ _));have kc:=KC.out.moved m3 (nF _ (by omega))
 have kr:=KR.out.moved m3 (nF _ (by omega))
 have kx:=KX.out.moved m3 (nF _ (by rw [Ki.out];exact Nat.le_add_right _ _))
 have mm:=(Qc (F:=F) HB3.out).trans m3;have Bt:∀ b,w.1.size <= b -> b<w.1.size+5 -> ¬F1 b:=fun b h1 h2=>Sd m3 (Kc h2 (by have:=KX.out.lt;rw [Ki.out] at this;exact this)) (nF b h1)
 have ngx:w.1.size+3<gx:=by rw [Ki.out];exact Nat.lt_succ_self _
 have n0:=Bt _ zR (by omega)
 have HO4:=zH ((h3.set n0 (vd vn Ah) (i:=0)).set n0 (vd vn 0) (i:=1));have HM4:=zH (Gg (Gg mm zR 0 (vd vn Ah)) zR 1 (vd vn 0));have NF1:=zH Bt;have cl:=kl.cell;clear h3 mm m3 n0 Bt KD HB3 KS KL KC KR KX cs lss cl;have cs_:=ks.cell;have fs_:=ks.frozen;have ksS:=dG [vd vn Ah,vd vn 0] ks rfl;have klS:=(pD (g:=w.1.size) (by omega) [vd vn Ah,vd vn 0] 0 w3).trans kl
 have kcS:=(pD (g:=w.1.size) (by omega) [vd vn Ah,vd vn 0] 0 w3).trans kc
 have krS:=(pD (g:=w.1.size) (by omega) [vd vn Ah,vd vn 0] 0 w3).trans kr
 have kxS:=(pD (g:=w.1.size) (by omega) [vd vn Ah,vd vn 0] 0 w3).trans kx
 have hsS:w3.1.size <= (ao w3 (w.1.size) [vd vn Ah,vd vn 0] 0).1.size:=by simp [ao,vF]
 simp only [ao,Lj] at ksS klS kcS krS kxS hsS
 try simp only [Nat.reduceAdd] at ksS klS kcS krS kxS hsS
 have ER:=zH ksS;have CR:=zH klS;have BR:=zH kcS;have DR:=zH krS;have FR:=zH kxS;have rX:=zH hsS;clear ksS klS kcS krS kxS ks kl kc kr kx hsS;go_wp2_with fail
 generalize vF (vF (w3) _ _) _ _=w4 at ER CR BR DR FR rX HO4 HM4 |-;clear cs_ fs_;have ks:Blk w4 _ _ _:=ER.out;have kl:Blk w4 _ _ _:=CR.out;have kc:Blk w4 _ _ _:=BR.out;have kr:Blk w4 _ _ _:=DR.out;have kx:Blk w4 _ _ _:=FR.out;clear ER CR BR DR FR;clear rX;go_loopw [23] (fun y wr=>∃ (i:Nat) (F2:Nat -> Prop),i <= 3 /\ y=vd vq i /\ OrcAt wr g (OO i) F2 /\ Moved F F2 w wr /\ Blk wr w.1.size 129 #[vd vn Ah,vd vn i] /\ Blk wr (w.1.size+1) 101 #[vd vn L.p,vd vq L.block,vd vq L.queries,vd vq L.k,vd vq L.n,vd vq L.secret,vd vq L.rows,vd vq L.a,vd vq L.b,vd vq L.b,vd vq L.b] /\ Blk wr (w.1.size+2) 136 #[vd vn 0,vd vn 0,vd vn 0] /\ Blk wr (w.1.size+3) 129 #[vd vn 0,vd vn 0] /\ Blk wr gx 136 (Qa 3 fun k=>if k<i then V k else 0) /\ (∀ b,w.1.size <= b -> b<w.1.size+5 -> ¬F2 b)) (fun y _=>3-(intOf y).toNat)
 case atStart=>exact ⟨0,F1,by decide,rfl,HO4.out,HM4.out,ks,kl,kc,kr,kx,NF1.out⟩
 case round =>
  clear ks kl kc kr kx HO4 HM4;obtain ⟨i,F2,hi,rfl,h4,m4,ks,kl,kc,kr,kx,Mh⟩:=hrel;by_cases ta:i<3
  ·have q1:(0:Int)<=i:=by omega
   have q2:(i:Int)<3:=by omega
   have ix:=fun w=>zDB (w:=w) (g:=gx) ta
   have Zb:=zH ta;obtain ⟨hp,Wd⟩:=HP.out;have HC:=zH (zAf h4 Ah i L.p hp Wd dm.out (by omega) (uf (Vy.out i) (by omega)))
   obtain ⟨i1,Mv⟩:=zEX (i+1);rw [<- Mv] at HC;have ax:=zH Mv;have cs:=ks.cell;have cl:=kl.cell;have H4:=zH h4;clear Mv;clear ta hp Wd h4;go_wp2_with fail
   refine HC.out.mono ?_;rintro _ w5 ⟨rfl,F3,h5,m5⟩;rw [HON.out i,<- ax.out] at h5;simp only [Yr.out i];have k5s:=ks.moved m5 (Mh _ zR (by omega))
   have k5l:=kl.moved m5 (Mh _ (by omega) (by omega))
   have k5c:=kc.moved m5 (Mh _ (by omega) (by omega))
   have k5r:=kr.moved m5 (Mh _ (by omega) (by omega))
   have k5x:=kx.moved m5 (Mh _ (by omega) (by rw [Ki.out];omega))
   have RC:∀ b,w.1.size <= b -> b<w.1.size+5 -> ¬F3 b:=fun b h1 h2=>Sd m5 (Kc h2 (by have:=kx.lt;rw [Ki.out] at this;exact this)) (Mh b h1 h2)
   have n30:=RC _ zR (by omega)
   have n3x:=RC gx (by omega) (by rw [Ki.out];omega)
   have mm:=m4.trans m5;have H6:=zH (((h5.set n3x (vd vn (V i:Int)) (i:=i)).set n30 (vd vn Ah) (i:=0)).set n30 (vd vn i1) (i:=1));have M6:=zH (Gg (Gg (Gg mm (show w.1.size <= gx by omega) i (vd vn (V i:Int))) zR 0 (vd vn Ah)) zR 1 (vd vn i1))
   have kx6:=((k5x.set_ i (vd vn (V i:Int))).far (p:=⟨w.1.size,0,vD⟩) (show gx≠w.1.size by omega) (vd vn Ah)).far (p:=⟨w.1.size,1,vD⟩) (show gx≠w.1.size by omega) (vd vn i1)
   rw [Oq,UK,<- ax.out] at kx6;have KX6:=zH kx6;have KS6:=zH (rE (k5s.far (p:=⟨gx,i,vD⟩) (show w.1.size≠gx by omega) (vd vn (V i:Int))) 0 1 (vd vn Ah) (vd vn i1))
   have KL6:=zH (((k5l.far (p:=⟨gx,i,vD⟩) (show w.1.size+1≠gx by omega) (vd vn (V i:Int))).far (p:=⟨w.1.size,0,vD⟩) (show w.1.size+1≠w.1.size by omega) (vd vn Ah)).far (p:=⟨w.1.size,1,vD⟩) (show w.1.size+1≠w.1.size by omega) (vd vn i1))
   have KC6:=zH (((k5c.far (p:=⟨gx,i,vD⟩) (show w.1.size+2≠gx by omega) (vd vn (V i:Int))).far (p:=⟨w.1.size,0,vD⟩) (show w.1.size+2≠w.1.size by omega) (vd vn Ah)).far (p:=⟨w.1.size,1,vD⟩) (show w.1.size+2≠w.1.size by omega) (vd vn i1))
   have KR6:=zH (((k5r.far (p:=⟨gx,i,vD⟩) (show w.1.size+3≠gx by omega) (vd vn (V i:Int))).far (p:=⟨w.1.size,0,vD⟩) (show w.1.size+3≠w.1.size by omega) (vd vn Ah)).far (p:=⟨w.1.size,1,vD⟩) (show w.1.size+3≠w.1.size by omega) (vd vn i1))
   have NF3:=zH RC;have nh:=k5x.cell i;rw [Mf _ Zb.out] at nh;have jc:=k5x.frozen;have Pf:=k5s.cell;have hfs:=k5s.frozen;have nex:w.1.size≠gx:=by omega
   clear h5 m5 mm m4 kx6 k5s k5l k5c k5r k5x RC n30 n3x Mh ks kl kc kr kx cs cl HC H4;go_wp2;generalize ((w5.setCell ⟨gx,i,vD⟩ _).setCell _ _).setCell _ _=w6 at H6 M6 KX6 KS6 KL6 KC6 KR6 |-;have ks7:Blk w6 w.1.size 129 #[vd vn Ah,vd vn i1]:=by simpa using KS6.out
   clear nh jc Pf hfs
   go_roundw
   case rel=>exact ⟨i1,F3,by rw [ax.out];exact Zb.out,by rw [ax.out];go_num,H6.out,M6.out,ks7,KL6.out,KC6.out,KR6.out,KX6.out,NF3.out⟩
   case measure=>have:=Zb.out;simp [intOf];omega
  ·obtain rfl:i=3:=by omega
   have jn:Blk wr gx 136 #[vd vn (V 0:Int),vd vn (V 1:Int),vd vn (V 2:Int)]:=kx;have ot:Blk wr w.1.size 129 #[vd vn Ah,vd vn 3]:=ks;obtain ⟨NQ,Xg⟩:=zEX (wr.1.size);have lx:gx<NQ:=by rw [Xg];exact jn.lt
   have l1:w.1.size<NQ:=by rw [Xg];exact ot.lt
   obtain ⟨Vr,hVr⟩:∃ Vr:Nat -> Prop,Vr=fun b=>b=w.1.size+2 \/ b=w.1.size+3:=⟨_,rfl⟩
   have v1:¬Vr w.1.size:=by rw [hVr];omega
   have v2:¬Vr gx:=by rw [hVr];omega
   have zo:=zH (show Vr (w.1.size+2) by rw [hVr];exact .inl rfl)
   have HV3:=zH (show Vr (w.1.size+3) by rw [hVr];exact .inr rfl)
   have cs:=ot.cell;have cx:=jn.cell;have KC:=zH kc;have KR:=zH kr;have H5:=zH h4;have M5:=zH m4;have n2:=Mh (w.1.size+2) (by omega) (by omega)
   have n3:=Mh (w.1.size+3) (by omega) (by omega)
   have gg:=zH Xg;clear ks ot kl kc kr kx jn hVr h4 m4 Xg Mh hi;go_upto_region 8 with fail
   refine cL (Vr) (ZG) (NQ) [2,3] [0,1] [] [2,3] (by kernel_rfl) (oB _) (by kernel_rfl) ?_
   refine gL ?_;intro Wc Ja ia;have Yb:Hid (zn Vr NQ ZG Wc):=zH (by rw [Ja.out,gg.out];exact ⟨zR,fun _ h=>h.elim,fun _ _ h=>h.elim⟩)
   have KC2:=zH (show Blk Wc _ _ _ by rw [Ja.out];exact KC.out.drew)
   have Mi:=zH (show Blk Wc _ _ _ by rw [Ja.out];exact KR.out.drew)
   have H6:=zH (show OrcAt Wc _ _ _ by rw [Ja.out];exact H5.out.drew)
   have M6:=zH (show Moved F F2 w Wc by rw [Ja.out];exact ow M5.out)
   clear Ja KC KR H5 M5;refine Ow ?_;refine eL [] rfl Yb (fun Hz wE df Uo=>?_)
   clear Uo;unfold Nh
   try simp only [List.foldl]
   replace KC2:=zH (KC2.out.below df KC2.out.lt);replace Mi:=zH (Mi.out.below df Mi.out.lt);replace H6:=zH (H6.out.below df);replace M6:=zH (M6.out.trans (Qc df));replace ia:=(Cc Vr NQ).trans _ _ _ ia (Sj df Yb.out.size);replace Yb:=zH (su Yb.out df)
   refine zPU ?_
   clear df;have cc:=KC2.out.cell;have fc:=KC2.out.frozen;refine Lr ?_;refine ef (Cc Vr NQ) rfl rfl rfl ?_;go_simp;refine ⟨pT zo.out [vd vn (V 0:Int),vd vn (V 1:Int),vd vn (V 2:Int)] _,?_⟩
   refine zPU ?_
   have kc3:=dG [vd vn (V 0:Int),vd vn (V 1:Int),vd vn (V 2:Int)] KC2.out rfl;have rm:=(pD (g:=w.1.size+2) (b:=w.1.size+3) (by omega) [vd vn (V 0:Int),vd vn (V 1:Int),vd vn (V 2:Int)] 0 wE).trans Mi.out
   simp only [ao,Lj,Nat.reduceAdd] at kc3 rm;have h7:=zH (((H6.out.set n2 (vd vn (V 0:Int)) (i:=0)).set n2 (vd vn (V 1:Int)) (i:=1)).set n2 (vd vn (V 2:Int)) (i:=2));have m7:=zH (Gg (Gg (Gg M6.out (show w.1.size <= w.1.size+2 by omega) 0 (vd vn (V 0:Int))) (show w.1.size <= w.1.size+2 by omega) 1 (vd vn (V 1:Int))) (show w.1.size <= w.1.size+2 by omega) 2 (vd vn (V 2:Int)))
   generalize vF (vF (vF wE _ _) _ _) _ _=wG at kc3 rm h7 m7 |-;have Gu:Blk wG _ _ _:=rm;have cr:=Gu.cell;have fr:=Gu.frozen;have KC3:=zH kc3;clear kc3 rm cc fc ia Yb H6 M6;have ia:=(Cc Vr NQ).refl wG;refine Lr ?_;refine ef (Cc Vr NQ) rfl rfl rfl ?_;go_simp;refine ⟨pT HV3.out [vd vn Ah,vd vn 3] _,?_⟩
   refine zPU ?_
   refine Jc ?_;have kf:=rE Gu 0 1 (vd vn Ah) (vd vn 3);have kcf:=(KC3.out.far (p:=⟨w.1.size+3,0,vD⟩) (show w.1.size+2≠w.1.size+3 by omega) (vd vn Ah)).far (p:=⟨w.1.size+3,1,vD⟩) (show w.1.size+2≠w.1.size+3 by omega) (vd vn 3)
   have h8:=(h7.out.set n3 (vd vn Ah) (i:=0)).set n3 (vd vn 3) (i:=1);have m8:=Gg (Gg m7.out (show w.1.size <= w.1.size+3 by omega) 0 (vd vn Ah)) (show w.1.size <= w.1.size+3 by omega) 1 (vd vn 3)
   generalize vF (vF wG _ _) _ _=wf at kf kcf h8 m8 |-;have cf:=kf.cell;have ccf:=kcf.cell;clear cr fr ia;go_wp2;exact Tc (by simp [results,results64,go_sem,cf,ccf]) rfl ⟨rfl,F2,h8,m8⟩
theorem I7 {w:vw} {g:Nat} {O:Ha} {F:Nat -> Prop} (h:OrcAt w g O F) (st ct:Nat) (Sc:st<18446744073709551616) (L:Ma) (hL:Lb L) (P:se) (S:PS) (hP:gh w P S) (hO:pc O 800000) (hlen:(P.code++P.linear++P.quad).length <= 100000) :
  vB prog 66 #[.pointer (vE ⟨g,0,vD⟩),vf #[vd vn st,vd vn ct],vf (jb L),vf (Od P S)] w fun e w'=>∃ gr d F',e=vl (ve (vE ⟨gr,0,vD⟩) L.queries d) /\
   OrcAt w' g (Hi ⟨O,st,ct⟩ (P.code++P.linear++P.quad) L.queries) F' /\ Moved F F' w w' /\ w'.ownsRow w.1.size 3 1 (ve (vE ⟨gr,0,vD⟩) L.queries d) L.queries (Yk (Wn (Cl ⟨O,st,ct⟩ (P.code++P.linear++P.quad) L.n L.queries))) /\ ¬F' gr:=by
 obtain ⟨ks,kl,kp,da,ib⟩:=Sp w 129 101 46 #[vd vn st,vd vn ct] (jb L) (Od P S);obtain ⟨q1,-,-,e1,r1⟩:=Nb hP.code;obtain ⟨q2,-,-,e2,r2⟩:=Nb hP.linear;obtain ⟨q3,-,-,e3,r3⟩:=Nb hP.quad;have hle:S.n1+S.n2+S.n3 <= 100000:=by simp at hlen;omega
 obtain ⟨all,ui⟩:=zEX (P.code++P.linear++P.quad);have Tn:∀ x∈all,x<18446744073709551616:=fun x hx=>by
  rw [ui,Np,Np] at hx;rcases hx with (hx | hx) | hx
  ·exact e1 x hx
  ·exact e2 x hx
  ·exact e3 x hx
 have hqn:L.queries <= L.n:=by have:=hL.nk;have:=hL.k;omega
 have Vd:=hL.n2;have Ev:=h.ok.ans;obtain ⟨fG,rM⟩:=zEX (me O 18 (st :: 3 :: all));obtain ⟨O2,JE⟩:=zEX (Pc O 18 (st :: 3 :: all));have xR:=zH (show fG<18446744073709551616 by rw [rM];exact Fs (Mz Ev 18 _))
 have Dm:=zH (show pc O2 900000 by rw [JE];exact uf (pq hO 18 _) (by decide))
 have hT1:Hi ⟨O,st,ct⟩ (P.code++P.linear++P.quad) L.queries=Vb O2 19 (qj fG 0 L.queries):=by rw [<- ui,JE,rM];rfl
 have hT2:Cl ⟨O,st,ct⟩ (P.code++P.linear++P.quad) L.n L.queries=Br O2 fG 0 L.n L.queries:=by rw [<- ui,JE,rM];rfl
 rw [hT1,hT2];have Hq:=zH rM;have Jl:=zH JE;have yk:=zH ui;have zm:=zH Tn;have Rg:=zH (show all.length <= 100000 by rw [ui];exact hlen)
 have En:=zH q1;have HN2:=zH q2;have HN3:=zH q3;have R1:=zH r1;have R2:=zH r2;have R3:=zH r3;have Sr:=zH h;have HO:=zH hO;have ig:=zH Sc;have HQN:=zH hqn;have HN:=zH Vd;have nF:∀ b,w.1.size <= b -> ¬F b:=fun b hb e=>by have:=h.lt b e;omega
 clear hT1 hT2 rM JE Ev Vd hqn Tn ui hlen q1 q2 q3 e1 e2 e3 r1 r2 r3 hP hL hO Sc h ib;unfold jb Od at *;go_enter func66,ntmps66
 go_upto_region 1 with fail
 generalize ((w.alloc _).alloc _).alloc _=w1 at ks kl kp da |-;have cp:=kp.cell;have lp:=kp.lt;have Bd:=da.size;have mE:=(Ca w1.1.size w1).alloc zR (.cells #[] 22);have Fy:=KM w1 22 (oa w1.1.size);have Wi:=(R1.out.below da).below mE;go_wp2_with (at_builtin;refine uk rfl _ _ rfl Ls rfl Fy rfl Wi (oq _) (by omega) (by simp) ?_)
 intro v2 w2 BK Vo hk2;have Ba:=mE.trans (tp Fy Vo (by simp))
 replace ks:=ja ks Ba;replace kl:=ja kl Ba;replace kp:=ja kp Ba;replace da:=pa da Ba;clear cp Fy Wi mE Vo hk2;have cp:=kp.cell;have vI:=R2.out.below da;go_wp2_with (at_builtin;refine uk rfl _ _ rfl Ls rfl BK rfl vI (oq _) (by omega) (by exact Ba.size) ?_)
 intro v3 w3 CK Mg hk3;have Sa:=tp BK Mg Ba.size;have lp0:w.1.size<w1.1.size:=by omega
 have lp1:w.1.size+1<w1.1.size:=by omega
 have ks3:=ks.below Sa lp0;have Zq:=kl.below Sa lp1;have kp3:=kp.below Sa lp;have CT:=da.trans (Sa.mono Bd);have sz3:=xb Ba.size Sa.size;clear cp BK vI Mg hk3 ks kl kp da Sa;have cp:=kp3.cell;have aP:=R3.out.below CT;go_wp2_with (at_builtin;refine uk rfl _ _ rfl Ls rfl CK rfl aP (oq _) (by omega) sz3 ?_)
 intro v4 w4 pk Yp hk4;have Ab:=tp CK Yp sz3;have ks4:=ks3.below Ab lp0;have fw:=Zq.below Ab lp1;have hb04:=CT.trans (Ab.mono Bd);have Xn:w4.ownsRow w1.1.size 22 1 v4 (S.n1+S.n2+S.n3) (Oa all):=by
  rw [yk.out]
  simpa [Oa,zx] using pk
 obtain ⟨nv,hnv⟩:=zEX (S.n1+S.n2+S.n3);rw [<- hnv] at Xn;have hv4:∃ A' c',v4=ve A' nv c':=by obtain ⟨A',c',e,-⟩:=de Xn;exact ⟨A',c',e⟩
 obtain ⟨Av,cv,rfl⟩:=hv4;have HKR:=zH (PI Xn zm.out);have HB:=zH hb04;have nW0:=nF w.1.size zR;have nW1:=nF (w.1.size+1) (Nat.le_add_right _ _);obtain ⟨NQ,Xg⟩:=zEX (w4.1.size);have gg:=zH Xg;have l0:w.1.size<NQ:=by rw [Xg];exact ks4.lt
 have l1:w.1.size+1<NQ:=by rw [Xg];exact fw.lt
 have cs:=ks4.cell;have cl:=fw.cell;clear cp CK aP Yp hk4 Ab ks3 Zq kp3 CT pk Xn ks4 fw hb04 Ba Bd sz3 lp lp0 lp1 hnv Xg hle;go_upto_region 4 with fail
 have wN:Hid (zn F NQ F w4):=zH (by rw [gg.out];exact zDg (Sr.out.below HB.out).lt)
 refine cL (F) (F) (NQ) [4,9,15] [0,1,2,3,5,6,7,8,4,9,10,11,12] [(13,129,#[vd vn 0,vd vn 0])] [14,15] (by kernel_rfl) (Hf.2 ⟨⟨_,rfl,rfl,fun a w=>by go_simp <;> rfl⟩,oB _⟩) (by kernel_rfl) ?_
 refine gL ?_;intro Wc Ja ia;have Yb:Hid (zn F NQ F Wc):=zH (by rw [Ja.out];exact ⟨wN.out.size,wN.out.lt,wN.out.old⟩)
 have H8:=zH (show OrcAt Wc g O F by rw [Ja.out];exact (Sr.out.below HB.out).drew)
 have M8:=zH (show Moved F F w Wc by rw [Ja.out];exact ow (Qc HB.out))
 have zN:=zH (show Ue _ Wc _ _ by rw [Ja.out];exact iw HKR.out (w':=w4.drew) zR fun _ _ _=>rfl)
 clear Ja wN HKR;refine Ow ?_;refine dL (f:=?_) (vals:=?_) rfl rfl rfl Yb ?_ (fun wF mf=>?_)
 rotate_left 3
 replace H8:=zH (H8.out.below mf);replace zN:=zH (dn zN.out mf);replace M8:=zH (M8.out.trans (Qc mf));replace ia:=(Cc F NQ).trans _ _ _ ia (Sj mf Yb.out.size);replace Yb:=zH (su Yb.out mf);refine (DW H8.out st ct 3 Av nv cv all zN.out Rg.out ig.out (by decide) (uf HO.out (by decide))).mono ?_
 rotate_left
 ·intro w_;go_simp <;> rfl
 rintro e w9 ⟨rfl,F4,h9,m9⟩;clear mf;refine ⟨_,F4,rfl,m9,h9.lt,?_⟩;replace ia:=(Cc F NQ).trans _ _ _ ia (EH Yb.out (m9));replace Yb:=zH (UJ Yb.out (m9) (h9.lt));refine zPU ?_;rw [<- Jl.out] at h9;simp only [<- Hq.out];replace H8:=zH h9;replace M8:=zH (M8.out.trans m9);clear h9 m9 zN;refine Ow ?_;refine dL (f:=?_) (vals:=?_) rfl rfl rfl Yb ?_ (fun wF mf=>?_)
 rotate_left 3
 replace H8:=zH (H8.out.below mf);replace M8:=zH (M8.out.trans (Qc mf));replace ia:=(Cc F NQ).trans _ _ _ ia (Sj mf Yb.out.size);replace Yb:=zH (su Yb.out mf);refine (zF6 H8.out fG 0 L.n L.queries HN.out HQN.out xR.out (by decide) Dm.out).mono ?_
 rotate_left
 ·intro w_;go_simp <;> rfl
 rintro e LA ⟨gr,dr,F5,rfl,h10,mn,U6,nr5⟩;clear mf;refine ⟨_,F5,rfl,mn,h10.lt,?_⟩;replace ia:=(Cc F NQ).trans _ _ _ ia (EH Yb.out (mn));replace Yb:=zH (UJ Yb.out (mn) (h10.lt));refine zPU ?_;have OW:=zH (tA U6 M8.out.size);replace H8:=zH h10;replace M8:=zH (M8.out.trans mn);clear h10 mn U6;refine Ow ?_;refine eL [(vE 11,13)] rfl Yb (fun Hz wE df Uo=>?_)
 have AH:=Uo.blk _ (.head _) rfl;clear Uo;unfold Nh Yn;simp only [List.foldl];dsimp only at AH
 generalize Hz 13=g13 at AH  |-;obtain ⟨xy,fK,CF⟩:=AH;replace H8:=zH (H8.out.below df);replace M8:=zH (M8.out.trans (Qc df));replace OW:=zH (Mc OW.out df zR);replace ia:=(Cc F NQ).trans _ _ _ ia (Sj df Yb.out.size);replace Yb:=zH (su Yb.out df)
 refine zPU ?_
 have cE0:=xy.cell 0;have cE1:=xy.cell 1;have fE:=xy.frozen;have lE:w.1.size <= g13:=by omega
 refine Lr ?_;refine ef (Cc F NQ) rfl rfl rfl ?_;go_simp;refine ⟨Sj ((CE _ _ fK).trans (CE _ _ fK)) zR,?_⟩
 refine zPU ?_
 refine Jc ?_;have OWE:=zH (Z6 OW.out xy (by decide))
 have Va:gr≠g13:=fun e=>OWE.out gr rfl (by rw [e])
 have M9:=Gg (Gg M8.out lE 0 (vd vn fG)) lE 1 (vd vn L.queries);have H9:=(H8.out.set CF (vd vn fG) (i:=0)).set CF (vd vn L.queries) (i:=1);have OW9:=di OW.out (u:=(wE.setCell ⟨g13,0,vD⟩ (vd vn fG)).setCell ⟨g13,1,vD⟩ (vd vn L.queries)) fun b hb=>by
  obtain rfl:gr=b:=Za hb;rw [ug _ ⟨g13,1,vD⟩ _ gr Va,ug _ ⟨g13,0,vD⟩ _ gr Va]
 generalize ((wE.setCell ⟨g13,0,vD⟩ (vd vn fG)).setCell ⟨g13,1,vD⟩ (vd vn L.queries))=wZ at M9 H9 OW9 |-;clear cE0 cE1 fE ia;go_wp2;go_ret
 exact ⟨gr,dr,F5,rfl,H9,M9,OW9,nr5⟩
theorem zHo (O:Ha) (st ct root:Nat):(Td ⟨O,st,ct⟩ root).O=Pc (Pc (Pc (Pc O 18 [st,2,root]) 19 [me O 18 [st,2,root],0]) 19 [me O 18 [st,2,root],1]) 19 [me O 18 [st,2,root],2]:=rfl
theorem kQ {O:Ha} {k:Nat} (h:pc O k) (st ct root:Nat):pc (Td ⟨O,st,ct⟩ root).O (k+4):=by
 rw [zHo];exact pq (pq (pq (pq h 18 _) 19 _) 19 _) 19 _
theorem zFp {w:vw} {g:Nat} {O:Ha} {F K:Nat -> Prop} (h:OrcAt w g O F) (L:Ma) (j:Nat) (hL:Lb L) (hn:L.n=2^j) (hj:j <= 10) (Wd:L.p<18446744073709551616) (p:Nat) (pub:Nat) (vars:Int) (T B:Option vy) (R cT m d:Nat) (rows:List Ua) (l:List Nat) (P:se) (S:PS)
  (hr:RSl 3 Ud w [ve T R cT] rows) (hD:yG p (pub:Int) vars rows) (Xa:Nc p (pub:Int) vars rows=true) (hl:RWd w [ve B m d] l) (hP:Hd K w fun u=>gh u P S) (hK:∀ b,K b -> ¬F b) (hO:pc O 700000)
  (hv:ei L j P=true) (hm:m=pub) (rI:m <= 90000) (Gb:l.all (fun x=>decide (x<L.p))=true) (hlen:(P.code++P.linear++P.quad).length <= 100000) (yC:P.root<18446744073709551616) :
  vB prog 175 #[.pointer (vE ⟨g,0,vD⟩),vf (jb L),Tb p (pub:Int) vars (ve T R cT),ve B m d,vf (Od P S)] w fun e w' =>
   ∃ gr dd F',e=vl (.tuple #[vf #[vd vn ((fj (Jd O L (Cf p (pub:Int) vars rows) l) L.p P.root).al:Int),vd vn ((fj (Jd O L (Cf p (pub:Int) vars rows) l) L.p P.root).rh:Int),vd vn ((fj (Jd O L (Cf p (pub:Int) vars rows) l) L.p P.root).be:Int)],ve (vE ⟨gr,0,vD⟩) L.queries dd]) /\
    OrcAt w' g (Hi (Td (Jd O L (Cf p (pub:Int) vars rows) l) P.root) (P.code++P.linear++P.quad) L.queries) F' /\ Moved F F' w w' /\
    w'.ownsRow w.1.size 3 1 (ve (vE ⟨gr,0,vD⟩) L.queries dd) L.queries (Yk (Wn (Cl (Td (Jd O L (Cf p (pub:Int) vars rows) l) P.root) (P.code++P.linear++P.quad) L.n L.queries))) /\ ¬F' gr:=by
 obtain ⟨kl,kt,kp,kr,da,ib⟩:=BL w 101 25 46 136 (jb L) #[vd vn p,vd vq pub,vd vq vars,ve T R cT] (Od P S) #[vd vn 0,vd vn 0,vd vn 0];have HV:=zH (fun w1 (hb:vA w.1.size w w1)=>by have:=kV L j P S w1 hL hn hj (Bi hP (Af hb));rw [hv] at this;exact this)
 have HBl:=zH (fun w1 (hb:vA w.1.size w w1)=>by have:=lS B m d l L.p w1 (Bb hb hl);exact this)
 rw [Gb] at HBl;obtain ⟨dg,Rz⟩:=zEX (Cf p (pub:Int) vars rows);obtain ⟨s1,Bd⟩:=zEX (Jd O L dg l);have h10:s1.ct=0:=by rw [Bd];rfl
 have iP:s1.st<18446744073709551616:=by rw [Bd];exact Fs (Mz h.ok.ans 18 _)
 have yI:pc s1.O 700001:=by rw [Bd];exact pq hO 18 _
 have uo:=zH (fun w1 (hb:vA w.1.size w w1)=>by have:=v7 (h.below hb) L hL p (pub:Int) vars T B R cT m d rows l (Dg Bg _ _ _ _ hb hr) hD Xa (Bb hb hl) (uf hO (by decide)) (by rw [<- (Nb hl).1];exact rI);rw [<- Rz,<- Bd] at this;exact this)
 rw [<- Rz,<- Bd];have zg:0<L.p:=by have:=Pb hL.p;omega
 have Sr:=zH h;have HP:=zH hP;have HK:=zH hK;have Dn:=zH hL;have Bh:=zH (And.intro h10 (And.intro iP yI));have Kl:=zH (And.intro zg (And.intro Wd yC));have HLN:=zH hlen;have HS3:=zH (And.intro (show (Td s1 P.root).st<18446744073709551616 from Fs (Mz (by rw [Bd];exact KO h.ok.ans 18 _) 18 _)) (show pc (Td s1 P.root).O 800000 from uf (kQ (ct:=s1.ct) yI s1.st P.root) (by decide)))
 have nF:∀ b,w.1.size <= b -> ¬F b:=fun b hb e=>by have:=h.lt b e;omega
 subst hm;obtain ⟨s2,qe⟩:=zEX (Td s1 P.root);obtain ⟨ch,dy⟩:=zEX (fj s1 L.p P.root);have Gp:=zH (show fj ⟨s1.O,s1.st,0⟩ L.p P.root=ch from dy.symm)
 have Hq:=zH (show Td ⟨s1.O,s1.st,0⟩ P.root=s2 from qe.symm)
 have HS2':=zH qe;rw [<- qe,<- dy];rw [<- qe] at HS3;clear qe dy;clear h hL hn hj Wd hr hD Xa hl hP hK hO hv rI Gb hlen yC Rz Bd h10 iP yI zg ib;unfold jb Od Tb at *;have d1:((m:Int)!=m)=false:=by simp
 go_enter func175,ntmps175
 go_upto_region 1 with fail
 generalize (((w.alloc _).alloc _).alloc _).alloc _=w1 at kl kt kp kr da |-;have cl:=kl.cell;have cp:=kp.cell;go_wp2_with fail
 refine (HV.out w1 da).mono ?_;rintro e w2 ⟨rfl,Ba⟩;replace kl:=ja kl Ba;replace kt:=ja kt Ba;replace kp:=ja kp Ba;replace kr:=ja kr Ba;replace da:=pa da Ba;clear cl cp Ba;have ct:=kt.cell;have cl:=kl.cell;go_wp2_with fail
 refine (HBl.out w2 da).mono ?_;rintro e _ ⟨rfl,rfl⟩;obtain ⟨NQ,Xg⟩:=zEX (w2.1.size);have l0:w.1.size<NQ:=by rw [Xg];exact kl.lt
 have l1:w.1.size+1<NQ:=by rw [Xg];exact kt.lt
 have l2:w.1.size+2<NQ:=by rw [Xg];exact kp.lt
 have n0:=nF w.1.size zR;have n1:=nF (w.1.size+1) (Nat.le_add_right _ _);have n2:=nF (w.1.size+2) (Nat.le_add_right _ _);have cl:=kl.cell;have ct:=kt.cell;have cp:=kp.cell;have gg:=zH Xg;have KL:=zH kl;have KP:=zH kp;have KR:=zH kr;have HB:=zH da;clear Xg kl kt kp kr da;go_upto_region 3 with fail
 refine cL (F) (F) (NQ) [5,9,15,16] [0,1,2,3,4,6,7,8,5,9,10,11,12] [(13,136,#[vd vn 0,vd vn 0,vd vn 0]),(14,129,#[vd vn 0,vd vn 0])] [15,16] (by kernel_rfl) (Hf.2 ⟨⟨_,rfl,rfl,fun a w=>by go_simp <;> rfl⟩,Hf.2 ⟨⟨_,rfl,rfl,fun a w=>by go_simp <;> rfl⟩,oB _⟩⟩) (by kernel_rfl) ?_
 refine gL ?_;intro Wc Ja ia;have He:=zH (show vA w.1.size w Wc by rw [Ja.out];exact HB.out.drew)
 have Yb:Hid (zn F NQ F Wc):=zH (by rw [Ja.out,gg.out];exact ⟨zR,(Sr.out.below HB.out).lt,fun _ _ h=>h⟩)
 have M8:=zH (show Moved F F w2 Wc by rw [Ja.out];exact ow (Qc (Ca _ _)))
 clear Ja;refine Ow ?_;refine dL (f:=?_) (vals:=?_) rfl rfl rfl Yb ?_ (fun wF mf=>?_)
 rotate_left 3
 replace He:=zH (pa He.out mf);replace M8:=zH (M8.out.trans (Qc mf));replace ia:=(Cc F NQ).trans _ _ _ ia (Sj mf Yb.out.size);replace Yb:=zH (su Yb.out mf);refine (uo.out wF He.out).mono ?_
 rotate_left
 ·intro w_;go_simp <;> rfl
 rintro e wA ⟨rfl,F1,h1,m1⟩;clear mf;refine ⟨_,F1,rfl,m1,h1.lt,?_⟩;replace ia:=(Cc F NQ).trans _ _ _ ia (EH Yb.out (m1));replace Yb:=zH (UJ Yb.out (m1) (h1.lt));refine zPU ?_;have H8:=zH h1;replace M8:=zH (M8.out.trans m1);clear h1 m1 He;refine Ow ?_;refine dL (f:=?_) (vals:=?_) rfl rfl rfl Yb ?_ (fun wF mf=>?_)
 rotate_left 3
 replace H8:=zH (H8.out.below mf);replace M8:=zH (M8.out.trans (Qc mf));replace ia:=(Cc F NQ).trans _ _ _ ia (Sj mf Yb.out.size);replace Yb:=zH (su Yb.out mf);refine (A7 H8.out s1.st 0 Bh.out.2.1 L Kl.out.1 Kl.out.2.1 P.root Kl.out.2.2 (uf Bh.out.2.2 (by decide))).mono ?_
 rotate_left
 ·intro w_;go_simp <;> rfl
 rintro e wB ⟨rfl,F2,h2,m2⟩;clear mf;refine ⟨_,F2,rfl,m2,h2.lt,?_⟩;replace ia:=(Cc F NQ).trans _ _ _ ia (EH Yb.out (m2));replace Yb:=zH (UJ Yb.out (m2) (h2.lt));refine zPU ?_;rw [Hq.out] at h2;simp only [Gp.out,Hq.out];replace H8:=zH h2;replace M8:=zH (M8.out.trans m2);clear h2 m2;refine Ow ?_;refine eL [(vE 12,13),(vE 13,14)] rfl Yb (fun Hz wE df Uo=>?_)
 have AH:=Uo.blk _ (.head _) rfl;have ZS:=Uo.blk _ (.tail _ (.head _)) rfl;have xK:=Uo.dif _ (.head _) _ (.tail _ (.head _)) rfl rfl (by decide)
 clear Uo;unfold Nh Yn;simp only [List.foldl];dsimp only at AH ZS xK
 generalize Hz 13=g13 at AH xK |-;obtain ⟨xy,fK,CF⟩:=AH;generalize Hz 14=g14 at ZS xK |-;obtain ⟨k14,TO,mP⟩:=ZS;replace H8:=zH (H8.out.below df);replace M8:=zH (M8.out.trans (Qc df));replace ia:=(Cc F NQ).trans _ _ _ ia (Sj df Yb.out.size);replace Yb:=zH (su Yb.out df)
 refine zPU ?_
 have xM:w2.1.size <= g13:=by rw [<- gg.out];exact fK
 have MP:w2.1.size <= g14:=by rw [<- gg.out];exact TO
 have KRL:=zH (show w.1.size+3<g13 /\ w.1.size+3<g14 from ⟨Kc KR.out.lt xM,Kc KR.out.lt MP⟩)
 have c13:=xy.cell;have f13:=xy.frozen;refine Lr ?_;refine ef (Cc F NQ) rfl rfl rfl ?_;go_simp;refine ⟨Sj (mW fK [vd vn ch.al,vd vn ch.rh,vd vn ch.be] 0 _) zR,?_⟩
 refine zPU ?_
 have uP:=dG [vd vn ch.al,vd vn ch.rh,vd vn ch.be] xy rfl;have vP:=(pD (g:=g13) (b:=g14) (fun e=>xK e.symm) [vd vn ch.al,vd vn ch.rh,vd vn ch.be] 0 wE).trans k14
 simp only [ao,Lj,Nat.reduceAdd] at uP vP;have h9:=zH (((H8.out.set CF (vd vn ch.al) (i:=0)).set CF (vd vn ch.rh) (i:=1)).set CF (vd vn ch.be) (i:=2));have m9:=zH (Gg (Gg (Gg M8.out xM 0 (vd vn ch.al)) xM 1 (vd vn ch.rh)) xM 2 (vd vn ch.be));generalize vF (vF (vF wE _ _) _ _) _ _=wG at uP vP h9 m9 |-;have xP:Blk wG g14 _ _:=vP;have c14:=xP.cell;have f14:=xP.frozen;have K13:=zH uP;clear c13 f13 xy k14 uP vP ia Yb H8 M8 df;have ia:=(Cc F NQ).refl wG;refine Lr ?_;refine ef (Cc F NQ) rfl rfl rfl ?_;go_simp;refine ⟨Sj ((CE _ _ TO).trans (CE _ _ TO)) zR,?_⟩
 refine zPU ?_
 refine Jc ?_;have zU:=rE xP 0 1 (vd vn s2.st) (vd vn 3);have xU:=(K13.out.far (p:=⟨g14,0,vD⟩) xK (vd vn s2.st)).far (p:=⟨g14,1,vD⟩) xK (vd vn 3);have h10:=(h9.out.set mP (vd vn s2.st) (i:=0)).set mP (vd vn 3) (i:=1);have mn:=Gg (Gg m9.out MP 0 (vd vn s2.st)) MP 1 (vd vn 3);generalize vF (vF wG _ _) _ _=wZ at zU xU h10 mn |-;have yU:Blk wZ g14 129 #[vd vn s2.st,vd vn 3]:=by simpa using zU
 have klz:=KL.out.moved mn n0;have OI:=KP.out.moved mn n2;have n3:=nF (w.1.size+3) (Nat.le_add_right _ _);have krz:=KR.out.moved mn n3;have n3z:=Sd mn KR.out.lt n3;have nlz:=Sd mn KL.out.lt n0;have npz:=Sd mn KP.out.lt n2;have MZ:=zH ((Qc (F:=F) HB.out).trans mn);have HZ:=zH h10;clear c14 f14 ia zU xP K13 h9 m9 h10 mn KL KP KR cl ct cp l0 l1 l2;have wU:Blk wZ g13 136 #[vd vn ch.al,vd vn ch.rh,vd vn ch.be]:=xU;have nz13:¬F2 g13:=CF;have nz14:¬F2 g14:=mP;obtain ⟨NZ,hNZ⟩:=zEX (wZ.1.size);have l13:g13<NZ:=by rw [hNZ];exact wU.lt
 have l14:g14<NZ:=by rw [hNZ];exact yU.lt
 have ll:w.1.size<NZ:=by rw [hNZ];exact klz.lt
 have lp:w.1.size+2<NZ:=by rw [hNZ];exact OI.lt
 have q13:g13≠w.1.size+3:=fun e=>by have:=KRL.out;omega
 have q14:g14≠w.1.size+3:=fun e=>by have:=KRL.out;omega
 obtain ⟨V0,Xx⟩:∃ V0:Nat -> Prop,V0=fun b=>F2 b \/ b=w.1.size+3:=⟨_,rfl⟩
 have Jr:¬V0 g13:=by rw [Xx];exact fun e=>e.elim nz13 q13
 have w14:¬V0 g14:=by rw [Xx];exact fun e=>e.elim nz14 q14
 have wl:¬V0 w.1.size:=by rw [Xx];exact fun e=>e.elim nlz (fun e=>by omega)
 have wp:¬V0 (w.1.size+2):=by rw [Xx];exact fun e=>e.elim npz (fun e=>by omega)
 have HV0:=zH (show V0 (w.1.size+3) by rw [Xx];exact .inr rfl)
 have Hn:=zH (show ∀ b,F2 b -> V0 b from fun b e=>by rw [Xx];exact .inl e)
 have c13:=wU.cell;have c14:=yU.cell;have cl:=klz.cell;have cp:=OI.cell;have KR:=zH krz;have HNZ:=zH hNZ;have AG:=zH (Ek (K:=K) MZ.out HK.out);clear wU xU yU klz OI krz hNZ Xx nlz npz nz13 nz14 CF mP fK TO xM MP q13 q14;go_upto_region 4 with fail
 have Wr:=zH (fun w1 F1 (h1:OrcAt w1 g s2.O F1) (jf:gh w1 P S)=>by have:=I7 h1 s2.st 3 HS3.out.1 L Dn.out P S jf HS3.out.2 HLN.out;unfold jb Od at this;exact this)
 refine cL (V0) (F2) (NZ) [5,6] [0,1,2,3,4,5] [] [6,7] (by kernel_rfl) (oB _) (by kernel_rfl) ?_
 refine gL ?_;intro Wc Ja ia;have Yb:Hid (zn V0 NZ F2 Wc):=zH (by rw [Ja.out,HNZ.out];exact ⟨zR,HZ.out.lt,fun b _ h=>Hn.out b h⟩)
 have H8:=zH (show OrcAt Wc g s2.O F2 by rw [Ja.out];exact HZ.out.drew)
 have M8:=zH (show Moved F F2 w Wc by rw [Ja.out];exact ow MZ.out)
 have KR8:=zH (show Blk Wc _ _ _ by rw [Ja.out];exact KR.out.drew)
 have HP8:=zH (show Hd K Wc _ by rw [Ja.out];exact Qd HP.out (uB AG.out AX))
 clear Ja HZ MZ KR HP AG;refine Ow ?_;refine dL (f:=?_) (vals:=?_) rfl rfl rfl Yb ?_ (fun wF mf=>?_)
 rotate_left 3
 replace H8:=zH (H8.out.below mf);replace M8:=zH (M8.out.trans (Qc mf));replace KR8:=zH (KR8.out.below mf KR8.out.lt);replace HP8:=zH (Qd HP8.out (Af mf));replace ia:=(Cc V0 NZ).trans _ _ _ ia (Sj mf Yb.out.size);replace Yb:=zH (su Yb.out mf);refine (Wr.out wF F2 H8.out (Yg HP8.out)).mono ?_
 rotate_left
 ·intro w_;go_simp <;> rfl
 rintro e wB ⟨gr,dr,F3,rfl,h3,m3,CK,n3r⟩;clear mf;refine ⟨_,F3,rfl,m3,h3.lt,?_⟩;replace ia:=(Cc V0 NZ).trans _ _ _ ia (EH Yb.out (m3));replace Yb:=zH (UJ Yb.out (m3) (h3.lt));refine zPU ?_;have OW:=zH (tA CK M8.out.size);have TG:=zH (KR8.out.moved m3 n3z);have n39:=Sd m3 KR8.out.lt n3z;replace H8:=zH h3;replace M8:=zH (M8.out.trans m3);clear h3 m3 CK KR8 HP8;refine Ow ?_;refine eL [] rfl Yb (fun Hz wE df Uo=>?_)
 clear Uo;unfold Nh
 try simp only [List.foldl]
 replace H8:=zH (H8.out.below df);replace M8:=zH (M8.out.trans (Qc df));replace TG:=zH (TG.out.below df TG.out.lt);replace OW:=zH (Mc OW.out df zR);replace ia:=(Cc V0 NZ).trans _ _ _ ia (Sj df Yb.out.size);replace Yb:=zH (su Yb.out df)
 refine zPU ?_
 clear df;have cr:=TG.out.cell;have fr:=TG.out.frozen;refine Lr ?_;refine ef (Cc V0 NZ) rfl rfl rfl ?_;go_simp;refine ⟨pT HV0.out [vd vn ch.al,vd vn ch.rh,vd vn ch.be] _,?_⟩
 refine zPU ?_
 have kf:=dG [vd vn ch.al,vd vn ch.rh,vd vn ch.be] TG.out rfl;simp only [ao,Lj,Nat.reduceAdd] at kf;have h9:=((H8.out.set n39 (vd vn ch.al) (i:=0)).set n39 (vd vn ch.rh) (i:=1)).set n39 (vd vn ch.be) (i:=2);have lr:w.1.size <= w.1.size+3:=Nat.le_add_right _ _;have m9:=Gg (Gg (Gg M8.out lr 0 (vd vn ch.al)) lr 1 (vd vn ch.rh)) lr 2 (vd vn ch.be);have OWE:=zH (Z6 OW.out TG.out (by decide))
 have Va:gr≠w.1.size+3:=fun e=>OWE.out gr rfl (by rw [e])
 have OW9:=di OW.out (u:=((wE.setCell ⟨w.1.size+3,0,vD⟩ (vd vn ch.al)).setCell ⟨w.1.size+3,1,vD⟩ (vd vn ch.rh)).setCell ⟨w.1.size+3,2,vD⟩ (vd vn ch.be)) fun b hb=>by
  obtain rfl:gr=b:=Za hb;rw [ug _ ⟨w.1.size+3,2,vD⟩ _ gr Va,ug _ ⟨w.1.size+3,1,vD⟩ _ gr Va,ug _ ⟨w.1.size+3,0,vD⟩ _ gr Va]
 generalize vF (vF (vF wE _ _) _ _) _ _=wf at kf h9 m9 OW9 |-;have cf:=kf.cell;clear cr fr ia Yb;have ia:=(Cc V0 NZ).refl wf;refine Lr ?_;refine Jc ?_;go_wp2;exact Tc (by simp [results,results175,go_sem,cf]) rfl ⟨gr,dr,F3,rfl,h9,m9,OW9,n3r⟩
def Bw (real:Bool) (pd:Nat):Ha:=if real then ⟨false,0,0,[]⟩ else ⟨true,pd,0,[]⟩
abbrev mH (p:Nat) (pub vars:Int) (A B:Option vy) (n c m d:Nat) (bl bw qs coin:Int) (real:Bool) (pd:Nat):Array vx :=
 #[vd vn p,vd vq pub,vd vq vars,ve A n c,vd vq bl,vd vq bw,vd vq qs,ve B m d,vd vn coin, .bool real,vd vn pd]
end Go.Proofs.YteoghgbnielkpaaGreat
