/- A part of the proof. No condition. -/
import Derived.Test.YteoghgbnielkpaaGreatPP11
import Derived.Shelf.Sort.Plain
import Derived.Sort.OwnSortedInts

set_option maxRecDepth 100000
set_option maxHeartbeats 8000000
set_option linter.unusedVariables false
set_option linter.unusedSimpArgs false
namespace Go.Proofs.YteoghgbnielkpaaGreat
open Go.RowKit Go.Maps
open Tryz
open Go renaming World->vu, Value->vw, Addr->vx, TypeId->vy, Calls->vA
open Go.Value renaming int->vd, slice->ve, agg->vf
open Go.IntKind renaming u64->vo, i64->vq
open Go.Ending renaming returned->vn
open Go.RowKit renaming Below->vz
open Go.World renaming setCell->vE
open Go.Act renaming put->vF
open Option renaming none->vB, some->vD
def Nf (O:Jb) (k:Nat):Prop:=O.qs.length <= k /\ O.dr <= k
theorem yz {O:Jb} {k:Nat} (h:Nf O k) (lab:Nat) (el:List Nat):Nf (Qd O lab el) (k+1):=by
 obtain ⟨i,s,d,q⟩:=O;have h1:q.length <= k:=h.1;have h2:d <= k:=h.2;unfold Qd;split
 ·split
  ·exact ⟨Nat.le_succ_of_le h1,Nat.le_succ_of_le h2⟩
  ·split
   ·refine ⟨?_,?_⟩
    ·rw [NJ,C0,qh]
     exact Nat.succ_le_succ h1
    ·rw [orcDr]
     exact Nat.succ_le_succ h2
   ·refine ⟨?_,?_⟩
    ·rw [NJ,qh]
     exact Nat.succ_le_succ h1
    ·exact Nat.le_succ_of_le h2
 ·exact ⟨Nat.le_succ_of_le h1,Nat.le_succ_of_le h2⟩
where
 orcDr {i:Bool} {s d:Nat} {q:List Qn} {lab a:Nat} {el:List Nat}:(Mk (Ro ⟨i,s,d,q⟩) lab el a).dr=d+1:=rfl
theorem FI {lab:Nat}:∀ (qs:List (List Nat)) {O:Jb} {k:Nat},Nf O k -> Nf (Nc O lab qs) (k+qs.length)
 | [],_,_,h=>h
 | q :: r,O,k,h=>by
  have:=FI (lab:=lab) r (yz h lab q);rw [Yh,show k+(r.length+1)=k+1+r.length by omega]
  exact this
theorem Bl {O:Jb} {k m:Nat} (h:Nf O k) (hm:k <= m):Nf O m:=⟨jb h.1 hm,jb h.2 hm⟩
theorem J4 (O:Jb) (lab:Nat) (el:List Nat):(Qd O lab el).ideal=O.ideal:=by
 unfold Qd;split
 ·split
  ·rfl
  ·split
   ·rw [addQ_id,ZZ]
   ·rw [addQ_id]
 ·rfl
where
 addQ_id {O:Jb} {lab a:Nat} {el:List Nat}:(Mk O lab el a).ideal=O.ideal:=by simp only [Mk]
def Ni (leaves:List (List Nat)) (salts:List Nat):List (List Nat):=(List.range leaves.length).map fun i=>salts.getD i 0 :: leaves.getD i []
theorem AI (leaves:List (List Nat)) (salts:List Nat):(Ni leaves salts).length=leaves.length:=by simp [Ni]
theorem zEz (leaves:List (List Nat)) (salts:List Nat) (i:Nat) (h:i<leaves.length):(Ni leaves salts).getD i []=salts.getD i 0 :: leaves.getD i []:=by simp [Ni,Hc,h]
theorem qH {α:Type} {l:List α} {i:Nat} (d:α) (h:i<l.length):l.getD i d∈l:=by
 rw [Hc,Ec h];exact Qe h
theorem zD9:(prog.info? 28).map (fun i=>(i.zero,i.size,i.bytes))=vD (vD (ve vB 0 0),1,24):=by kernel_rfl
theorem kV:Ds prog 39 28 1 24 (ve vB 0 0):=by
 obtain ⟨i0,hi,Hi,Vd,Pg⟩:=info_parts zD9;exact ⟨underlying39,⟨i0,hi,Hi,Vd,Pg⟩,rfl,zO⟩
def RN (v:vw):Nat:=match v with | ve _ n _=>n | _=>0
def ZY (w:vu) (g:Nat) (F:Nat -> Prop) (d:Nat) (O0:Jb) (L0:List Nat) (lv vs:vw) (wq:vu):Prop :=
 ∃ (j:Nat) (ls:List (List Nat)) (Oj:Jb) (lj:List Nat) (F1:Nat -> Prop) (gj M:Nat) (T:Nat -> Prop) (cs:List vw),
  (lj.length=2^j /\ (∀ x∈lj,x<nc) /\ lv=ve (vD ⟨gj,0,vB⟩) (2^j) (2^j) /\ Blk wq gj 22 (Qa lj).toArray /\ T gj) /\
  (OrcAt wq g Oj F1 /\ Moved F F1 w wq /\ Nf Oj M /\ M+2*2^j <= 204096) /\ (rn d O0 L0=ls++rn j Oj lj /\ Zv d O0 L0=Zv j Oj lj /\ ls.length+j <= 10) /\
  (wq.ownsRow (w.1.size+1) 28 1 vs (ls.length+1) cs /\ SG T wq cs (ls++[lj])) /\
  ((∀ b,T b -> w.1.size<b /\ b<wq.1.size /\ ¬F1 b /\ vs.ownBlock≠vD b) /\ (∀ b,vs.ownBlock=vD b -> ¬F1 b) /\ Blk wq w.1.size 132 #[ve vB 0 0] /\ ¬F1 w.1.size)
theorem zCs {w:vu} {g:Nat} {O:Jb} {F K:Nat -> Prop} (h:OrcAt w g O F) (A B:Option vx) (n c m e:Nat) (leaves:List (List Nat)) (salts:List Nat) (d:Nat)
  (hl:Ms K w (ve A n c) leaves) (hs:Lj K w (ve B m e) salts) (hK:∀ b,K b -> b<w.1.size /\ ¬F b) (hd:d <= 10) (hn:leaves.length=2^d) (nu:salts.length=leaves.length) (hse:fe salts=true) (hle:∀ l∈leaves,fe l=true)
  (eu:∀ l∈leaves,l.length <= 100000) (hO:Nf O 100000) :
  vA prog 62 #[.pointer (vD ⟨g,0,vB⟩),ve A n c,ve B m e] w fun e w'=>∃ tv F' T,e=vn (.tuple #[vf #[tv],vd vq 0]) /\
   OrcAt w' g (Zv d (Nc O 16 (Ni leaves salts)) (bf O 16 (Ni leaves salts))) F' /\ Moved F F' w w' /\ Ms T w' tv (rn d (Nc O 16 (Ni leaves salts)) (bf O 16 (Ni leaves salts))) /\ ∀ b,T b -> w.1.size <= b /\ b<w'.1.size /\ ¬F' b:=by
 obtain ⟨rfl,kd,ef⟩:=zEr hl;have az:m=salts.length:=by obtain ⟨A',c',e1,-⟩:=AS hs;injection e1 with _ e2 _
 subst az;have Ce:leaves.length <= 1024:=by rw [hn];exact jb (Jt zO hd) zD
 have Ue:0<leaves.length:=by rw [hn];exact Nat.pow_pos zO
 have bA:=zH (show ∀ w,vA prog 135 #[vd vq leaves.length] w fun e w'=>e=vn (.bool true) /\ w=w' from fun w=>by have:=Q5 leaves.length w;rw [hn,RS hd] at this;rw [hn];exact this)
 obtain ⟨q0,sB⟩:=zEX (Ni leaves salts);rw [<- sB];have nE:=zH (show q0.length=leaves.length by rw [sB,AI])
 have HQ:=zH (fun i (hi:i<leaves.length)=>show q0.getD i []=salts.getD i 0 :: leaves.getD i [] by rw [sB];exact zEz _ _ _ hi)
 obtain ⟨nn,pg⟩:=zEX (leaves.length);rw [nu] at hs |-;rw [<- pg] at hl hs hn Ue Ce bA nE HQ kd |-;obtain ⟨xI,Oa⟩:=zN w 132 #[ve vB 0 0];have HSe:=zH (show ∀ w1,vz w.1.size w w1 -> vA prog 136 #[ve B nn e] w1 fun e w'=>e=vn (.bool true) /\ w1=w' from fun w1 hb=>by have:=U6 B nn e salts w1 (Nx (BL hs hb));rw [hse] at this;exact this)
 have HLe:=zH (show ∀ w1 i A1 n1 c1,RWd w1 [ve A1 n1 c1] (leaves.getD i []) -> i<nn -> vA prog 136 #[ve A1 n1 c1] w1 fun e w'=>e=vn (.bool true) /\ w1=w' from fun w1 i A1 n1 c1 hr hi=>by have:=U6 A1 n1 c1 (leaves.getD i []) w1 hr;rw [hle _ (qH [] zO)] at this;exact this)
 have HL:=zH hl;have HS:=zH hs;have HK:=zH hK;have HN:=zH hn;have Lf:=zH pg;have Hj:=zH (show ∀ i,i<nn -> (leaves.getD i []).length <= 100000 from fun i hi=>eu _ (qH [] zO))
 have HO:=zH hO;have H:=zH h;have db:((nn:Int)!=nn)=false:=by simp
 have ah:=fun w=>Rv nn zO w
 obtain ⟨zc,Rr⟩:=zEX (Ya nn fun _=>0)
 rw [<- Rr] at ah;have QG:=zH Rr;clear hl hs hK hn pg eu hO h hse hle nu sB Rr;go_enter func62,ntmps62
 go_wp2_with fail
 refine (bA.out _).mono ?_;rintro _ w1 ⟨rfl,rfl⟩;go_wp2_with fail
 refine (HSe.out _ Oa).mono ?_;rintro _ w1 ⟨rfl,rfl⟩;go_wp2_with fail
 generalize w.alloc _=w1 at Oa xI |-;go_loopw [35] (fun y wr=>∃ i:Nat,i <= nn /\ y=vd vq i /\ wr=w1) (fun y _=>nn-(intOf y).toNat)
 case atStart=>exact ⟨0,Qb _,rfl,rfl⟩
 case round =>
  obtain ⟨i,hi,rfl,rfl⟩:=hrel;by_cases ya:i<nn
  ·obtain ⟨b,q,A1,n1,c1,eA,hKb,dc,Zm,nN⟩:=Z5 (YW HL.out Oa) (show i<leaves.length by have:=Lf.out;omega)
   have tp:=Nx nN;have Gs:=zH (HLe.out wr i A1 n1 c1 tp ya);have g1:(0:Int)<=i:=by omega
   have g2:(i:Int)<nn:=by omega
   subst eA;have tc:=zH ya;clear nN tp ya;go_wp2_with fail
   refine Gs.out.mono ?_;rintro _ w2 ⟨rfl,rfl⟩;go_wp2
   go_roundw
   case rel=>exact ⟨i+1,by have:=tc.out;omega,by go_num,by first | rfl | trivial⟩
   case measure=>have:=tc.out;simp [intOf];omega
  ·have e1:nn=i:=by omega
   subst e1;clear ya hi;go_wp2_with fail
   have iD:w.1.size<wr.1.size:=xI.lt;have ma:=zA wr (.cells zc 22);have kl0:=Blk.new wr 22 zc;replace xI:=pa xI ma;replace Oa:=ta Oa ma;generalize wr.alloc _=wA at kl0 xI Oa |-;generalize wr.1.size=gl at kl0 iD |-;clear ma ah;obtain ⟨V,hV⟩:∃ V:Nat -> Nat,V=fun k=>(bf O 16 q0).getD k 0:=⟨_,rfl⟩
   have HV:=zH (show ∀ i,i<nn -> V i=Ae (Nc O 16 (q0.take i)) 16 (salts.getD i 0 :: leaves.getD i []) from fun i hi=>by rw [hV];simp only;rw [tZ O 16 q0 i (by rw [nE.out];exact hi),HQ.out i hi])
   have Is:=zH (show ∀ k,V k=(bf O 16 q0).getD k 0 from fun k=>by rw [hV])
   have Mf:=zH (show ∀ i,i<nn -> Nc O 16 (q0.take (i+1))=Qd (Nc O 16 (q0.take i)) 16 (salts.getD i 0 :: leaves.getD i []) from fun i hi=>by rw [wO O 16 q0 i (by rw [nE.out];exact hi),HQ.out i hi])
   have gO:=zH (show ∀ i,i <= nn -> Nf (Nc O 16 (q0.take i)) 200000 from fun i hi=>Bl (FI (q0.take i) HO.out) (by rw [List.length_take];omega))
   clear hV;have HLA:=zH (YW HL.out Oa);have Gw:=zH (BL HS.out Oa);have mA:Moved F F w wA:=Af Oa;have nFl:¬F gl:=fun e=>by have:=H.out.lt gl e;omega
   have hKl:Hid (∀ b,K b -> ¬Nj F gl b):=fun b hb e=>by
    have:=HK.out b hb;rcases e with e | e
    ·exact this.2 e
    ·omega
   rw [QG.out,show Ya nn (fun _=>0)=Ya nn (fun k=>if k<0 then V k else 0) from iq fun i _=>by rw [Gb zO]] at kl0
   have HA:=H.out.below Oa;have hg49:(nn:Int) <= 1024:=by omega
   go_loopw [49] (fun y wr=>∃ (i:Nat) (F1:Nat -> Prop),i <= nn /\ y=vd vq i /\ OrcAt wr g (Nc O 16 (q0.take i)) F1 /\ Moved (Nj F gl) (Nj F1 gl) wA wr /\ Blk wr gl 22 (Ya nn fun k=>if k<i then V k else 0) /\ ¬F1 gl) (fun y _=>nn-(intOf y).toNat)
   case atStart=>exact ⟨0,F,Qb _,rfl,HA,Moved.refl,kl0,nFl⟩
   case round =>
    clear kl0 HA nFl;obtain ⟨i,F1,hi,rfl,h1,m1,kl,Tv⟩:=hrel;by_cases ya:i<nn
    ·obtain ⟨b,q,A1,n1,c1,eA,hKb,dc,Zm,nN⟩:=Z5 (zEs HLA.out m1 hKl.out) (show i<leaves.length by have:=Lf.out;omega)
     have Na:=Nx (zEq Gw.out m1 hKl.out);have hnB:=(Pb Na).1;rw [hnB] at Na;obtain ⟨b2,q2,eB,Pk,pP⟩:=Hf (Pb Na).2.2.2.2 (show i<salts.length by omega)
     rw [<- hnB] at Na;have hx:=CI (Pb Na).2.2.2.1 (show i<salts.length by omega)
     have tp:=Nx nN;have HLL1:=zH (Hj.out i ya);have xA:=zH (HV.out i ya);have tJ:=zH (Mf.out i ya);have fO:=zH (gO.out i hi);subst eA eB;have tc:=zH ya;have Y4:∀ y∈salts.getD i 0 :: leaves.getD i [],y<18446744073709551616:=ik hx (by obtain ⟨A',c',e',-,-,h9⟩:=AS nN;exact h9)
     have Uh:=zH Y4;have nm1:∀ b',b'<wr.1.size -> ∀ b'',wr.1.size <= b'' -> b'≠b'':=fun _ _ _ _=>zO
     have RI:=zH h1.lt;have g1:(0:Int)<=i:=by omega
     have g2:(i:Int)<nn:=by omega
     obtain ⟨ho,hho⟩:=zEX (Qd (Nc O 16 (q0.take i)) 16 (salts.getD i 0 :: leaves.getD i []));obtain ⟨vv,sI⟩:=zEX (Ae (Nc O 16 (q0.take i)) 16 (salts.getD i 0 :: leaves.getD i []));have HHO:=zH hho;have xJ:=zH sI;generalize salts.getD i 0=x at *;generalize leaves.getD i []=lf at *;clear nN Na hnB Y4 ya nm1 hho sI hx;go_wp2_with fail
     refine (zHE x A1 n1 c1 lf wr tp (zQ HLL1.out)).mono ?_;rintro _ w2 ⟨v,rfl,hv,Fa⟩;obtain ⟨Av,cv,rfl,-,-,-,uc⟩:=Yb hv;have hkv:=zH (XP hv Uh.out);have h2:=zH (h1.below Fa);have wu:=pa kl Fa;have m2:=m1.trans (NS (F:=F1) (Af Fa) gl);have NG:=zH (show ∀ b',(ve Av (n1+1) cv).ownBlock=vD b' -> ¬F1 b' from fun b' sk hf=>by have:=RI.out b' hf;have:=(hv.lt b' sk).1;omega)
     clear hv Fa h1 kl m1 Zm pP uc tp;go_wp2_with fail
     refine (ZR h2.out 16 (x :: lf) Av (n1+1) cv hkv.out NG.out zD (by have:=HLL1.out;simp;omega) (.inl zS) (zQ fO.out.1) (zQ fO.out.2)).mono ?_
     rintro _ w3 ⟨rfl,F2,h3,m3⟩;rw [<- xJ.out];rw [<- HHO.out] at h3;have Uk:=Yl m3 wu.lt Tv;have Bq:=wu.moved m3 Tv;have m4:=m2.trans (NS m3 gl);have Vs:w3.cell? ⟨gl,i,vB⟩=_:=(Bq.cell i).trans (Ei _ tc.out);have uj:=Bq.frozen;have H3:=zH h3;clear wu h2 m2 m3 h3 hkv;go_wp2
     go_roundw
     case rel =>
      refine ⟨i+1,F2,by have:=tc.out;omega,by go_num,?_,m4.trans (H7 _ _ _),?_,Uk⟩
      ·rw [tJ.out,<- HHO.out]
       exact H3.out.set Uk _
      ·have:=Bq.set_ i (vd vo vv)
       rw [Tt] at this;rw [show sg (fun k=>if k<i then V k else 0) i vv=sg (fun k=>if k<i then V k else 0) i (V i) from by rw [xA.out,xJ.out],jY] at this
       exact this
     case measure=>have:=tc.out;simp [intOf];omega
    ·have e1:nn=i:=by omega
     subst e1;have wu:Blk wr gl 22 (Qa (bf O 16 q0)).toArray:=by
      rw [TE,show (List.range nn).map (fun k=>if k<nn then V k else 0)=bf O 16 q0 from List.ext_getElem (by rw [Tm,Sp,rz,nE.out]) fun k h1 h2=>by
       have hk:k<nn:=by simpa using h1
       simp only [List.getElem_map,List.getElem_range,Lb hk,Is.out];rw [Hc,Ec h2];rfl] at kl
      exact kl
     have hO0:Nc O 16 (q0.take nn)=Nc O 16 q0:=by rw [<- nE.out,sZ]
     rw [hO0] at h1;have lU:=zH (show Nf (Nc O 16 q0) 200000 by rw [<- hO0];exact gO.out nn zR)
     have jf:Moved F F1 w wr:=zE2 mA m1 zO;have Rf:=xI.moved m1 (fun e=>by
      rcases e with e | e
      ·have:=H.out.lt _ e;omega
      ·omega)
     have nFr:¬F1 w.1.size:=fun e=>by
      rcases m1.foot _ (.inl e) with h | h
      ·rcases h with h | h
       ·have:=H.out.lt _ h;omega
       ·omega
      ·have:=xI.lt;omega
     have RQ:=zH (xO H.out.ok.ans 16 q0);have Cw:=zH (show (bf O 16 q0).length=2^d by rw [rz,nE.out,HN.out])
     obtain ⟨O0,PV⟩:∃ O0,O0=Nc O 16 q0:=⟨_,rfl⟩;obtain ⟨L0,hL0⟩:=zEX (bf O 16 q0);rw [<- PV] at h1 lU;rw [<- hL0] at wu RQ Cw;have HO0:=zH PV;have HL00:=zH hL0;clear hO0 PV hL0 kl m1 xI HV Is Mf gO HLA Gw mA hKl ya hi HQ HLe QG Oa H HL HS HK;go_wp2_with fail
     have ma:=zA wr (.cells #[ve (vD ⟨gl,0,vB⟩) nn nn] 28);have hgl2:=wu.lt;have Jv:gl<wr.1.size:=hgl2;have Tf:(wr.alloc (.cells #[ve (vD ⟨gl,0,vB⟩) nn nn] 28)).ownsRow (w.1.size+1) 28 1 (ve (vD ⟨wr.1.size,0,vB⟩) 1 1) 1 [ve (vD ⟨gl,0,vB⟩) nn nn]:=⟨rfl, .inr ⟨wr.1.size,1,_,rfl,zO,heap_alloc_new wr _,zR,by simp [maxLen],rfl,rfl⟩⟩
     have Bq:=pa wu ma;have zj:=pa Rf ma;have h3:=h1.below ma;have Em:=jf.trans (Af (F:=F1) ma);have RI:=zH h1.lt;have dp:∀ x∈L0,x<18446744073709551616:=fun x hx=>by have:=RQ.out x hx;unfold nc at this;omega
     have hkl:=UP Bq (n:=nn) (by rw [Cw.out,HN.out]) dp (by simp only [maxLen];omega)
     have nv:¬F1 wr.1.size:=fun e=>by have:=RI.out _ e;omega
     generalize wr.alloc _=wB at ma Tf Bq zj h3 Em hkl |-;generalize wr.1.size=gv at Jv nv Tf |-;have REL:ZY w g F d O0 L0 (ve (vD ⟨gl,0,vB⟩) nn nn) (ve (vD ⟨gv,0,vB⟩) 1 1) wB:=by
      refine ⟨d,[],O0,L0,F1,gl,200000,fun b=>b=gl,[ve (vD ⟨gl,0,vB⟩) nn nn],⟨Cw.out,RQ.out,by rw [HN.out],Bq,rfl⟩,⟨h3,Em,lU.out,by have:=HN.out;omega⟩,⟨rfl,rfl,by simpa using hd⟩,⟨Tf,⟨rfl,fun i h1 h2=>?_⟩⟩,⟨fun b hb=>?_,fun b hb=>?_,zj,nFr⟩⟩
      ·obtain rfl:i=0:=by simp at h1;omega
       exact hkl
      ·subst hb
       refine ⟨iD,Bq.lt,Tv,fun e=>?_⟩
       simp [Value.ownBlock] at e
       omega
      ·simp [Value.ownBlock] at hb
       subst hb;exact nv
     clear wu h1 jf Rf nFr Tv Tf Bq zj h3 Em hkl ma lU RI dp nv Jv hgl2 RQ Cw HO hg49 db Ue Ce kd ef;have MG:=zH (show ∀ j,j <= 10 -> 2^j <= 1024 from fun j hj=>jb (Jt zO hj) zD)
     go_loopw [10,13] (fun lv vs wq=>ZY w g F d O0 L0 lv vs wq) (fun lv _ _=>RN lv)
     case atStart=>exact REL
     case round =>
      clear REL;obtain ⟨j,ls,Oj,lj,F1,gj,M,T,cs,⟨bn,haj,rfl,kj,hTj⟩,⟨hj,mj,hLe,hM⟩,⟨et,eo,hlsj⟩,⟨own,rows⟩,⟨hT,tl,kr,nFr⟩⟩:=hrel;rcases j with _ | j
      ·have e1:(2:Nat)^0=1:=rfl
       obtain ⟨Av,cv,rfl,-⟩:=Yb own;have gll:w.1.size<wr.1.size:=kr.lt;have hvr:∀ b,(ve Av (ls.length+1) cv).ownBlock=vD b -> b≠w.1.size:=fun b hb e=>by have:=(own.lt b hb).1;omega
       have hf:=kr.frozen;have hc:wr.cell? ⟨w.1.size,0,vB⟩=_:=kr.cell 0;have Bt:=zH (show ∃ F' T',OrcAt (wr.setCell ⟨w.1.size,0,vB⟩ (ve Av (ls.length+1) cv)) g (Zv 0 Oj lj) F' /\ Moved F F' w (wr.setCell ⟨w.1.size,0,vB⟩ (ve Av (ls.length+1) cv)) /\ Ms T' (wr.setCell ⟨w.1.size,0,vB⟩ (ve Av (ls.length+1) cv)) (ve Av (ls.length+1) cv) (ls++rn 0 Oj lj) /\ ∀ b,T' b -> w.1.size <= b /\ b<(wr.setCell ⟨w.1.size,0,vB⟩ (ve Av (ls.length+1) cv)).1.size /\ ¬F' b from by
        have hset:∀ b,b≠w.1.size -> (wr.setCell ⟨w.1.size,0,vB⟩ (ve Av (ls.length+1) cv)).1[b]?=wr.1[b]?:=fun b hb=>Mu wr _ _ b hb
        refine ⟨F1,fun b=>T b \/ (ve Av (ls.length+1) cv).ownBlock=vD b,hj.set nFr _,Tk mj zR _ _,?_,fun b hb=>?_⟩
        ·exact zEI (ZP rows (by simp [vE]) fun b hb _=>hset b (zQ ((hT b hb).1))) (Ye own fun b hb=>hset b (hvr b hb))
        ·have Db:(wr.setCell ⟨w.1.size,0,vB⟩ (ve Av (ls.length+1) cv)).1.size=wr.1.size:=by simp [vE]
         rw [Db];rcases hb with hb | hb
         ·exact ⟨by have:=(hT b hb).1;omega,(hT b hb).2.1,(hT b hb).2.2.1⟩
         ·exact ⟨by have:=(own.lt b hb).1;omega,(own.lt b hb).2,tl b hb⟩)
       rw [<- et,<- eo,HL00.out,HO0.out] at Bt;clear hT tl own rows hj mj et eo kj bn haj hTj hLe hM;have cz:(wr.setCell ⟨w.1.size,0,vB⟩ (ve Av (ls.length+1) cv)).cell? ⟨w.1.size,0,vB⟩=vD (ve Av (ls.length+1) cv):=by
        have:=(kr.set_ 0 (ve Av (ls.length+1) cv)).cell 0
        simpa using this
       go_wp2;refine Uc (v:=.tuple #[vf #[ve Av (ls.length+1) cv],vd vq 0]) (by simp [results,results62,go_sem,cz]) rfl ?_
       obtain ⟨F',T',d1,d2,d3,d4⟩:=Bt.out
       first | exact ⟨_,F',T',rfl,d1,d2,d3,d4⟩ | exact ⟨_,rfl,F',d1,d2,T',d3,d4⟩
      ·have h1024:=MG.out j zO
       have epow:(2:Nat)^(j+1)=2*2^j:=by rw [Zg,xg]
       obtain ⟨nk,gI⟩:=zEX (2^j);rw [epow] at bn hM |-;rw [<- gI] at bn hM h1024 |-;have og:0<nk:=by rw [gI];exact Nat.pow_pos zO
       obtain ⟨nj,AF⟩:=zEX (2*nk);rw [<- AF] at bn |-;have HNK:=zH gI;have HNJ:=zH AF;have c1:decide ((1:Int)<nj)=true:=xc zO;have c2:(nj:Int).tdiv 2=(nk:Int):=by rw [FM zO];omega
       have ah:=fun w=>Rv nk zO w
       obtain ⟨zc,Rr⟩:=zEX (Ya nk fun _=>0)
       rw [<- Rr] at ah;have QG:=zH Rr;have ma:=zA wr (.cells zc 22);have kn0:=Blk.new wr 22 zc;have RI:=zH hj.lt;have ET:=zH et;have EO:=zH eo;have HAJ:=zH haj;have HLJ:=zH bn;have HLS:=zH hlsj;have BG:=zH hM;have HT:=zH hT;have OG:=zH tl;have dC:=zH hLe;have nFn:¬F1 wr.1.size:=fun e=>by have:=RI.out _ e;omega
       have hgj:=kj.lt;have hgjn:gj<wr.1.size:=hgj;have Ta:=kr.lt;have nFj:¬F1 gj:=(hT gj hTj).2.2.1;have HTN:=zH (show ∀ b,T b -> b≠wr.1.size from fun b hb e=>by have:=(hT b hb).2.1;omega)
       have Qq:=zH (show ∀ b,u13.ownBlock=vD b -> b<wr.1.size from fun b hb=>(own.lt b hb).2)
       have uB:w.1.size<wr.1.size:=Ta;clear et eo haj bn hlsj hM hT tl hLe gI AF Rr epow;replace kj:=pa kj ma;replace kr:=pa kr ma;replace hj:=hj.below ma;replace own:=Za own ma zR;replace rows:=ZP rows ma.size fun b _ hl=>ma.block b hl
       replace mj:=mj.trans (Af (F:=F1) ma);go_wp2_with fail
       generalize wr.alloc _=wB at kn0 kj kr hj own rows mj |-;generalize wr.1.size=gn at kn0 RI HT nFn hgj hgjn Ta HTN Qq uB |-;have V5:gn<wB.1.size:=kn0.lt;have h2a:=zH hj.ok.ans;clear ma ah hgj Ta;obtain ⟨V,hV⟩:∃ V:Nat -> Nat,V=fun k=>(bf Oj 17 (Ze lj)).getD k 0:=⟨_,rfl⟩
       have lh:=zH (show (Ze lj).length=nk by rw [GL,HLJ.out,HNJ.out];omega)
       have mE:=zH (show ∀ i,i<nk -> (Ze lj).getD i []=[lj.getD (2*i) 0,lj.getD (2*i+1) 0] from fun i hi=>T8 lj i (by rw [HLJ.out,HNJ.out];omega))
       have HV:=zH (show ∀ i,i<nk -> V i=Ae (Nc Oj 17 ((Ze lj).take i)) 17 [lj.getD (2*i) 0,lj.getD (2*i+1) 0] from fun i hi=>by rw [hV];simp only;rw [tZ Oj 17 (Ze lj) i (by rw [lh.out];exact hi),mE.out i hi])
       have Is:=zH (show ∀ k,V k=(bf Oj 17 (Ze lj)).getD k 0 from fun k=>by rw [hV])
       have Mf:=zH (show ∀ i,i<nk -> Nc Oj 17 ((Ze lj).take (i+1))=Qd (Nc Oj 17 ((Ze lj).take i)) 17 [lj.getD (2*i) 0,lj.getD (2*i+1) 0] from fun i hi=>by rw [wO Oj 17 (Ze lj) i (by rw [lh.out];exact hi),mE.out i hi])
       have gO:=zH (show ∀ i,i <= nk -> Nf (Nc Oj 17 ((Ze lj).take i)) (M+nk) from fun i hi=>Bl (FI ((Ze lj).take i) dC.out) (by rw [List.length_take];omega))
       clear hV;rw [QG.out,show Ya nk (fun _=>0)=Ya nk (fun k=>if k<0 then V k else 0) from iq fun i _=>by rw [Gb zO]] at kn0
       have KJ:=zH kj;have HAJ2:=zH (show ∀ k,lj.getD k 0<nc from fun k=>by
        rw [Hc];rcases Zj k lj.length with h1 | h1
        ·rw [Ec h1];exact HAJ.out _ (Qe h1)
        ·rw [It h1];show 0<nc;decide)
       have nOj:¬Nj F1 gn gj:=fun e=>by
        rcases e with e | e
        ·exact nFj e
        ·omega
       have AE:=zH own;have ROWS:=zH rows;have KR:=zH kr;have MJ:=zH mj;clear kj kr own rows mj;go_loopw [77] (fun y wq=>∃ (i:Nat) (F2:Nat -> Prop),i <= nk /\ y=vd vq i /\ OrcAt wq g (Nc Oj 17 ((Ze lj).take i)) F2 /\ Moved (Nj F1 gn) (Nj F2 gn) wB wq /\ Blk wq gn 22 (Ya nk fun k=>if k<i then V k else 0) /\ ¬F2 gn) (fun y _=>nk-(intOf y).toNat)
       case atStart=>exact ⟨0,F1,Qb _,rfl,hj,Moved.refl,kn0,nFn⟩
       case round =>
        clear kn0 hj;obtain ⟨i,F2,hi,rfl,h2,m2,kn,Uk⟩:=hrel;by_cases ya:i<nk
        ·have kj:=KJ.out.moved m2 nOj
         have lgj:=kj.lt;have nO2:¬Nj F2 gn gj:=Yl m2 KJ.out.lt nOj;have xA:=zH (HV.out i ya);have tJ:=zH (Mf.out i ya);have fO:=zH (gO.out i hi);have GH:=zZ kj (show 2*i<lj.length by rw [HLJ.out,HNJ.out];omega)
         have hcB:=zZ kj (show 2*i+1<lj.length by rw [HLJ.out,HNJ.out];omega)
         have HXq:=zH (HAJ2.out (2*i));have HYq:=zH (HAJ2.out (2*i+1));obtain ⟨i2,Ff⟩:=zEX (2*i);rw [<- Ff] at xA tJ GH hcB HXq HYq;obtain ⟨i3,au⟩:=zEX (i2+1);rw [<- au] at xA tJ hcB HYq;have e1:vq.wrap (2*(i:Int))=(i2:Int):=by rw [Bi];omega
         have e2:vq.wrap ((i2:Int)+1)=(i3:Int):=by rw [Bi];omega
         have hnj3:i3<nj:=by rw [HNJ.out];omega
         have g1:(0:Int)<=i:=by omega
         have g2:(i:Int)<nk:=by omega
         have g3:(0:Int)<=i2:=by omega
         have g4:(i2:Int)<nj:=by omega
         have g5:(0:Int)<=i3:=by omega
         have g6:(i3:Int)<nj:=by omega
         obtain ⟨ho,hho⟩:=zEX (Qd (Nc Oj 17 ((Ze lj).take i)) 17 [lj.getD i2 0,lj.getD i3 0]);obtain ⟨vv,sI⟩:=zEX (Ae (Nc Oj 17 ((Ze lj).take i)) 17 [lj.getD i2 0,lj.getD i3 0]);have HHO:=zH hho;have xJ:=zH sI;generalize lj.getD i2 0=x at *;generalize lj.getD i3 0=y at *;have tc:=zH ya;have Yz:=zH Ff;have HI3:=zH au;have H2:=zH h2;obtain ⟨NQ,Dd⟩:=zEX (wr.1.size);rw [<- Dd] at lgj;have se:=zH Dd;have KN:=zH kn;have M2:=zH m2;clear hho sI ya Ff au h2 Dd kj kn m2 hnj3;go_wp2_with fail
         refine Pd (Fl (Nj F2 gn) NQ) [14,15,17] [0,1,2,3,4,5,6,7,8,9,10,11,12,13,14,15,16,17] zK zK ?_;refine oe (mc (Nj F2 gn) NQ) ?_;intro Wc Ga ja;have H3:=zH (show OrcAt Wc g (Nc Oj 17 ((Ze lj).take i)) F2 by rw [Ga.out];exact H2.out.drew)
         have M3:=zH (show Moved (Nj F1 gn) (Nj F2 gn) wB Wc by rw [Ga.out];exact SF M2.out)
         have MF:Blk Wc gn 22 (Ya nk fun k=>if k<i then V k else 0):=by rw [Ga.out];exact KN.out.drew
         have Gc:NQ <= Wc.1.size:=by rw [Ga.out,se.out];exact zR
         clear Ga H2 KN M2;refine Ip ?_;refine ke (mc (Nj F2 gn) NQ) rfl rfl rfl ?_;go_simp;refine ⟨ze ((Kb _ _).alloc zR _) Gc,?_⟩;obtain ⟨kp,ma⟩:=zN Wc 22 #[vd vo x,vd vo y];have nFp:¬F2 Wc.1.size:=fun e=>by have:=H3.out.lt _ e;omega
         replace MF:=pa MF ma;replace H3:=zH (H3.out.below ma);replace M3:=zH (M3.out.trans (NS (Af (F:=F2) ma) gn));replace Gc:=jb Gc ma.size
         refine zPU ?_
         generalize Wc.alloc _=w3 at kp MF H3 M3 Gc |-;generalize Wc.1.size=gp at kp nFp |-;clear ma ja;have ja:=(mc (Nj F2 gn) NQ).refl w3;have hkp:=zH (UP (l:=[x,y]) kp (n:=2) rfl (ik (by have:=HXq.out;unfold nc at this;omega) (ik (by have:=HYq.out;unfold nc at this;omega) (fun _ h=>nomatch h))) (by simp [maxLen]))
         refine oM (mc (Nj F2 gn) NQ) rfl rfl rfl (fun _=>by go_simp <;> rfl) ((ZR H3.out 17 [x,y] (vD ⟨gp,0,vB⟩) 2 2 hkp.out (fun b hb=>by subst hb;exact nFp) zD zS (.inl zS) (by have:=fO.out.1;have:=BG.out;omega) (by have:=fO.out.2;have:=BG.out;omega)).mono ?_)
         rintro e w4 ⟨rfl,F3,h4,m4⟩;refine ⟨_,rfl,IV m4 Gc (fun b _ h=>.inl h),?_⟩
         replace ja:=(mc (Nj F2 gn) NQ).trans _ _ _ ja (IV m4 Gc (fun b _ h=>.inl h))
         refine zPU ?_;have TF:=Yl m4 MF.lt Uk;have kn4:=MF.moved m4 Uk;have M4:=zH (M3.out.trans (NS m4 gn));have H4:=zH h4;have Vs:w4.cell? ⟨gn,i,vB⟩=_:=(kn4.cell i).trans (Ei _ tc.out);have uj:=kn4.frozen;clear ja MF H3 M3 m4 h4 hkp GH hcB kp nFp;have ja:=(mc (Nj F2 gn) NQ).refl w4;refine Ip ?_;refine ke (mc (Nj F2 gn) NQ) rfl rfl rfl ?_;go_simp;refine ⟨L3 (.inr rfl) _,?_⟩
         refine zPU ?_
         refine Vc ?_;rw [<- xJ.out];rw [<- HHO.out] at H4;go_wp2
         go_roundw
         case rel =>
          refine ⟨i+1,F3,by have:=tc.out;omega,by go_num,?_,M4.out.trans (H7 _ _ _),?_,TF⟩
          ·rw [tJ.out,<- HHO.out]
           exact H4.out.set TF _
          ·have:=kn4.set_ i (vd vo vv)
           rw [Tt] at this;rw [show sg (fun k=>if k<i then V k else 0) i vv=sg (fun k=>if k<i then V k else 0) i (V i) from by rw [xA.out,xJ.out],jY] at this
           exact this
         case measure=>have:=tc.out;simp [intOf];omega
        ·have e1:nk=i:=by omega
         subst e1;have kn2:Blk wr gn 22 (Qa (bf Oj 17 (Ze lj))).toArray:=by
          rw [TE,show (List.range nk).map (fun k=>if k<nk then V k else 0)=bf Oj 17 (Ze lj) from List.ext_getElem (by rw [Tm,Sp,rz,lh.out]) fun k h1 h2=>by
           have hk:k<nk:=by simpa using h1
           simp only [List.getElem_map,List.getElem_range,Lb hk,Is.out];rw [Hc,Ec h2];rfl] at kn
          exact kn
         have yH:Nc Oj 17 ((Ze lj).take nk)=Nc Oj 17 (Ze lj):=by rw [<- lh.out,sZ]
         rw [yH] at h2;have nO:∀ b,u13.ownBlock=vD b -> ¬Nj F1 gn b:=fun b hb e=>by
          rcases e with e | e
          ·exact OG.out b hb e
          ·have:=Qq.out b hb;omega
         have nT:∀ b,T b -> ¬Nj F1 gn b:=fun b hb e=>by
          rcases e with e | e
          ·exact (HT.out b hb).2.2.1 e
          ·exact HTN.out b hb e
         have Dq:=ZS AE.out m2 nO;have rows2:=ZP ROWS.out m2.size fun b hb hl=>m2.block b hl (nT b hb)
         have Rf:=KR.out.moved m2 (fun e=>by
          rcases e with e | e
          ·exact nFr e
          ·omega)
         have nFr2:¬F2 w.1.size:=fun e=>Yl m2 KR.out.lt (fun e=>by
          rcases e with e | e
          ·exact nFr e
          ·omega) (.inl e)
         have mj2:=zE3 MJ.out m2 zO;have nT2:∀ b,T b -> ¬F2 b:=fun b hb e=>Yl m2 (by have:=(HT.out b hb).2.1;have:=V5;omega) (nT b hb) (.inl e)
         have nV2:∀ b,u13.ownBlock=vD b -> ¬F2 b:=fun b hb e=>Yl m2 (by have:=Qq.out b hb;have:=V5;omega) (nO b hb) (.inl e)
         have hL2:(bf Oj 17 (Ze lj)).length=nk:=by rw [rz,lh.out]
         have TY:=zH (xO h2a.out 17 (Ze lj));have FL2:=zH h2.lt;have Ag:=kn2.lt;have H2:=zH h2;have KN2:=zH kn2;have Kc:=zH Rf;have ROWS2:=zH rows2;have MJ2:=zH mj2;have NT2:=zH nT2;have NV2:=zH nV2;have NFR2:=zH nFr2;have hszr:w.1.size+1 <= wr.1.size:=by have:=Rf.lt;omega
         clear h2 kn kn2 yH nO nT rows2 Rf nFr2 mj2 nT2 nV2 m2 ya hi;go_wp2_with (at_builtin;refine Wd rfl _ _ rfl kV rfl (Dq.alloc _) rfl (gg _ _ _) (by intro u hu;rw [Ay.1 hu];rfl) (zQ HLS.out) zT ?_)
         intro v' wn Ua Ma Cb;have ma:=zA wr (.cells #[ve (vD ⟨gn,0,vB⟩) nk nk] 28);have kL:(wr.alloc (.cells #[ve (vD ⟨gn,0,vB⟩) nk nk] 28)).1.size=wr.1.size+1:=by simp
         have hbv:∀ b,u13.ownBlock=vD b -> w.1.size+1 <= b /\ b<wr.1.size:=fun b hb=>Dq.lt b hb
         go_wp2
         go_roundw
         case rel =>
          have MF:=(KN2.out.below ma Ag).grown Ma (fun e=>by have:=Qq.out gn e.symm;omega)
          have zj:=(Kc.out.below ma Kc.out.lt).grown Ma (fun e=>by have:=(hbv _ e.symm).1;omega)
          have dp:∀ x∈bf Oj 17 (Ze lj),x<18446744073709551616:=fun x hx=>by have:=TY.out x hx;unfold nc at this;omega
          refine ⟨j,ls++[lj],Nc Oj 17 (Ze lj),bf Oj 17 (Ze lj),F2,gn,M+nk,fun b=>T b \/ b=gn,cs++[ve (vD ⟨gn,0,vB⟩) nk nk],⟨by rw [hL2,HNK.out],TY.out,by rw [HNK.out],MF, .inr rfl⟩,⟨?_,?_,?_,?_⟩,⟨?_,?_,?_⟩,⟨?_,?_⟩,⟨fun b hb=>?_,fun b hb=>?_,zj,NFR2.out⟩⟩
          ·exact (H2.out.below ma).keep Ma.size fun b hb=>Ma.block b (zQ (FL2.out b hb)) (fun e=>NV2.out b e.symm hb)
          ·exact G7 (MJ2.out.trans (Af ma)) Ma (fun b hb=>by have:=(hbv b hb).1;omega)
          ·exact Bl (FI (Ze lj) dC.out) (by rw [lh.out];exact zR)
          ·have:=BG.out;have:=HNK.out;omega
          ·rw [ET.out];simp [rn]
          ·rw [EO.out];rfl
          ·have:=HLS.out;simp;omega
          ·rw [qh];exact Ua
          ·refine zEH (zEJ (ZP (ZP ROWS2.out ma.size fun b _ hl=>ma.block b hl) Ma.size fun b hb hl=>Ma.block b hl (fun e=>(HT.out b hb).2.2.2 e.symm)) fun b hb=>.inl hb) ?_
           exact VP (UP MF hL2 dp (by simp only [maxLen];omega)) fun b hb=>.inr hb
          ·have Fg:=Ma.size
           rcases hb with hb | hb
           ·refine ⟨(HT.out b hb).1,by have:=(HT.out b hb).2.1;omega,NT2.out b hb,fun e=>?_⟩
            rcases Cb with h | h
            ·rw [h] at e;exact (HT.out b hb).2.2.2 e
            ·rw [h] at e;have:=Nb e;have:=(HT.out b hb).2.1;omega
           ·subst hb
            refine ⟨uB,zO,Uk,fun e=>?_⟩
            rcases Cb with h | h
            ·rw [h] at e;have:=Qq.out _ e;omega
            ·rw [h] at e;have:=Nb e;omega
          ·rcases Cb with h | h
           ·rw [h] at hb;exact NV2.out b hb
           ·rw [h] at hb
            intro e;have:=Nb hb;have:=FL2.out b e;omega
         case measure=>show RN (ve (vD ⟨gn,0,vB⟩) nk nk)<RN (ve (vD ⟨gj,0,vB⟩) nj nj);simp only [RN];have:=HNJ.out;omega
def Zx (O:Jb):Prop:=O.ideal=false -> ∀ q∈O.qs,q.ans=Dk q.lab q.el
theorem BV {qs:List Qn} {lab:Nat} {el:List Nat} {a:Nat} (h:Pf qs lab el=vD a):∃ q∈qs,q.lab=lab /\ q.el=el /\ q.ans=a:=by
 unfold Pf at h;rw [Option.map_eq_some_iff] at h;obtain ⟨q,hq,rfl⟩:=h;have h1:=List.find?_some hq;simp only [Wj,pe,Qo] at h1;exact ⟨q,List.mem_of_find?_eq_some hq,h1.1,h1.2,rfl⟩
theorem zDc {O:Jb} (h:Zx O) (lab:Nat) (el:List Nat):Zx (Qd O lab el):=by
 intro hi;rw [J4] at hi;unfold Qd;split
 ·split
  ·exact h hi
  ·rw [Gb (by rw [hi];exact zt),NJ]
   intro q hq;rcases Tp.1 hq with hq | hq
   ·exact h hi q hq
   ·rw [Ay] at hq
    subst hq
    rfl
 ·exact h hi
theorem zDS {O:Jb} (h:Zx O) (hi:O.ideal=false) (lab:Nat) (el:List Nat):Ae O lab el=if fe el then Dk lab el else 0:=by
 unfold Ae;split
 ·split
  ·rename_i a ha
   obtain ⟨q,hq,h1,h2,h3⟩:=BV ha;rw [<- h3,h hi q hq,h1,h2]
  ·rw [Gb (by rw [hi];exact zt)]
 ·rfl
theorem W8 {O:Jb} (h:Zx O) (hi:O.ideal=false) (lab:Nat) (el:List Nat):GN O lab el=if fe el then vD (Dk lab el) else vB:=by
 unfold GN;split
 ·split
  ·rename_i a ha
   obtain ⟨q,hq,h1,h2,h3⟩:=BV ha;rw [<- h3,h hi q hq,h1,h2]
  ·rw [Gb (by rw [hi];exact zt)]
 ·rfl
structure Tr where
 O:Jb
 st:Nat
 ct:Nat
def Zh (s:Tr) (tag:Nat) (l:List Nat):Tr:=⟨Qd s.O 18 (s.st :: tag :: l),Ae s.O 18 (s.st :: tag :: l),0⟩
def Ps (s:Tr):Nat:=Ae s.O 19 [s.st,s.ct]
def Xp (s:Tr):Tr:=⟨Qd s.O 19 [s.st,s.ct],s.st,s.ct+1⟩
def WC (O:Jb) (L:Tb) (dg:Nat) (pub:List Nat):Tr:=Zh ⟨O,20,0⟩ 1 (dg :: L.block :: L.n :: L.queries :: pub)
structure ChR where
 al:Nat
 rh:Nat
 be:Nat
def Tx (s:Tr) (p root:Nat):ChR:=⟨Ps (Zh s 2 [root])%p,Ps (Xp (Zh s 2 [root]))%p,Ps (Xp (Xp (Zh s 2 [root])))%p⟩
def Fu (s:Tr) (root:Nat):Tr:=Xp (Xp (Xp (Zh s 2 [root])))
def Wx (s:Tr) (all:List Nat) (n q:Nat):List Nat:=GD (Zh s 3 all).O (Zh s 3 all).st 0 n q
def UN (s:Tr) (all:List Nat) (q:Nat):Jb:=Nc (Zh s 3 all).O 19 (Wp (Zh s 3 all).st 0 q)
def RQn (w:vu) (cs:List vw) (q:Qn):Prop:=∃ s,cs=[vd vo q.lab,s,vd vo q.ans] /\ RWd w [s] q.el /\ q.lab<18446744073709551616 /\ q.ans<18446744073709551616
theorem pN:DA RQn:=fun w w' cs q hb h=>by
 obtain ⟨s,h1,h2,h3⟩:=h;exact ⟨s,h1,Wa hb h2,h3⟩
def Md:vu -> List vw -> List Qn -> Prop:=RSl 3 RQn
theorem WW:DA Md:=Qg pN
theorem zHl {α:Type} {R:vu -> List vw -> α -> Prop} {sz:Nat} {w:vu} {A:Option vx} {l:List α} (Db:0<sz) (h:RdL w sz R A l):∃ xs,Rd w sz A l.length xs /\ ∀ (i:Nat) (hi:i<l.length),R w ((xs.drop (i*sz)).take sz) l[i]:=by
 by_cases hl:0<l.length
 ·obtain ⟨a,fj,rfl,-,-,-⟩:=h 0 hl
  have Zm:∀ i j,i<l.length -> j<sz -> ∃ u,w.cell? (a.add (i*sz+j))=vD u:=fun i j hi hj=>by
   obtain ⟨a',cs,e,hlen,hc,-⟩:=h i hi
   injection e with e
   subst e;exact ⟨cs[j],by rw [hc j hj];exact Ec zO⟩
  have hget:∀ q,q<l.length*sz -> ((List.range (l.length*sz)).map fun q=>(w.cell? (a.add q)).getD undef)[q]?=w.cell? (a.add q):=fun q hq=>by
   obtain ⟨u,hu⟩:=Zm (q / sz) (q%sz) (Nat.div_lt_of_lt_mul (by rw [xg];exact hq)) (Sc _ Db)
   rw [show q / sz*sz+q%sz=q by rw [xg];exact FA q sz] at hu
   rw [List.getElem?_map,List.getElem?_range hq,hu];simp [hu]
  refine ⟨(List.range (l.length*sz)).map fun q=>(w.cell? (a.add q)).getD undef,⟨zS,fun _=>⟨a,rfl,fun q u hq=>?_⟩⟩,fun i hi=>?_⟩
  ·have ya:q<l.length*sz:=by
    have:=(List.getElem?_eq_some_iff.1 hq).1
    simpa using this
   rw [<- hget q ya];exact hq
  ·obtain ⟨a',cs,e,hlen,hc,hR⟩:=h i hi
   injection e with e
   subst e;have e2:(((List.range (l.length*sz)).map fun q=>(w.cell? (a.add q)).getD undef).drop (i*sz)).take sz=cs:=by
    refine List.ext_getElem? fun j=>?_
    rw [List.getElem?_take];split
    ·rename_i hj
     have ya:i*sz+j<l.length*sz:=by
      have:(i+1)*sz <= l.length*sz:=zE _ hi;rw [Nat.succ_mul] at this;omega
     rw [List.getElem?_drop,hget _ ya,hc j hj]
    ·rw [It zO]
   rw [e2];exact hR
 ·exact ⟨[],⟨by rw [show l.length=0 by omega];simp,fun h=>absurd h hl⟩,fun i hi=>absurd hi zO⟩
theorem WX {α:Type} {R:vu -> List vw -> α -> Prop} {sz base n:Nat} {e:vy} {w:vu} {v:vw} {xs:List vw} {l:List α} (h:w.ownsRow base e sz v n xs) (hl:l.length=n)
  (hR:∀ (i:Nat) (hi:i<l.length),R w ((xs.drop (i*sz)).take sz) l[i]):RSl sz R w [v] l:=by
 obtain ⟨A,c,rfl,h1,h2,h3,-⟩:=Yb h;refine ⟨A,n,c,rfl,hl,h1,h2,fun i hi=>?_⟩
 obtain ⟨ad,rfl,hc⟩:=h3.2 zO;have ya:(i+1)*sz <= xs.length:=by rw [h3.1];exact zE _ zO
 rw [Nat.succ_mul] at ya;refine ⟨ad,(xs.drop (i*sz)).take sz,rfl,by rw [List.length_take,DC];omega,fun j hj=>?_,hR i hi⟩
 rw [List.getElem?_take,Lb hj,List.getElem?_drop,hc _ _ (Ec zO),Ec zO]
theorem uQ {w:vu} {A:Option vx} {qs:List Qn} (h:RdL w 3 RQn A qs) {i:Nat} (hi:i<qs.length):∃ b q A1 n1 c1 lq aq qe,qs[i]?=vD qe /\ A=vD ⟨b,q,vB⟩ /\ w.cell? ⟨b,q+i*3,vB⟩=vD (vd vo ((lq:Nat):Int)) /\
  w.cell? ⟨b,q+i*3+1,vB⟩=vD (ve A1 n1 c1) /\ w.cell? ⟨b,q+i*3+2,vB⟩=vD (vd vo ((aq:Nat):Int)) /\ RWd w [ve A1 n1 c1] qe.el /\ b<w.1.size /\ (qe.lab=lq /\ qe.ans=aq /\ lq<18446744073709551616 /\ aq<18446744073709551616):=by
 obtain ⟨b,q,rfl⟩:=h.base zO zO;obtain ⟨cs,-,hc,s,rfl,hs,Oa,Fa⟩:=h.get hi;have c0:=hc 0 zO;have c1:=hc 1 zO;have c2:=hc 2 zO;obtain ⟨A1,n1,Lh,Gd,-⟩:=id hs
 injection Gd with Gd _
 subst Gd;have dc:=Bg _ _ c1;exact ⟨b,q,A1,n1,Lh,qs[i].lab,qs[i].ans,qs[i],Ec hi,rfl,c0,c1,c2,hs,dc,rfl,rfl,Oa,Fa⟩
theorem RQn.one {w:vu} {cs:List vw} {q:Qn} (h:RQn w cs q):∀ u∈cs,u.oneCell'=true:=by
 obtain ⟨s,rfl,⟨A,n,c,e,-⟩,-⟩:=h
 injection e with e _
 subst e;intro u hu;simp at hu
 rcases hu with rfl | rfl | rfl <;> rfl
theorem zAy {w:vu} {xs:List vw} {l:List Qn} (hx:xs.length=l.length*3) (h:∀ (i:Nat) (hi:i<l.length),RQn w ((xs.drop (i*3)).take 3) l[i]):∀ u∈xs,u.oneCell'=true:=fun u hu=>by
 obtain ⟨q,hq,rfl⟩:=Vq hu;have hi:q / 3<l.length:=by omega
 refine RQn.one (h (q / 3) hi) _ ?_;refine List.mem_of_getElem? (i:=q%3) ?_;rw [List.getElem?_take,Lb zO,List.getElem?_drop,show q / 3*3+q%3=q by omega,Ec hq]
theorem zCT (n:Nat) (w:vu) :
  vA prog 241 #[vd vo n] w fun e w'=>e=vn (.bool (decide (n<nc))) /\ vz w.1.size w w':=by
 have HD:Hid (decide (n<nc)=decide ((n:Int)<18446744069414584321)):=by
  unfold Hid nc;by_cases h:n<18446744069414584321
  ·rw [xc h,xc zO]
  ·rw [Xb h,Xb zO]
 rw [HD.out];go_enter func241,ntmps241
 go_wp2;go_ret
 exact ⟨rfl,Kb _ _⟩
theorem MR (A:Option vx) (n c:Nat) (l:List Nat) (w:vu) (hl:RWd w [ve A n c] l) :
  vA prog 164 #[ve A n c] w fun e w'=>e=vn (.bool (fe l)) /\ vz w.1.size w w':=by
 obtain ⟨rfl,h1,h2,h3,hr⟩:=Pb hl;have gm:=ti h1 h2;have HE:=zH (fun n w=>zCT n w)
 obtain ⟨n,hn⟩:=zEX (l.length);rw [<- hn] at gm hr |-;have HN:=zH hn;clear hl h1 h2 h3 hn;go_enter func164,ntmps164
 go_wp2_with fail
 go_loopw [3] (fun y wr=>∃ i:Nat,i <= n /\ y=vd vq i /\ Hid (∀ k<i,l.getD k 0<nc) /\ vz w.1.size w wr) (fun y _=>n-(intOf y).toNat)
 case atStart=>exact ⟨0,Qb _,rfl,fun k hk=>zO,Kb _ _⟩
 case round =>
  obtain ⟨i,hi,rfl,HT,tb⟩:=hrel;by_cases ya:i<n
  ·have g1:(0:Int)<=i:=by omega
   have g2:(i:Int)<n:=by omega
   have q1:=hr.below tb;rw [HN.out] at q1;obtain ⟨x1,y1,rfl,v1,d1⟩:=Hf q1 (j:=i) (by rw [<- HN.out];exact ya)
   have tc:=zH ya;clear q1 ya;obtain ⟨z,hz⟩:=zEX (l.getD i 0);rw [<- hz] at d1;have HZ:=zH hz;clear hz;go_wp2_with fail
   refine (HE.out z wr).mono ?_;rintro e w2 ⟨rfl,Fa⟩;replace tb:=ta tb Fa;by_cases hq:z<nc
   ·have dq:=xc hq
    have qy:=zH (show ∀ k<i+1,l.getD k 0<nc from fun k hk=>by
     by_cases e:k<i
     ·exact HT.out k e
     ·obtain rfl:k=i:=by omega
      rw [<- HZ.out];exact hq)
    clear hq HT;go_wp2
    go_roundw
    case rel=>exact ⟨i+1,tc.out,by go_num,qy.out,tb⟩
    case measure=>have:=tc.out;simp [intOf];omega
   ·have dq:=Xb hq
    have HF:=zH (show fe l=false from uE.2 ⟨z,by rw [HZ.out];exact qH 0 (by rw [<- HN.out];exact tc.out),by simp [hq]⟩)
    clear hq;go_wp2;go_ret
    exact ⟨by rw [HF.out];rfl,tb⟩
  ·obtain rfl:n=i:=by omega
   have HF:=zH (show fe l=true from oh.2 fun x hx=>by
    obtain ⟨k,hk,rfl⟩:=Vq hx;have:=HT.out k (by rw [HN.out];exact hk)
    rw [Hc,Ec hk] at this;exact xc this)
   go_wp2;go_ret
   exact ⟨by rw [HF.out];rfl,tb⟩
def nH (qs:List Qn) (lab:Nat) (el:List Nat):Int:=match qs.findIdx? (Wj lab el) with
 | some i=>(i:Int)
 | none=>-1
theorem zDk {qs:List Qn} {lab:Nat} {el:List Nat} {i:Nat} {q:Qn} (hi:qs[i]?=vD q) (h0:∀ k,k<i -> ∀ q,qs[k]?=vD q -> Wj lab el q=false) (h1:Wj lab el q=true):nH qs lab el=(i:Int):=by
 obtain ⟨hl,rfl⟩:=List.getElem?_eq_some_iff.1 hi;have:qs.findIdx? (Wj lab el)=vD i:=by
  rw [List.findIdx?_eq_some_iff_getElem];exact ⟨hl,h1,fun j hj=>by rw [h0 j hj _ (Ec zO)];exact zt⟩
 unfold nH;rw [this]
theorem zDl {qs:List Qn} {lab:Nat} {el:List Nat} (h0:∀ k,k<qs.length -> ∀ q,qs[k]?=vD q -> Wj lab el q=false):nH qs lab el=-1:=by
 have:qs.findIdx? (Wj lab el)=vB:=by
  rw [List.findIdx?_eq_none_iff];intro x hx;obtain ⟨k,hk,rfl⟩:=Vq hx;exact h0 k hk _ (Ec hk)
 unfold nH;rw [this]
theorem L2 (qs:List Qn) (lab:Nat) (el:List Nat):(nH qs lab el=-1 /\ Pf qs lab el=vB) \/ ∃ (i:Nat) (h:i<qs.length),nH qs lab el=(i:Int) /\ Pf qs lab el=vD qs[i].ans:=by
 unfold nH Pf;cases h:qs.findIdx? (Wj lab el) with
 | none =>
  rw [List.findIdx?_eq_none_iff] at h;refine .inl ⟨rfl,?_⟩;rw [List.find?_eq_none.2 fun x hx=>by rw [h x hx];exact zt]
  rfl
 | some i =>
  rw [List.findIdx?_eq_some_iff_getElem] at h;obtain ⟨hi,h1,h2⟩:=h;refine .inr ⟨i,hi,rfl,?_⟩;have:qs.find? (Wj lab el)=vD qs[i]:=by
   rw [List.find?_eq_some_iff_getElem];exact ⟨h1,i,hi,rfl,fun j hj=>by rw [Mm];exact Bool.eq_false_iff.2 (h2 j hj)⟩
  rw [this]
  rfl
theorem J2 (A B:Option vx) (n c m d lab:Nat) (qs:List Qn) (el:List Nat) (w:vu) (hq:Md w [ve A n c] qs) (hl:RWd w [ve B m d] el) :
  vA prog 244 #[ve A n c,vd vo lab,ve B m d] w fun e w'=>e=vn (vd vq (nH qs lab el)) /\ vz w.1.size w w':=by
 obtain ⟨A',n',c',he,hlen,Nd,Be,Na⟩:=hq;simp at he
 obtain ⟨rfl,rfl,rfl⟩:=he;have gm:=ti Nd Be;have MG:=zH (fun A1 n1 c1 l1 w1 (hb:vz w.1.size w w1) (h1:RWd w1 [ve A1 n1 c1] l1)=>ZX A1 B n1 c1 m d l1 el w1 h1 (Wa hb hl))
 have HN:=zH hlen;clear hl Nd Be hlen;go_enter func244,ntmps244
 go_wp2_with fail
 go_loopw [7] (fun y wr=>∃ i:Nat,i <= n /\ y=vd vq i /\ Hid (∀ k,k<i -> ∀ q,qs[k]?=vD q -> Wj lab el q=false) /\ vz w.1.size w wr) (fun y _=>n-(intOf y).toNat)
 case atStart=>exact ⟨0,Qb _,rfl,fun k hk=>zO,Kb _ _⟩
 case round =>
  obtain ⟨i,hi,rfl,HT,tb⟩:=hrel;by_cases ya:i<n
  ·have g1:(0:Int)<=i:=by omega
   have g2:(i:Int)<n:=by omega
   obtain ⟨b,q,A1,n1,Lh,lq,aq,qe,lu,rfl,c0,c1,c2,hs,dc,eE⟩:=uQ (Na.below pN tb) (show i<qs.length by rw [HN.out];exact ya)
   have HL:=zH ya;have zi:=zH (MG.out A1 n1 Lh qe.el wr tb hs);have rJ:=zH lu;have HQ:=zH (show Wj lab el qe=(decide (lq=lab)&&decide (qe.el=el)) by
    unfold Wj;rw [eE.1]
    congr 1 <;> exact Bool.eq_iff_iff.2 zS)
   clear hs lu eE c2;have step:∀ (h:Wj lab el qe=false),∀ k,k<i+1 -> ∀ q,qs[k]?=vD q -> Wj lab el q=false:=fun h k hk q hq=>by
    by_cases e:k<i
    ·exact HT.out k e q hq
    ·obtain rfl:k=i:=by omega
     rw [rJ.out] at hq;cases hq
     exact h
   have STEP:=zH step;clear step;by_cases mi:lq=lab
   ·have e1:((lq:Int)==lab)=true:=by rw [Qo];omega
    have hd:=zH (xc mi);clear mi ya;go_wp2_with fail
    refine zi.out.mono ?_;rintro e w2 ⟨rfl,kk,rfl⟩;replace tb:=KE tb kk;cases uk:decide (qe.el=el)
    ·have Su:=zH (show Wj lab el qe=false by rw [HQ.out,uk,Bool.and_false])
     clear uk;go_wp2
     go_roundw
     case rel=>exact ⟨i+1,HL.out,by go_num,STEP.out Su.out,tb⟩
     case measure=>have:=HL.out;simp [intOf];omega
    ·have HF:=zH (zDk rJ.out HT.out (show Wj lab el qe=true by rw [HQ.out,hd.out,uk];rfl))
     clear uk;go_wp2;go_ret
     exact ⟨by rw [HF.out];rfl,tb⟩
   ·have e1:((lq:Int)==lab)=false:=by rw [Ke];omega
    have Su:=zH (show Wj lab el qe=false by rw [HQ.out,Xb mi,Bool.false_and])
    clear mi ya;go_wp2
    go_roundw
    case rel=>exact ⟨i+1,HL.out,by go_num,STEP.out Su.out,tb⟩
    case measure=>have:=HL.out;simp [intOf];omega
  ·obtain rfl:n=i:=by omega
   have HF:=zH (zDl (qs:=qs) (lab:=lab) (el:=el) fun k hk=>HT.out k (zQ HN.out))
   go_wp2;go_ret
   exact ⟨by rw [HF.out];rfl,tb⟩
def Pc (w:vu) (g:Nat):List vw -> Nat -> vu
 | [],_=>w
 | x :: r,k=>Pc (w.setCell ⟨g,k,vB⟩ x) g r (k+1)
theorem zAK {g:Nat} {t:vy}:∀ (xs:List vw) (k:Nat) (w:vu) (cs:List vw),Blk w g t cs.toArray -> k+xs.length=cs.length -> Blk (Pc w g xs k) g t (cs.take k++xs).toArray
 | [],k,w,cs,h,hk=>by
  rw [List.append_nil,EC (by simp at hk;omega)]
  exact h
 | x :: r,k,w,cs,h,hk=>by
  simp only [Yh] at hk;have h1:=h.set_ k x;rw [Ha] at h1;have:=zAK r (k+1) (w.setCell ⟨g,k,vB⟩ x) (cs.set k x) h1 (by rw [List.length_set];omega)
  have e:(cs.set k x).take (k+1)=cs.take k++[x]:=by
   rw [Cy (by rw [List.length_set];omega),List.getElem_set_self,List.take_set_of_le zR]
  rw [e,zy] at this;exact this
theorem Jg {g:Nat} {t:vy} {w:vu} {cs:Array vw} (xs:List vw) (h:Blk w g t cs) (hk:xs.length=cs.size):Blk (Pc w g xs 0) g t xs.toArray:=by
 have:=zAK xs 0 w cs.toList (by simpa using h) (by simpa using hk)
 simpa using this
theorem LD {g N:Nat} (hg:N <= g):∀ (xs:List vw) (k:Nat) (w:vu),vz N w (Pc w g xs k)
 | [],_,w=>Kb _ w
 | x :: r,k,w=>((Kb N w).setCell (p:=⟨g,k,vB⟩) hg x).trans (LD hg r (k+1) _)
theorem Ez {g:Nat}:∀ (xs:List vw) (k:Nat) (w:vu),Ji g w (Pc w g xs k)
 | [],_,w=>(de g).refl w
 | x :: r,k,w=>zM (de g) (show Ji g w (w.setCell ⟨g,k,vB⟩ x) from Li (mg w _) (.inl rfl) x) (Ez r (k+1) _)
theorem If {g b:Nat} (hb:b≠g):∀ (xs:List vw) (k:Nat) (w:vu),(Pc w g xs k).1[b]?=w.1[b]?
 | [],_,_=>rfl
 | x :: r,k,w=>(If hb r (k+1) _).trans (Mu w ⟨g,k,vB⟩ x b hb)
def Sk (O:Jb) (v:vw):Array vw:=#[vd vo O.st,vd vq O.dr,v,ve vB 0 0,ve vB 0 0]
theorem zCJ (O:Jb) (A:Option vx) (n c:Nat) (w:vu) (bg:O.st<18446744073709551616) (hd:O.dr <= 1000000000) :
  vA prog 289 #[vf (Sk O (ve A n c))] w fun e w'=>e=vn (.tuple #[vd vo (Pn O:Int),vf (Sk (Ro O) (ve A n c))]) /\ vz w.1.size w w':=by
 obtain ⟨ideal,st,dr,qs⟩:=O;have hst':st<18446744073709551616:=bg;have hd':dr <= 1000000000:=hd;clear bg hd;obtain ⟨kx,kr,da,Db⟩:=Xf w 63 63 #[vd vo st,vd vq dr,ve A n c,ve vB 0 0,ve vB 0 0] #[vd vo 0,vd vq 0,ve vB 0 0,ve vB 0 0,ve vB 0 0];have e1:vq.wrap ((dr:Int)+1)=((dr+1:Nat):Int):=by rw [Bi];omega
 have e2:vo.wrap ((st:Int)+11400714819323198485)=((Ky st:Nat):Int):=by rw [mh];unfold Ky;omega
 have hz:Ky st<18446744073709551616:=Sc _ zD;obtain ⟨Pt,ux⟩:=zEX (dr+1);rw [<- ux] at e1;obtain ⟨s1,Gd⟩:=zEX (Ky st);rw [<- Gd] at e2 hz;have HD:=zH ux;have HS:=zH Gd;clear ux Gd;obtain ⟨a1,Wo⟩:=zEX (s1 ^^^ (s1 >>> 30));have eP:a1<18446744073709551616:=by rw [Wo];exact Nat.xor_lt_two_pow (n:=64) hz (by rw [Kt];omega)
 have x1:bits BinOp.xor vo (s1:Int) ((s1:Int) / 1073741824)=(a1:Int):=by
  rw [show (s1:Int) / (1073741824:Int)=((s1 >>> 30:Nat):Int) by rw [Kt];omega,bits_xor_u64_nat _ _ hz (by rw [Kt];omega),Wo]
 obtain ⟨a,ha⟩:=zEX (a1*13787848793156543929%18446744073709551616);have ma:a<18446744073709551616:=by omega
 have m1:vo.wrap ((a1:Int)*13787848793156543929)=(a:Int):=by rw [mh];omega
 have HA:=zH (show a=SM s1 by rw [ha,Wo,SM])
 clear ha Wo;obtain ⟨b1,Oa⟩:=zEX (a ^^^ (a >>> 27));have jP:b1<18446744073709551616:=by rw [Oa];exact Nat.xor_lt_two_pow (n:=64) ma (by rw [Kt];omega)
 have x2:bits BinOp.xor vo (a:Int) ((a:Int) / 134217728)=(b1:Int):=by
  rw [show (a:Int) / (134217728:Int)=((a >>> 27:Nat):Int) by rw [Kt];omega,bits_xor_u64_nat _ _ ma (by rw [Kt];omega),Oa]
 obtain ⟨b,hb⟩:=zEX (b1*10723151780598845931%18446744073709551616);have dc:b<18446744073709551616:=by omega
 have m2:vo.wrap ((b1:Int)*10723151780598845931)=(b:Int):=by rw [mh];omega
 have HB:=zH (show b=TM a by rw [hb,Oa,TM])
 clear hb Oa;obtain ⟨c1,kd⟩:=zEX (b ^^^ (b >>> 31));have x3:bits BinOp.xor vo (b:Int) ((b:Int) / 2147483648)=(c1:Int):=by
  rw [show (b:Int) / (2147483648:Int)=((b >>> 31:Nat):Int) by rw [Kt];omega,bits_xor_u64_nat _ _ dc (by rw [Kt];omega),kd]
 obtain ⟨d,CK⟩:=zEX (c1%18446744069414584321);have m3:(c1:Int).tmod 18446744069414584321=(d:Int):=by rw [Int.tmod_eq_emod_of_nonneg zO];omega
 have HC:=zH (show d=UM b by rw [CK,kd,UM,nc])
 clear CK kd;have X1:=zH eP;have X2:=zH jP;have X3:=zH hz;clear eP jP ma dc hz hst';have hv:Pn ⟨ideal,st,dr,qs⟩=d:=by rw [XZ,<- HS.out,<- HA.out,<- HB.out,<- HC.out]
 rw [hv,YZ,<- HS.out,<- HD.out];clear hv HA HB HC Db;show vA _ _ #[vf #[vd vo st,vd vq dr,ve A n c,ve vB 0 0,ve vB 0 0]] _ fun e w'=>e=vn (.tuple #[vd vo d,vf #[vd vo s1,vd vq Pt,ve A n c,ve vB 0 0,ve vB 0 0]]) /\ _
 go_enter func289,ntmps289
 go_upto_region 1 with fail
 generalize (w.alloc _).alloc _=w1 at kx kr da |-;have cx:=kx.cell;have fx:=kx.frozen;have Pv:=eH kx 0 1 (vd vo s1) (vd vq Pt);have Fa:vz w.1.size w ((w1.setCell ⟨w.1.size,0,vB⟩ (vd vo s1)).setCell ⟨w.1.size,1,vB⟩ (vd vq Pt)):=da.trans (((Kb w.1.size w1).setCell (p:=⟨w.1.size,0,vB⟩) zR _).setCell (p:=⟨w.1.size,1,vB⟩) zR _);have Rf:Blk ((w1.setCell ⟨w.1.size,0,vB⟩ (vd vo s1)).setCell ⟨w.1.size,1,vB⟩ (vd vq Pt)) _ _ _:=(kr.far (p:=⟨w.1.size,0,vB⟩) zS _).far (p:=⟨w.1.size,1,vB⟩) zS _;have KX:=zH Pv;have KR:=zH Rf;have oc:=zH Fa;clear Pv Rf Fa kx kr da;go_upto_region 7 with fail
 generalize ((w1.setCell ⟨w.1.size,0,vB⟩ (vd vo s1)).setCell ⟨w.1.size,1,vB⟩ (vd vq Pt))=w2 at KX KR oc |-;have k2:Blk w2 w.1.size 63 #[vd vo s1,vd vq Pt,ve A n c,ve vB 0 0,ve vB 0 0]:=by simpa using KX.out
 have c2:=k2.cell;have db:w.1.size≠w.1.size+1:=by omega
 have ya:=k2.lt;clear cx fx k2 KX;refine Pd (Ji (w.1.size+1)) [4] [0,1,2,3,4] zK zK ?_;refine oe (de (w.1.size+1)) ?_;intro Wc Ga ja;have Kc:=zH (show Blk Wc _ _ _ by rw [Ga.out];exact KR.out.drew)
 have He:=zH (show vz w.1.size w Wc by rw [Ga.out];exact oc.out.drew)
 have cr:=Kc.out.cell;have fr:=Kc.out.frozen;clear Ga KR oc;refine Hk ?_;refine ke (de (w.1.size+1)) rfl rfl rfl ?_;go_simp;refine ⟨Ez [vd vo s1,vd vq Pt,ve A n c,ve vB 0 0,ve vB 0 0] 0 _,?_⟩
 refine zPU ?_
 refine Vc ?_;have kf:=Jg [vd vo s1,vd vq Pt,ve A n c,ve vB 0 0,ve vB 0 0] Kc.out rfl;have Oc:=He.out.trans (LD (N:=w.1.size) (g:=w.1.size+1) zO [vd vo s1,vd vq Pt,ve A n c,ve vB 0 0,ve vB 0 0] 0 Wc);simp only [Pc,Re,Nat.reduceAdd] at kf Oc;generalize vE (vE (vE (vE (vE Wc _ _) _ _) _ _) _ _) _ _=wf at kf Oc |-;have cf:=kf.cell;clear c2 cr fr ja;go_wp2;exact Uc (by simp [results,results289,go_sem,cf]) rfl ⟨rfl,Oc⟩
theorem V8 (O:Jb) (A B:Option vx) (n c m d lab:Nat) (el:List Nat) (w:vu) (hq:Md w [ve A n c] O.qs) (hl:RWd w [ve B m d] el) :
  vA prog 288 #[vf (Sk O (ve A n c)),vd vo lab,ve B m d] w fun e w'=>e=vn (.tuple #[vd vo (((Pf O.qs lab el).getD 0:Nat):Int), .bool (Pf O.qs lab el).isSome]) /\ vz w.1.size w w':=by
 have HF:=zH (fun w1 (hb:vz w.1.size w w1)=>J2 A B n c m d lab O.qs el w1 (WW _ _ _ _ hb hq) (Wa hb hl))
 obtain ⟨A',n',c',he,hlen,Nd,Be,Na⟩:=hq;simp at he
 obtain ⟨rfl,rfl,rfl⟩:=he;have gm:=ti Nd Be;have ma:=zA w (.cells (Sk O (ve A n c)) 63);have kb:=Blk.new w 63 (Sk O (ve A n c));have Kg:=zH hlen;have oy:=zH Na;rcases L2 O.qs lab el with ⟨e1,e2⟩ | ⟨i,hi,e1,e2⟩
 ·rw [e2]
  rw [e1] at HF;clear e1 e2 hl Nd Be hlen Na;unfold Sk at *;go_enter func288,ntmps288
  go_wp2_with fail
  generalize w.alloc _=w1 at ma kb |-;refine (HF.out w1 ma).mono ?_;rintro e w2 ⟨rfl,Fa⟩;replace ma:=ta ma Fa;clear Fa;go_wp2;exact Uc (by simp [results,results288,go_sem]) rfl ⟨rfl,ma⟩
 ·rw [e2]
  rw [e1] at HF;have hiN:i<n:=by omega
  clear e1 e2 hl Nd Be hlen;unfold Sk at *;go_enter func288,ntmps288
  go_wp2_with fail
  generalize w.alloc _=w1 at ma kb |-;refine (HF.out w1 ma).mono ?_;rintro e w2 ⟨rfl,Fa⟩;replace kb:=pa kb Fa;replace ma:=ta ma Fa;clear Fa;have cb:=kb.cell;have g1:(0:Int)<=i:=by omega
  have g2:(i:Int)<n:=by omega
  have g3:¬((i:Int)<0):=by omega
  have g3':decide ((i:Int)<0)=false:=Xb g3;obtain ⟨b,q,A1,n1,c1,lq,aq,qe,lu,rfl,c0,Lh,c2,hs,dc,eE⟩:=uQ (Na.below pN ma) hi;have ea:aq=(O.qs[i]).ans:=by
   rw [Ec hi] at lu
   injection lu with lu
   rw [lu,eE.2.1]
  have HEA:=zH ea;clear ea hs lu eE c0 Lh Na;go_wp2;rw [Option.getD_some,<- HEA.out];exact Uc (by simp [results,results288,go_sem]) rfl ⟨rfl,ma⟩
theorem N8 (w:vu) (e:vy) {base:Nat} (hb:base <= w.1.size):(w.alloc (.cells #[] e)).ownsRow base e 3 (ve (vD ⟨w.1.size,0,vB⟩) 0 0) 0 [] :=
 ⟨rfl, .inr ⟨w.1.size,0,_,rfl,hb,heap_alloc_new w _,zR,by simp [maxLen],rfl,rfl⟩⟩
theorem zAz {w:vu} {xs:List vw} {qs:List Qn} {q:Qn} {s:vw} (hx:xs.length=qs.length*3) (h:∀ (i:Nat) (hi:i<qs.length),RQn w ((xs.drop (i*3)).take 3) qs[i])
  (hs:RWd w [s] q.el) (h1:q.lab<18446744073709551616) (h2:q.ans<18446744073709551616):∀ (i:Nat) (hi:i<(qs++[q]).length),RQn w (((xs++[vd vo q.lab,s,vd vo q.ans]).drop (i*3)).take 3) (qs++[q])[i]:=fun i hi=>by
 simp only [qh,List.length_singleton] at hi;by_cases e:i<qs.length
 ·rw [EA e,List.drop_append_of_le_length zO,List.take_append_of_le_length (by rw [DC];omega)]
  exact h i e
 ·obtain rfl:i=qs.length:=by omega
  rw [JJ zR,<- hx,List.drop_left];simp only [Nat.sub_self,ph];exact ⟨s,rfl,hs,h1,h2⟩
theorem zHp {K:Nat -> Prop} (O:Jb) (A B:Option vx) (n c m d lab an:Nat) (el:List Nat) (xs:List vw) (w:vu) (hlen:O.qs.length=n) (su:Rd w 3 A n xs) (tI:Hd K w fun u=>∀ (i:Nat) (hi:i<O.qs.length),RQn u ((xs.drop (i*3)).take 3) O.qs[i]) (hl:RWd w [ve B m d] el) (mi:lab<18446744073709551616) (Sy:an<18446744073709551616) (hn:O.qs.length <= 1000000) (hm:el.length <= 1000000) :
  vA prog 290 #[vf (Sk O (ve A n c)),vd vo lab,ve B m d,vd vo an] w fun e w'=>∃ A' c',e=vn (vf (Sk O (ve A' (n+1) c'))) /\ Hd (fun b=>K b \/ w.1.size <= b) w' (fun u=>Md u [ve A' (n+1) c'] (O.qs++[⟨lab,el,an⟩])) /\ vz w.1.size w w':=by
 obtain ⟨kx,kr,da,Db⟩:=Xf w 63 63 (Sk O (ve A n c)) #[vd vo 0,vd vq 0,ve vB 0 0,ve vB 0 0,ve vB 0 0];rw [<- hlen] at su;have JP:=zAy (by rw [su.1]) (Tl tI)
 obtain ⟨mf,jn,bz,Mh,Pe⟩:=Pb hl;have HX:=zH tI;have HXL:=zH su.1;have AJ:=zH su;have HL:=zH hl;have Bw:=zH Mh;have Vf:=zH Pe;have kU:=zH mi;have HAN:=zH Sy;have Kg:=zH hlen;have Np:=zH mf;have nU:=zH JP;have WK:n <= 1000000:=by omega
 have ff:m <= 1000000:=by omega
 clear tI su hl Mh Pe mi Sy hlen mf JP hn hm jn bz Db;unfold Sk at *;go_enter func290,ntmps290
 go_upto_region 1 with fail
 generalize (w.alloc _).alloc _=w1 at kx kr da |-;have cx:=kx.cell;have lx:=kx.lt;have lr:=kr.lt;have ma:=zA w1 (.cells #[] 95);have oa:=N8 w1 95 zR;have td:=(AJ.out.below da).below ma;rw [Kg.out] at td;go_wp2_with (at_builtin;refine Wd rfl _ _ rfl PO rfl oa rfl td nU.out zO zS ?_)
 intro v2 w2 je Ma Cb;have Fa:vz w1.1.size w1 w2:=ma.trans (ie oa Ma zS);have Lt:=zH je;replace kx:=pa kx Fa;replace kr:=pa kr Fa;replace da:=ta da Fa;have KX:=zH kx;have KR:=zH kr;have HB:=zH da;have VI:=zH Fa;have LX:=zH lx;have LR:=zH (show w.1.size+1<w1.1.size from lr)
 have JC:=zA w2 (.cells #[] 22);have Dq:=Zr w2 22 zR;have Tj:=(Vf.out.below da).below JC;clear oa Ma Cb ma td je cx lx lr kx kr da Fa;go_wp2_with (at_builtin;refine Wd rfl _ _ rfl Qt rfl Dq rfl Tj (De _) zO zS ?_)
 intro v3 w3 iu Ma Cb;have Ra:vz w2.1.size w2 w3:=JC.trans (ie Dq Ma zS);have yp:∃ A' c',v3=ve A' m c':=by obtain ⟨A',c',e,-⟩:=Yb iu;exact ⟨A',c',e⟩
 obtain ⟨A3,c3,rfl⟩:=yp;have sL:=Sf iu Bw.out;have OW3:=zH (Za Lt.out Ra zR);replace KX:=zH (KX.out.below Ra KX.out.lt);replace KR:=zH (KR.out.below Ra KR.out.lt);replace HB:=zH (ta HB.out Ra);have nm:=zA w3 (.cells #[vd vo lab,ve A3 m c3,vd vo an] 95);have Hx:=MX w3 (vd vo lab) (ve A3 m c3) (vd vo an) 95;have Bu:=Za OW3.out nm zR;have hw4:=Wa nm sL;have WI:=zH (ta VI.out Ra);have LJ:=zH (Za iu nm zR);have V2:=zH (show ∀ b,v2.ownBlock=vD b -> b<w2.1.size from fun b hb=>(Lt.out.lt b hb).2)
 have W2:=zH VI.out.size;have Jh:=zH (ta HB.out nm);clear Dq Ma Cb Tj iu JC Ra sL Lt;go_wp2_with (at_builtin;refine Wd rfl _ _ rfl PO rfl Bu rfl Hx (by intro u hu;simp at hu;rcases hu with rfl | rfl | rfl <;> rfl) zO (by have:=WI.out.size;simp;omega) ?_)
 intro v4 w4 ju Ma Cb;have hv4:∃ A' c',v4=ve A' (n+1) c':=by obtain ⟨A',c',e,-⟩:=Yb ju;exact ⟨A',c',e⟩
 obtain ⟨A4,c4,rfl⟩:=hv4;have hle:w1.1.size <= (w3.alloc (.cells #[vd vo lab,ve A3 m c3,vd vo an] 95)).1.size:=jb WI.out.size nm.size;have Ib:vz w1.1.size w3 w4:=(nm.mono WI.out.size).trans (ie Bu Ma hle);have Ox:=KX.out.below Ib LX.out;have zk:=KR.out.below Ib LR.out;have Rb:vz w.1.size w w4:=HB.out.trans (Ib.mono (zQ LX.out));have bG:=Ye LJ.out (u:=w4) fun b hb=>Ma.block b (LJ.out.lt b hb).2 (fun e=>by
  have:=V2.out b e.symm;have:=(LJ.out.lt b hb).1;omega)
 have VB:=zH (show ∀ u,Yd K w u -> (∀ b,w1.1.size <= b -> b<w4.1.size -> u.1[b]?=w4.1[b]?) -> Md u [ve A4 (n+1) c4] (O.qs++[⟨lab,el,an⟩]) from fun u hbu hu=>by
  have o1:=Ye ju (u:=u) fun b hb=>hu b (ju.lt b hb).1 (ju.lt b hb).2
  have o2:=Ye bG (u:=u) fun b hb=>hu b (jb W2.out (bG.lt b hb).1) (bG.lt b hb).2
  exact WX o1 (by simp [Kg.out]) (zAz HXL.out (HX.out u hbu) (Sf o2 Bw.out) kU.out HAN.out))
 have cx4:=Ox.cell;have fx4:=Ox.frozen;have lx4:=Ox.lt;have lr4:=zk.lt;have cr4:=zk.cell;have fr4:=zk.frozen;have LX2:=zH Rb;clear Ma Cb ju bG hle Ib Hx Bu hw4 nm Rb;go_wp2;have yI:=zk.far (p:=⟨w.1.size,2,vB⟩) zS (ve A4 (n+1) c4);have kf:=Jg [vd vo O.st,vd vq O.dr,ve A4 (n+1) c4,ve vB 0 0,ve vB 0 0] yI rfl;have Oc:=(LX2.out.setCell (p:=⟨w.1.size,2,vB⟩) zR (ve A4 (n+1) c4)).trans (LD (N:=w.1.size) (g:=w.1.size+1) zO [vd vo O.st,vd vq O.dr,ve A4 (n+1) c4,ve vB 0 0,ve vB 0 0] 0 _);have hff:∀ b,w1.1.size <= b -> b<w4.1.size -> (Pc (w4.setCell ⟨w.1.size,2,vB⟩ (ve A4 (n+1) c4)) (w.1.size+1) [vd vo O.st,vd vq O.dr,ve A4 (n+1) c4,ve vB 0 0,ve vB 0 0] 0).1[b]?=w4.1[b]?:=fun b hb _=>by
  have:=LR.out;rw [If zO];exact Mu w4 ⟨w.1.size,2,vB⟩ _ b (by show b≠w.1.size;omega)
 have hsf:w4.1.size <= (Pc (w4.setCell ⟨w.1.size,2,vB⟩ (ve A4 (n+1) c4)) (w.1.size+1) [vd vo O.st,vd vq O.dr,ve A4 (n+1) c4,ve vB 0 0,ve vB 0 0] 0).1.size:=by simp [Pc,vE]
 simp only [Pc,Re,Nat.reduceAdd] at kf Oc hff hsf;generalize vE (vE (vE (vE (vE (vE w4 _ _) _ _) _ _) _ _) _ _) _ _=wf at kf Oc hff hsf |-;have cf:=kf.cell;clear cx4 fx4 cr4 fr4 Ox zk yI;exact Uc (by simp [results,results290,go_sem,cf]) rfl ⟨A4,c4,rfl,fun u a=>VB.out u (IC (Fy (yc Oc) fun _ h=>h) (Fy a fun _ h=>.inl h)) (fun b h1 h2=>(a.block b (.inr (zQ LX.out)) (We h2 hsf)).trans (hff b h1 h2)),Oc⟩
theorem zAx {K:Nat -> Prop} {w:vu} {A:Option vx} {n c:Nat} {qs:List Qn} (h:Hd K w fun u=>Md u [ve A n c] qs) :
  ∃ xs,Rd w 3 A n xs /\ qs.length=n /\ Hd K w fun u=>∀ (i:Nat) (hi:i<qs.length),RQn u ((xs.drop (i*3)).take 3) qs[i]:=by
 obtain ⟨A',n',c',he,hlen,Nd,Be,Na⟩:=Tl h;simp at he
 obtain ⟨rfl,rfl,rfl⟩:=he;obtain ⟨xs,su,tI⟩:=zHl zD Na;rw [hlen] at su;refine ⟨xs,su,hlen,fun u a i hi=>?_⟩
 obtain ⟨b,q,rfl⟩:=Na.base zO zO;have hK:K b:=wM fun hn=>by
  obtain ⟨A2,n2,c2,GK,-,-,-,Tj⟩:=h (JI w b) (TU hn);simp at GK
  obtain ⟨rfl,rfl,rfl⟩:=GK;obtain ⟨cs,Cx,hc,-⟩:=Tj.get hi;have h0:=hc 0 zO;obtain ⟨um,hl3',Un,-⟩:=Na.get hi;have dc:=Bg w ⟨b,q+i*3+0,vB⟩ ((Un 0 zO).trans (Ec zO));rw [iY dc,Ec zO] at h0;cases h0
 obtain ⟨A2,n2,c2,GK,-,-,-,Tj⟩:=h u a;simp at GK
 obtain ⟨rfl,rfl,rfl⟩:=GK;obtain ⟨cs,Cx,hc,hR⟩:=Tj.get hi;have e2:(xs.drop (i*3)).take 3=cs:=by
  refine List.ext_getElem? fun j=>?_
  rw [List.getElem?_take];split
  ·rename_i hj
   have ya:i*3+j<xs.length:=by rw [su.1];omega
   have h1:=hc j hj;obtain ⟨ad,e,h2⟩:=su.2 zO
   injection e with e
   subst e;have h3:=h2 (i*3+j) _ (Ec ya);rw [jv] at h3;have dc:=Bg _ _ h3;rw [List.getElem?_drop,Ec ya,<- h1,<- h3];simp only [World.cell?,a.block b hK dc,Nat.add_assoc]
  ·rw [It zO]
 rw [e2];exact hR
theorem rm {x:Nat} (h:x<nc):x<18446744073709551616:=by unfold nc at h;omega
theorem zE1 (O:Jb) (lab:Nat) (el:List Nat) (a:Nat) (v:vw):Sk (Mk O lab el a) v=Sk O v:=rfl
theorem Pj {K:Nat -> Prop} {g:Nat} (hg:¬K g):∀ (xs:List vw) (w:vu),Yd K w (Pc w g xs 0):=fun xs w=>go xs 0 w
where
 go:∀ (xs:List vw) (k:Nat) (w:vu),Yd K w (Pc w g xs k)
  | [],_,_=>SU
  | _ :: r,k,_=>IC (FE hg) (go r (k+1) _)
theorem aj {g N:Nat} {w0 w:vu} {xs:List vw} (h:vz N w0 w) (hg:N <= g):vz N w0 (Pc w g xs 0):=h.trans (LD hg xs 0 w)
theorem zDO {K:Nat -> Prop} (O:Jb) (hi:O.ideal=true) (A B:Option vx) (n c m d lab:Nat) (el:List Nat) (w:vu) (hq:Hd K w fun u=>Md u [ve A n c] O.qs) (hl:RWd w [ve B m d] el) (mi:lab<18446744073709551616) (bg:O.st<18446744073709551616) (ux:O.dr <= 1000000000)
  (hn:O.qs.length <= 1000000) (hm:el.length <= 1000000) :
  vA prog 242 #[vf (Sk O (ve A n c)),vd vo lab,ve B m d] w fun e w'=>∃ A' n' c',e=vn (.tuple #[vd vo (Ae O lab el:Int),vf (Sk (Qd O lab el) (ve A' n' c'))]) /\ Hd (fun b=>K b \/ w.1.size <= b) w' (fun u=>Md u [ve A' n' c'] (Qd O lab el).qs) /\ vz w.1.size w w':=by
 obtain ⟨kx,kr,da,Db⟩:=Xf w 63 63 (Sk O (ve A n c)) #[vd vo 0,vd vq 0,ve vB 0 0,ve vB 0 0,ve vB 0 0];have Pm:=zH (fun w1 (hb:vz w.1.size w w1)=>MR B m d el w1 (Wa hb hl))
 have Xk:=zH (fun w1 (hb:vz w.1.size w w1)=>V8 O A B n c m d lab el w1 (MH hq (yc hb)) (Wa hb hl))
 have ZI:=zH (fun w1=>zCJ O A n c w1 bg ux)
 have HRc:=zH (show ∀ w1,vz w.1.size w w1 -> vA prog 290 #[vf (Sk (Ro O) (ve A n c)),vd vo lab,ve B m d,vd vo (Pn O:Int)] w1 fun e w'=>∃ A' c',e=vn (vf (Sk (Ro O) (ve A' (n+1) c'))) /\ Hd (fun b=>(K b /\ b<w.1.size) \/ w1.1.size <= b) w' (fun u=>Md u [ve A' (n+1) c'] (O.qs++[⟨lab,el,Pn O⟩])) /\ vz w1.1.size w1 w' from fun w1 hb=>by
  obtain ⟨xs,h1,h2,h3⟩:=zAx (sb (wk hq) (yc hb));have:=zHp (K:=fun b=>K b /\ b<w.1.size) (Ro O) A B n c m d lab (Pn O) el xs w1 (by rw [lH];exact h2) h1 (by rw [lH];exact h3) (Wa hb hl) mi (rm (GR _)) (by rw [lH];exact hn) hm
  rw [lH] at this;exact this)
 have HQ:=zH hq;have HI:=zH hi;have HV:Hid (Ae O lab el=if fe el then (match Pf O.qs lab el with | some a=>a | none=>Pn O) else 0):=by
  unfold Hid Ae;simp only [hi,if_true];cases Pf O.qs lab el <;> rfl
 have HO:Hid (Qd O lab el=if fe el then (match Pf O.qs lab el with | some _=>O | none=>Mk (Ro O) lab el (Pn O)) else O):=by
  unfold Hid Qd;simp only [hi,if_true];cases Pf O.qs lab el <;> rfl
 clear hq hl mi bg ux hn hm hi Db;cases hE:fe el
 ·rw [hE] at Pm HV HO
  rw [Gb zt] at HV HO;rw [HV.out,HO.out];clear hE Xk ZI HRc;unfold Sk at *;go_enter func242,ntmps242
  go_upto_region 1 with fail
  generalize (w.alloc _).alloc _=w1 at kx kr da |-;go_wp2_with fail
  refine (Pm.out w1 da).mono ?_;rintro e w2 ⟨rfl,Fa⟩;replace kx:=pa kx Fa;replace kr:=pa kr Fa;replace da:=ta da Fa;clear Fa;go_upto_region 2 with fail
  have sr:=kx.cell;have Wr:=kx.lt;have Xr:w.1.size≠w.1.size+1:=by omega
  refine Pd (Ji (w.1.size+1)) [2] [0,1,2] zK zK ?_;refine oe (de (w.1.size+1)) ?_;intro Wc Ga ja;have Yg:=zH (show Blk Wc _ _ _ by rw [Ga.out];exact kr.drew)
  have Jf:=zH (show vz w.1.size w Wc by rw [Ga.out];exact da.drew)
  have Zq:=Yg.out.cell;have Er:=Yg.out.frozen;clear Ga;refine Hk ?_;refine ke (de (w.1.size+1)) rfl rfl rfl ?_;go_simp;refine ⟨Ez [vd vo O.st,vd vq O.dr,ve A n c,ve vB 0 0,ve vB 0 0] 0 _,?_⟩
  refine zPU ?_
  refine Vc ?_;have kf:=Jg [vd vo O.st,vd vq O.dr,ve A n c,ve vB 0 0,ve vB 0 0] Yg.out rfl;have Oc:=aj (xs:=[vd vo O.st,vd vq O.dr,ve A n c,ve vB 0 0,ve vB 0 0]) (g:=w.1.size+1) Jf.out zO;have qj:∀ K:Nat -> Prop,¬K (w.1.size+1) -> Yd K Wc (Pc Wc (w.1.size+1) [vd vo O.st,vd vq O.dr,ve A n c,ve vB 0 0,ve vB 0 0] 0):=fun K h=>Pj h _ _
  simp only [Pc,Re,Nat.reduceAdd] at kf Oc qj;generalize vE (vE (vE (vE (vE (Wc) _ _) _ _) _ _) _ _) _ _=wf at kf Oc qj |-;have cf:=kf.cell;clear sr Wr Xr Zq Er ja;go_wp2;exact Uc (by simp [results,results242,go_sem,cf]) rfl ⟨A,n,c,rfl,Vn (sb HQ.out (yc Oc)) (fun _ h=>.inl h),Oc⟩
 rw [hE] at Pm HV HO;rw [Lb rfl] at HV HO;cases hF:Pf O.qs lab el with
 | some a =>
  rw [hF] at Xk HV HO;simp only [Option.getD_some,Option.isSome_some] at Xk HV HO;rw [HV.out,HO.out];clear hE hF ZI HRc;unfold Sk at *;go_enter func242,ntmps242
  go_upto_region 1 with fail
  generalize (w.alloc _).alloc _=w1 at kx kr da |-;go_wp2_with fail
  refine (Pm.out w1 da).mono ?_;rintro e w2 ⟨rfl,Fa⟩;replace kx:=pa kx Fa;replace kr:=pa kr Fa;replace da:=ta da Fa;clear Fa;have cx:=kx.cell;go_wp2_with fail
  refine (Xk.out w2 da).mono ?_;rintro e w3 ⟨rfl,Ra⟩;replace kx:=pa kx Ra;replace kr:=pa kr Ra;replace da:=ta da Ra;clear Ra cx;go_upto_region 5 with fail
  have sr:=kx.cell;have Wr:=kx.lt;have Xr:w.1.size≠w.1.size+1:=by omega
  refine Pd (Ji (w.1.size+1)) [3] [0,1,2,3] zK zK ?_;refine oe (de (w.1.size+1)) ?_;intro Wc Ga ja;have Yg:=zH (show Blk Wc _ _ _ by rw [Ga.out];exact kr.drew)
  have Jf:=zH (show vz w.1.size w Wc by rw [Ga.out];exact da.drew)
  have Zq:=Yg.out.cell;have Er:=Yg.out.frozen;clear Ga;refine Hk ?_;refine ke (de (w.1.size+1)) rfl rfl rfl ?_;go_simp;refine ⟨Ez [vd vo O.st,vd vq O.dr,ve A n c,ve vB 0 0,ve vB 0 0] 0 _,?_⟩
  refine zPU ?_
  refine Vc ?_;have kf:=Jg [vd vo O.st,vd vq O.dr,ve A n c,ve vB 0 0,ve vB 0 0] Yg.out rfl;have Oc:=aj (xs:=[vd vo O.st,vd vq O.dr,ve A n c,ve vB 0 0,ve vB 0 0]) (g:=w.1.size+1) Jf.out zO;have qj:∀ K:Nat -> Prop,¬K (w.1.size+1) -> Yd K Wc (Pc Wc (w.1.size+1) [vd vo O.st,vd vq O.dr,ve A n c,ve vB 0 0,ve vB 0 0] 0):=fun K h=>Pj h _ _
  simp only [Pc,Re,Nat.reduceAdd] at kf Oc qj;generalize vE (vE (vE (vE (vE (Wc) _ _) _ _) _ _) _ _) _ _=wf at kf Oc qj |-;have cf:=kf.cell;clear sr Wr Xr Zq Er ja;go_wp2;exact Uc (by simp [results,results242,go_sem,cf]) rfl ⟨A,n,c,rfl,Vn (sb HQ.out (yc Oc)) (fun _ h=>.inl h),Oc⟩
 | none =>
  rw [hF] at Xk HV HO;simp only [Option.getD_none,Option.isSome_none] at Xk HV HO;rw [HV.out,HO.out];obtain ⟨O',Vt⟩:∃ O',O'=Ro O:=⟨_,rfl⟩;have mo:(Mk (Ro O) lab el (Pn O)).qs=O.qs++[⟨lab,el,Pn O⟩]:=by rw [NJ,lH]
  have Oe:∀ v,Sk (Mk (Ro O) lab el (Pn O)) v=Sk O' v:=fun v=>by rw [zE1,Vt]
  simp only [Oe,mo];rw [<- Vt] at ZI HRc;obtain ⟨dv,tq⟩:=zEX (Pn O);rw [<- tq] at ZI HRc |-;clear hE hF Oe mo Vt tq HV HO;unfold Sk at *;go_enter func242,ntmps242
  go_upto_region 1 with fail
  generalize (w.alloc _).alloc _=w1 at kx kr da |-;go_wp2_with fail
  refine (Pm.out w1 da).mono ?_;rintro e w2 ⟨rfl,Fa⟩;replace kx:=pa kx Fa;replace kr:=pa kr Fa;replace da:=ta da Fa;clear Fa;have cx:=kx.cell;go_wp2_with fail
  refine (Xk.out w2 da).mono ?_;rintro e w3 ⟨rfl,Ra⟩;replace kx:=pa kx Ra;replace kr:=pa kr Ra;replace da:=ta da Ra;clear Ra cx;have cx:=kx.cell;go_wp2_with fail
  refine (ZI.out w3).mono ?_;rintro e w4 ⟨rfl,Ib⟩;replace kx:=pa kx Ib;replace kr:=pa kr Ib;replace da:=ta da Ib;clear Ib cx;have cx:=kx.cell;have fx:=kx.frozen;have kxf:=Jg [vd vo O'.st,vd vq O'.dr,ve A n c,ve vB 0 0,ve vB 0 0] kx rfl;have krf:=(If (g:=w.1.size) (b:=w.1.size+1) (Nat.succ_ne_self _) [vd vo O'.st,vd vq O'.dr,ve A n c,ve vB 0 0,ve vB 0 0] 0 w4).trans kr;have Oc:=aj (xs:=[vd vo O'.st,vd vq O'.dr,ve A n c,ve vB 0 0,ve vB 0 0]) (g:=w.1.size) da zR;simp only [Pc,Re,Nat.reduceAdd] at kxf krf Oc;have KXF:=zH kxf;have KRF:=zH (show Blk _ (w.1.size+1) _ _ from krf)
  have HBF:=zH Oc;clear kxf krf Oc kx kr da;go_upto_region 7 with fail
  generalize vE (vE (vE (vE (vE w4 _ _) _ _) _ _) _ _) _ _=w5 at KXF KRF HBF |-;have cx:=KXF.out.cell;go_wp2_with fail
  refine (HRc.out w5 HBF.out).mono ?_;rintro e w6 ⟨A4,c4,rfl,hd6,Lc⟩;have AL:=KRF.out.below Lc KRF.out.lt;have Rb:=ta HBF.out Lc;have cr:=AL.cell;have fr:=AL.frozen;have HL5:=KRF.out.lt;clear cx;go_wp2;have kf:=Jg [vd vo O'.st,vd vq O'.dr,ve A4 (n+1) c4,ve vB 0 0,ve vB 0 0] AL rfl;have Oc:=aj (xs:=[vd vo O'.st,vd vq O'.dr,ve A4 (n+1) c4,ve vB 0 0,ve vB 0 0]) (g:=w.1.size+1) Rb (Nat.le_succ _);have Ss:Yd (fun b=>(K b /\ b<w.1.size) \/ w5.1.size <= b) w6 (Pc w6 (w.1.size+1) [vd vo O'.st,vd vq O'.dr,ve A4 (n+1) c4,ve vB 0 0,ve vB 0 0] 0):=Pj (fun h=>h.elim (fun h=>by have:=h.2;omega) (fun h=>zO)) _ _
  simp only [Pc,Re,Nat.reduceAdd] at kf Oc Ss;generalize vE (vE (vE (vE (vE w6 _ _) _ _) _ _) _ _) _ _=wf at kf Oc Ss |-;have cf:=kf.cell;clear cr fr;exact Uc (by simp [results,results242,go_sem,cf]) rfl ⟨A4,n+1,c4,rfl,Vn (sb hd6 Ss) (fun b h=>h.elim (fun h=>.inl h.1) fun h=>.inr (jb HBF.out.size h)),Oc⟩
structure IA (d:Nat) (ls:List (List Nat)):Prop where
 d10:d <= 10
 len:ls.length=d+1
 at_:∀ k,k <= d -> (ls.getD k []).length=2^(d-k)
theorem QT:∀ (d:Nat) (O:Jb) (l:List Nat),l.length=2^d -> (rn d O l).length=d+1 /\ ∀ k,k <= d -> ((rn d O l).getD k []).length=2^(d-k)
 | 0,O,l,h=>⟨rfl,fun k hk=>by
  obtain rfl:k=0:=by omega
  exact h⟩
 | d+1,O,l,h=>by
  have hn:(bf O 17 (Ze l)).length=2^d:=by rw [rz,GL,h,Zg];omega
  obtain ⟨h1,h2⟩:=QT d (Nc O 17 (Ze l)) (bf O 17 (Ze l)) hn;refine ⟨by simp [rn,h1],fun k hk=>?_⟩
  rcases k with _ | k
  ·exact h
  ·have:=h2 k zO
   simpa [rn,show d+1-(k+1)=d-k by omega] using this
theorem zA9 {d:Nat} (O:Jb) {l:List Nat} (hd:d <= 10) (h:l.length=2^d):IA d (rn d O l):=⟨hd,(QT d O l h).1,(QT d O l h).2⟩
theorem zAp {d:Nat} {ls:List (List Nat)} (h:IA d ls):PB ls=(ls.getD d []).getD 0 0:=by
 unfold PB;have hl:=h.len;rw [List.getLastD_eq_getLast?,List.getLast?_eq_getElem?,Hc (l:=ls),show ls.length-1=d by omega]
theorem nQ:∀ (ls:List (List Nat)) (i:Nat),Bp ls i=(List.range (ls.length-1)).map fun k=>(ls.getD k []).getD ((i / 2^k) ^^^ 1) 0
 | [],_=>rfl
 | [_],_=>rfl
 | l :: m :: r,i=>by
  rw [Bp,nQ (m :: r) (i / 2)];simp only [Yh,Nat.add_sub_cancel];rw [List.range_succ_eq_map,List.map_cons,List.map_map];simp only [List.getD_cons_zero,Nat.pow_zero,Nat.div_one,List.cons.injEq,true_and];refine Nw fun k _=>?_
  simp only [Function.comp,List.getD_cons_succ,Zg];rw [Nat.div_div_eq_div_mul,xg 2]
theorem zBG:∀ b:Fin 1024,bits .xor vq (b.val:Int) 1=((b.val ^^^ 1:Nat):Int):=by decide +kernel
theorem Xv {w:vu} {A:Option vx} {n c:Nat} {ls:List (List Nat)} (h:Kd w [ve A n c] ls) {i:Nat} (hi:i<ls.length) :
  ∃ b q A1 n1 c1,A=vD ⟨b,q,vB⟩ /\ b<w.1.size /\ w.cell? ⟨b,q+i,vB⟩=vD (ve A1 n1 c1) /\ n1=(ls.getD i []).length /\ RWd w [ve A1 n1 c1] (ls.getD i []):=by
 obtain ⟨b,q,A1,n1,c1,h1,h2,h3,h4⟩:=Dl (Ig h).2.2.2 hi;have e:ls[i]=ls.getD i []:=by rw [Hc,Ec hi];rfl
 rw [e] at h4;exact ⟨b,q,A1,n1,c1,h1,h2,h3,(Pb h4).1,h4⟩
theorem zBt {w:vu} {A:Option vx} {n c d:Nat} {ls:List (List Nat)} (h:Kd w [ve A n c] ls) (ht:IA d ls) :
  vA prog 139 #[vf #[ve A n c]] w fun e w'=>e=vn (.bool true) /\ vz w.1.size w w':=by
 obtain ⟨rfl,kd,ef,-⟩:=Ig h;have hd:=ht.d10;obtain ⟨yl,da⟩:=zN w 132 #[ve A ls.length c];have HR:=zH (Gk da h);have hlen:=ht.len;have HT:=zH ht;have bA:=zH (show ∀ w,vA prog 135 #[vd vq ((2^d:Nat):Int)] w fun e w'=>e=vn (.bool true) /\ w=w' from fun w=>by have:=Q5 (2^d) w;rw [RS hd] at this;exact this)
 obtain ⟨b,q,A1,n1,c1,eA,dc,oq,Ue,-⟩:=Xv h (show 0<ls.length by omega)
 rw [ht.at_ 0 (Qb _),Nat.sub_zero] at Ue;rw [Oo] at oq;obtain ⟨nn,pg⟩:=zEX (ls.length);rw [<- pg] at HR kd da yl hlen |-;rw [<- Ue] at bA;have Pp:=zH Ue;have Lf:=zH pg;subst eA;have g0:(0:Int)<nn:=by omega
 have gz:((nn:Int) == 0)=false:=by rw [Ke];omega
 have DP:nn <= 11:=by omega
 have HL:=zH hlen;have HD:=zH hd;clear h ht hd hlen Ue pg kd ef;go_enter func139,ntmps139
 go_wp2_with fail
 refine (bA.out _).mono ?_;rintro _ w1 ⟨rfl,rfl⟩;go_wp2_with fail
 generalize w.alloc _=w1 at da yl HR |-
 go_loop [3,27] (fun s y=>∃ k z:Nat,k <= nn /\ y=vd vq k /\ s=vd vq z /\ Hid (z=if k <= d then 2^(d-k) else 0)) (fun _ y=>nn-(intOf y).toNat)
 case atStart=>exact ⟨0,n1,Qb _,rfl,rfl,by show _=_;rw [Lb (Qb _),Nat.sub_zero];exact Pp.out⟩
 case round =>
  obtain ⟨k,z,hk,rfl,rfl,HZ⟩:=hrel;by_cases ya:k<nn
  ·obtain ⟨b2,q2,A2,n2,c2,eA,Pk,Zm,Ce,-⟩:=Xv HR.out (show k<ls.length by have:=Lf.out;omega)
   have hkd:k <= d:=by have:=HL.out;omega
   rw [HT.out.at_ k hkd] at Ce;have hz:z=n2:=by rw [Ce,HZ.out,Lb hkd]
   subst hz;have Hi:0<z:=by rw [Ce];exact Nat.pow_pos zO
   have Vd:z <= 1024:=by rw [Ce];exact jb (Jt zO (show d-k <= 10 by have:=HD.out;omega)) zD
   have HZ2:=zH (show z / 2=if k+1 <= d then 2^(d-(k+1)) else 0 by
    rw [Ce];by_cases h1:k+1 <= d
    ·rw [Lb h1,show d-k=(d-(k+1))+1 by omega,Zg];omega
    ·rw [Gb h1,show d-k=0 by omega])
   have d1:((z:Int) == 0)=false:=by rw [Ke];omega
   have d2:((z:Int)!=z)=false:=by simp
   have d3:(z:Int).tdiv 2=((z / 2:Nat):Int):=by rw [FM zO];omega
   obtain ⟨z2,Pg⟩:=zEX (z / 2);rw [<- Pg] at d3 HZ2;have hz2l:z2 <= 512:=by omega
   have g1:(0:Int)<=k:=by omega
   have g2:(k:Int)<nn:=by omega
   injection eA with eA
   injection eA with e1 e2
   subst e1 e2;have tc:=zH ya;clear Ce Pg Hi ya hkd;go_wp2
   go_round
   case rel=>exact ⟨k+1,z2,by have:=tc.out;omega,by go_num,by go_num,HZ2⟩
   case measure=>have:=tc.out;simp [intOf];omega
  ·have e:k=nn:=by omega
   subst e;have hz:z=0:=by rw [HZ.out,Gb (zQ HL.out)]
   subst hz;clear ya hk;go_wp2;go_ret
   exact ⟨rfl,da⟩
theorem RT {d:Nat} {ls:List (List Nat)} (h:IA d ls) {k:Nat} (hk:k <= d):0<(ls.getD k []).length:=by rw [h.at_ k hk];exact Nat.pow_pos zO
theorem zHr {w:vu} {A:Option vx} {n c d:Nat} {ls:List (List Nat)} (h:Kd w [ve A n c] ls) (ht:IA d ls) :
  vA prog 63 #[vf #[ve A n c]] w fun e w'=>e=vn (vd vo (PB ls:Int)) /\ vz w.1.size w w':=by
 obtain ⟨rfl,kd,ef,-⟩:=Ig h;obtain ⟨yl,da⟩:=zN w 132 #[ve A ls.length c];have hlen:=ht.len;have HW:=zH (fun w1 (hb:vz w.1.size w w1)=>zBt (Gk hb h) ht)
 obtain ⟨b,q,A1,n1,c1,eA,dc,oq,Ue,xf⟩:=Xv h (show d<ls.length by omega)
 obtain ⟨b1,q1,eA1,tk,Wy⟩:=Hf (by have:=(Pb xf).2.2.2.2;rw [Ue] at this;exact this) (RT ht zR)
 rw [Oo,<- zAp ht] at Wy;have gu:0<n1:=by rw [Ue];exact RT ht zR
 obtain ⟨nn,pg⟩:=zEX (ls.length);rw [<- pg] at da yl hlen HW kd |-;generalize PB ls=rt at *;have DP:nn <= 11:=by have:=ht.d10;omega
 have e1:vq.wrap ((nn:Int)-1)=(d:Int):=by rw [Bi];omega
 have g0:(0:Int)<n1:=by omega
 have g1:(d:Int)<nn:=by omega
 have g2:(0:Int)<=d:=by omega
 subst eA eA1;have kc:=yl.cell;clear h ht xf pg hlen Ue gu kd ef;go_enter func63,ntmps63
 go_wp2_with fail
 generalize w.alloc _=w1 at da yl kc |-;refine (HW.out _ da).mono ?_;rintro _ w2 ⟨rfl,Fa⟩;have kc2:=(pa yl Fa).cell;have hb:=ta da Fa;have GH:=(hb.cell (p:=⟨b,q+d,vB⟩) dc).trans oq;have hcB:=(hb.cell (p:=⟨b1,q1,vB⟩) tk).trans Wy;clear kc oq Wy da Fa yl;go_wp2;go_ret
 exact ⟨rfl,hb⟩
theorem zGa {w:vu} {A:Option vx} {n c d i:Nat} {ls:List (List Nat)} (h:Kd w [ve A n c] ls) (ht:IA d ls) (hi:i<2^d) (ya:∀ k j,(ls.getD k []).getD j 0<18446744073709551616) :
  vA prog 67 #[vf #[ve A n c],vd vq i] w fun e w'=>∃ v,e=vn v /\ w'.ownsRow w.1.size 22 1 v d (Qa (Bp ls i)) /\ vz w.1.size w w':=by
 obtain ⟨rfl,kd,ef,-⟩:=Ig h;obtain ⟨yl,da⟩:=zN w 132 #[ve A ls.length c];have hlen:=ht.len;have HW:=zH (fun w1 (hb:vz w.1.size w w1)=>zBt (Gk hb h) ht)
 have HR:=zH h;have HT:=zH ht;obtain ⟨b,q,A1,n1,c1,eA,dc,oq,Ue,xf⟩:=Xv h (show 0<ls.length by omega)
 rw [ht.at_ 0 (Qb _),Nat.sub_zero] at Ue;rw [Oo] at oq;have qP:=ht.d10;have HP:=zH (show Bp ls i=(List.range d).map fun k=>(ls.getD k []).getD ((i / 2^k) ^^^ 1) 0 by rw [nQ,hlen];rfl)
 obtain ⟨f,hf⟩:∃ f:Nat -> Nat,f=fun k=>(ls.getD k []).getD ((i / 2^k) ^^^ 1) 0:=⟨_,rfl⟩
 rw [<- hf] at HP;have HF:=zH (fun k=>show f k=(ls.getD k []).getD ((i / 2^k) ^^^ 1) 0 by rw [hf])
 obtain ⟨nn,pg⟩:=zEX (ls.length);rw [<- pg] at da yl hlen HW kd HR |-;obtain ⟨pl,Yi⟩:=zEX (Bp ls i);rw [<- Yi] at HP |-;have DP:nn <= 11:=by omega
 have iW:i<1024:=We hi (jb (Jt zO qP) zD);have e1:vq.wrap ((nn:Int)-1)=(d:Int):=by rw [Bi];omega
 have g0:(0:Int)<nn:=by omega
 have g1:(d:Int)<=c:=by omega
 have g2:(0:Int)<=d:=by omega
 have g3:¬((i:Int)<0):=by omega
 have g3':decide ((i:Int)<0)=false:=Xb g3;have g4:decide ((n1:Int)<=i)=false:=Xb zO;have g4n:decide (n1 <= i)=false:=Xb zO;have g4p:¬(n1 <= i):=by omega
 have hcut:∀ w,(Instr.slice 39 (ve A nn c) vB (vD (vd vq d)) vB).run prog w= .ok (ve A d c) w:=fun w=>zAC kV A nn c d zO
 subst eA;have kc:=yl.cell;have HN:=zH hlen;have HI:=zH hi;have Lf:=zH pg;have BM:=zH ya;clear h ht xf pg hlen kd ef hf Yi Ue hi ya;go_enter func67,ntmps67
 go_wp2_with fail
 generalize w.alloc _=w1 at da yl kc |-;refine (HW.out _ da).mono ?_;rintro _ w2 ⟨rfl,Fa⟩;have kc2:=(pa yl Fa).cell;have hb:=ta da Fa;have GH:=(hb.cell (p:=⟨b,q,vB⟩) dc).trans oq;clear kc oq da Fa yl HW;go_wp2_with fail
 have Tf:w2.ownsRow w.1.size 22 1 (ve vB 0 0) 0 (Qa ((List.range 0).map f)):=⟨rfl, .inl ⟨rfl,rfl⟩⟩;go_loopw [1,5,32] (fun iv pv y wr=>∃ k:Nat,k <= d /\ y=vd vq k /\ iv=vd vq ((i / 2^k:Nat):Int) /\ wr.ownsRow w.1.size 22 1 pv k (Qa ((List.range k).map f)) /\ vz w.1.size w wr) (fun _ _ y _=>d-(intOf y).toNat)
 case atStart=>exact ⟨0,Qb _,rfl,zS,Tf,hb⟩
 case round =>
  clear Tf hb GH kc2;obtain ⟨k,hk,rfl,rfl,oa,hb⟩:=hrel;by_cases ya:k<d
  ·obtain ⟨b2,q2,A2,n2,c2,eA,Pk,Zm,Ce,Fm⟩:=Xv (Gk hb HR.out) (show k<ls.length by have:=Lf.out;have:=HN.out;omega)
   rw [HT.out.at_ k zO] at Ce
   injection eA with eA
   injection eA with e3 e4
   subst e3 e4;have hj:i / 2^k<2^(d-k):=by
    rw [Nat.div_lt_iff_lt_mul (Nat.pow_pos zO),<- Nat.pow_add,show d-k+k=d by omega]
    exact HI.out
   have hx:(i / 2^k) ^^^ 1<n2:=by rw [Ce];exact Nat.xor_lt_two_pow hj (Nat.one_lt_two_pow zO)
   have VK:=(Pb Fm).2.2.2.2;rw [(Pb Fm).1] at VK Zm hx;obtain ⟨b3,q3,PE,hbl3,dB⟩:=Hf VK hx;rw [<- HF.out k] at dB;have uj:f k<18446744073709551616:=by rw [HF.out];exact BM.out k _
   have tq:i / 2^(k+1)=i / 2^k / 2:=by rw [Zg,Nat.div_div_eq_div_mul]
   have bu:i / 2^k<1024:=Nat.lt_of_le_of_lt (GA _ _) iW;have tL:=zBG ⟨i / 2^k,bu⟩;simp only at tL;obtain ⟨j,Zo⟩:=zEX (i / 2^k);rw [<- Zo] at tL dB hx tq bu |-;obtain ⟨jx,hjx⟩:=zEX (j ^^^ 1);rw [<- hjx] at tL dB hx;obtain ⟨n3,mn⟩:=zEX ((ls.getD k []).length);rw [<- mn] at Zm hx;obtain ⟨z,hz⟩:=zEX (f k);rw [<- hz] at dB uj;have Pq:=zH (show (List.range k).map f++[z]=(List.range (k+1)).map f by rw [hz];exact OB f k)
   have g5:(0:Int)<=jx:=by omega
   have g6:(jx:Int)<n3:=by omega
   have g7:(0:Int)<=k:=by omega
   have g8:(k:Int)<d:=by omega
   have g9:(j:Int).tdiv 2=((j / 2:Nat):Int):=by rw [FM zO];omega
   obtain ⟨j2,xk⟩:=zEX (j / 2);rw [<- xk] at g9 tq;have hj2l:j2 <= 1024:=by omega
   have HDV:=zH tq;have tc:=zH ya;subst PE;clear VK Fm Ce hj Zo hjx mn hz xk tq ya hx;go_wp2_with (at_builtin;refine Wd rfl _ _ rfl jg rfl (oa.alloc _) rfl (gg _ _ _) (De [z]) zO (by simp;have:=hb.size;omega) ?_)
   intro v' wn Ua Ma Cb;have ma:=zA wr (.cells #[vd vo z] 22);have hB:=ie (oa.alloc _) Ma (by simp;have:=hb.size;omega)
   replace hb:=(Nk hb ma hb.size).trans hB;replace oa:wn.ownsRow w.1.size 22 1 v' (k+1) (Qa ((List.range (k+1)).map f)):=Qi (b:=[z]) Ua Pq.out;clear Ua Ma Cb ma hB;go_wp2
   go_roundw
   case rel=>exact ⟨k+1,by have:=tc.out;omega,by go_num,by first | (rw [HDV.out];done) | (rw [HDV.out];go_num),oa,hb⟩
   case measure=>have:=tc.out;simp [intOf];omega
  ·have e:k=d:=by omega
   subst e;clear ya hk;obtain ⟨Av,cv,rfl,-⟩:=Yb oa;have my:=zH (show Qa pl=Qa ((List.range k).map f) by rw [HP.out])
   rw [<- my.out] at oa;have AE:=zH oa;clear oa;go_wp2;go_ret
   exact ⟨_,rfl,AE.out,hb⟩
def Bf (O:Jb) (v:vw):Array vw:=#[.bool O.ideal,vd vo O.st,vd vq O.dr,v,ve vB 0 0,ve vB 0 0]
theorem zGe {O:Jb} (h:O.ideal=true) (hq:∀ q∈O.qs,fe q.el=true) (lab:Nat) (el:List Nat):GN O lab el=Pf O.qs lab el:=by
 unfold GN;cases hf:Pf O.qs lab el with
 | some a =>
  obtain ⟨q,hm,-,e,-⟩:=BV hf;rw [Lb (by rw [<- e];exact hq q hm)]
 | none =>
  simp only [h,if_true];split <;> rfl
theorem zGd (O:Jb) (jl:Zx O) (Mh:O.ideal=true -> ∀ q∈O.qs,fe q.el=true) (A B:Option vx) (n c m d lab:Nat) (el:List Nat) (w:vu) (hq:Md w [ve A n c] O.qs) (hl:RWd w [ve B m d] el) (db:0<el.length) (hm:el.length <= 1000000) :
  vA prog 243 #[vf (Bf O (ve A n c)),vd vo lab,ve B m d] w fun e w'=>e=vn (.tuple #[vd vo (((GN O lab el).getD 0:Nat):Int), .bool (GN O lab el).isSome]) /\ vz w.1.size w w':=by
 have ma:=zA w (.cells (Bf O (ve A n c)) 65);have kb:=Blk.new w 65 (Bf O (ve A n c));have Pm:=zH (fun w1 (hb:vz w.1.size w w1)=>MR B m d el w1 (Wa hb hl))
 have Xk:=zH (fun w1 (hb:vz w.1.size w w1)=>V8 O A B n c m d lab el w1 (WW _ _ _ _ hb hq) (Wa hb hl))
 have HSp:=zH (fun w1 (hb:vz w.1.size w w1)=>U9 lab B m d el w1 (Wa hb hl) db hm)
 cases hi:O.ideal
 ·have hp:=zH (W8 jl hi lab el)
  cases hE:fe el
  ·rw [hE,Gb zt] at hp
   rw [hE] at Pm;rw [hp.out];clear hE jl Mh hq hl Xk HSp hm db;unfold Bf at *;rw [hi] at ma kb |-;clear hi;go_enter func243,ntmps243
   go_wp2_with fail
   generalize w.alloc _=w1 at ma kb |-;refine (Pm.out w1 ma).mono ?_;rintro e w2 ⟨rfl,Fa⟩;replace ma:=ta ma Fa;go_wp2;exact Uc (by simp [results,results243,go_sem]) rfl ⟨rfl,ma⟩
  ·rw [hE,Lb rfl] at hp
   rw [hE] at Pm;rw [hp.out];clear hE jl Mh hq hl Xk hm db;unfold Bf at *;rw [hi] at ma kb |-;clear hi;go_enter func243,ntmps243
   go_wp2_with fail
   generalize w.alloc _=w1 at ma kb |-;refine (Pm.out w1 ma).mono ?_;rintro e w2 ⟨rfl,Fa⟩;replace ma:=ta ma Fa;clear Fa;go_wp2_with fail
   refine (HSp.out w2 ma).mono ?_;rintro e w3 ⟨rfl,Ra⟩;replace ma:=ta ma Ra;go_wp2;exact Uc (by simp [results,results243,go_sem]) rfl ⟨rfl,ma⟩
 ·rw [zGe hi (Mh hi)]
  clear jl Mh hq hl HSp Pm hm db;obtain ⟨x,hx⟩:=zEX ((Pf O.qs lab el).getD 0);obtain ⟨y,hy⟩:=zEX ((Pf O.qs lab el).isSome);rw [<- hx,<- hy] at Xk |-;clear hx hy;unfold Bf Sk at *;rw [hi] at ma kb |-;clear hi;go_enter func243,ntmps243
  go_wp2_with fail
  generalize w.alloc _=w1 at ma kb |-;refine (Xk.out w1 ma).mono ?_;rintro e w2 ⟨rfl,Fa⟩;replace ma:=ta ma Fa;clear Fa;go_wp2;exact Uc (by simp [results,results243,go_sem]) rfl ⟨rfl,ma⟩
theorem zDd {O:Jb} (jl:Zx O) (hi:O.ideal=false) (lab:Nat) (el:List Nat) :
  Ae O lab el=(if fe el then Dk lab el else 0) /\ Qd O lab el=(if fe el&&(Pf O.qs lab el).isNone then Mk O lab el (Dk lab el) else O):=by
 refine ⟨zDS jl hi lab el,?_⟩;unfold Qd;cases fe el
 ·rfl
 ·simp only [if_true,Bool.true_and,hi,Bool.false_eq_true,if_false]
  cases Pf O.qs lab el <;> rfl
theorem zDP {K:Nat -> Prop} (O:Jb) (hi:O.ideal=true) (A B:Option vx) (n c m d lab:Nat) (el:List Nat) (w:vu) (hq:Hd K w fun u=>Md u [ve A n c] O.qs) (hl:RWd w [ve B m d] el) (mi:lab<18446744073709551616) (bg:O.st<18446744073709551616) (ux:O.dr <= 1000000000)
  (hn:O.qs.length <= 1000000) (hm:el.length <= 1000000) :
  vA prog 165 #[vf (Bf O (ve A n c)),vd vo lab,ve B m d] w fun e w'=>∃ A' n' c',e=vn (.tuple #[vd vo (Ae O lab el:Int),vf (Bf (Qd O lab el) (ve A' n' c'))]) /\ Hd (fun b=>K b \/ w.1.size <= b) w' (fun u=>Md u [ve A' n' c'] (Qd O lab el).qs) /\ vz w.1.size w w':=by
 obtain ⟨kx,kr,da,Db⟩:=Xf w 65 65 (Bf O (ve A n c)) #[.bool false,vd vo 0,vd vq 0,ve vB 0 0,ve vB 0 0,ve vB 0 0];have HH:=zH (fun w1 (hb:vz w.1.size w w1)=>zDO (K:=fun b=>K b /\ b<w.1.size) O hi A B n c m d lab el w1 (sb (wk hq) (yc hb)) (Wa hb hl) mi bg ux hn hm)
 obtain ⟨O',Vt⟩:∃ O',O'=Qd O lab el:=⟨_,rfl⟩;obtain ⟨v,hv⟩:=zEX (Ae O lab el);have pB:O'.ideal=true:=by rw [Vt,J4,hi]
 rw [<- Vt,<- hv] at HH |-;clear Vt hv hq hl mi bg ux hn hm Db;unfold Bf Sk at *;rw [hi] at kx kr da |-;rw [pB];clear hi pB;go_enter func165,ntmps165
 go_upto_region 1 with fail
 generalize (w.alloc _).alloc _=w1 at kx kr da |-;have LR1:=zH kr.lt;have cx:=kx.cell;go_wp2_with fail
 refine (HH.out w1 da).mono ?_;rintro e w2 ⟨A2,n2,c2,rfl,uk,Fa⟩;replace kx:=pa kx Fa;replace kr:=pa kr Fa;replace da:=ta da Fa;have VI:=zH Fa.size;have kh:=zH uk;clear Fa uk cx;have krl:=kr.lt;obtain ⟨kt,ma⟩:=zN w2 63 #[vd vo O'.st,vd vq O'.dr,ve A2 n2 c2,ve vB 0 0,ve vB 0 0];have Mp:=zH (sb kh.out (yc ma));replace kr:=pa kr ma;replace da:=ta da ma;have ne3:w2.1.size≠w.1.size+1:=by omega
 go_upto_region 3 with fail
 generalize w2.alloc _=w3 at kt kr da Mp ma |-;clear kx;have kx:=kt;have LX:=zH (show w.1.size+1<w2.1.size from krl)
 clear ma kt kh HH VI;have sr:=kx.cell;have Wr:=kx.lt;have Xr:w.1.size≠w.1.size+1:=by omega
 refine Pd (Ji (w.1.size+1)) [4] [0,1,2,3,4] zK zK ?_;refine oe (de (w.1.size+1)) ?_;intro Wc Ga ja;have Yg:=zH (show Blk Wc _ _ _ by rw [Ga.out];exact kr.drew)
 have Jf:=zH (show vz w.1.size w Wc by rw [Ga.out];exact da.drew)
 have Zq:=Yg.out.cell;have Er:=Yg.out.frozen;replace Mp:=zH (sb Mp.out (show Yd _ _ Wc by rw [Ga.out];exact Ln))
 clear Ga;refine Hk ?_;refine ke (de (w.1.size+1)) rfl rfl rfl ?_;go_simp;refine ⟨Ez [.bool true,vd vo O'.st,vd vq O'.dr,ve A2 n2 c2,ve vB 0 0,ve vB 0 0] 0 _,?_⟩
 refine zPU ?_
 refine Vc ?_;have kf:=Jg [.bool true,vd vo O'.st,vd vq O'.dr,ve A2 n2 c2,ve vB 0 0,ve vB 0 0] Yg.out rfl;have Oc:=aj (xs:=[.bool true,vd vo O'.st,vd vq O'.dr,ve A2 n2 c2,ve vB 0 0,ve vB 0 0]) (g:=w.1.size+1) Jf.out zO;have qj:∀ K:Nat -> Prop,¬K (w.1.size+1) -> Yd K Wc (Pc Wc (w.1.size+1) [.bool true,vd vo O'.st,vd vq O'.dr,ve A2 n2 c2,ve vB 0 0,ve vB 0 0] 0):=fun K h=>Pj h _ _
 simp only [Pc,Re,Nat.reduceAdd] at kf Oc qj;generalize vE (vE (vE (vE (vE (vE (Wc) _ _) _ _) _ _) _ _) _ _) _ _=wf at kf Oc qj |-;have cf:=kf.cell;clear sr Wr Xr Zq Er ja;go_wp2;have Xs:=sb Mp.out (qj _ (fun h=>h.elim (fun h=>by have:=h.2;omega) (fun h=>by have:=LR1.out;omega)))
 exact Uc (by simp [results,results165,go_sem,cf]) rfl ⟨A2,n2,c2,rfl,Vn Xs (fun b h=>h.elim (fun h=>.inl h.1) fun h=>.inr (zQ LR1.out)),Oc⟩
theorem zDQ {K:Nat -> Prop} (O:Jb) (jl:Zx O) (hi:O.ideal=false) (A B:Option vx) (n c m d lab:Nat) (el:List Nat) (w:vu) (hq:Hd K w fun u=>Md u [ve A n c] O.qs) (hl:RWd w [ve B m d] el) (mi:lab<18446744073709551616) (db:0<el.length)
  (hn:O.qs.length <= 1000000) (hm:el.length <= 1000000) :
  vA prog 165 #[vf (Bf O (ve A n c)),vd vo lab,ve B m d] w fun e w'=>∃ A' n' c',e=vn (.tuple #[vd vo (Ae O lab el:Int),vf (Bf (Qd O lab el) (ve A' n' c'))]) /\ Hd (fun b=>K b \/ w.1.size <= b) w' (fun u=>Md u [ve A' n' c'] (Qd O lab el).qs) /\ vz w.1.size w w':=by
 obtain ⟨kx,kr,da,Db⟩:=Xf w 65 65 (Bf O (ve A n c)) #[.bool false,vd vo 0,vd vq 0,ve vB 0 0,ve vB 0 0,ve vB 0 0];have Xk:=zH (fun w1 (hb:vz w.1.size w w1)=>zGd O jl (fun h=>by rw [hi] at h;cases h) A B n c m d lab el w1 (MH hq (yc hb)) (Wa hb hl) db hm)
 have zn:=zH (fun w1 (hb:vz w.1.size w w1)=>J2 A B n c m d lab O.qs el w1 (MH hq (yc hb)) (Wa hb hl))
 have HQ:=zH hq;obtain ⟨e1,e2⟩:=zDd jl hi lab el;rw [e1,e2];have hp:=W8 jl hi lab el;clear e1 e2;cases hE:fe el
 ·rw [hE] at hp
  simp only [Bool.false_eq_true,if_false] at hp;rw [hp] at Xk;simp only [Option.getD_none,Option.isSome_none] at Xk;simp only [Bool.false_eq_true,if_false,Bool.false_and];clear hp hE jl hq hl mi db hn hm zn Db;unfold Bf at *;rw [hi] at kx kr da Xk |-;clear hi;go_enter func165,ntmps165
  go_upto_region 1 with fail
  generalize (w.alloc _).alloc _=w1 at kx kr da |-;have cx:=kx.cell;go_wp2_with fail
  refine (Xk.out w1 da).mono ?_;rintro e w2 ⟨rfl,Fa⟩;replace kx:=pa kx Fa;replace kr:=pa kr Fa;replace da:=ta da Fa;clear Fa cx;have cx:=kx.cell;go_upto_region 7 with fail
  clear cx;have sr:=kx.cell;have Wr:=kx.lt;have Xr:w.1.size≠w.1.size+1:=by omega
  refine Pd (Ji (w.1.size+1)) [3] [0,1,2,3] zK zK ?_;refine oe (de (w.1.size+1)) ?_;intro Wc Ga ja;have Yg:=zH (show Blk Wc _ _ _ by rw [Ga.out];exact kr.drew)
  have Jf:=zH (show vz w.1.size w Wc by rw [Ga.out];exact da.drew)
  have Zq:=Yg.out.cell;have Er:=Yg.out.frozen;clear Ga;refine Hk ?_;refine ke (de (w.1.size+1)) rfl rfl rfl ?_;go_simp;refine ⟨Ez [.bool false,vd vo O.st,vd vq O.dr,ve A n c,ve vB 0 0,ve vB 0 0] 0 _,?_⟩
  refine zPU ?_
  refine Vc ?_;have kf:=Jg [.bool false,vd vo O.st,vd vq O.dr,ve A n c,ve vB 0 0,ve vB 0 0] Yg.out rfl;have Oc:=aj (xs:=[.bool false,vd vo O.st,vd vq O.dr,ve A n c,ve vB 0 0,ve vB 0 0]) (g:=w.1.size+1) Jf.out zO;have qj:∀ K:Nat -> Prop,¬K (w.1.size+1) -> Yd K Wc (Pc Wc (w.1.size+1) [.bool false,vd vo O.st,vd vq O.dr,ve A n c,ve vB 0 0,ve vB 0 0] 0):=fun K h=>Pj h _ _
  simp only [Pc,Re,Nat.reduceAdd] at kf Oc qj;generalize vE (vE (vE (vE (vE (vE (Wc) _ _) _ _) _ _) _ _) _ _) _ _=wf at kf Oc qj |-;have cf:=kf.cell;clear sr Wr Xr Zq Er ja;go_wp2;exact Uc (by simp [results,results165,go_sem,cf]) rfl ⟨A,n,c,rfl,Vn (sb HQ.out (yc Oc)) (fun _ h=>.inl h),Oc⟩
 rw [hE] at hp;simp only [if_true] at hp;rw [hp] at Xk;simp only [Option.getD_some,Option.isSome_some] at Xk;simp only [if_true,Bool.true_and];obtain ⟨sp,hsp⟩:=zEX (Dk lab el);rw [<- hsp] at Xk |-;have HSP:=zH (show sp<18446744073709551616 by rw [hsp];exact rm (CQ lab el))
 clear hp hE hsp;rcases L2 O.qs lab el with ⟨e1,e2⟩ | ⟨i,Ff,e1,e2⟩
 rotate_left
 ·rw [e2]
  rw [e1] at zn;simp only [Option.isNone_some,Bool.false_eq_true,if_false];have g1:¬((i:Int)<0):=by omega
  have g1':decide ((i:Int)<0)=false:=Xb g1;clear e1 e2 Ff jl hq hl mi db hn hm Db HSP;unfold Bf at *;rw [hi] at kx kr da Xk |-;clear hi;go_enter func165,ntmps165
  go_upto_region 1 with fail
  generalize (w.alloc _).alloc _=w1 at kx kr da |-;have cx:=kx.cell;go_wp2_with fail
  refine (Xk.out w1 da).mono ?_;rintro e w2 ⟨rfl,Fa⟩;replace kx:=pa kx Fa;replace kr:=pa kr Fa;replace da:=ta da Fa;clear Fa cx;have cx:=kx.cell;go_wp2_with fail
  refine (zn.out w2 da).mono ?_;rintro e w3 ⟨rfl,Ra⟩;replace kx:=pa kx Ra;replace kr:=pa kr Ra;replace da:=ta da Ra;clear Ra cx;go_upto_region 7 with fail
  have sr:=kx.cell;have Wr:=kx.lt;have Xr:w.1.size≠w.1.size+1:=by omega
  refine Pd (Ji (w.1.size+1)) [3] [0,1,2,3] zK zK ?_;refine oe (de (w.1.size+1)) ?_;intro Wc Ga ja;have Yg:=zH (show Blk Wc _ _ _ by rw [Ga.out];exact kr.drew)
  have Jf:=zH (show vz w.1.size w Wc by rw [Ga.out];exact da.drew)
  have Zq:=Yg.out.cell;have Er:=Yg.out.frozen;clear Ga;refine Hk ?_;refine ke (de (w.1.size+1)) rfl rfl rfl ?_;go_simp;refine ⟨Ez [.bool false,vd vo O.st,vd vq O.dr,ve A n c,ve vB 0 0,ve vB 0 0] 0 _,?_⟩
  refine zPU ?_
  refine Vc ?_;have kf:=Jg [.bool false,vd vo O.st,vd vq O.dr,ve A n c,ve vB 0 0,ve vB 0 0] Yg.out rfl;have Oc:=aj (xs:=[.bool false,vd vo O.st,vd vq O.dr,ve A n c,ve vB 0 0,ve vB 0 0]) (g:=w.1.size+1) Jf.out zO;have qj:∀ K:Nat -> Prop,¬K (w.1.size+1) -> Yd K Wc (Pc Wc (w.1.size+1) [.bool false,vd vo O.st,vd vq O.dr,ve A n c,ve vB 0 0,ve vB 0 0] 0):=fun K h=>Pj h _ _
  simp only [Pc,Re,Nat.reduceAdd] at kf Oc qj;generalize vE (vE (vE (vE (vE (vE (Wc) _ _) _ _) _ _) _ _) _ _) _ _=wf at kf Oc qj |-;have cf:=kf.cell;clear sr Wr Xr Zq Er ja;go_wp2;exact Uc (by simp [results,results165,go_sem,cf]) rfl ⟨A,n,c,rfl,Vn (sb HQ.out (yc Oc)) (fun _ h=>.inl h),Oc⟩
 rw [e2];rw [e1] at zn;simp only [Option.isNone_none,if_true];obtain ⟨mf,jn,bz,Mh,Pe⟩:=Pb hl;obtain ⟨xs,su,hlen,tI⟩:=zAx (wk hq);have JP:=zAy (by rw [su.1,hlen]) (Tl tI)
 have HX:=zH tI;have HXL:=zH (show xs.length=O.qs.length*3 by rw [su.1,hlen])
 have AJ:=zH su;have Bw:=zH Mh;have Vf:=zH Pe;have kU:=zH mi;have Kg:=zH hlen;have Np:=zH mf;have nU:=zH JP;have WK:n <= 1000000:=by omega
 have ff:m <= 1000000:=by omega
 have g1:((-1:Int)<0):=by omega
 have Ws:∀ v,Bf (Mk O lab el sp) v=Bf O v:=fun v=>rfl
 simp only [Ws,NJ];clear tI su hl Mh Pe mi hlen mf JP hn hm jn bz Db Ws e1 e2 jl hq db;unfold Bf at *;rw [hi] at kx kr da Xk |-;clear hi;go_enter func165,ntmps165
 go_upto_region 1 with fail
 generalize (w.alloc _).alloc _=w0 at kx kr da |-;have cx:=kx.cell;have LR0:=zH kr.lt;go_wp2_with fail
 refine (Xk.out w0 da).mono ?_;rintro e w00 ⟨rfl,Fa⟩;replace LR0:=zH (We LR0.out Fa.size);replace kx:=pa kx Fa;replace kr:=pa kr Fa;replace da:=ta da Fa;clear Fa cx;have cx:=kx.cell;go_wp2_with fail
 refine (zn.out w00 da).mono ?_;rintro e w1 ⟨rfl,Ra⟩;replace LR0:=zH (We LR0.out Ra.size);replace kx:=pa kx Ra;replace kr:=pa kr Ra;replace da:=ta da Ra;clear Ra cx;have cx:=kx.cell;have lx:=kx.lt;have lr:=kr.lt;have ma:=zA w1 (.cells #[] 95);have oa:=N8 w1 95 zR;have td:=(AJ.out.below da).below ma;go_wp2_with (at_builtin;refine Wd rfl _ _ rfl PO rfl oa rfl td nU.out zO zS ?_)
 intro v2 w2 je Ma Cb;have Fa:vz w1.1.size w1 w2:=ma.trans (ie oa Ma zS);have Lt:=zH je;replace kx:=pa kx Fa;replace kr:=pa kr Fa;replace da:=ta da Fa;have KX:=zH kx;have KR:=zH kr;have HB:=zH da;have VI:=zH Fa;have LX:=zH lx;have LR:=zH (show w.1.size+1<w1.1.size from lr)
 have JC:=zA w2 (.cells #[] 22);have Dq:=Zr w2 22 zR;have Tj:=(Vf.out.below da).below JC;clear oa Ma Cb ma td je cx lx lr kx kr da Fa;go_wp2_with (at_builtin;refine Wd rfl _ _ rfl Qt rfl Dq rfl Tj (De _) zO zS ?_)
 intro v3 w3 iu Ma Cb;have Ra:vz w2.1.size w2 w3:=JC.trans (ie Dq Ma zS);have yp:∃ A' c',v3=ve A' m c':=by obtain ⟨A',c',e,-⟩:=Yb iu;exact ⟨A',c',e⟩
 obtain ⟨A3,c3,rfl⟩:=yp;have sL:=Sf iu Bw.out;have OW3:=zH (Za Lt.out Ra zR);replace KX:=zH (KX.out.below Ra KX.out.lt);replace KR:=zH (KR.out.below Ra KR.out.lt);replace HB:=zH (ta HB.out Ra);have nm:=zA w3 (.cells #[vd vo lab,ve A3 m c3,vd vo sp] 95);have Hx:=MX w3 (vd vo lab) (ve A3 m c3) (vd vo sp) 95;have Bu:=Za OW3.out nm zR;have hw4:=Wa nm sL;have WI:=zH (ta VI.out Ra);have LJ:=zH (Za iu nm zR);have V2:=zH (show ∀ b,v2.ownBlock=vD b -> b<w2.1.size from fun b hb=>(Lt.out.lt b hb).2)
 have W2:=zH VI.out.size;have Jh:=zH (ta HB.out nm);clear Dq Ma Cb Tj iu JC Ra sL Lt;go_wp2_with (at_builtin;refine Wd rfl _ _ rfl PO rfl Bu rfl Hx (by intro u hu;simp at hu;rcases hu with rfl | rfl | rfl <;> rfl) zO (by have:=WI.out.size;simp;omega) ?_)
 intro v4 w4 ju Ma Cb;have hv4:∃ A' c',v4=ve A' (n+1) c':=by obtain ⟨A',c',e,-⟩:=Yb ju;exact ⟨A',c',e⟩
 obtain ⟨A4,c4,rfl⟩:=hv4;have hle:w1.1.size <= (w3.alloc (.cells #[vd vo lab,ve A3 m c3,vd vo sp] 95)).1.size:=jb WI.out.size nm.size;have Ib:vz w1.1.size w3 w4:=(nm.mono WI.out.size).trans (ie Bu Ma hle);have Ox:=KX.out.below Ib LX.out;have zk:=KR.out.below Ib LR.out;have Rb:vz w.1.size w w4:=HB.out.trans (Ib.mono (zQ LX.out));have bG:=Ye LJ.out (u:=w4) fun b hb=>Ma.block b (LJ.out.lt b hb).2 (fun e=>by
  have:=V2.out b e.symm;have:=(LJ.out.lt b hb).1;omega)
 have VB:=zH (show ∀ u,Yd (fun b=>K b /\ b<w.1.size) w u -> (∀ b,w1.1.size <= b -> b<w4.1.size -> u.1[b]?=w4.1[b]?) -> Md u [ve A4 (n+1) c4] (O.qs++[⟨lab,el,sp⟩]) from fun u hbu hu=>by
  have o1:=Ye ju (u:=u) fun b hb=>hu b (ju.lt b hb).1 (ju.lt b hb).2
  have o2:=Ye bG (u:=u) fun b hb=>hu b (jb W2.out (bG.lt b hb).1) (bG.lt b hb).2
  exact WX o1 (by simp [Kg.out]) (zAz HXL.out (HX.out u hbu) (Sf o2 Bw.out) kU.out HSP.out))
 have cx4:=Ox.cell;have fx4:=Ox.frozen;have lx4:=Ox.lt;have KX4:=zH Ox;have Ii:=zH zk;have LX2:=zH Rb;clear Ma Cb ju bG hle Ib Hx Bu hw4 nm Rb Ox zk;go_upto_region 7 with fail
 have da:=LX2.out.setCell (p:=⟨w.1.size,3,vB⟩) zR (ve A4 (n+1) c4);have kr:=Ii.out.far (p:=⟨w.1.size,3,vB⟩) zS (ve A4 (n+1) c4);have kx:=KX4.out.set_ 3 (ve A4 (n+1) c4);have Ix:w4.1.size <= (w4.setCell ⟨w.1.size,3,vB⟩ (ve A4 (n+1) c4)).1.size:=by simp [vE]
 have hh5:∀ b,w1.1.size <= b -> (w4.setCell ⟨w.1.size,3,vB⟩ (ve A4 (n+1) c4)).1[b]?=w4.1[b]?:=fun b hb=>Mu w4 ⟨w.1.size,3,vB⟩ _ b (by have:=LX.out;show b≠w.1.size;omega)
 generalize w4.setCell _ _=w5 at kx kr da Ix hh5 |-;have HS5:=zH Ix;have HH5:=zH hh5;have Kp:=zH da;clear cx4 fx4 lx4 Ix hh5;have Tz:Hid (Hd (fun b=>(K b /\ b<w.1.size) \/ w1.1.size <= b) w5 (fun u=>Md u [ve A4 (n+1) c4] (O.qs++[⟨lab,el,sp⟩]))):=zH (fun u a=>VB.out u (IC (Fy (yc Kp.out) fun _ h=>h) (Fy a fun _ h=>.inl h)) (fun b h1 h2=>(a.block b (.inr h1) (We h2 HS5.out)).trans (HH5.out b h1)))
 clear VB HH5 Kp;simp only [Ha,Ja,Ia] at kx;have sr:=kx.cell;have Wr:=kx.lt;have Xr:w.1.size≠w.1.size+1:=by omega
 refine Pd (Ji (w.1.size+1)) [3] [0,1,2,3] zK zK ?_;refine oe (de (w.1.size+1)) ?_;intro Wc Ga ja;have Yg:=zH (show Blk Wc _ _ _ by rw [Ga.out];exact kr.drew)
 have Jf:=zH (show vz w.1.size w Wc by rw [Ga.out];exact da.drew)
 have Zq:=Yg.out.cell;have Er:=Yg.out.frozen;replace Tz:=zH (sb Tz.out (show Yd _ _ Wc by rw [Ga.out];exact Ln))
 clear Ga;refine Hk ?_;refine ke (de (w.1.size+1)) rfl rfl rfl ?_;go_simp;refine ⟨Ez [.bool false,vd vo O.st,vd vq O.dr,ve A4 (n+1) c4,ve vB 0 0,ve vB 0 0] 0 _,?_⟩
 refine zPU ?_
 refine Vc ?_;have kf:=Jg [.bool false,vd vo O.st,vd vq O.dr,ve A4 (n+1) c4,ve vB 0 0,ve vB 0 0] Yg.out rfl;have Oc:=aj (xs:=[.bool false,vd vo O.st,vd vq O.dr,ve A4 (n+1) c4,ve vB 0 0,ve vB 0 0]) (g:=w.1.size+1) Jf.out zO;have qj:∀ K:Nat -> Prop,¬K (w.1.size+1) -> Yd K Wc (Pc Wc (w.1.size+1) [.bool false,vd vo O.st,vd vq O.dr,ve A4 (n+1) c4,ve vB 0 0,ve vB 0 0] 0):=fun K h=>Pj h _ _
 simp only [Pc,Re,Nat.reduceAdd] at kf Oc qj;generalize vE (vE (vE (vE (vE (vE (Wc) _ _) _ _) _ _) _ _) _ _) _ _=wf at kf Oc qj |-;have cf:=kf.cell;clear sr Wr Xr Zq Er ja;go_wp2;have Xs:=sb Tz.out (qj _ (fun h=>h.elim (fun h=>by have:=h.2;omega) (fun h=>by have:=LR.out;omega)))
 exact Uc (by simp [results,results165,go_sem,cf]) rfl ⟨A4,n+1,c4,rfl,Vn Xs (fun b h=>h.elim (fun h=>.inl h.1) fun h=>.inr (zQ LX.out)),Oc⟩
theorem YR {K:Nat -> Prop} (O:Jb) (jl:Zx O) (A B:Option vx) (n c m d lab:Nat) (el:List Nat) (w:vu) (hq:Hd K w fun u=>Md u [ve A n c] O.qs) (hl:RWd w [ve B m d] el) (mi:lab<18446744073709551616) (db:0<el.length) (bg:O.st<18446744073709551616) (hO:Nf O 1000000) (hm:el.length <= 1000000) :
  vA prog 165 #[vf (Bf O (ve A n c)),vd vo lab,ve B m d] w fun e w'=>∃ A' n' c',e=vn (.tuple #[vd vo (Ae O lab el:Int),vf (Bf (Qd O lab el) (ve A' n' c'))]) /\ Hd (fun b=>K b \/ w.1.size <= b) w' (fun u=>Md u [ve A' n' c'] (Qd O lab el).qs) /\ vz w.1.size w w':=by
 cases hi:O.ideal
 ·exact zDQ O jl hi A B n c m d lab el w hq hl mi db hO.1 hm
 ·exact zDP O hi A B n c m d lab el w hq hl mi bg (zQ hO.2) hO.1 hm
theorem yQ {w w3:vu} {g gr:Nat} {O:Jb} {F F':Nat -> Prop} {t:vy} {c0 c1 x y:vw} (m:Moved F F' w w3) (hg:w.1.size <= gr) (h:OrcAt w3 g O F') (hn:¬F' gr) (k:Blk w3 gr t #[c0,c1]) :
  OrcAt ((w3.setCell ⟨gr,0,vB⟩ x).setCell ⟨gr,1,vB⟩ y) g O F' /\ Moved F F' w ((w3.setCell ⟨gr,0,vB⟩ x).setCell ⟨gr,1,vB⟩ y) /\ Blk ((w3.setCell ⟨gr,0,vB⟩ x).setCell ⟨gr,1,vB⟩ y) gr t #[x,y] :=
 ⟨(h.set hn x).set hn y,Tk (Tk m hg 0 x) hg 1 y,by have:=eH k 0 1 x y;simpa using this⟩
theorem aT (w:vu) (x y:Nat):(w.alloc (.cells #[vd vo x,vd vo y] 22)).ownsRow w.1.size 22 1 (ve (vD ⟨w.1.size,0,vB⟩) 2 2) 2 (Qa [x,y]) :=
 ⟨rfl, .inr ⟨w.1.size,2,_,rfl,zR,heap_alloc_new w _,zR,by simp [maxLen],rfl,rfl⟩⟩
theorem zH7 (label:Nat) (w:vu) :
  vA prog 134 #[vd vo label] w fun e w'=>e=vn (vf #[vd vo label,vd vo 0]) /\ vz w.1.size w w':=by
 obtain ⟨k2,Fa⟩:=zN w 129 #[vd vo label,vd vo 0];have c0:=k2.cell 0;have c1:=k2.cell 1;go_enter func134,ntmps134
 go_wp2_with fail
 generalize w.alloc _=w1 at k2 Fa c0 c1 |-;exact Uc (v:=vf #[vd vo label,vd vo 0]) (by simp [results,results134,go_sem,c0,c1]) rfl ⟨rfl,Fa⟩
theorem qY {w:vu} {g:Nat} {O:Jb} {F K:Nat -> Prop} (h:OrcAt w g O F) (st ct tag:Nat) (A:Option vx) (n c:Nat) (l:List Nat) (hl:Lj K w (ve A n c) l) (hlen:l.length <= 100000) (bg:st<18446744073709551616) (mL:tag<18446744073709551616) (hO:Nf O 1000000) :
  vA prog 133 #[.pointer (vD ⟨g,0,vB⟩),vf #[vd vo st,vd vo ct],vd vo tag,ve A n c] w fun e w' =>
   e=vn (vf #[vd vo (Ae O 18 (st :: tag :: l):Int),vd vo 0]) /\ ∃ F',OrcAt w' g (Qd O 18 (st :: tag :: l)) F' /\ Moved F F' w w':=by
 obtain ⟨kx,kr,da,Db⟩:=Xf w 129 129 #[vd vo st,vd vo ct] #[vd vo 0,vd vo 0];have H:=zH h;have Na:=(Pb (Nx hl)).2.2.2.2;have dp:=(Pb (Nx hl)).2.2.2.1;have hn:=(Pb (Nx hl)).1;subst hn;have Uh:=zH (ik bg (ik mL dp));have Kg:=zH hlen;have HO:=zH hO;have oy:=zH Na;clear h hl Na dp bg mL hO;go_enter func133,ntmps133
 go_upto_region 1 with fail
 generalize (w.alloc _).alloc _=w1 at kx kr da Db |-;have ki:=kx.cell;have oa:=aT w1 st tag;have ma:=zA w1 (.cells #[vd vo st,vd vo tag] 22);have Tj:=(oy.out.below da).below ma;have UH:w.1.size+1<w1.1.size:=kr.lt;clear Db;go_wp2_with (at_builtin;refine Wd rfl _ _ rfl Qt rfl oa rfl Tj (De _) zO zS ?_)
 intro v' w2 je Ma Cb;have Fa:vz w1.1.size w1 w2:=ma.trans (ie oa Ma zS);have Zy:=XP (l:=st :: tag :: l) (Qi (c:=st :: tag :: l) je rfl) Uh.out;have Pv:=pa kx Fa;have Rf:=pa kr Fa;have Ra:=ta da Fa;have H2:=zH (H.out.below Ra);have NG:=zH (show ∀ b,v'.ownBlock=vD b -> ¬F b from fun b hb hf=>by
  have:=H.out.lt b hf;have:=(je.lt b hb).1;omega)
 have Gf:∃ A' c',v'=ve A' (2+l.length) c':=by obtain ⟨A',c',e,-⟩:=Yb je;exact ⟨A',c',e⟩
 obtain ⟨Av,cv,rfl⟩:=Gf;have xM:=zH (ZR H2.out 18 (st :: tag :: l) Av (2+l.length) cv Zy NG.out zD zT (.inl zS) HO.out.1 HO.out.2);have M2:=zH (Af (F:=F) Ra);have Tv:¬F (w.1.size+1):=fun e=>by have:=H.out.lt _ e;omega
 clear je Ma Cb oa ma Tj Fa Pv Zy Ra da kx ki kr;go_wp2_with fail
 refine xM.out.mono ?_;rintro _ w3 ⟨rfl,F',h3,m3⟩;have zj:=Rf.moved m3 Tv;have Uk:=Yl m3 Rf.lt Tv;have mu:=yQ (x:=vd vo (Ae O 18 (st :: tag :: l):Int)) (y:=vd vo 0) (gr:=w.1.size+1) (M2.out.trans m3) zO h3 Uk zj;have OH:=zj.frozen;have sj:=zj.cell;clear h3 m3 Rf;go_wp2_with fail
 obtain ⟨s1,s2,s3⟩:=mu;generalize (w3.setCell _ _).setCell _ _=w4 at s1 s2 s3 |-;have c0:=s3.cell 0;have c1:=s3.cell 1;exact Uc (v:=vf #[vd vo (Ae O 18 (st :: tag :: l):Int),vd vo 0]) (by simp [results,results133,go_sem,c0,c1]) rfl ⟨rfl,F',s1,s2⟩
theorem zA0 {w:vu} {g:Nat} {O:Jb} {F:Nat -> Prop} (h:OrcAt w g O F) (st ct p:Nat) (hp:0<p) (hp64:p<18446744073709551616) (bg:st<18446744073709551616) (gB:ct<1000000000) (hO:Nf O 1000000) :
  vA prog 140 #[.pointer (vD ⟨g,0,vB⟩),vf #[vd vo st,vd vo ct],vd vo p] w fun e w' =>
   e=vn (.tuple #[vd vo ((Ae O 19 [st,ct]%p:Nat):Int),vf #[vd vo st,vd vo ((ct+1:Nat):Int)]]) /\ ∃ F',OrcAt w' g (Qd O 19 [st,ct]) F' /\ Moved F F' w w':=by
 obtain ⟨kx,kr,da,Db⟩:=Xf w 129 129 #[vd vo st,vd vo ct] #[vd vo 0,vd vo 0];have H:=zH h;have Uh:=zH (show ∀ x∈[st,ct],x<18446744073709551616 from ik bg (ik zO fun _ h=>nomatch h))
 have HO:=zH hO;have d0:((p:Int) == 0)=false:=by rw [Ke];omega
 have HP64:=zH hp64;have HP:=zH hp;obtain ⟨c1,kd⟩:=zEX (ct+1);have ec:vo.wrap ((ct:Int)+1)=(c1:Int):=by rw [mh];omega
 rw [<- kd];obtain ⟨av,hav⟩:=zEX (Ae O 19 [st,ct]);rw [<- hav];obtain ⟨rv,hrv⟩:=zEX (av%p);have er:(av:Int).tmod (p:Int)=rv:=by rw [Int.tmod_eq_emod_of_nonneg zO,hrv];exact (Int.natCast_emod av p).symm
 rw [<- hrv];have HAV:=zH hav;have jI:(p:Int)≠0:=by omega
 have hpn:¬(p=0):=by omega
 clear h bg gB hO kd hav hrv hp64;go_enter func140,ntmps140
 go_upto_region 3 with fail
 generalize (w.alloc _).alloc _=w1 at kx kr da Db |-;have ki:=kx.cell;obtain ⟨kp,ma⟩:=zN w1 22 #[vd vo st,vd vo ct];have UH:w.1.size+1<w1.1.size:=kr.lt;have nFp:¬F w1.1.size:=fun e=>by have:=H.out.lt _ e;omega
 clear Db;have Pv:=pa kx ma;have Rf:=pa kr ma;have Ra:=ta da ma;have H2:=zH (H.out.below Ra);have xM:=zH (ZR H2.out 19 [st,ct] (vD ⟨w1.1.size,0,vB⟩) 2 2 (UP (l:=[st,ct]) kp rfl Uh.out (by simp [maxLen])) (fun b hb=>by subst hb;exact nFp) zD zS (.inl zS) HO.out.1 HO.out.2)
 rw [<- HAV.out] at xM;have M2:=zH (Af (F:=F) Ra);have nFx:¬F w.1.size:=fun e=>by have:=H.out.lt _ e;omega
 have Tv:¬F (w.1.size+1):=fun e=>by have:=H.out.lt _ e;omega
 have KX2:=zH Pv;have Kc:=zH Rf;clear ma kp Pv Rf Ra da kx kr;go_wp2_with fail
 generalize w1.alloc _=w2 at H2 xM M2 KX2 Kc |-;refine xM.out.mono ?_;rintro _ w3 ⟨rfl,F',h3,m3⟩;have DL:=KX2.out.moved m3 nFx;have zj:=Kc.out.moved m3 Tv;have Uk:=Yl m3 Kc.out.lt Tv;have MM:=zH (M2.out.trans m3);have H3:=zH h3;clear h3 m3 xM ki;have ki:=DL.cell;have lx:=DL.lt;have nxr:w.1.size≠w.1.size+1:=by omega
 go_wp2_with fail
 obtain ⟨gr,Ta⟩:=zEX (w.1.size+1);rw [<- Ta] at zj Uk nxr |-;have Vz:=zH Ta;clear Ta;refine Pd (Ji gr) [10] [0,1,2,3,4,5,6,7,8,9,10] zK zK ?_;refine oe (de gr) ?_;intro Wc Ga ja;have k3:Blk Wc gr 129 #[vd vo 0,vd vo 0]:=by rw [Ga.out];exact zj.drew
 have h4:=yQ (x:=vd vo st) (y:=vd vo c1) (show Moved F F' w Wc by rw [Ga.out];exact SF MM.out) (by rw [Vz.out];omega) (show OrcAt Wc g (Qd O 19 [st,ct]) F' by rw [Ga.out];exact H3.out.drew) Uk k3
 have OH:=k3.frozen;have sj:=k3.cell;clear Ga;refine Hk ?_;refine ke (de gr) rfl rfl rfl ?_;go_simp;refine ⟨WR Wc gr 0 1 (vd vo st) (vd vo c1),?_⟩;obtain ⟨s1,s2,s3⟩:=h4
 refine zPU ?_
 generalize (Wc.setCell _ _).setCell _ _=w5 at s1 s2 s3 |-;refine Vc ?_;have c0:=s3.cell 0;have c2:=s3.cell 1;go_wp2;exact Uc (v:=.tuple #[vd vo rv,vf #[vd vo st,vd vo c1]]) (by simp [results,results140,go_sem,c0,c2]) rfl ⟨rfl,F',s1,s2⟩
def El (s:Tr) (v:vw):Array vw:=#[.bool s.O.ideal,vd vo s.O.st,vd vq s.O.dr,v,ve vB 0 0,ve vB 0 0,vd vo s.st,vd vo s.ct]
theorem cZ {K:Nat -> Prop} (s:Tr) (jl:Zx s.O) (A B:Option vx) (n c m d tag:Nat) (l:List Nat) (w:vu) (hq:Hd K w fun u=>Md u [ve A n c] s.O.qs) (hl:RWd w [ve B m d] l) (AH:s.O.st<18446744073709551616) (bg:s.st<18446744073709551616) (mL:tag<18446744073709551616) (hO:Nf s.O 1000000) (hm:l.length <= 100000) :
  vA prog 161 #[vf (El s (ve A n c)),vd vo tag,ve B m d] w fun e w'=>∃ A' n' c',e=vn (vf (El (Zh s tag l) (ve A' n' c'))) /\ Hd (fun b=>K b \/ w.1.size <= b) w' (fun u=>Md u [ve A' n' c'] (Zh s tag l).O.qs) /\ vz w.1.size w w':=by
 obtain ⟨kx,kr,da,Db⟩:=Xf w 153 153 (El s (ve A n c)) #[.bool false,vd vo 0,vd vq 0,ve vB 0 0,ve vB 0 0,ve vB 0 0,vd vo 0,vd vo 0];obtain ⟨mf,jn,bz,Mh,Pe⟩:=Pb hl;have Xz:=zH (fun A1 n1 c1 w1 (hb:vz w.1.size w w1) (h1:RWd w1 [ve A1 n1 c1] (s.st :: tag :: l))=>YR (K:=fun b=>K b /\ b<w.1.size) s.O jl A A1 n c n1 c1 18 (s.st :: tag :: l) w1 (sb (wk hq) (yc hb)) h1 zD zS AH hO zT)
 have Uh:=zH (ik bg (ik mL Mh));have Vf:=zH Pe;obtain ⟨O',Vt⟩:∃ O',O'=Qd s.O 18 (s.st :: tag :: l):=⟨_,rfl⟩;obtain ⟨v,hv⟩:=zEX (Ae s.O 18 (s.st :: tag :: l));have habs:Zh s tag l=⟨O',v,0⟩:=by unfold Zh;rw [Vt,hv]
 rw [habs];rw [<- Vt,<- hv] at Xz;have ff:m <= 100000:=by omega
 clear hq hl AH bg mL hO hm mf jn bz Mh Pe Vt hv habs jl;obtain ⟨⟨ideal,ost,odr,oqs⟩,st,ct⟩:=s;unfold El Bf at *;simp only at kx kr da Xz Uh |-;go_enter func161,ntmps161
 go_upto_region 1 with fail
 generalize (w.alloc _).alloc _=w1 at kx kr da |-;obtain ⟨NQ,Dd⟩:=zEX (w1.1.size);have cx:=kx.cell;have lx:w.1.size<NQ:=by rw [Dd];exact kx.lt
 have lr:w.1.size+1<NQ:=by rw [Dd];exact kr.lt
 have nx:¬Fc w.1.size:=id;have KR:=zH kr;have HB:=zH da;have se:=zH Dd;clear kx kr da Dd;refine fw (Fc) (Fc) (NQ) [5,7,8,14] [0,1,2,3,4,6,5,7,8,9,10,11] [(12,65,#[.bool false,vd vo 0,vd vq 0,ve vB 0 0,ve vB 0 0,ve vB 0 0])] [13,14] zK (Mw.2 ⟨⟨_,rfl,rfl,fun a w=>by go_simp <;> rfl⟩,Ht _⟩) zK ?_
 refine jw ?_;intro Wc Ga ja;have La:Hid (Ui Fc NQ Fc Wc):=zH (by rw [Ga.out,se.out];exact ⟨zR,fun _ h=>h.elim,fun _ _ h=>h⟩)
 have oc:=zH (show vz w.1.size w Wc by rw [Ga.out];exact HB.out.drew)
 have Kc:=zH (show Blk Wc _ _ _ by rw [Ga.out];exact KR.out.drew)
 clear Ga HB KR;refine yi ?_;refine YN rfl rfl rfl La (fun wF Xa=>?_)
 replace oc:=zH (ta oc.out Xa);replace Kc:=zH (Kc.out.below Xa Kc.out.lt);replace ja:=zM (mc Fc NQ) ja (ze Xa La.out.size);replace La:=zH (Te La.out Xa);have ma:=zA wF (.cells #[vd vo st,vd vo tag] 22);have oa:=aT wF st tag;refine ⟨ve (vD ⟨wF.1.size,0,vB⟩) 2 2,wF.alloc (.cells #[vd vo st,vd vo tag] 22),Yf Fc wF (wF.alloc (.cells #[vd vo st,vd vo tag] 22)),by go_simp <;> rfl,Rh ma,zm La.out ma,?_⟩
 have Rs:=La.out.size;replace oc:=zH (ta oc.out ma);replace Kc:=zH (Kc.out.below ma Kc.out.lt);replace ja:=zM (mc Fc NQ) ja (jk La.out (Rh ma));replace La:=zH (Kl La.out (Rh ma) (zm La.out ma))
 refine zPU ?_
 generalize wF.alloc _=wP at ma oa oc Kc ja La |-;have rk:∀ b,Yf Fc wF wP b -> NQ <= b:=fun b hb=>hb.elim (fun e=>e.elim) fun e=>jb Rs e.1
 have Hr:∀ b,(ve (vD ⟨wF.1.size,0,vB⟩) 2 2).ownBlock=vD b -> Yf Fc wF wP b:=fun b hb=>.inr (oa.lt b hb)
 have Ok:=ma.size;have fD:=Rs;generalize Yf Fc wF wP=V1 at La rk Hr |-;generalize wF.1.size=gA at oa Hr Ok fD |-;have Na:=Vf.out.below oc.out;clear ma Rs Xa;refine OQ rfl rfl rfl _ _ rfl (Qt) rfl rfl La (oa) (Na) (De _) zO (by first | exact zR | omega) (Hr) (fun wF v' w' Xa Ua ff Qk=>?_)
 replace oc:=zH (ta oc.out Xa);replace Kc:=zH (Kc.out.below Xa Kc.out.lt);replace ja:=zM (mc Fc NQ) ja (ze Xa La.out.size);replace La:=zH (Te La.out Xa);replace ja:=zM (mc Fc NQ) ja (jk La.out ff);replace La:=zH (Kl La.out ff Qk)
 refine zPU ?_
 have He:=zH (PM oc.out ff fun b hb=>by have:=rk b hb;omega)
 have Yj:=zH (Kc.out.moved ff fun e=>by have:=rk _ e;omega)
 have Gf:∃ A' c',v'=ve A' (2+m) c':=by obtain ⟨A',c',e,-⟩:=Yb Ua;exact ⟨A',c',e⟩
 obtain ⟨Av,cv,rfl⟩:=Gf;have hw:=zH (Sf (Qi (c:=st :: tag :: l) Ua rfl) Uh.out);obtain ⟨V2,ax⟩:∃ V2:Nat -> Prop,V2=fun b=>V1 b \/ (ve Av (2+m) cv).ownBlock=vD b:=⟨_,rfl⟩
 rw [<- ax] at La ff |-;have hV2j:∀ b,V2 b -> w.1.size+2 <= b:=fun b hb=>by
  rw [ax] at hb;exact hb.elim (fun e=>by have:=rk b e;omega) fun e=>by have:=(Ua.lt b e).1;omega
 clear ax;clear oa Na Ua Hr Ok oc Kc ff Qk Xa;refine yi ?_;refine Nz (f:=?_) (vals:=?_) rfl rfl rfl La ?_ (fun wF Xa=>?_)
 rotate_left 3
 replace He:=zH (ta He.out Xa);replace Yj:=zH (Yj.out.below Xa Yj.out.lt);replace hw:=zH (Wa Xa hw.out);replace ja:=zM (mc Fc NQ) ja (ze Xa La.out.size);replace La:=zH (Te La.out Xa);refine (Xz.out Av (2+m) cv wF He.out hw.out).mono ?_
 rotate_left
 ·intro w_;go_simp <;> rfl
 rintro e wC ⟨A2,n2,c2,rfl,uk,Ca⟩;clear Xa;refine ⟨_,Yf V2 wF wC,rfl,Rh Ca,zm La.out Ca,?_⟩;replace ja:=zM (mc Fc NQ) ja (jk La.out (Rh Ca));replace La:=zH (Kl La.out (Rh Ca) (zm La.out Ca));refine zPU ?_;obtain ⟨KK,Zw⟩:∃ KK:Nat -> Prop,KK=fun b=>((K b /\ b<w.1.size) \/ wF.1.size <= b) /\ b<wC.1.size:=⟨_,rfl⟩
 have LH:=wk uk;rw [<- Zw] at LH;have yn:=zH LH;have Fo:=zH (show w.1.size+2 <= wF.1.size from by have:=He.out.size;have:=Yj.out.lt;omega)
 have Oy:∀ b,KK b -> b<w.1.size \/ Yf V2 wF wC b:=fun b hb=>by
  rw [Zw] at hb;exact hb.1.elim (fun e=>.inl e.2) fun e=>.inr (.inr ⟨e,hb.2⟩)
 have Qm:=zH (show ∀ b,KK b -> K b \/ w.1.size <= b from fun b hb=>by
  rw [Zw] at hb;exact hb.1.elim (fun e=>.inl e.1) fun e=>.inr (jb He.out.size e))
 have Jh:=zH (ta He.out Ca);have Ii:=zH (Yj.out.below Ca Yj.out.lt);have bD:∀ b,Yf V2 wF wC b -> w.1.size+2 <= b:=fun b hb=>hb.elim (fun e=>hV2j b e) fun e=>by have:=Fo.out;omega
 generalize Yf V2 wF wC=V3 at La Oy bD |-;clear uk Ca He Yj Zw LH;refine yi ?_;refine iw [(vD 8,12)] rfl La (fun Ym wE Wb Ng=>?_)
 have sV:=Ng.blk _ (.head _) rfl;clear Ng;unfold Jm Zl;simp only [List.foldl];dsimp only at sV
 generalize Ym 12=g12 at sV  |-;obtain ⟨k12,hg12,hv12⟩:=sV;replace Jh:=zH (ta Jh.out Wb);replace Ii:=zH (Ii.out.below Wb Ii.out.lt);replace yn:=zH (sb yn.out (yc Wb));replace ja:=zM (mc Fc NQ) ja (ze Wb La.out.size);replace La:=zH (Te La.out Wb)
 refine zPU ?_
 have nK:¬KK g12:=fun e=>(Oy _ e).elim (fun h=>zO) hv12
 have c12:=k12.cell;have f12:=k12.frozen;have K12:=zH k12;clear Wb k12;refine Ip ?_;refine ke (mc Fc NQ) rfl rfl rfl ?_;go_simp;refine ⟨ze (LD hg12 [.bool O'.ideal,vd vo O'.st,vd vq O'.dr,ve A2 n2 c2,ve vB 0 0,ve vB 0 0] 0 _) zR,?_⟩
 refine zPU ?_
 refine Vc ?_;have k5:=Jg [.bool O'.ideal,vd vo O'.st,vd vq O'.dr,ve A2 n2 c2,ve vB 0 0,ve vB 0 0] K12.out rfl;have Bb:=aj (xs:=[.bool O'.ideal,vd vo O'.st,vd vq O'.dr,ve A2 n2 c2,ve vB 0 0,ve vB 0 0]) (g:=g12) Jh.out zO;have Xy:=sb yn.out (Pj nK [.bool O'.ideal,vd vo O'.st,vd vq O'.dr,ve A2 n2 c2,ve vB 0 0,ve vB 0 0] wE);have yI:=(If (g:=g12) (b:=w.1.size+1) zO [.bool O'.ideal,vd vo O'.st,vd vq O'.dr,ve A2 n2 c2,ve vB 0 0,ve vB 0 0] 0 wE).trans Ii.out;simp only [Pc,Re,Nat.reduceAdd] at k5 Bb Xy yI;generalize vE (vE (vE (vE (vE (vE wE _ _) _ _) _ _) _ _) _ _) _ _=w5 at k5 Bb Xy yI |-;have AL:Blk w5 (w.1.size+1) _ _:=yI;have c5:=k5.cell;have cr:=AL.cell;have fr:=AL.frozen;have Tz:=zH Xy;have nK2:¬KK (w.1.size+1):=fun e=>(Oy _ e).elim (fun h=>zO) (fun h=>by have:=bD _ h;omega)
 clear c12 f12 ja Xy;go_wp2;have kf:=Jg [.bool O'.ideal,vd vo O'.st,vd vq O'.dr,ve A2 n2 c2,ve vB 0 0,ve vB 0 0,vd vo v,vd vo 0] AL rfl;have Oc:=aj (xs:=[.bool O'.ideal,vd vo O'.st,vd vq O'.dr,ve A2 n2 c2,ve vB 0 0,ve vB 0 0,vd vo v,vd vo 0]) (g:=w.1.size+1) Bb (Nat.le_succ _);have Ir:=sb Tz.out (Pj nK2 [.bool O'.ideal,vd vo O'.st,vd vq O'.dr,ve A2 n2 c2,ve vB 0 0,ve vB 0 0,vd vo v,vd vo 0] w5);simp only [Pc,Re,Nat.reduceAdd] at kf Oc Ir;generalize vE (vE (vE (vE (vE (vE (vE (vE w5 _ _) _ _) _ _) _ _) _ _) _ _) _ _) _ _=wf at kf Oc Ir |-;have cf:=kf.cell;clear c5 cr fr;exact Uc (by simp [results,results161,go_sem,cf]) rfl ⟨A2,n2,c2,rfl,Vn Ir Qm.out,Oc⟩
theorem zCj {K:Nat -> Prop} (s:Tr) (jl:Zx s.O) (A:Option vx) (n c:Nat) (w:vu) (hq:Hd K w fun u=>Md u [ve A n c] s.O.qs) (AH:s.O.st<18446744073709551616) (bg:s.st<18446744073709551616) (gB:s.ct<1000000) (hO:Nf s.O 1000000) :
  vA prog 168 #[vf (El s (ve A n c))] w fun e w'=>∃ A' n' c',e=vn (.tuple #[vd vo (Ps s:Int),vf (El (Xp s) (ve A' n' c'))]) /\ Hd (fun b=>K b \/ w.1.size <= b) w' (fun u=>Md u [ve A' n' c'] (Xp s).O.qs) /\ vz w.1.size w w':=by
 obtain ⟨kx,kr,da,Db⟩:=Xf w 153 153 (El s (ve A n c)) #[.bool false,vd vo 0,vd vq 0,ve vB 0 0,ve vB 0 0,ve vB 0 0,vd vo 0,vd vo 0];have Xz:=zH (fun A1 n1 c1 w1 (hb:vz w.1.size w w1) (h1:RWd w1 [ve A1 n1 c1] [s.st,s.ct])=>YR (K:=fun b=>K b /\ b<w.1.size) s.O jl A A1 n c n1 c1 19 [s.st,s.ct] w1 (sb (wk hq) (yc hb)) h1 zD zS AH hO zS)
 have Uh:=zH (show ∀ x∈[s.st,s.ct],x<18446744073709551616 from ik bg (ik zO (fun _ h=>nomatch h)))
 obtain ⟨O',Vt⟩:∃ O',O'=Qd s.O 19 [s.st,s.ct]:=⟨_,rfl⟩;obtain ⟨v,hv⟩:=zEX (Ps s);have Gf:Ae s.O 19 [s.st,s.ct]=v:=hv.symm;have Fv:Xp s=⟨O',s.st,s.ct+1⟩:=by unfold Xp;rw [Vt]
 rw [Fv,<- hv];rw [<- Vt,Gf] at Xz;obtain ⟨ct1,hct1⟩:=zEX (s.ct+1);rw [<- hct1];have e1:vo.wrap ((s.ct:Int)+1)=(ct1:Int):=by rw [mh];omega
 clear hq AH bg gB hO Vt hv Gf Fv jl Db hct1;obtain ⟨⟨ideal,ost,odr,oqs⟩,st,ct⟩:=s;unfold El Bf at *;simp only at kx kr da Xz Uh e1 |-;go_enter func168,ntmps168
 go_upto_region 1 with fail
 generalize (w.alloc _).alloc _=w1 at kx kr da |-;have cx:=kx.cell;have lx:=kx.lt;have ma:=zA w1 (.cells #[vd vo st,vd vo ct] 22);have hw:=Sf (aT w1 st ct) Uh.out;have HC:=zH (Xz.out (vD ⟨w1.1.size,0,vB⟩) 2 2 _ (ta da ma) hw);have Fj:=zH ma;clear hw ma Xz;go_wp2_with fail
 refine HC.out.mono ?_;rintro e w2 ⟨A2,n2,c2,rfl,uk,Fa⟩;have Ty:=ta Fj.out Fa;have LR2:=zH kr.lt;have LW:=zH Fj.out.size;replace kx:=kx.below Ty kx.lt;replace kr:=kr.below Ty kr.lt;replace da:=ta da Ty;have kh:=zH uk;obtain ⟨kt,nm⟩:=zN w2 65 #[.bool O'.ideal,vd vo O'.st,vd vq O'.dr,ve A2 n2 c2,ve vB 0 0,ve vB 0 0];have Mp:=zH (sb kh.out (yc nm));have lr2:=kr.lt;have ne3:w2.1.size≠w.1.size+1:=by omega
 replace kx:=pa kx nm;replace kr:=pa kr nm;replace da:=ta da nm;have LB:=zH Ty.size;clear Fa uk Ty kh HC Fj cx lx;go_upto_region 2 with fail
 generalize w2.alloc _=w3 at kt kx kr da Mp nm |-;have ct2:=kt.cell;have lt2:=kt.lt;clear nm;have sr:=kx.cell;have Wr:=kx.lt;have Xr:w.1.size≠w.1.size+1:=by omega
 refine Pd (Ji (w.1.size+1)) [9] [0,1,2,3,4,5,6,7,8,9] zK zK ?_;refine oe (de (w.1.size+1)) ?_;intro Wc Ga ja;have Yg:=zH (show Blk Wc _ _ _ by rw [Ga.out];exact kr.drew)
 have Jf:=zH (show vz w.1.size w Wc by rw [Ga.out];exact da.drew)
 have Zq:=Yg.out.cell;have Er:=Yg.out.frozen;replace Mp:=zH (sb Mp.out (show Yd _ _ Wc by rw [Ga.out];exact Ln))
 clear Ga;refine Hk ?_;refine ke (de (w.1.size+1)) rfl rfl rfl ?_;go_simp;refine ⟨Ez [.bool O'.ideal,vd vo O'.st,vd vq O'.dr,ve A2 n2 c2,ve vB 0 0,ve vB 0 0,vd vo st,vd vo ct1] 0 _,?_⟩
 refine zPU ?_
 refine Vc ?_;have kf:=Jg [.bool O'.ideal,vd vo O'.st,vd vq O'.dr,ve A2 n2 c2,ve vB 0 0,ve vB 0 0,vd vo st,vd vo ct1] Yg.out rfl;have Oc:=aj (xs:=[.bool O'.ideal,vd vo O'.st,vd vq O'.dr,ve A2 n2 c2,ve vB 0 0,ve vB 0 0,vd vo st,vd vo ct1]) (g:=w.1.size+1) Jf.out zO;have qj:∀ K:Nat -> Prop,¬K (w.1.size+1) -> Yd K Wc (Pc Wc (w.1.size+1) [.bool O'.ideal,vd vo O'.st,vd vq O'.dr,ve A2 n2 c2,ve vB 0 0,ve vB 0 0,vd vo st,vd vo ct1] 0):=fun K h=>Pj h _ _
 simp only [Pc,Re,Nat.reduceAdd] at kf Oc qj;generalize vE (vE (vE (vE (vE (vE (vE (vE (Wc) _ _) _ _) _ _) _ _) _ _) _ _) _ _) _ _=wf at kf Oc qj |-;have cf:=kf.cell;clear sr Wr Xr Zq Er ja;go_wp2;have Xs:=sb Mp.out (qj _ (fun h=>h.elim (fun h=>by have:=h.2;omega) (fun h=>by have:=LR2.out;have:=LW.out;omega)))
 exact Uc (by simp [results,results168,go_sem,cf]) rfl ⟨A2,n2,c2,rfl,Vn Xs (fun b h=>h.elim (fun h=>.inl h.1) fun h=>.inr (by have:=LR2.out;have:=LW.out;omega)),Oc⟩
section
open Go.Shelf
def ren189:Go.Shelf.Ren:=⟨fun | 125=>267 | 128=>297 | 129=>298 | 189=>232 | 215=>322 | 216=>309 | 257=>282 | 294=>303 | 295=>304 | 296=>305 | 297=>306 | 298=>307 | 299=>308 | 300=>310 | 301=>311 | 328=>317 | 329=>318 | 330=>319 | 331=>320 | 332=>321 | 343=>323 | n=>n,fun | 0=>0 | 3=>3 | 4=>4 | 5=>5 | 9=>9 | 28=>80 | 46=>338 | 51=>107 | 53=>22 | 131=>185 | 182=>365 | 183=>366 | 218=>372 | 222=>375 | 228=>377 | 229=>378 | n=>n,fun n=>n⟩
theorem zEx:Go.Proofs.Lays.n189 prog ren189:={ mixed:=by kernel_rfl,f125:=by kernel_rfl,f128:=by kernel_rfl,f129:=by kernel_rfl,f189:=by kernel_rfl,f215:=by kernel_rfl,f216:=by kernel_rfl,f257:=by kernel_rfl,f294:=by kernel_rfl,f295:=by kernel_rfl,f296:=by kernel_rfl,f297:=by kernel_rfl,f298:=by kernel_rfl,f299:=by kernel_rfl,f300:=by kernel_rfl,f301:=by kernel_rfl,f328:=by kernel_rfl,f329:=by kernel_rfl,f330:=by kernel_rfl,f331:=by kernel_rfl,f332:=by kernel_rfl,f343:=by kernel_rfl,t0:=by kernel_rfl,a0:=fun _=>zK,z0:=fun _=>zK,v0:=fun _=>zK,t3:=by kernel_rfl,a3:=fun _=>zK,z3:=fun _=>zK,v3:=fun _=>zK,t4:=by kernel_rfl,a4:=fun _=>zK,z4:=fun _=>zK,v4:=fun _=>zK,t5:=by kernel_rfl,a5:=fun _=>zK,z5:=fun _=>zK,v5:=fun _=>zK,t9:=by kernel_rfl,a9:=fun _=>zK,z9:=fun _=>zK,v9:=fun _=>zK,t28:=by kernel_rfl,a28:=fun _=>zK,z28:=fun _=>zK,v28:=fun _=>zK,t46:=by kernel_rfl,a46:=fun _=>zK,z46:=fun _=>zK,v46:=fun _=>zK,t51:=by kernel_rfl,a51:=fun _=>zK,z51:=fun _=>zK,v51:=fun _=>zK,t53:=by kernel_rfl,a53:=fun _=>zK,z53:=fun _=>zK,v53:=fun _=>zK,t131:=by kernel_rfl,a131:=fun _=>zK,z131:=fun _=>zK,v131:=fun _=>zK,t182:=by kernel_rfl,a182:=fun _=>zK,z182:=fun _=>zK,v182:=fun _=>zK,t183:=by kernel_rfl,a183:=fun _=>zK,z183:=fun _=>zK,v183:=fun _=>zK,t218:=by kernel_rfl,a218:=fun _=>zK,z218:=fun _=>zK,v218:=fun _=>zK,t222:=by kernel_rfl,a222:=fun _=>zK,z222:=fun _=>zK,v222:=fun _=>zK,t228:=by kernel_rfl,a228:=fun _=>zK,z228:=fun _=>zK,v228:=fun _=>zK,t229:=by kernel_rfl,a229:=fun _=>zK,z229:=fun _=>zK,v229:=fun _=>by kernel_rfl }
end
section
open Go.Shelf
def ij (n:Nat) (f:Nat -> Nat):Array vw:=((List.range n).map fun k=>vd vq (f k:Int)).toArray
theorem WO {n k:Nat} (f:Nat -> Nat) (h:k<n):(ij n f)[k]?=vD (vd vq (f k:Int)):=by simp [ij,h]
theorem SR {n:Nat} {f g:Nat -> Nat} (h:∀ i,i<n -> f i=g i):ij n f=ij n g:=by
 unfold ij
 congr 1
 exact Nw fun i hi=>by rw [h i (Mj.1 hi)]
theorem xV {n:Nat} (f:Nat -> Nat) (k v:Nat):(ij n f).setIfInBounds k (vd vq v)=ij n (sg f k v):=by
 apply Array.ext
 ·simp [ij]
 ·intro i h1 h2
  simp [ij] at h1 h2
  rw [Array.getElem_setIfInBounds (by simpa [ij] using h1)]
  simp only [ij,sg];split
  ·subst_vars;simp
  ·rename_i db
   simp [show ¬i=k from fun e=>db e.symm]
def Sg (l:List Nat):List Int:=l.map fun n:Nat=>(n:Int)
theorem zDg {n:Nat} {l:List Nat} (h:l.length=n):ij n (fun k=>l.getD k 0)=(wg (Sg l)).toArray:=by
 subst h;unfold ij wg Sg
 congr 1
 rw [List.map_map];refine List.ext_getElem zS fun i h1 h2=>?_
 simp at h1
 simp [Hc,h1]
theorem zD5:(prog.info? 3).map (fun i=>(i.zero,i.size,i.bytes))=vD (vD (vd vq 0),1,8):=by kernel_rfl
theorem NO:Ds prog 80 3 1 8 (vd vq 0):=by
 obtain ⟨i0,hi,Hi,Vd,Pg⟩:=info_parts zD5;exact ⟨underlying80,⟨i0,hi,Hi,Vd,Pg⟩,rfl,zO⟩
theorem zEQ (n:Nat):madeCells (vd vq 0).cells (n*1)=ij n fun _=>0:=by
 apply Array.toList_inj.1
 rw [show (vd vq 0).cells=#[vd vq 0] from rfl,toList_madeCells_one]
 exact List.ext_getElem (by simp [ij]) fun i h1 h2=>by simp [ij]
theorem zEY (n:Nat) (hn:n <= 1000000) (w:vu) :
  (Instr.makeSlice 80 (vd vq n) (vd vq n)).run prog w= .ok (ve (vD ⟨w.1.size,0,vB⟩) n n) (w.alloc (.cells (ij n fun _=>0) 3)):=by
 have:=aQ (P:=prog) NO n zO zO w;rw [zEQ] at this;exact this
theorem zCl (ad:vx) (n c:Nat) (l:List Int) (w:vu) (hr:Rd w 1 (vD ad) n (wg l)) (hn:n <= 60000) :
  vA prog 231 #[ve (vD ad) n c] w fun e w'=>∃ g d,e=vn (ve (vD ⟨g,0,vB⟩) n d) /\ w.1.size <= g /\ w'.ownsRow w.1.size 3 1 (ve (vD ⟨g,0,vB⟩) n d) n (wg l) /\ vz w.1.size w w':=by
 have IP:=fun (w:vu) (a:Option vx) (n c:Nat)=>Lib.run_eql_slice_nil (P:=prog) w 80 3 a n c 0 0 underlying80
 have gl:(n:Int) <= 60000:=by omega
 have ma:=zA w (.cells #[] 3);go_enter func231,ntmps231
 go_wp2_with (at_builtin;refine Wd rfl _ _ rfl NO rfl (Zr w 3 zR) rfl (hr.alloc _) (uX l) zO zS ?_)
 intro v' wn Ua Ma Cb;have hB:=ie (Zr w 3 zR) Ma zS;have Bm:=ma.trans hB;rcases Ua.2 with ⟨rfl,h0⟩ | ⟨g,cap,cur,rfl,Cm,-⟩
 ·rcases Cb with h | h <;> simp [Value.ownBlock] at h
 ·go_wp2
  go_ret
  exact ⟨g,cap,rfl,Cm,Ua,Bm⟩
theorem zHW {w:vu} {base g n d:Nat} {l:List Int} (ho:w.ownsRow base 3 1 (ve (vD ⟨g,0,vB⟩) n d) n (wg l)) (hn:n <= 60000) :
  vA prog 232 #[ve (vD ⟨g,0,vB⟩) n d] w fun e w'=>e=vn (.tuple #[]) /\ w'.ownsRow base 3 1 (ve (vD ⟨g,0,vB⟩) n d) n (wg (l.mergeSort fun x y=>decide (x <= y))) /\ w.grownBy w' (vD g):=by
 have hlen:l.length=n:=by have:=ho.1;rw [F6] at this;omega
 subst hlen;rcases ho.2 with ⟨h0,-⟩ | ⟨g',cap,cur,hv,Cm,hh,h1,h2,h3,h4⟩
 ·cases h0
 ·injection hv with e1 e2 e3
  injection e1 with e1
  injection e1 with e1
  subst e1 e3;have hH:=holds_of_blockI hh (by rw [Ns] at h4;exact h4)
  refine (Any.slices_Sort_int zEx g 0 d l w hH (Yx.1 hh).1 zO).mono ?_;rintro e w' ⟨he,nn,os,rfl⟩;exact ⟨he,ownsRow_sortedI (List.length_mergeSort l) Cm hh h1 h2 h3,grownBy_sortedI _⟩
theorem zHX (l:List Nat):(Sg l).mergeSort (fun x y=>decide (x <= y))=Sg (l.mergeSort fun x y=>decide (x <= y)):=by
 unfold Sg;exact (List.map_mergeSort (fun a _ b _=>zS)).symm
end
theorem zH4 {n i j:Nat} {l:List Nat} (hl:l.length=n) (hi:i<n) (hj:j<n):ij n (sg (sg (fun k=>l.getD k 0) i (l.getD j 0)) j (l.getD i 0))=ij n (fun k=>(Gu l i j).getD k 0):=SR fun k hk=>by
 unfold sg Gu;simp only [Hc];rw [List.getElem?_set,List.getElem?_set];by_cases h1:k=j
 ·subst h1
  simp [hl,hk]
 ·have uv:¬j=k:=fun e=>h1 e.symm
  by_cases h2:k=i
  ·subst h2
   simp [h1,uv,hl,hk]
  ·have h2':¬i=k:=fun e=>h2 e.symm
   simp [h1,uv,h2,h2']
theorem zHk {w:vu} {g n:Nat} {t:vy} {xs:List vw} (k:Blk w g t xs.toArray) (h:xs.length=n):Rd w 1 (vD ⟨g,0,vB⟩) n xs:=by
 refine ⟨zO,fun _=>⟨_,rfl,fun j u hj=>?_⟩⟩
 have hk:=k.cell j;rw [Hn,hj] at hk;by_cases h0:j=0
 ·subst h0;exact hk
 ·simp only [Addr.add,h0,if_false];simpa using hk
theorem zCi {O:Jb} (h:qw O) (s c i:Nat):Yq O s c i<nc:=iF (yR h _ _) _ _
theorem zGm {w:vu} {g:Nat} {O:Jb} {F:Nat -> Prop} (h:OrcAt w g O F) (st ct n count:Nat) (hn:n <= 1024) (hcn:count <= n) (bg:st<18446744073709551616) (gB:ct<1000000) (hO:Nf O 900000) :
  vA prog 148 #[.pointer (vD ⟨g,0,vB⟩),vf #[vd vo st,vd vo ct],vd vq n,vd vq count] w fun e w'=>∃ gr d F',e=vn (.tuple #[ve (vD ⟨gr,0,vB⟩) count d,vf #[vd vo st,vd vo ((ct+count:Nat):Int)]]) /\
   OrcAt w' g (Nc O 19 (Wp st ct count)) F' /\ Moved F F' w w' /\ w'.ownsRow w.1.size 3 1 (ve (vD ⟨gr,0,vB⟩) count d) count (wg (Sg (GD O st ct n count))) /\ ¬F' gr:=by
 obtain ⟨kx,kr,da,Db⟩:=Xf w 129 129 #[vd vo st,vd vo ct] #[vd vo 0,vd vo 0];have H:=zH h;have HO:=zH hO;have Mf:=zH bg;have HCT:=zH gB;have d1:¬((count:Int)<0):=by omega
 have d1':decide ((count:Int)<0)=false:=Xb d1;have d2:¬((n:Int)<count):=by omega
 have d2':decide ((n:Int)<count)=false:=Xb d2;have d2n:¬(n<count):=by omega
 have d2n':decide (n<count)=false:=Xb d2n;have d3:¬((1024:Int)<n):=by omega
 have d3':decide ((1024:Int)<n)=false:=Xb d3;have d3n':decide (1024<n)=false:=Xb zO;have ah:=fun w=>zEY n zO w
 obtain ⟨zc,Rr⟩:=zEX (ij n fun _=>0)
 rw [<- Rr] at ah;have QG:=zH Rr;have nF:∀ b,w.1.size <= b -> ¬F b:=fun b hb hf=>by have:=H.out.lt b hf;omega
 clear h hO bg gB Rr Db;go_enter func148,ntmps148
 go_upto_region 3 with fail
 generalize (w.alloc _).alloc _=w1 at kx kr da |-;go_wp2_with fail
 have ma:=zA w1 (.cells zc 3);have kl:=Blk.new w1 3 zc;have lxr:w.1.size+1<w1.1.size:=kr.lt;replace kx:=pa kx ma;replace kr:=pa kr ma;replace da:=ta da ma;generalize w1.alloc _=w2 at kl kx kr da |-;generalize w1.1.size=gl at kl lxr |-;obtain ⟨gx,hgx⟩:=zEX (w.1.size);obtain ⟨gr,Ta⟩:=zEX (w.1.size+1);rw [<- Ta] at kr lxr |-;rw [<- hgx] at kx |-;have dJ:=zH hgx;have Vz:=zH Ta;have hxr:gx≠gr:=by omega
 have GF:gx≠gl:=by omega
 have Pe:gr≠gl:=by omega
 have h2:=H.out.below da;have m2:Moved F F w w2:=Af da;have HX:=zH (show w.1.size <= gx /\ w.1.size <= gr /\ w.1.size <= gl by omega)
 rw [QG.out,show ij n (fun _=>0)=ij n (fun k=>if k<0 then k else 0) from SR fun i _=>by rw [Gb zO]] at kl
 clear ma ah hgx Ta da;go_loopw [32] (fun y wr=>∃ i:Nat,i <= n /\ y=vd vq i /\ OrcAt wr g O F /\ Moved F F w wr /\ Blk wr gx 129 #[vd vo st,vd vo ct] /\ Blk wr gr 129 #[vd vo 0,vd vo 0] /\ Blk wr gl 3 (ij n fun k=>if k<i then k else 0)) (fun y _=>n-(intOf y).toNat)
 case atStart=>exact ⟨0,Qb _,rfl,h2,m2,kx,kr,kl⟩
 case round =>
  clear h2 m2 kx kr kl;obtain ⟨i,hi,rfl,h1,m1,kx,kr,kl⟩:=hrel;by_cases ya:i<n
  ·have g1:(0:Int)<=i:=by omega
   have g2:(i:Int)<n:=by omega
   have Vs:wr.cell? ⟨gl,i,vB⟩=vD (vd vq 0):=(kl.cell i).trans ((WO _ ya).trans zS);have uj:=kl.frozen;have tc:=zH ya;have H1:=zH h1;have M1:=zH m1;have KX:=zH kx;have KR:=zH kr;have KL:=zH kl;clear ya h1 m1 kx kr kl;go_wp2
   go_roundw
   case rel =>
    refine ⟨i+1,by have:=tc.out;omega,by go_num,H1.out.set (nF gl HX.out.2.2) _,Tk M1.out HX.out.2.2 _ _,KX.out.far (p:=⟨gl,i,vB⟩) GF _,KR.out.far (p:=⟨gl,i,vB⟩) Pe _,?_⟩
    have:=KL.out.set_ i (vd vq i);rw [xV] at this;rw [show ij n (fun k=>if k<i+1 then k else 0)=ij n (sg (fun k=>if k<i then k else 0) i i) from SR fun k _=>by
     unfold sg;by_cases e1:k=i
     ·subst e1;rw [Lb rfl,Lb zO]
     ·rw [Gb e1]
      by_cases e2:k<i
      ·simp [e2,show k<i+1 by omega]
      ·simp [e2,show ¬k<i+1 by omega]]
    exact this
   case measure=>have:=tc.out;simp [intOf];omega
  ·have e1:n=i:=by omega
   subst e1;clear ya hi;have Hv:ij n (fun k=>if k<n then k else 0)=ij n (fun k=>(Fe (Yq O st ct) n 0).getD k 0):=SR fun k hk=>by simp [Fe,Hc,hk]
   rw [Hv] at kl;have hO0:Nc O 19 (Wp st ct 0)=O:=rfl;have iy:=zH (fun i=>Qv (Yq O st ct) n i)
   have HCA:=zH (fun i=>zCi (O:=O) H.out.ok.ans st ct i)
   have TF:=zH (show ¬F gx /\ ¬F gr /\ ¬F gl from ⟨nF gx HX.out.1,nF gr HX.out.2.1,nF gl HX.out.2.2⟩)
   go_wp2_with fail
   go_loopw [41] (fun y wr=>∃ (i:Nat) (F1:Nat -> Prop),i <= count /\ y=vd vq i /\ OrcAt wr g (Nc O 19 (Wp st ct i)) F1 /\ Moved F F1 w wr /\ Blk wr gx 129 #[vd vo st,vd vo ((ct+i:Nat):Int)] /\ Blk wr gr 129 #[vd vo 0,vd vo 0] /\
    Blk wr gl 3 (ij n fun k=>(Fe (Yq O st ct) n i).getD k 0) /\ ¬F1 gx /\ ¬F1 gr /\ ¬F1 gl) (fun y _=>count-(intOf y).toNat)
   case atStart=>exact ⟨0,F,Qb _,rfl,h1,m1,kx,kr,kl,TF.out⟩
   case round =>
    clear h1 m1 kx kr kl;obtain ⟨i,F1,hi,rfl,h1,m1,kx,kr,kl,n1,n2,n3⟩:=hrel;by_cases ya:i<count
    ·have g1:(0:Int)<=i:=by omega
     have g2:(i:Int)<count:=by omega
     have LE1:=zH (Bl (FI (lab:=19) (Wp st ct i) HO.out) (show 900000+(Wp st ct i).length <= 1000000 by rw [I6];omega))
     have CH:=zH (zA0 h1 st (ct+i) nc zD zD Mf.out (zQ HCT.out) LE1.out);obtain ⟨cv,iB⟩:=zEX (Yq O st ct i);have hcv2:Ae (Nc O 19 (Wp st ct i)) 19 [st,ct+i]%nc=cv:=by rw [iB];exact Lk (HCA.out i)
     have rq:cv<nc:=by rw [iB];exact HCA.out i
     rw [hcv2,<- BZ] at CH;obtain ⟨c1,kd⟩:=zEX (ct+i);rw [<- kd] at CH kx;have Gj:=zH kd;have HCV:=zH iB;have HCQ:=zH rq;have ki:=kx.cell;obtain ⟨m,hm⟩:=zEX (n-i);have hm0:0<m:=by omega
     obtain ⟨r,hr⟩:=zEX (cv%m);have rp:r<m:=by rw [hr];exact Sc _ hm0
     obtain ⟨j,hj⟩:=zEX (i+r);have TK:j<n:=by omega
     have e1:vq.wrap ((n:Int)-i)=(m:Int):=by rw [Bi];omega
     have e2:vo.wrap (m:Int)=m:=by rw [mh];omega
     have e3:(cv:Int).tmod (m:Int)=r:=by rw [Int.tmod_eq_emod_of_nonneg zO,hr];exact (Int.natCast_emod cv m).symm
     have e4:vq.wrap (r:Int)=r:=by rw [Bi];omega
     have e5:vq.wrap ((i:Int)+r)=(j:Int):=by rw [Bi];omega
     have e0:¬(m=0):=by omega
     have e0':((m:Int) == 0)=false:=by rw [Ke];omega
     have lO:=zH (show Fe (Yq O st ct) n (i+1)=Gu (Fe (Yq O st ct) n i) i j by rw [Fe,<- iB,<- hm,<- hr,<- hj])
     have g3:(0:Int)<=j:=by omega
     have g4:(j:Int)<n:=by omega
     have g5:(i:Int)<n:=by omega
     have tc:=zH ya;have HJN:=zH TK;have KX:=zH kx;have KR:=zH kr;have KL:=zH kl;have M1:=zH m1;have Ed:i<n:=by omega
     have Fs:=zH Ed;clear kd iB rq hcv2 hm hr hj rp hm0 TK ya kr kl m1 h1 Ed;unfold nc at CH;go_wp2_with fail
     refine CH.out.mono ?_;rintro _ w3 ⟨rfl,F2,h3,m3⟩;have DL:=KX.out.moved m3 n1;have zj:=KR.out.moved m3 n2;have Bq:=KL.out.moved m3 n3;have xD:=Yl m3 KX.out.lt n1;have n2':=Yl m3 KR.out.lt n2;have zu:=Yl m3 KL.out.lt n3;have hs:=yQ (gr:=gx) (x:=vd vo st) (y:=vd vo ((c1+1:Nat):Int)) (M1.out.trans m3) HX.out.1 h3 xD DL;have zk:=(zj.far (p:=⟨gx,0,vB⟩) (fun e=>hxr e.symm) (vd vo st)).far (p:=⟨gx,1,vB⟩) (fun e=>hxr e.symm) (vd vo ((c1+1:Nat):Int))
     have qz:=(Bq.far (p:=⟨gx,0,vB⟩) (fun e=>GF e.symm) (vd vo st)).far (p:=⟨gx,1,vB⟩) (fun e=>GF e.symm) (vd vo ((c1+1:Nat):Int))
     have OH:=DL.frozen;have sj:=DL.cell;clear h3 m3 zj Bq CH ki;obtain ⟨c2,ef⟩:=zEX (c1+1);rw [<- ef] at hs zk qz |-;have Co:=zH ef;clear ef;go_upto_region 14 with fail
     obtain ⟨s1,s2,s3⟩:=hs;generalize (w3.setCell _ _).setCell _ _=w4 at s1 s2 s3 zk qz |-;clear OH sj DL;obtain ⟨L,hL⟩:=zEX (Fe (Yq O st ct) n i);rw [<- hL] at qz lO;have Hj:=zH (show L.length=n by rw [hL];exact iy.out i)
     have lF:w4.cell? ⟨gl,i,vB⟩=vD (vd vq ((L.getD i 0:Nat):Int)):=(qz.cell i).trans (WO _ Fs.out);have Yt:w4.cell? ⟨gl,j,vB⟩=vD (vd vq ((L.getD j 0:Nat):Int)):=(qz.cell j).trans (WO _ HJN.out);have hgl4:=qz.lt;have KG:=zH (zH4 Hj.out Fs.out HJN.out);have S1:=zH s1;have S2:=zH s2;have S3:=zH s3;have Ii:=zH zk;have AA:=zH qz;obtain ⟨xi,Ov⟩:=zEX (L.getD i 0);obtain ⟨xj,hxj⟩:=zEX (L.getD j 0);rw [<- Ov] at lF KG;rw [<- hxj] at Yt KG;clear s1 s2 s3 zk qz hL Ov hxj;go_wp2_with fail
     refine zBC (Rc) [13,15] [13] [2,3,8,9,10] [0,1,2,3,4,5,6,7,8,9,10,11,12,13,14,15] zK zK ?_;refine zBE (Da) ?_;intro Wc Ga ja;have T1:=zH (show OrcAt Wc g (Nc O 19 (Wp st ct (i+1))) F2 by rw [Ga.out];exact S1.out.drew)
     have T2:=zH (show Moved F F2 w Wc by rw [Ga.out];exact SF S2.out)
     have T3:=zH (S3.out.drew);have T4:=zH (Ii.out.drew);have T5:=zH (AA.out.drew);rw [<- Ga.out] at T3 T4 T5;clear Ga;refine ZT ?_;refine WT (Da) rfl rfl rfl ?_;have hfw:=T5.out.frozen;have YV:Wc.cell? ⟨gl,i,vB⟩=_:=(T5.out.cell i).trans (WO _ Fs.out);clear lF Yt ja;go_simp;refine ⟨fun h=>Bool.noConfusion h,?_⟩
     have k5:=T5.out.set_ i (vd vq xj);rw [xV] at k5;have o5:=T1.out.set (x:=gl) (i:=i) zu (vd vq xj);have m5:=Tk T2.out HX.out.2.2 i (vd vq xj);have x5:=T3.out.far (p:=⟨gl,i,vB⟩) GF (vd vq xj);have r5:=T4.out.far (p:=⟨gl,i,vB⟩) Pe (vd vq xj)
     refine zPU ?_
     generalize Wc.setCell _ _=w6 at k5 o5 m5 x5 r5 |-;clear hfw YV T1 T2 T3 T4 T5;have ja:=Da.refl w6;have hf6:=k5.frozen;have hc6:w6.cell? ⟨gl,j,vB⟩=_:=(k5.cell j).trans (WO _ HJN.out);refine ZT ?_;refine WT (Da) rfl rfl rfl ?_;go_simp;refine ⟨fun h=>Bool.noConfusion h,?_⟩
     have k6:=k5.set_ j (vd vq xi);rw [xV,KG.out,<- lO.out] at k6;have o6:=o5.set (x:=gl) (i:=j) zu (vd vq xi);have m6:=Tk m5 HX.out.2.2 j (vd vq xi);have x6:=x5.far (p:=⟨gl,j,vB⟩) GF (vd vq xi);have r6:=r5.far (p:=⟨gl,j,vB⟩) Pe (vd vq xi)
     refine zPU ?_
     generalize w6.setCell _ _=w7 at k6 o6 m6 x6 r6 |-;refine zBD ?_;clear k5 o5 m5 x5 r5 hf6 hc6 ja;go_wp2
     go_roundw
     case rel=>exact ⟨i+1,F2,by have:=tc.out;omega,by go_num,o6,m6,by rw [show ct+(i+1)=c2 by rw [Co.out,Gj.out];omega];exact x6,r6,k6,xD,n2',zu⟩
     case measure=>have:=tc.out;simp [intOf];omega
    ·have e1:count=i:=by omega
     subst e1;obtain ⟨cc,Vy⟩:=zEX (ct+count);rw [<- Vy] at kx;have HCC:=zH Vy;clear Vy;have wu:Blk wr gl 3 (wg (Sg (Fe (Yq O st ct) n count))).toArray:=by rw [<- zDg (iy.out count)];exact kl
     have Na:=zHk wu (show (wg (Sg (Fe (Yq O st ct) n count))).length=n by rw [F6];unfold Sg;rw [Tm];exact iy.out count)
     have Mi:=Na.take hcn;rw [Ns,show (wg (Sg (Fe (Yq O st ct) n count))).take count=wg (Sg ((Fe (Yq O st ct) n count).take count)) by simp [wg,Sg,List.map_take]] at Mi
     have hcut:∀ w,(Instr.slice 80 (ve (vD ⟨gl,0,vB⟩) n n) vB (vD (vd vq count)) vB).run prog w= .ok (ve (vD ⟨gl,0,vB⟩) count n) w:=fun w=>zAC NO _ n n count hcn
     have CL:=zH (zCl ⟨gl,0,vB⟩ count n _ wr Mi zO);have nJ:=zH (show GD O st ct n count=((Fe (Yq O st ct) n count).take count).mergeSort fun x y=>decide (x <= y) from rfl)
     have hgc:(0:Int)<=count:=by omega
     have Ag:(count:Int)<=n:=by omega
     have H1:=zH h1;have M1:=zH m1;have KX:=zH kx;have KR:=zH kr;clear kl wu Na Mi h1 m1 kx kr ya hi;go_wp2_with fail
     refine CL.out.mono ?_;rintro _ w3 ⟨g2,d,rfl,Xn,oa,Ra⟩;have SO:=zH (zHW oa zO);have hg2l:=(oa.lt g2 rfl).2;clear oa;go_wp2_with fail
     refine SO.out.mono ?_;rintro _ w4 ⟨rfl,oa,Yn⟩;have ld:gx<wr.1.size:=KX.out.lt;have xf:gr<wr.1.size:=KR.out.lt;have Ox:=(KX.out.below Ra ld).grown Yn (fun e=>by have:=Nb e;omega)
     have zk:=(KR.out.below Ra xf).grown Yn (fun e=>by have:=Nb e;omega)
     have m4:=G7 (M1.out.trans (Af (F:=F1) Ra)) Yn (fun b hb=>by rw [<- Nb hb];have:=M1.out.size;omega)
     have h4:=(H1.out.below Ra).keep Yn.size fun b hb=>Yn.block b (by have:=H1.out.lt b hb;have:=Ra.size;omega) (fun e=>by have:=Nb e;have:=H1.out.lt b hb;omega)
     have nG2:¬F1 g2:=fun e=>by have:=H1.out.lt _ e;omega
     rw [zHX,<- nJ.out] at oa;have ki:=Ox.cell;have hlx:=Ox.lt;have iC:=zH oa;have H4:=zH h4;have M4:=zH m4;have hwr:w.1.size <= wr.1.size:=M1.out.size;clear oa h4 m4 Yn Ra CL SO hcut;go_wp2_with fail
     refine Pd (Ji gr) [3] [0,1,2,3] zK zK ?_;refine oe (de gr) ?_;intro Wc Ga ja;have k5:Blk Wc gr 129 #[vd vo 0,vd vo 0]:=by rw [Ga.out];exact zk.drew
     have h5:=yQ (x:=vd vo st) (y:=vd vo cc) (show Moved F F1 w Wc by rw [Ga.out];exact SF M4.out) HX.out.2.1 (show OrcAt Wc g (Nc O 19 (Wp st ct count)) F1 by rw [Ga.out];exact H4.out.drew) n2 k5
     have GU:=zH (show Wc.ownsRow wr.1.size 3 1 (ve (vD ⟨g2,0,vB⟩) count d) count (wg (Sg (GD O st ct n count))) by rw [Ga.out];exact Ye iC.out fun _ _=>rfl)
     have hf5:=k5.frozen;have hc5:=k5.cell;clear Ga;refine Hk ?_;refine ke (de gr) rfl rfl rfl ?_;go_simp;refine ⟨WR Wc gr 0 1 (vd vo st) (vd vo cc),?_⟩;obtain ⟨s1,s2,s3⟩:=h5;have OWN6:=zH (Hg (Ye (u:=(Wc.setCell ⟨gr,0,vB⟩ (vd vo st)).setCell ⟨gr,1,vB⟩ (vd vo cc)) GU.out fun b hb=>(Mu _ ⟨gr,1,vB⟩ _ b (fun e=>by have:=(GU.out.lt b hb).1;simp at e;omega)).trans (Mu Wc ⟨gr,0,vB⟩ _ b (fun e=>by have:=(GU.out.lt b hb).1;simp at e;omega))) hwr)
     refine zPU ?_
     generalize (Wc.setCell _ _).setCell _ _=w6 at s1 s2 s3 OWN6 |-;refine Vc ?_;have c0:=s3.cell 0;have c2:=s3.cell 1;have Bt:=zH (And.intro s1 (And.intro s2 (And.intro OWN6.out nG2)));go_wp2;refine Uc (v:=.tuple #[ve (vD ⟨g2,0,vB⟩) count d,vf #[vd vo st,vd vo cc]]) (by simp [results,results148,go_sem,c0,c2]) rfl ?_
     obtain ⟨d1,d2,d3,d4⟩:=Bt.out;exact ⟨g2,d,F1,by rw [HCC.out],d1,d2,d3,d4⟩
theorem Q9 (n:Nat) (w:vu) :
  vA prog 163 #[vd vq n] w fun e w'=>e=vn (.bool (FB n)) /\ w=w':=by
 by_cases h1:1 <= n
 ·by_cases h2:n <= 1024
  ·have HN:=zH (Z7 ⟨n,zO⟩ h1)
   have ha:=oZ ⟨n,zO⟩ h1;simp only at ha;obtain ⟨a,vK⟩:=zEX (n &&& (n-1));rw [<- vK] at ha;have HA:=zH vK;have d1:decide ((1:Int)<=n)=true:=xc zO;have d2:decide ((n:Int)<=1024)=true:=xc zO;have e1:vq.wrap ((n:Int)-1)=(n:Int)-1:=by rw [Bi];omega
   have d3:((a:Int) == 0)=decide (a=0):=by by_cases h:a=0 <;> simp [h]
   obtain ⟨r,hr⟩:=zEX (FB n);have HR:=zH (show decide (a=0)=r by rw [hr,HA.out];exact HN.out.symm)
   rw [<- hr];rw [HR.out] at d3;clear hr HN vK h1 h2;go_enter func163,ntmps163
   go_wp2_with fail
   go_ret
   exact ⟨rfl,rfl⟩
  ·rw [X7 zO]
   have d1:decide ((1:Int)<=n)=true:=xc zO;have d2:decide ((n:Int)<=1024)=false:=Xb zO;clear h1 h2;go_enter func163,ntmps163
   go_wp2_with fail
   go_ret
   exact ⟨rfl,rfl⟩
 ·obtain rfl:n=0:=by omega
  rw [Y7];clear h1;go_enter func163,ntmps163
  go_wp2_with fail
  go_ret
  exact ⟨rfl,rfl⟩
theorem S9 {w:vu} {A:Option vx} {n c d:Nat} {ls:List (List Nat)} (h:Kd w [ve A n c] ls) (ht:IA d ls) :
  vA prog 167 #[ve A n c] w fun e w'=>e=vn (.bool true) /\ vz w.1.size w w':=by
 obtain ⟨rfl,kd,ef,-⟩:=Ig h;have hlen:=ht.len;have HR:=zH h;have HT:=zH ht;have qP:=ht.d10;obtain ⟨b,q,A1,n1,c1,eA,dc,oq,Ue,xf⟩:=Xv h (show 0<ls.length by omega)
 obtain ⟨b',q',A2,n2,c2,Xm,-,Wy,Ce,Fm⟩:=Xv h (show d<ls.length by omega)
 rw [eA] at Xm
 injection Xm with Xm
 injection Xm with e3 e4
 subst e3 e4;rw [ht.at_ 0 (Qb _),Nat.sub_zero] at Ue;rw [ht.at_ d zR,Nat.sub_self,Nat.pow_zero] at Ce;rw [Oo] at oq;have bA:=zH (fun w=>by have:=Q9 n1 w;rw [Ue,RS qP,<- Ue] at this;exact this)
 obtain ⟨nn,pg⟩:=zEX (ls.length);rw [<- pg] at hlen kd HR |-;have Lf:=zH pg;have HN:=zH hlen;have DP:nn <= 11:=by omega
 have e1:vq.wrap ((nn:Int)-1)=(d:Int):=by rw [Bi];omega
 have g0:(0:Int)<nn:=by omega
 have g1:(d:Int)<nn:=by omega
 have g2:(0:Int)<=d:=by omega
 have g3:((nn:Int) == 0)=false:=by rw [Ke];omega
 subst eA;subst Ce;clear h ht xf Fm pg hlen kd ef Ue;go_enter func167,ntmps167
 go_wp2_with fail
 refine (bA.out w).mono ?_;rintro e _ ⟨rfl,rfl⟩;go_wp2_with fail
 clear oq Wy bA e1 g0 g1 g2 g3;go_loopw [3] (fun y wr=>∃ i:Nat,1 <= i /\ i <= nn /\ y=vd vq i /\ vz w.1.size w wr) (fun y _=>nn-(intOf y).toNat)
 case atStart=>exact ⟨1,zR,by have:=HN.out;omega,rfl,Kb _ _⟩
 case round =>
  obtain ⟨i,Zn,hi,rfl,hb⟩:=hrel;by_cases ya:i<nn
  ·have Lr:=Lf.out
   have XK:=HN.out;obtain ⟨b2,q2,A3,n3,c3,eA,Pk,dB,mn,ft⟩:=Xv (Gk hb HR.out) (show i<ls.length by omega)
   obtain ⟨b4,q4,A4,n4,c4,eA4,-,N4,zF,cL⟩:=Xv (Gk hb HR.out) (show i-1<ls.length by omega)
   injection eA with eA
   injection eA with e3 e4
   subst e3 e4
   injection eA4 with eA4
   injection eA4 with e3 e4
   subst e3 e4;rw [HT.out.at_ i zO] at mn;rw [HT.out.at_ (i-1) zO] at zF;obtain ⟨j,hj⟩:=zEX (i-1);have h24:2*n3=n4:=by rw [mn,zF,show d-(i-1)=d-i+1 by omega,Zg,xg]
   have hn4l:n4 <= 1024:=by rw [zF];exact jb (Jt zO (show d-(i-1) <= 10 by omega)) zD
   rw [<- hj] at N4;have e2:vq.wrap ((i:Int)-1)=(j:Int):=by rw [Bi];omega
   have e5:vq.wrap (2*(n3:Int))=(n4:Int):=by rw [Bi];omega
   have g1:(0:Int)<=i:=by omega
   have g2:(i:Int)<nn:=by omega
   have g3:(0:Int)<=j:=by omega
   have g4:(j:Int)<nn:=by omega
   have tc:=zH (And.intro Zn ya);have HB:=zH hb;clear ft cL mn zF hj h24 hn4l ya Lr XK hb hi Zn;go_wp2_with fail
   refine Pd (Rc) [] [0,1,2,3,4,5,6,7,8,9,10,11,12] zK zK ?_;refine oe (Da) ?_;intro Wc Ga ja;have oc:=zH (show vz w.1.size w Wc by rw [Ga.out];exact HB.out.drew)
   clear Ga HB;refine Mc ?_;refine Vc ?_;clear ja dB N4;go_wp2
   go_roundw
   case rel=>exact ⟨i+1,zO,tc.out.2,by go_num,oc.out⟩
   case measure=>have:=tc.out.2;simp [intOf];omega
  ·obtain rfl:i=nn:=by omega
   go_wp2;go_ret
   exact ⟨rfl,hb⟩
theorem zHa {w:vu} {A:Option vx} {n c d:Nat} {ls:List (List Nat)} (h:Kd w [ve A n c] ls) (ht:IA d ls) :
  vA prog 77 #[ve A n c] w fun e w'=>e=vn (vd vo (PB ls:Int)) /\ vz w.1.size w w':=by
 obtain ⟨rfl,kd,ef,-⟩:=Ig h;have hlen:=ht.len;have HW:=zH (fun w1 (hb:vz w.1.size w w1)=>S9 (Gk hb h) ht)
 obtain ⟨b,q,A1,n1,c1,eA,dc,oq,Ue,xf⟩:=Xv h (show d<ls.length by omega)
 obtain ⟨b1,q1,eA1,tk,Wy⟩:=Hf (by have:=(Pb xf).2.2.2.2;rw [Ue] at this;exact this) (RT ht zR)
 rw [Oo,<- zAp ht] at Wy;have gu:0<n1:=by rw [Ue];exact RT ht zR
 obtain ⟨nn,pg⟩:=zEX (ls.length);rw [<- pg] at hlen HW kd |-;generalize PB ls=rt at *;have DP:nn <= 11:=by have:=ht.d10;omega
 have e1:vq.wrap ((nn:Int)-1)=(d:Int):=by rw [Bi];omega
 have g0:(0:Int)<n1:=by omega
 have g1:(d:Int)<nn:=by omega
 have g2:(0:Int)<=d:=by omega
 subst eA eA1;clear h ht xf pg hlen Ue gu kd ef;go_enter func77,ntmps77
 go_wp2_with fail
 refine (HW.out _ (Kb _ _)).mono ?_;rintro _ w2 ⟨rfl,hb⟩;have GH:=(hb.cell (p:=⟨b,q+d,vB⟩) dc).trans oq;have hcB:=(hb.cell (p:=⟨b1,q1,vB⟩) tk).trans Wy;clear oq Wy;go_wp2;go_ret
 exact ⟨rfl,hb⟩
theorem zG1 {w:vu} {A:Option vx} {n c d i:Nat} {ls:List (List Nat)} (h:Kd w [ve A n c] ls) (ht:IA d ls) (hi:i<2^d) (ya:∀ k j,(ls.getD k []).getD j 0<18446744073709551616) :
  vA prog 81 #[ve A n c,vd vq i] w fun e w'=>∃ v,e=vn v /\ w'.ownsRow w.1.size 22 1 v d (Qa (Bp ls i)) /\ vz w.1.size w w':=by
 obtain ⟨rfl,kd,ef,-⟩:=Ig h;have hlen:=ht.len;have HW:=zH (fun w1 (hb:vz w.1.size w w1)=>S9 (Gk hb h) ht)
 have HR:=zH h;have HT:=zH ht;obtain ⟨b,q,A1,n1,c1,eA,dc,oq,Ue,xf⟩:=Xv h (show 0<ls.length by omega)
 rw [ht.at_ 0 (Qb _),Nat.sub_zero] at Ue;rw [Oo] at oq;have qP:=ht.d10;have HP:=zH (show Bp ls i=(List.range d).map fun k=>(ls.getD k []).getD ((i / 2^k) ^^^ 1) 0 by rw [nQ,hlen];rfl)
 obtain ⟨f,hf⟩:∃ f:Nat -> Nat,f=fun k=>(ls.getD k []).getD ((i / 2^k) ^^^ 1) 0:=⟨_,rfl⟩
 rw [<- hf] at HP;have HF:=zH (fun k=>show f k=(ls.getD k []).getD ((i / 2^k) ^^^ 1) 0 by rw [hf])
 obtain ⟨nn,pg⟩:=zEX (ls.length);rw [<- pg] at hlen HW kd HR |-;obtain ⟨pl,Yi⟩:=zEX (Bp ls i);rw [<- Yi] at HP |-;have DP:nn <= 11:=by omega
 have iW:i<1024:=We hi (jb (Jt zO qP) zD);have e1:vq.wrap ((nn:Int)-1)=(d:Int):=by rw [Bi];omega
 have g0:(0:Int)<nn:=by omega
 have g1:(d:Int)<=c:=by omega
 have g2:(0:Int)<=d:=by omega
 have g3:¬((i:Int)<0):=by omega
 have g3':decide ((i:Int)<0)=false:=Xb g3;have g4:decide ((n1:Int)<=i)=false:=Xb zO;have g4n:decide (n1 <= i)=false:=Xb zO;have g4p:¬(n1 <= i):=by omega
 subst eA;have HN:=zH hlen;have HI:=zH hi;have Lf:=zH pg;have BM:=zH ya;clear h ht xf pg hlen kd ef hf Yi Ue hi ya;go_enter func81,ntmps81
 go_wp2_with fail
 refine (HW.out _ (Kb _ _)).mono ?_;rintro _ w2 ⟨rfl,hb⟩;have GH:=(hb.cell (p:=⟨b,q,vB⟩) dc).trans oq;clear oq HW;go_wp2_with fail
 have Tf:w2.ownsRow w.1.size 22 1 (ve vB 0 0) 0 (Qa ((List.range 0).map f)):=⟨rfl, .inl ⟨rfl,rfl⟩⟩;go_loopw [1,5,6] (fun iv pv y wr=>∃ k:Nat,k <= d /\ y=vd vq k /\ iv=vd vq ((i / 2^k:Nat):Int) /\ wr.ownsRow w.1.size 22 1 pv k (Qa ((List.range k).map f)) /\ vz w.1.size w wr) (fun _ _ y _=>d-(intOf y).toNat)
 case atStart=>exact ⟨0,Qb _,rfl,zS,Tf,hb⟩
 case round =>
  clear Tf hb GH;obtain ⟨k,hk,rfl,rfl,oa,hb⟩:=hrel;by_cases ya:k<d
  ·obtain ⟨b2,q2,A2,n2,c2,eA,Pk,Zm,Ce,Fm⟩:=Xv (Gk hb HR.out) (show k<ls.length by have:=Lf.out;have:=HN.out;omega)
   rw [HT.out.at_ k zO] at Ce
   injection eA with eA
   injection eA with e3 e4
   subst e3 e4;have hj:i / 2^k<2^(d-k):=by
    rw [Nat.div_lt_iff_lt_mul (Nat.pow_pos zO),<- Nat.pow_add,show d-k+k=d by omega]
    exact HI.out
   have hx:(i / 2^k) ^^^ 1<n2:=by rw [Ce];exact Nat.xor_lt_two_pow hj (Nat.one_lt_two_pow zO)
   have VK:=(Pb Fm).2.2.2.2;rw [(Pb Fm).1] at VK Zm hx;obtain ⟨b3,q3,PE,hbl3,dB⟩:=Hf VK hx;rw [<- HF.out k] at dB;have uj:f k<18446744073709551616:=by rw [HF.out];exact BM.out k _
   obtain ⟨k1,og⟩:=zEX (k+1);have tq:i / 2^k1=i / 2^k / 2:=by rw [og,Zg,Nat.div_div_eq_div_mul]
   have Vi:=zH og;have ew:vq.wrap ((k:Int)+1)=(k1:Int):=by rw [Bi];omega
   have gk1:(k1:Int)<nn:=by have:=HN.out;omega
   have gk0:(k:Int)<nn:=by omega
   have bu:i / 2^k<1024:=Nat.lt_of_le_of_lt (GA _ _) iW;have tL:=zBG ⟨i / 2^k,bu⟩;simp only at tL;obtain ⟨j,Zo⟩:=zEX (i / 2^k);rw [<- Zo] at tL dB hx tq bu |-;obtain ⟨jx,hjx⟩:=zEX (j ^^^ 1);rw [<- hjx] at tL dB hx;obtain ⟨n3,mn⟩:=zEX ((ls.getD k []).length);rw [<- mn] at Zm hx;obtain ⟨z,hz⟩:=zEX (f k);rw [<- hz] at dB uj;have Pq:=zH (show (List.range k).map f++[z]=(List.range k1).map f by rw [hz,og];exact OB f k)
   have g5:(0:Int)<=jx:=by omega
   have g6:(jx:Int)<n3:=by omega
   have g7:(0:Int)<=k:=by omega
   have g8:(k:Int)<d:=by omega
   have g9:(j:Int).tdiv 2=((j / 2:Nat):Int):=by rw [FM zO];omega
   obtain ⟨j2,xk⟩:=zEX (j / 2);rw [<- xk] at g9 tq;have hj2l:j2 <= 1024:=by omega
   have HDV:=zH tq;have tc:=zH ya;subst PE;clear VK Fm Ce hj Zo hjx mn hz xk tq ya hx og;go_upto_region 7 with fail
   go_wp2_with (at_builtin;refine Wd rfl _ _ rfl jg rfl (oa.alloc _) rfl (gg _ _ _) (De [z]) zO (by simp;have:=hb.size;omega) ?_)
   intro v' wn Ua Ma Cb;have ma:=zA wr (.cells #[vd vo z] 22);have hB:=ie (oa.alloc _) Ma (by simp;have:=hb.size;omega)
   replace hb:=(Nk hb ma hb.size).trans hB;replace oa:wn.ownsRow w.1.size 22 1 v' (k+1) (Qa ((List.range k1).map f)):=Qi (b:=[z]) Ua Pq.out;clear Ua Ma Cb ma hB;rw [<- Vi.out] at oa;go_wp2
   go_roundw
   case rel=>exact ⟨k1,by have:=tc.out;have:=Vi.out;omega,by first | rfl | go_num,by first | (rw [HDV.out];done) | (rw [HDV.out];go_num),oa,hb⟩
   case measure=>have:=tc.out;have:=Vi.out;simp [intOf];omega
  ·have e:k=d:=by omega
   subst e;have ew:vq.wrap ((k:Int)+1)=(nn:Int):=by rw [Bi];have:=HN.out;omega
   clear ya hk;obtain ⟨Av,cv,rfl,-⟩:=Yb oa;have my:=zH (show Qa pl=Qa ((List.range k).map f) by rw [HP.out])
   rw [<- my.out] at oa;have AE:=zH oa;clear oa;go_wp2;go_ret
   exact ⟨_,rfl,AE.out,hb⟩
end Go.Proofs.YteoghgbnielkpaaGreat
