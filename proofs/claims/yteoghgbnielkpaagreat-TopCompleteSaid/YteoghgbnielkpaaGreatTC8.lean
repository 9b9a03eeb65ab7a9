/- A part of the proof. No condition. -/
import Derived.Test.YteoghgbnielkpaaGreatTC4
import Derived.Test.YteoghgbnielkpaaGreatTC5
import Derived.Test.YteoghgbnielkpaaGreatTC6

set_option maxRecDepth 100000
set_option maxHeartbeats 8000000
set_option linter.unusedVariables false
set_option linter.unusedSimpArgs false
namespace Go.Proofs.YteoghgbnielkpaaGreat
open Go.RowKit Go.Maps
open Tryz
open Go renaming World->vw, Value->vx, Addr->vy, TypeId->vz, Calls->vB
open Go.Value renaming int->vd, slice->ve, agg->vf
open Go.IntKind renaming u64->vn, i64->vq
open Go.Ending renaming returned->vl
open Go.RowKit renaming Below->vA
open Go.World renaming setCell->vF
open Go.Act renaming put->vG
open Option renaming none->vD, some->vE
def qj (s c k:Nat):List (List Nat):=(List.range k).map fun i=>[s,c+i]
theorem IU (s c k:Nat):(qj s c k).length=k:=by simp [qj]
theorem tS (O:Ha) (s c i:Nat):Vb O 19 (qj s c (i+1))=Pc (Vb O 19 (qj s c i)) 19 [s,c+i]:=by
 unfold Vb qj;rw [List.range_succ,List.map_append,List.foldl_append]
 rfl
def Mm (O:Ha) (s c i:Nat):Nat:=me (Vb O 19 (qj s c i)) 19 [s,c+i]
def nG (l:List Nat) (i j:Nat):List Nat:=(l.set i (l.getD j 0)).set j (l.getD i 0)
def Ej (f:Nat -> Nat) (n:Nat):Nat -> List Nat
 | 0=>List.range n
 | i+1=>nG (Ej f n i) i (i+f i%(n-i))
theorem zD6 (l:List Nat) (i j:Nat):(nG l i j).length=l.length:=by simp [nG]
theorem wM (f:Nat -> Nat) (n:Nat):∀ i,(Ej f n i).length=n
 | 0=>by simp [Ej]
 | i+1=>by rw [Ej,zD6,wM f n i]
theorem zHM {l:List Nat} {i j x:Nat} (hi:i<l.length) (hj:j<l.length) (h:x∈nG l i j):x∈l:=by
 unfold nG at h;have hg:∀ k,k<l.length -> l.getD k 0∈l:=fun k hk=>by rw [Cb,Xb hk];exact zf hk
 rcases List.mem_or_eq_of_mem_set h with h | rfl
 ·rcases List.mem_or_eq_of_mem_set h with h | rfl
  ·exact h
  ·exact hg j hj
 ·exact hg i hi
theorem R7 (f:Nat -> Nat) (n:Nat):∀ i,i <= n -> ∀ x∈Ej f n i,x<n
 | 0,_,x,hx=>by simpa [Ej] using hx
 | i+1,h,x,hx=>by
  rw [Ej] at hx;refine R7 f n i (by omega) x (zHM (by rw [wM];omega) (by rw [wM];have:=ic (f i) (show 0<n-i by omega);omega) hx)
def Br (O:Ha) (s c n count:Nat):List Nat:=((Ej (Mm O s c) n count).take count).mergeSort fun x y=>decide (x <= y)
theorem K3 (O:Ha) (s c n count:Nat) (h:count <= n):(Br O s c n count).length=count:=by
 unfold Br;rw [List.length_mergeSort,Ru,wM,Nat.min_eq_left h]
theorem S7 (O:Ha) (s c n count:Nat) (h:count <= n):∀ x∈Br O s c n count,x<n:=fun x hx=>by
 unfold Br at hx;rw [List.mem_mergeSort] at hx;exact R7 _ n count h x (List.mem_of_mem_take hx)
def pc (O:Ha) (k:Nat):Prop:=O.qs.length <= k /\ O.dr <= k
theorem pq {O:Ha} {k:Nat} (h:pc O k) (lab:Nat) (el:List Nat):pc (Pc O lab el) (k+1):=by
 obtain ⟨i,s,d,q⟩:=O;have h1:q.length <= k:=h.1;have h2:d <= k:=h.2;unfold Pc;split
 ·split
  ·exact ⟨Nat.le_succ_of_le h1,Nat.le_succ_of_le h2⟩
  ·split
   ·refine ⟨?_,?_⟩
    ·rw [jE,PY,Ni]
     exact Nat.succ_le_succ h1
    ·rw [orcDr]
     exact Nat.succ_le_succ h2
   ·refine ⟨?_,?_⟩
    ·rw [jE,Ni]
     exact Nat.succ_le_succ h1
    ·exact Nat.le_succ_of_le h2
 ·exact ⟨Nat.le_succ_of_le h1,Nat.le_succ_of_le h2⟩
where
 orcDr {i:Bool} {s d:Nat} {q:List Qn} {lab a:Nat} {el:List Nat}:(Lm (Mx ⟨i,s,d,q⟩) lab el a).dr=d+1:=rfl
theorem aD {lab:Nat}:∀ (qs:List (List Nat)) {O:Ha} {k:Nat},pc O k -> pc (Vb O lab qs) (k+qs.length)
 | [],_,_,h=>h
 | q :: r,O,k,h=>by
  have:=aD (lab:=lab) r (pq h lab q);rw [xg,show k+(r.length+1)=k+1+r.length by omega]
  exact this
theorem uf {O:Ha} {k m:Nat} (h:pc O k) (hm:k <= m):pc O m:=⟨xb h.1 hm,xb h.2 hm⟩
theorem BT (O:Ha) (lab:Nat) (el:List Nat):(Pc O lab el).ideal=O.ideal:=by
 unfold Pc;split
 ·split
  ·rfl
  ·split
   ·rw [addQ_id,OY]
   ·rw [addQ_id]
 ·rfl
where
 addQ_id {O:Ha} {lab a:Nat} {el:List Nat}:(Lm O lab el a).ideal=O.ideal:=by simp only [Lm]
def qg (leaves:List (List Nat)) (salts:List Nat):List (List Nat):=(List.range leaves.length).map fun i=>salts.getD i 0 :: leaves.getD i []
theorem rK (leaves:List (List Nat)) (salts:List Nat):(qg leaves salts).length=leaves.length:=by simp [qg]
theorem Q2 (leaves:List (List Nat)) (salts:List Nat) (i:Nat) (h:i<leaves.length):(qg leaves salts).getD i []=salts.getD i 0 :: leaves.getD i []:=by simp [qg,Cb,h]
theorem Cv {α:Type} {l:List α} {i:Nat} (d:α) (h:i<l.length):l.getD i d∈l:=by
 rw [Cb,Xb h];exact zf h
theorem zDI:(prog.info? 28).map (fun i=>(i.zero,i.size,i.bytes))=vE (vE (ve vD 0 0),1,24):=by kernel_rfl
theorem RY:zq prog 39 28 1 24 (ve vD 0 0):=by
 obtain ⟨i0,hi,Kh,kd,Qe⟩:=info_parts zDI;exact ⟨underlying39,⟨i0,hi,Kh,kd,Qe⟩,rfl,by omega⟩
def OQ (v:vx):Nat:=match v with | ve _ n _=>n | _=>0
def sX (w:vw) (g:Nat) (F:Nat -> Prop) (d:Nat) (O0:Ha) (L0:List Nat) (lv vs:vx) (wq:vw):Prop :=
 ∃ (j:Nat) (ls:List (List Nat)) (Oj:Ha) (lj:List Nat) (F1:Nat -> Prop) (gj M:Nat) (T:Nat -> Prop) (cs:List vx),
  (lj.length=2^j /\ (∀ x∈lj,x<zb) /\ lv=ve (vE ⟨gj,0,vD⟩) (2^j) (2^j) /\ Blk wq gj 22 (Oa lj).toArray /\ T gj) /\
  (OrcAt wq g Oj F1 /\ Moved F F1 w wq /\ pc Oj M /\ M+2*2^j <= 204096) /\ (Hg d O0 L0=ls++Hg j Oj lj /\ Jw d O0 L0=Jw j Oj lj /\ ls.length+j <= 10) /\
  (wq.ownsRow (w.1.size+1) 28 1 vs (ls.length+1) cs /\ aE T wq cs (ls++[lj])) /\
  ((∀ b,T b -> w.1.size<b /\ b<wq.1.size /\ ¬F1 b /\ vs.ownBlock≠vE b) /\ (∀ b,vs.ownBlock=vE b -> ¬F1 b) /\ Blk wq w.1.size 132 #[ve vD 0 0] /\ ¬F1 w.1.size)
theorem zBZ {w:vw} {g:Nat} {O:Ha} {F K:Nat -> Prop} (h:OrcAt w g O F) (A B:Option vy) (n c m e:Nat) (leaves:List (List Nat)) (salts:List Nat) (d:Nat)
  (hl:Mp K w (ve A n c) leaves) (hs:Ue K w (ve B m e) salts) (hK:∀ b,K b -> b<w.1.size /\ ¬F b) (hd:d <= 10) (hn:leaves.length=2^d) (hsl:salts.length=leaves.length) (dp:Xc salts=true) (hle:∀ l∈leaves,Xc l=true)
  (Ov:∀ l∈leaves,l.length <= 100000) (hO:pc O 100000) :
  vB prog 62 #[.pointer (vE ⟨g,0,vD⟩),ve A n c,ve B m e] w fun e w'=>∃ tv F' T,e=vl (.tuple #[vf #[tv],vd vq 0]) /\
   OrcAt w' g (Jw d (Vb O 16 (qg leaves salts)) (Le O 16 (qg leaves salts))) F' /\ Moved F F' w w' /\ Mp T w' tv (Hg d (Vb O 16 (qg leaves salts)) (Le O 16 (qg leaves salts))) /\ ∀ b,T b -> w.1.size <= b /\ b<w'.1.size /\ ¬F' b:=by
 obtain ⟨rfl,td,Of⟩:=zDX hl;have hmn:m=salts.length:=by obtain ⟨A',c',e1,-⟩:=nA hs;injection e1 with _ e2 _
 subst hmn;have Vd:leaves.length <= 1024:=by rw [hn];exact xb (Io (by omega) hd) (by decide)
 have Fe:0<leaves.length:=by rw [hn];exact Nat.pow_pos (by omega)
 have Rr:=zH (show ∀ w,vB prog 135 #[vd vq leaves.length] w fun e w'=>e=vl (.bool true) /\ w=w' from fun w=>by have:=vU leaves.length w;rw [hn,YU hd] at this;rw [hn];exact this)
 obtain ⟨q0,Tv⟩:=zEX (qg leaves salts);rw [<- Tv];have HQL:=zH (show q0.length=leaves.length by rw [Tv,rK])
 have HQ:=zH (fun i (hi:i<leaves.length)=>show q0.getD i []=salts.getD i 0 :: leaves.getD i [] by rw [Tv];exact Q2 _ _ _ hi)
 obtain ⟨nn,mg⟩:=zEX (leaves.length);rw [hsl] at hs |-;rw [<- mg] at hl hs hn Fe Vd Rr HQL HQ td |-;have Ia:=(Ca w.1.size w).alloc zR (.cells #[ve vD 0 0] 132);have IF:=Blk.new w 132 #[ve vD 0 0];have HSe:=zH (show ∀ w1,vA w.1.size w w1 -> vB prog 136 #[ve B nn e] w1 fun e w'=>e=vl (.bool true) /\ w1=w' from fun w1 hb=>by have:=QP B nn e salts w1 (ak (dn hs hb));rw [dp] at this;exact this)
 have HLe:=zH (show ∀ w1 i A1 n1 c1,RWd w1 [ve A1 n1 c1] (leaves.getD i []) -> i<nn -> vB prog 136 #[ve A1 n1 c1] w1 fun e w'=>e=vl (.bool true) /\ w1=w' from fun w1 i A1 n1 c1 hr hi=>by have:=QP A1 n1 c1 (leaves.getD i []) w1 hr;rw [hle _ (Cv [] (by omega))] at this;exact this)
 have HL:=zH hl;have HS:=zH hs;have HK:=zH hK;have HN:=zH hn;have Li:=zH mg;have Dn:=zH (show ∀ i,i<nn -> (leaves.getD i []).length <= 100000 from fun i hi=>Ov _ (Cv [] (by omega)))
 have HO:=zH hO;have H:=zH h;have Ta:((nn:Int)!=nn)=false:=by simp
 have ph:=fun w=>nw nn (by omega) w
 obtain ⟨zc,aw⟩:=zEX (Qa nn fun _=>0)
 rw [<- aw] at ph;have HZC:=zH aw;clear hl hs hK hn mg Ov hO h dp hle hsl Tv aw;go_enter func62,ntmps62
 go_wp2_with fail
 refine (Rr.out _).mono ?_;rintro _ w1 ⟨rfl,rfl⟩;go_wp2_with fail
 refine (HSe.out _ Ia).mono ?_;rintro _ w1 ⟨rfl,rfl⟩;go_wp2_with fail
 generalize w.alloc _=w1 at Ia IF |-;go_loopw [35] (fun y wr=>∃ i:Nat,i <= nn /\ y=vd vq i /\ wr=w1) (fun y _=>nn-(intOf y).toNat)
 case atStart=>exact ⟨0,Mb _,rfl,rfl⟩
 case round =>
  obtain ⟨i,hi,rfl,rfl⟩:=hrel;by_cases ta:i<nn
  ·obtain ⟨b,q,A1,n1,c1,eA,hKb,Gb,Ss,Ok⟩:=vM (CU HL.out Ia) (show i<leaves.length by have:=Li.out;omega)
   have Vf:=ak Ok;have FG:=zH (HLe.out wr i A1 n1 c1 Vf ta);have g1:(0:Int)<=i:=by omega
   have g2:(i:Int)<nn:=by omega
   subst eA;have Zb:=zH ta;clear Ok Vf ta;go_wp2_with fail
   refine FG.out.mono ?_;rintro _ w2 ⟨rfl,rfl⟩;go_wp2
   go_roundw
   case rel=>exact ⟨i+1,by have:=Zb.out;omega,by go_num,by first | rfl | trivial⟩
   case measure=>have:=Zb.out;simp [intOf];omega
  ·have e1:nn=i:=by omega
   subst e1;clear ta hi;go_wp2_with fail
   have Jv:w.1.size<wr.1.size:=IF.lt;have ma:=(Ca wr.1.size wr).alloc zR (.cells zc 22);have kl0:=Blk.new wr 22 zc;replace IF:=ja IF ma;replace Ia:=pa Ia ma;generalize wr.alloc _=wA at kl0 IF Ia |-;generalize wr.1.size=gl at kl0 Jv |-;clear ma ph;obtain ⟨V,hV⟩:∃ V:Nat -> Nat,V=fun k=>(Le O 16 q0).getD k 0:=⟨_,rfl⟩
   have HV:=zH (show ∀ i,i<nn -> V i=me (Vb O 16 (q0.take i)) 16 (salts.getD i 0 :: leaves.getD i []) from fun i hi=>by rw [hV];simp only;rw [gS O 16 q0 i (by rw [HQL.out];exact hi),HQ.out i hi])
   have Ut:=zH (show ∀ k,V k=(Le O 16 q0).getD k 0 from fun k=>by rw [hV])
   have ig:=zH (show ∀ i,i<nn -> Vb O 16 (q0.take (i+1))=Pc (Vb O 16 (q0.take i)) 16 (salts.getD i 0 :: leaves.getD i []) from fun i hi=>by rw [dS O 16 q0 i (by rw [HQL.out];exact hi),HQ.out i hi])
   have oL:=zH (show ∀ i,i <= nn -> pc (Vb O 16 (q0.take i)) 200000 from fun i hi=>uf (aD (q0.take i) HO.out) (by rw [Ru];omega))
   clear hV;have HLA:=zH (CU HL.out Ia);have Xr:=zH (dn HS.out Ia);have mA:Moved F F w wA:=Qc Ia;have nFl:¬F gl:=fun e=>by have:=H.out.lt gl e;omega
   have hKl:Hid (∀ b,K b -> ¬Sh F gl b):=fun b hb e=>by
    have:=HK.out b hb;rcases e with e | e
    ·exact this.2 e
    ·omega
   rw [HZC.out,show Qa nn (fun _=>0)=Qa nn (fun k=>if k<0 then V k else 0) from tl fun i _=>by rw [ya (by omega)]] at kl0
   have HA:=H.out.below Ia;have hg49:(nn:Int) <= 1024:=by omega
   go_loopw [49] (fun y wr=>∃ (i:Nat) (F1:Nat -> Prop),i <= nn /\ y=vd vq i /\ OrcAt wr g (Vb O 16 (q0.take i)) F1 /\ Moved (Sh F gl) (Sh F1 gl) wA wr /\ Blk wr gl 22 (Qa nn fun k=>if k<i then V k else 0) /\ ¬F1 gl) (fun y _=>nn-(intOf y).toNat)
   case atStart=>exact ⟨0,F,Mb _,rfl,HA,Moved.refl,kl0,nFl⟩
   case round =>
    clear kl0 HA nFl;obtain ⟨i,F1,hi,rfl,h1,m1,kl,Bt⟩:=hrel;by_cases ta:i<nn
    ·obtain ⟨b,q,A1,n1,c1,eA,hKb,Gb,Ss,Ok⟩:=vM (zDY HLA.out m1 hKl.out) (show i<leaves.length by have:=Li.out;omega)
     have Ra:=ak (zDV Xr.out m1 hKl.out);have hnB:=(Nb Ra).1;rw [hnB] at Ra;obtain ⟨b2,q2,eB,Nz,hcell2⟩:=Fg (Nb Ra).2.2.2.2 (show i<salts.length by omega)
     rw [<- hnB] at Ra;have hx:=uK (Nb Ra).2.2.2.1 (show i<salts.length by omega)
     have Vf:=ak Ok;have HLL1:=zH (Dn.out i ta);have Hn:=zH (HV.out i ta);have OG:=zH (ig.out i ta);have nL:=zH (oL.out i hi);subst eA eB;have Zb:=zH ta;have ZZ:∀ y∈salts.getD i 0 :: leaves.getD i [],y<18446744073709551616:=sj hx (by obtain ⟨A',c',e',-,-,h9⟩:=nA Ok;exact h9)
     have zm:=zH ZZ;have nm1:∀ b',b'<wr.1.size -> ∀ b'',wr.1.size <= b'' -> b'≠b'':=fun _ _ _ _=>by omega
     have zG:=zH h1.lt;have g1:(0:Int)<=i:=by omega
     have g2:(i:Int)<nn:=by omega
     obtain ⟨ho,hho⟩:=zEX (Pc (Vb O 16 (q0.take i)) 16 (salts.getD i 0 :: leaves.getD i []));obtain ⟨vv,Xv⟩:=zEX (me (Vb O 16 (q0.take i)) 16 (salts.getD i 0 :: leaves.getD i []));have HHO:=zH hho;have QG:=zH Xv;generalize salts.getD i 0=x at *;generalize leaves.getD i []=lf at *;clear Ok Ra hnB ZZ ta nm1 hho Xv hx;go_wp2_with fail
     refine (gW x A1 n1 c1 lf wr Vf (by have:=HLL1.out;omega)).mono ?_
     rintro _ w2 ⟨v,rfl,hv,Ba⟩;obtain ⟨Av,cv,rfl,-,-,-,Yc⟩:=de hv;have hkv:=zH (PI hv zm.out);have h2:=zH (h1.below Ba);have jt:=ja kl Ba;have m2:=m1.trans (TP (F:=F1) (Qc Ba) gl);have WD:=zH (show ∀ b',(ve Av (n1+1) cv).ownBlock=vE b' -> ¬F1 b' from fun b' yi hf=>by have:=zG.out b' hf;have:=(hv.lt b' yi).1;omega)
     clear hv Ba h1 kl m1 Ss hcell2 Yc Vf;go_wp2_with fail
     refine (aM h2.out 16 (x :: lf) Av (n1+1) cv hkv.out WD.out (by decide) (by have:=HLL1.out;simp;omega) (.inl (by simp)) (by have:=nL.out.1;omega) (by have:=nL.out.2;omega)).mono ?_
     rintro _ w3 ⟨rfl,F2,h3,m3⟩;rw [<- QG.out];rw [<- HHO.out] at h3;have Mh:=Sd m3 jt.lt Bt;have Zq:=jt.moved m3 Bt;have m4:=m2.trans (TP m3 gl);have Wh:w3.cell? ⟨gl,i,vD⟩=_:=(Zq.cell i).trans (Mf _ Zb.out);have Kk:=Zq.frozen;have H3:=zH h3;clear jt h2 m2 m3 h3 hkv;go_wp2
     go_roundw
     case rel =>
      refine ⟨i+1,F2,by have:=Zb.out;omega,by go_num,?_,m4.trans (E5 _ _ _),?_,Mh⟩
      ·rw [OG.out,<- HHO.out]
       exact H3.out.set Mh _
      ·have:=Zq.set_ i (vd vn vv)
       rw [Oq] at this;rw [show xf (fun k=>if k<i then V k else 0) i vv=xf (fun k=>if k<i then V k else 0) i (V i) from by rw [Hn.out,QG.out],UK] at this
       exact this
     case measure=>have:=Zb.out;simp [intOf];omega
    ·have e1:nn=i:=by omega
     subst e1;have jt:Blk wr gl 22 (Oa (Le O 16 q0)).toArray:=by
      rw [wv,show (List.range nn).map (fun k=>if k<nn then V k else 0)=Le O 16 q0 from mz (by rw [Jm,Eo,zy,HQL.out]) fun k h1 h2=>by
       have hk:k<nn:=by simpa using h1
       simp only [List.getElem_map,List.getElem_range,Na hk,Ut.out];rw [Cb,Xb h2];rfl] at kl
      exact kl
     have hO0:Vb O 16 (q0.take nn)=Vb O 16 q0:=by rw [<- HQL.out,cY]
     rw [hO0] at h1;have uR:=zH (show pc (Vb O 16 q0) 200000 by rw [<- hO0];exact oL.out nn zR)
     have Un:Moved F F1 w wr:=zEx mA m1 (by omega)
     have pg:=IF.moved m1 (fun e=>by
      rcases e with e | e
      ·have:=H.out.lt _ e;omega
      ·omega)
     have nFr:¬F1 w.1.size:=fun e=>by
      rcases m1.foot _ (.inl e) with h | h
      ·rcases h with h | h
       ·have:=H.out.lt _ h;omega
       ·omega
      ·have:=IF.lt;omega
     have uN:=zH (LJ H.out.ok.ans 16 q0);have Rt:=zH (show (Le O 16 q0).length=2^d by rw [zy,HQL.out,HN.out])
     obtain ⟨O0,yT⟩:∃ O0,O0=Vb O 16 q0:=⟨_,rfl⟩;obtain ⟨L0,hL0⟩:=zEX (Le O 16 q0);rw [<- yT] at h1 uR;rw [<- hL0] at jt uN Rt;have HO0:=zH yT;have HL00:=zH hL0;clear hO0 yT hL0 kl m1 IF HV Ut ig oL HLA Xr mA hKl ta hi HQ HLe HZC Ia H HL HS HK;go_wp2_with fail
     have ma:=(Ca wr.1.size wr).alloc zR (.cells #[ve (vE ⟨gl,0,vD⟩) nn nn] 28);have hgl2:=jt.lt;have hgv:gl<wr.1.size:=hgl2;have jk:(wr.alloc (.cells #[ve (vE ⟨gl,0,vD⟩) nn nn] 28)).ownsRow (w.1.size+1) 28 1 (ve (vE ⟨wr.1.size,0,vD⟩) 1 1) 1 [ve (vE ⟨gl,0,vD⟩) nn nn]:=⟨rfl, .inr ⟨wr.1.size,1,_,rfl,by omega,heap_alloc_new wr _,zR,by simp [maxLen],rfl,rfl⟩⟩
     have Zq:=ja jt ma;have rm:=ja pg ma;have h3:=h1.below ma;have Bu:=Un.trans (Qc (F:=F1) ma);have zG:=zH h1.lt;have Tn:∀ x∈L0,x<18446744073709551616:=fun x hx=>by have:=uN.out x hx;unfold zb at this;omega
     have zu:=nK Zq (n:=nn) (by rw [Rt.out,HN.out]) Tn (by simp only [maxLen];omega)
     have nv:¬F1 wr.1.size:=fun e=>by have:=zG.out _ e;omega
     generalize wr.alloc _=wB at ma jk Zq rm h3 Bu zu |-;generalize wr.1.size=gv at hgv nv jk |-;have iE:sX w g F d O0 L0 (ve (vE ⟨gl,0,vD⟩) nn nn) (ve (vE ⟨gv,0,vD⟩) 1 1) wB:=by
      refine ⟨d,[],O0,L0,F1,gl,200000,fun b=>b=gl,[ve (vE ⟨gl,0,vD⟩) nn nn],⟨Rt.out,uN.out,by rw [HN.out],Zq,rfl⟩,⟨h3,Bu,uR.out,by have:=HN.out;omega⟩,⟨rfl,rfl,by simpa using hd⟩,⟨jk,⟨rfl,fun i h1 h2=>?_⟩⟩,⟨fun b hb=>?_,fun b hb=>?_,rm,nFr⟩⟩
      ·obtain rfl:i=0:=by simp at h1;omega
       exact zu
      ·subst hb
       refine ⟨Jv,Zq.lt,Bt,fun e=>?_⟩
       simp [Value.ownBlock] at e
       omega
      ·simp [Value.ownBlock] at hb
       subst hb;exact nv
     clear jt h1 Un pg nFr Bt jk Zq rm h3 Bu zu ma uR zG Tn nv hgv hgl2 uN Rt HO hg49 Ta Fe Vd td Of;have HSm:=zH (show ∀ j,j <= 10 -> 2^j <= 1024 from fun j hj=>xb (Io (by omega) hj) (by decide))
     go_loopw [10,13] (fun lv vs wq=>sX w g F d O0 L0 lv vs wq) (fun lv _ _=>OQ lv)
     case atStart=>exact iE
     case round =>
      clear iE;obtain ⟨j,ls,Oj,lj,F1,gj,M,T,cs,⟨iF,haj,rfl,kj,hTj⟩,⟨hj,mj,hLe,hM⟩,⟨et,eo,hlsj⟩,⟨own,rows⟩,⟨hT,sy,kr,nFr⟩⟩:=hrel;rcases j with _ | j
      ·have e1:(2:Nat)^0=1:=rfl
       obtain ⟨Av,cv,rfl,-⟩:=de own;have gll:w.1.size<wr.1.size:=kr.lt;have hvr:∀ b,(ve Av (ls.length+1) cv).ownBlock=vE b -> b≠w.1.size:=fun b hb e=>by have:=(own.lt b hb).1;omega
       have hf:=kr.frozen;have hc:wr.cell? ⟨w.1.size,0,vD⟩=_:=kr.cell 0;have eh:=zH (show ∃ F' T',OrcAt (wr.setCell ⟨w.1.size,0,vD⟩ (ve Av (ls.length+1) cv)) g (Jw 0 Oj lj) F' /\ Moved F F' w (wr.setCell ⟨w.1.size,0,vD⟩ (ve Av (ls.length+1) cv)) /\ Mp T' (wr.setCell ⟨w.1.size,0,vD⟩ (ve Av (ls.length+1) cv)) (ve Av (ls.length+1) cv) (ls++Hg 0 Oj lj) /\ ∀ b,T' b -> w.1.size <= b /\ b<(wr.setCell ⟨w.1.size,0,vD⟩ (ve Av (ls.length+1) cv)).1.size /\ ¬F' b from by
        have hset:∀ b,b≠w.1.size -> (wr.setCell ⟨w.1.size,0,vD⟩ (ve Av (ls.length+1) cv)).1[b]?=wr.1[b]?:=fun b hb=>ug wr _ _ b hb
        refine ⟨F1,fun b=>T b \/ (ve Av (ls.length+1) cv).ownBlock=vE b,hj.set nFr _,Gg mj zR _ _,?_,fun b hb=>?_⟩
        ·exact zEd (zM rows (by simp [vF]) fun b hb _=>hset b (by have:=(hT b hb).1;omega)) (di own fun b hb=>hset b (hvr b hb))
        ·have ib:(wr.setCell ⟨w.1.size,0,vD⟩ (ve Av (ls.length+1) cv)).1.size=wr.1.size:=by simp [vF]
         rw [ib];rcases hb with hb | hb
         ·exact ⟨by have:=(hT b hb).1;omega,(hT b hb).2.1,(hT b hb).2.2.1⟩
         ·exact ⟨by have:=(own.lt b hb).1;omega,(own.lt b hb).2,sy b hb⟩)
       rw [<- et,<- eo,HL00.out,HO0.out] at eh;clear hT sy own rows hj mj et eo kj iF haj hTj hLe hM;have cz:(wr.setCell ⟨w.1.size,0,vD⟩ (ve Av (ls.length+1) cv)).cell? ⟨w.1.size,0,vD⟩=vE (ve Av (ls.length+1) cv):=by
        have:=(kr.set_ 0 (ve Av (ls.length+1) cv)).cell 0
        simpa using this
       go_wp2;refine Tc (v:=.tuple #[vf #[ve Av (ls.length+1) cv],vd vq 0]) (by simp [results,results62,go_sem,cz]) rfl ?_
       obtain ⟨F',T',d1,d2,d3,d4⟩:=eh.out
       first | exact ⟨_,F',T',rfl,d1,d2,d3,d4⟩ | exact ⟨_,rfl,F',d1,d2,T',d3,d4⟩
      ·have h1024:=HSm.out j (by omega)
       have epow:(2:Nat)^(j+1)=2*2^j:=by rw [If,ze]
       obtain ⟨nk,yg⟩:=zEX (2^j);rw [epow] at iF hM |-;rw [<- yg] at iF hM h1024 |-;have aq:0<nk:=by rw [yg];exact Nat.pow_pos (by omega)
       obtain ⟨nj,hnj⟩:=zEX (2*nk);rw [<- hnj] at iF |-;have HNK:=zH yg;have HNJ:=zH hnj;have c1:decide ((1:Int)<nj)=true:=tb (by omega)
       have c2:(nj:Int).tdiv 2=(nk:Int):=by rw [CJ (by omega)];omega
       have ph:=fun w=>nw nk (by omega) w
       obtain ⟨zc,aw⟩:=zEX (Qa nk fun _=>0)
       rw [<- aw] at ph;have HZC:=zH aw;have ma:=(Ca wr.1.size wr).alloc zR (.cells zc 22);have kn0:=Blk.new wr 22 zc;have zG:=zH hj.lt;have ET:=zH et;have EO:=zH eo;have HAJ:=zH haj;have HLJ:=zH iF;have HLS:=zH hlsj;have ND:=zH hM;have HT:=zH hT;have HVS:=zH sy;have Vy:=zH hLe;have nFn:¬F1 wr.1.size:=fun e=>by have:=zG.out _ e;omega
       have hgj:=kj.lt;have hgjn:gj<wr.1.size:=hgj;have Va:=kr.lt;have nFj:¬F1 gj:=(hT gj hTj).2.2.1;have HTN:=zH (show ∀ b,T b -> b≠wr.1.size from fun b hb e=>by have:=(hT b hb).2.1;omega)
       have Yr:=zH (show ∀ b,u13.ownBlock=vE b -> b<wr.1.size from fun b hb=>(own.lt b hb).2)
       have EC:w.1.size<wr.1.size:=Va;clear et eo haj iF hlsj hM hT sy hLe yg hnj aw epow;replace kj:=ja kj ma;replace kr:=ja kr ma;replace hj:=hj.below ma;replace own:=Mc own ma zR;replace rows:=zM rows ma.size fun b _ hl=>ma.block b hl
       replace mj:=mj.trans (Qc (F:=F1) ma);go_wp2_with fail
       generalize wr.alloc _=wB at kn0 kj kr hj own rows mj |-;generalize wr.1.size=gn at kn0 zG HT nFn hgj hgjn Va HTN Yr EC |-;have G1:gn<wB.1.size:=kn0.lt;have h2a:=zH hj.ok.ans;clear ma ph hgj Va;obtain ⟨V,hV⟩:∃ V:Nat -> Nat,V=fun k=>(Le Oj 17 (Md lj)).getD k 0:=⟨_,rfl⟩
       have Gn:=zH (show (Md lj).length=nk by rw [sK,HLJ.out,HNJ.out];omega)
       have HPG:=zH (show ∀ i,i<nk -> (Md lj).getD i []=[lj.getD (2*i) 0,lj.getD (2*i+1) 0] from fun i hi=>J7 lj i (by rw [HLJ.out,HNJ.out];omega))
       have HV:=zH (show ∀ i,i<nk -> V i=me (Vb Oj 17 ((Md lj).take i)) 17 [lj.getD (2*i) 0,lj.getD (2*i+1) 0] from fun i hi=>by rw [hV];simp only;rw [gS Oj 17 (Md lj) i (by rw [Gn.out];exact hi),HPG.out i hi])
       have Ut:=zH (show ∀ k,V k=(Le Oj 17 (Md lj)).getD k 0 from fun k=>by rw [hV])
       have ig:=zH (show ∀ i,i<nk -> Vb Oj 17 ((Md lj).take (i+1))=Pc (Vb Oj 17 ((Md lj).take i)) 17 [lj.getD (2*i) 0,lj.getD (2*i+1) 0] from fun i hi=>by rw [dS Oj 17 (Md lj) i (by rw [Gn.out];exact hi),HPG.out i hi])
       have oL:=zH (show ∀ i,i <= nk -> pc (Vb Oj 17 ((Md lj).take i)) (M+nk) from fun i hi=>uf (aD ((Md lj).take i) Vy.out) (by rw [Ru];omega))
       clear hV;rw [HZC.out,show Qa nk (fun _=>0)=Qa nk (fun k=>if k<0 then V k else 0) from tl fun i _=>by rw [ya (by omega)]] at kn0
       have KJ:=zH kj;have HAJ2:=zH (show ∀ k,lj.getD k 0<zb from fun k=>by
        rw [Cb];rcases Sg k lj.length with h1 | h1
        ·rw [Xb h1];exact HAJ.out _ (zf h1)
        ·rw [Co h1];show 0<zb;decide)
       have nOj:¬Sh F1 gn gj:=fun e=>by
        rcases e with e | e
        ·exact nFj e
        ·omega
       have cu:=zH own;have ROWS:=zH rows;have KR:=zH kr;have MJ:=zH mj;clear kj kr own rows mj;go_loopw [77] (fun y wq=>∃ (i:Nat) (F2:Nat -> Prop),i <= nk /\ y=vd vq i /\ OrcAt wq g (Vb Oj 17 ((Md lj).take i)) F2 /\ Moved (Sh F1 gn) (Sh F2 gn) wB wq /\ Blk wq gn 22 (Qa nk fun k=>if k<i then V k else 0) /\ ¬F2 gn) (fun y _=>nk-(intOf y).toNat)
       case atStart=>exact ⟨0,F1,Mb _,rfl,hj,Moved.refl,kn0,nFn⟩
       case round =>
        clear kn0 hj;obtain ⟨i,F2,hi,rfl,h2,m2,kn,Mh⟩:=hrel;by_cases ta:i<nk
        ·have kj:=KJ.out.moved m2 nOj
         have lgj:=kj.lt;have nO2:¬Sh F2 gn gj:=Sd m2 KJ.out.lt nOj;have Hn:=zH (HV.out i ta);have OG:=zH (ig.out i ta);have nL:=zH (oL.out i hi);have hcA:=YN kj (show 2*i<lj.length by rw [HLJ.out,HNJ.out];omega)
         have WB:=YN kj (show 2*i+1<lj.length by rw [HLJ.out,HNJ.out];omega)
         have HXq:=zH (HAJ2.out (2*i));have HYq:=zH (HAJ2.out (2*i+1));obtain ⟨i2,Ci⟩:=zEX (2*i);rw [<- Ci] at Hn OG hcA WB HXq HYq;obtain ⟨i3,aC⟩:=zEX (i2+1);rw [<- aC] at Hn OG WB HYq;have e1:vq.wrap (2*(i:Int))=(i2:Int):=by rw [Wt];omega
         have e2:vq.wrap ((i2:Int)+1)=(i3:Int):=by rw [Wt];omega
         have hnj3:i3<nj:=by rw [HNJ.out];omega
         have g1:(0:Int)<=i:=by omega
         have g2:(i:Int)<nk:=by omega
         have g3:(0:Int)<=i2:=by omega
         have g4:(i2:Int)<nj:=by omega
         have g5:(0:Int)<=i3:=by omega
         have g6:(i3:Int)<nj:=by omega
         obtain ⟨ho,hho⟩:=zEX (Pc (Vb Oj 17 ((Md lj).take i)) 17 [lj.getD i2 0,lj.getD i3 0]);obtain ⟨vv,Xv⟩:=zEX (me (Vb Oj 17 ((Md lj).take i)) 17 [lj.getD i2 0,lj.getD i3 0]);have HHO:=zH hho;have QG:=zH Xv;generalize lj.getD i2 0=x at *;generalize lj.getD i3 0=y at *;have Zb:=zH ta;have Cq:=zH Ci;have HI3:=zH aC;have H2:=zH h2;obtain ⟨NQ,Xg⟩:=zEX (wr.1.size);rw [<- Xg] at lgj;have gg:=zH Xg;have KN:=zH kn;have M2:=zH m2;clear hho Xv ta Ci aC h2 Xg kj kn m2 hnj3;go_wp2_with fail
         refine zd (Ji (Sh F2 gn) NQ) [14,15,17] [0,1,2,3,4,5,6,7,8,9,10,11,12,13,14,15,16,17] (by kernel_rfl) (by kernel_rfl) ?_
         refine Se (Cc (Sh F2 gn) NQ) ?_;intro Wc Ja ia;have H3:=zH (show OrcAt Wc g (Vb Oj 17 ((Md lj).take i)) F2 by rw [Ja.out];exact H2.out.drew)
         have M3:=zH (show Moved (Sh F1 gn) (Sh F2 gn) wB Wc by rw [Ja.out];exact ow M2.out)
         have MC:Blk Wc gn 22 (Qa nk fun k=>if k<i then V k else 0):=by rw [Ja.out];exact KN.out.drew
         have dc:NQ <= Wc.1.size:=by rw [Ja.out,gg.out];exact zR
         clear Ja H2 KN M2;refine Lr ?_;refine ef (Cc (Sh F2 gn) NQ) rfl rfl rfl ?_;go_simp;refine ⟨Sj ((Ca _ _).alloc zR _) dc,?_⟩;have ma:=(Ca Wc.1.size Wc).alloc zR (.cells #[vd vn x,vd vn y] 22);have kp:=Blk.new Wc 22 #[vd vn x,vd vn y];have QF:¬F2 Wc.1.size:=fun e=>by have:=H3.out.lt _ e;omega
         replace MC:=ja MC ma;replace H3:=zH (H3.out.below ma);replace M3:=zH (M3.out.trans (TP (Qc (F:=F2) ma) gn));replace dc:=xb dc ma.size
         refine zPU ?_
         generalize Wc.alloc _=w3 at kp MC H3 M3 dc |-;generalize Wc.1.size=gp at kp QF |-;clear ma ia;have ia:=(Cc (Sh F2 gn) NQ).refl w3;have hkp:=zH (nK (l:=[x,y]) kp (n:=2) rfl (sj (by have:=HXq.out;unfold zb at this;omega) (sj (by have:=HYq.out;unfold zb at this;omega) (fun _ h=>nomatch h))) (by simp [maxLen]))
         refine Bc (Cc (Sh F2 gn) NQ) rfl rfl rfl (fun _=>by go_simp <;> rfl) ((aM H3.out 17 [x,y] (vE ⟨gp,0,vD⟩) 2 2 hkp.out (fun b hb=>by subst hb;exact QF) (by decide) (by simp) (.inl (by simp)) (by have:=nL.out.1;have:=ND.out;omega) (by have:=nL.out.2;have:=ND.out;omega)).mono ?_)
         rintro e w4 ⟨rfl,F3,h4,m4⟩;refine ⟨_,rfl,rT m4 dc (fun b _ h=>.inl h),?_⟩
         replace ia:=(Cc (Sh F2 gn) NQ).trans _ _ _ ia (rT m4 dc (fun b _ h=>.inl h))
         refine zPU ?_;have RC:=Sd m4 MC.lt Mh;have kn4:=MC.moved m4 Mh;have M4:=zH (M3.out.trans (TP m4 gn));have H4:=zH h4;have Wh:w4.cell? ⟨gn,i,vD⟩=_:=(kn4.cell i).trans (Mf _ Zb.out);have Kk:=kn4.frozen;clear ia MC H3 M3 m4 h4 hkp hcA WB kp QF;have ia:=(Cc (Sh F2 gn) NQ).refl w4;refine Lr ?_;refine ef (Cc (Sh F2 gn) NQ) rfl rfl rfl ?_;go_simp;refine ⟨BZ (.inr rfl) _,?_⟩
         refine zPU ?_
         refine Jc ?_;rw [<- QG.out];rw [<- HHO.out] at H4;go_wp2
         go_roundw
         case rel =>
          refine ⟨i+1,F3,by have:=Zb.out;omega,by go_num,?_,M4.out.trans (E5 _ _ _),?_,RC⟩
          ·rw [OG.out,<- HHO.out]
           exact H4.out.set RC _
          ·have:=kn4.set_ i (vd vn vv)
           rw [Oq] at this;rw [show xf (fun k=>if k<i then V k else 0) i vv=xf (fun k=>if k<i then V k else 0) i (V i) from by rw [Hn.out,QG.out],UK] at this
           exact this
         case measure=>have:=Zb.out;simp [intOf];omega
        ·have e1:nk=i:=by omega
         subst e1;have kn2:Blk wr gn 22 (Oa (Le Oj 17 (Md lj))).toArray:=by
          rw [wv,show (List.range nk).map (fun k=>if k<nk then V k else 0)=Le Oj 17 (Md lj) from mz (by rw [Jm,Eo,zy,Gn.out]) fun k h1 h2=>by
           have hk:k<nk:=by simpa using h1
           simp only [List.getElem_map,List.getElem_range,Na hk,Ut.out];rw [Cb,Xb h2];rfl] at kn
          exact kn
         have JE:Vb Oj 17 ((Md lj).take nk)=Vb Oj 17 (Md lj):=by rw [<- Gn.out,cY]
         rw [JE] at h2;have nO:∀ b,u13.ownBlock=vE b -> ¬Sh F1 gn b:=fun b hb e=>by
          rcases e with e | e
          ·exact HVS.out b hb e
          ·have:=Yr.out b hb;omega
         have nT:∀ b,T b -> ¬Sh F1 gn b:=fun b hb e=>by
          rcases e with e | e
          ·exact (HT.out b hb).2.2.1 e
          ·exact HTN.out b hb e
         have BK:=TF cu.out m2 nO;have X8:=zM ROWS.out m2.size fun b hb hl=>m2.block b hl (nT b hb)
         have pg:=KR.out.moved m2 (fun e=>by
          rcases e with e | e
          ·exact nFr e
          ·omega)
         have nFr2:¬F2 w.1.size:=fun e=>Sd m2 KR.out.lt (fun e=>by
          rcases e with e | e
          ·exact nFr e
          ·omega) (.inl e)
         have mj2:=zEy MJ.out m2 (by omega)
         have nT2:∀ b,T b -> ¬F2 b:=fun b hb e=>Sd m2 (by have:=(HT.out b hb).2.1;have:=G1;omega) (nT b hb) (.inl e)
         have nV2:∀ b,u13.ownBlock=vE b -> ¬F2 b:=fun b hb e=>Sd m2 (by have:=Yr.out b hb;have:=G1;omega) (nO b hb) (.inl e)
         have hL2:(Le Oj 17 (Md lj)).length=nk:=by rw [zy,Gn.out]
         have pX:=zH (LJ h2a.out 17 (Md lj));have FL2:=zH h2.lt;have iy:=kn2.lt;have H2:=zH h2;have KN2:=zH kn2;have Mi:=zH pg;have ROWS2:=zH X8;have MJ2:=zH mj2;have NT2:=zH nT2;have NV2:=zH nV2;have NFR2:=zH nFr2;have hszr:w.1.size+1 <= wr.1.size:=by have:=pg.lt;omega
         clear h2 kn kn2 JE nO nT X8 pg nFr2 mj2 nT2 nV2 m2 ta hi;go_wp2_with (at_builtin;refine uk rfl _ _ rfl RY rfl (BK.alloc _) rfl (Ew _ _ _) (by intro u hu;rw [Fo.1 hu];rfl) (by have:=HLS.out;omega) (by simp;omega) ?_)
         intro v' wn Rb Wa Dc;have ma:=(Ca wr.1.size wr).alloc zR (.cells #[ve (vE ⟨gn,0,vD⟩) nk nk] 28);have hsa:(wr.alloc (.cells #[ve (vE ⟨gn,0,vD⟩) nk nk] 28)).1.size=wr.1.size+1:=by simp
         have hbv:∀ b,u13.ownBlock=vE b -> w.1.size+1 <= b /\ b<wr.1.size:=fun b hb=>BK.lt b hb
         go_wp2
         go_roundw
         case rel =>
          have MC:=(KN2.out.below ma iy).grown Wa (fun e=>by have:=Yr.out gn e.symm;omega)
          have rm:=(Mi.out.below ma Mi.out.lt).grown Wa (fun e=>by have:=(hbv _ e.symm).1;omega)
          have Tn:∀ x∈Le Oj 17 (Md lj),x<18446744073709551616:=fun x hx=>by have:=pX.out x hx;unfold zb at this;omega
          refine ⟨j,ls++[lj],Vb Oj 17 (Md lj),Le Oj 17 (Md lj),F2,gn,M+nk,fun b=>T b \/ b=gn,cs++[ve (vE ⟨gn,0,vD⟩) nk nk],⟨by rw [hL2,HNK.out],pX.out,by rw [HNK.out],MC, .inr rfl⟩,⟨?_,?_,?_,?_⟩,⟨?_,?_,?_⟩,⟨?_,?_⟩,⟨fun b hb=>?_,fun b hb=>?_,rm,NFR2.out⟩⟩
          ·exact (H2.out.below ma).keep Wa.size fun b hb=>Wa.block b (by have:=FL2.out b hb;omega) (fun e=>NV2.out b e.symm hb)
          ·exact D5 (MJ2.out.trans (Qc ma)) Wa (fun b hb=>by have:=(hbv b hb).1;omega)
          ·exact uf (aD (Md lj) Vy.out) (by rw [Gn.out];exact zR)
          ·have:=ND.out;have:=HNK.out;omega
          ·rw [ET.out];simp [Hg]
          ·rw [EO.out];rfl
          ·have:=HLS.out;simp;omega
          ·rw [Ni];exact Rb
          ·refine zEc (zEe (zM (zM ROWS2.out ma.size fun b _ hl=>ma.block b hl) Wa.size fun b hb hl=>Wa.block b hl (fun e=>(HT.out b hb).2.2.2 e.symm)) fun b hb=>.inl hb) ?_
           exact uM (nK MC hL2 Tn (by simp only [maxLen];omega)) fun b hb=>.inr hb
          ·have qe:=Wa.size
           rcases hb with hb | hb
           ·refine ⟨(HT.out b hb).1,by have:=(HT.out b hb).2.1;omega,NT2.out b hb,fun e=>?_⟩
            rcases Dc with h | h
            ·rw [h] at e;exact (HT.out b hb).2.2.2 e
            ·rw [h] at e;have:=Za e;have:=(HT.out b hb).2.1;omega
           ·subst hb
            refine ⟨EC,by omega,Mh,fun e=>?_⟩
            rcases Dc with h | h
            ·rw [h] at e;have:=Yr.out _ e;omega
            ·rw [h] at e;have:=Za e;omega
          ·rcases Dc with h | h
           ·rw [h] at hb;exact NV2.out b hb
           ·rw [h] at hb
            intro e;have:=Za hb;have:=FL2.out b e;omega
         case measure=>show OQ (ve (vE ⟨gn,0,vD⟩) nk nk)<OQ (ve (vE ⟨gj,0,vD⟩) nj nj);simp only [OQ];have:=HNJ.out;omega
structure cH (d:Nat) (ls:List (List Nat)):Prop where
 d10:d <= 10
 len:ls.length=d+1
 at_:∀ k,k <= d -> (ls.getD k []).length=2^(d-k)
theorem eR:∀ (d:Nat) (O:Ha) (l:List Nat),l.length=2^d -> (Hg d O l).length=d+1 /\ ∀ k,k <= d -> ((Hg d O l).getD k []).length=2^(d-k)
 | 0,O,l,h=>⟨rfl,fun k hk=>by
  obtain rfl:k=0:=by omega
  exact h⟩
 | d+1,O,l,h=>by
  have hn:(Le O 17 (Md l)).length=2^d:=by rw [zy,sK,h,If];omega
  obtain ⟨h1,h2⟩:=eR d (Vb O 17 (Md l)) (Le O 17 (Md l)) hn;refine ⟨by simp [Hg,h1],fun k hk=>?_⟩
  rcases k with _ | k
  ·exact h
  ·have:=h2 k (by omega)
   simpa [Hg,show d+1-(k+1)=d-k by omega] using this
theorem zAr {d:Nat} (O:Ha) {l:List Nat} (hd:d <= 10) (h:l.length=2^d):cH d (Hg d O l):=⟨hd,(eR d O l h).1,(eR d O l h).2⟩
theorem P8 {d:Nat} {ls:List (List Nat)} (h:cH d ls):yp ls=(ls.getD d []).getD 0 0:=by
 unfold yp;have hl:=h.len;rw [List.getLastD_eq_getLast?,List.getLast?_eq_getElem?,Cb (l:=ls),show ls.length-1=d by omega]
theorem QM:∀ (ls:List (List Nat)) (i:Nat),Fi ls i=(List.range (ls.length-1)).map fun k=>(ls.getD k []).getD ((i / 2^k) ^^^ 1) 0
 | [],_=>rfl
 | [_],_=>rfl
 | l :: m :: r,i=>by
  rw [Fi,QM (m :: r) (i / 2)];simp only [xg,Nat.add_sub_cancel];rw [List.range_succ_eq_map,List.map_cons,List.map_map];simp only [List.getD_cons_zero,Nat.pow_zero,Nat.div_one,List.cons.injEq,true_and];refine pz fun k _=>?_
  simp only [Function.comp,List.getD_cons_succ,If];rw [Nat.div_div_eq_div_mul,ze 2]
theorem zIC:∀ b:Fin 1024,bits .xor vq (b.val:Int) 1=((b.val ^^^ 1:Nat):Int):=by decide +kernel
theorem dN {w:vw} {A:Option vy} {n c:Nat} {ls:List (List Nat)} (h:Jg w [ve A n c] ls) {i:Nat} (hi:i<ls.length) :
  ∃ b q A1 n1 c1,A=vE ⟨b,q,vD⟩ /\ b<w.1.size /\ w.cell? ⟨b,q+i,vD⟩=vE (ve A1 n1 c1) /\ n1=(ls.getD i []).length /\ RWd w [ve A1 n1 c1] (ls.getD i []):=by
 obtain ⟨b,q,A1,n1,c1,h1,h2,h3,h4⟩:=Ju (Gj h).2.2.2 hi;have e:ls[i]=ls.getD i []:=by rw [Cb,Xb hi];rfl
 rw [e] at h4;exact ⟨b,q,A1,n1,c1,h1,h2,h3,(Nb h4).1,h4⟩
theorem zAK {w:vw} {A:Option vy} {n c d:Nat} {ls:List (List Nat)} (h:Jg w [ve A n c] ls) (ht:cH d ls) :
  vB prog 139 #[vf #[ve A n c]] w fun e w'=>e=vl (.bool true) /\ vA w.1.size w w':=by
 obtain ⟨rfl,td,Of,-⟩:=Gj h;have hd:=ht.d10;have da:=(Ca w.1.size w).alloc zR (.cells #[ve A ls.length c] 132);have ue:=Blk.new w 132 #[ve A ls.length c];have HR:=zH (zKR da h);have hlen:=ht.len;have HT:=zH ht;have Rr:=zH (show ∀ w,vB prog 135 #[vd vq ((2^d:Nat):Int)] w fun e w'=>e=vl (.bool true) /\ w=w' from fun w=>by have:=vU (2^d) w;rw [YU hd] at this;exact this)
 obtain ⟨b,q,A1,n1,c1,eA,Gb,TE,Fe,-⟩:=dN h (show 0<ls.length by omega)
 rw [ht.at_ 0 (Mb _),Nat.sub_zero] at Fe;rw [ss] at TE;obtain ⟨nn,mg⟩:=zEX (ls.length);rw [<- mg] at HR td da ue hlen |-;rw [<- Fe] at Rr;have En:=zH Fe;have Li:=zH mg;subst eA;have g0:(0:Int)<nn:=by omega
 have gz:((nn:Int) == 0)=false:=by rw [Gd];omega
 have hn11:nn <= 11:=by omega
 have HL:=zH hlen;have HD:=zH hd;clear h ht hd hlen Fe mg td Of;go_enter func139,ntmps139
 go_wp2_with fail
 refine (Rr.out _).mono ?_;rintro _ w1 ⟨rfl,rfl⟩;go_wp2_with fail
 generalize w.alloc _=w1 at da ue HR |-
 go_loop [3,27] (fun s y=>∃ k z:Nat,k <= nn /\ y=vd vq k /\ s=vd vq z /\ Hid (z=if k <= d then 2^(d-k) else 0)) (fun _ y=>nn-(intOf y).toNat)
 case atStart=>exact ⟨0,n1,Mb _,rfl,rfl,by show _=_;rw [Na (Mb _),Nat.sub_zero];exact En.out⟩
 case round =>
  obtain ⟨k,z,hk,rfl,rfl,HZ⟩:=hrel;by_cases ta:k<nn
  ·obtain ⟨b2,q2,A2,n2,c2,eA,Nz,Ss,Vd,-⟩:=dN HR.out (show k<ls.length by have:=Li.out;omega)
   have hkd:k <= d:=by have:=HL.out;omega
   rw [HT.out.at_ k hkd] at Vd;have hz:z=n2:=by rw [Vd,HZ.out,Na hkd]
   subst hz;have Kh:0<z:=by rw [Vd];exact Nat.pow_pos (by omega)
   have kd:z <= 1024:=by rw [Vd];exact xb (Io (by omega) (show d-k <= 10 by have:=HD.out;omega)) (by decide)
   have HZ2:=zH (show z / 2=if k+1 <= d then 2^(d-(k+1)) else 0 by
    rw [Vd];by_cases h1:k+1 <= d
    ·rw [Na h1,show d-k=(d-(k+1))+1 by omega,If];omega
    ·rw [ya h1,show d-k=0 by omega])
   have d1:((z:Int) == 0)=false:=by rw [Gd];omega
   have d2:((z:Int)!=z)=false:=by simp
   have d3:(z:Int).tdiv 2=((z / 2:Nat):Int):=by rw [CJ (by omega)];omega
   obtain ⟨z2,Qe⟩:=zEX (z / 2);rw [<- Qe] at d3 HZ2;have hz2l:z2 <= 512:=by omega
   have g1:(0:Int)<=k:=by omega
   have g2:(k:Int)<nn:=by omega
   injection eA with eA
   injection eA with e1 e2
   subst e1 e2;have Zb:=zH ta;clear Vd Qe Kh ta hkd;go_wp2
   go_round
   case rel=>exact ⟨k+1,z2,by have:=Zb.out;omega,by go_num,by go_num,HZ2⟩
   case measure=>have:=Zb.out;simp [intOf];omega
  ·have e:k=nn:=by omega
   subst e;have hz:z=0:=by rw [HZ.out,ya (by have:=HL.out;omega)]
   subst hz;clear ta hk;go_wp2;go_ret
   exact ⟨rfl,da⟩
theorem zAs {d:Nat} {ls:List (List Nat)} (h:cH d ls) {k:Nat} (hk:k <= d):0<(ls.getD k []).length:=by rw [h.at_ k hk];exact Nat.pow_pos (by omega)
theorem zG1 {w:vw} {A:Option vy} {n c d:Nat} {ls:List (List Nat)} (h:Jg w [ve A n c] ls) (ht:cH d ls) :
  vB prog 63 #[vf #[ve A n c]] w fun e w'=>e=vl (vd vn (yp ls:Int)) /\ vA w.1.size w w':=by
 obtain ⟨rfl,td,Of,-⟩:=Gj h;have da:=(Ca w.1.size w).alloc zR (.cells #[ve A ls.length c] 132);have ue:=Blk.new w 132 #[ve A ls.length c];have hlen:=ht.len;have HW:=zH (fun w1 (hb:vA w.1.size w w1)=>zAK (zKR hb h) ht)
 obtain ⟨b,q,A1,n1,c1,eA,Gb,TE,Fe,Zg⟩:=dN h (show d<ls.length by omega)
 obtain ⟨b1,q1,eA1,dK,MT⟩:=Fg (by have:=(Nb Zg).2.2.2.2;rw [Fe] at this;exact this) (zAs ht zR)
 rw [ss,<- P8 ht] at MT;have Xz:0<n1:=by rw [Fe];exact zAs ht zR
 obtain ⟨nn,mg⟩:=zEX (ls.length);rw [<- mg] at da ue hlen HW td |-;generalize yp ls=rt at *;have hn11:nn <= 11:=by have:=ht.d10;omega
 have e1:vq.wrap ((nn:Int)-1)=(d:Int):=by rw [Wt];omega
 have g0:(0:Int)<n1:=by omega
 have g1:(d:Int)<nn:=by omega
 have g2:(0:Int)<=d:=by omega
 subst eA eA1;have kc:=ue.cell;clear h ht Zg mg hlen Fe Xz td Of;go_enter func63,ntmps63
 go_wp2_with fail
 generalize w.alloc _=w1 at da ue kc |-;refine (HW.out _ da).mono ?_;rintro _ w2 ⟨rfl,Ba⟩;have kc2:=(ja ue Ba).cell;have hb:=pa da Ba;have hcA:=(hb.cell (p:=⟨b,q+d,vD⟩) Gb).trans TE;have WB:=(hb.cell (p:=⟨b1,q1,vD⟩) dK).trans MT;clear kc TE MT da Ba ue;go_wp2;go_ret
 exact ⟨rfl,hb⟩
theorem zFR {w:vw} {A:Option vy} {n c d i:Nat} {ls:List (List Nat)} (h:Jg w [ve A n c] ls) (ht:cH d ls) (hi:i<2^d) (ta:∀ k j,(ls.getD k []).getD j 0<18446744073709551616) :
  vB prog 67 #[vf #[ve A n c],vd vq i] w fun e w'=>∃ v,e=vl v /\ w'.ownsRow w.1.size 22 1 v d (Oa (Fi ls i)) /\ vA w.1.size w w':=by
 obtain ⟨rfl,td,Of,-⟩:=Gj h;have da:=(Ca w.1.size w).alloc zR (.cells #[ve A ls.length c] 132);have ue:=Blk.new w 132 #[ve A ls.length c];have hlen:=ht.len;have HW:=zH (fun w1 (hb:vA w.1.size w w1)=>zAK (zKR hb h) ht)
 have HR:=zH h;have HT:=zH ht;obtain ⟨b,q,A1,n1,c1,eA,Gb,TE,Fe,Zg⟩:=dN h (show 0<ls.length by omega)
 rw [ht.at_ 0 (Mb _),Nat.sub_zero] at Fe;rw [ss] at TE;have hd10:=ht.d10;have HP:=zH (show Fi ls i=(List.range d).map fun k=>(ls.getD k []).getD ((i / 2^k) ^^^ 1) 0 by rw [QM,hlen];rfl)
 obtain ⟨f,hf⟩:∃ f:Nat -> Nat,f=fun k=>(ls.getD k []).getD ((i / 2^k) ^^^ 1) 0:=⟨_,rfl⟩
 rw [<- hf] at HP;have HF:=zH (fun k=>show f k=(ls.getD k []).getD ((i / 2^k) ^^^ 1) 0 by rw [hf])
 obtain ⟨nn,mg⟩:=zEX (ls.length);rw [<- mg] at da ue hlen HW td HR |-;obtain ⟨pl,Xe⟩:=zEX (Fi ls i);rw [<- Xe] at HP |-;have hn11:nn <= 11:=by omega
 have hi10:i<1024:=Kc hi (xb (Io (by omega) hd10) (by decide))
 have e1:vq.wrap ((nn:Int)-1)=(d:Int):=by rw [Wt];omega
 have g0:(0:Int)<nn:=by omega
 have g1:(d:Int)<=c:=by omega
 have g2:(0:Int)<=d:=by omega
 have g3:¬((i:Int)<0):=by omega
 have g3':decide ((i:Int)<0)=false:=db g3;have g4:decide ((n1:Int)<=i)=false:=db (by omega)
 have g4n:decide (n1 <= i)=false:=db (by omega)
 have g4p:¬(n1 <= i):=by omega
 have hcut:∀ w,(Instr.slice 39 (ve A nn c) vD (vE (vd vq d)) vD).run prog w= .ok (ve A d c) w:=fun w=>u9 RY A nn c d (by omega)
 subst eA;have kc:=ue.cell;have HN:=zH hlen;have HI:=zH hi;have Li:=zH mg;have HL64:=zH ta;clear h ht Zg mg hlen td Of hf Xe Fe hi ta;go_enter func67,ntmps67
 go_wp2_with fail
 generalize w.alloc _=w1 at da ue kc |-;refine (HW.out _ da).mono ?_;rintro _ w2 ⟨rfl,Ba⟩;have kc2:=(ja ue Ba).cell;have hb:=pa da Ba;have hcA:=(hb.cell (p:=⟨b,q,vD⟩) Gb).trans TE;clear kc TE da Ba ue HW;go_wp2_with fail
 have jk:w2.ownsRow w.1.size 22 1 (ve vD 0 0) 0 (Oa ((List.range 0).map f)):=⟨rfl, .inl ⟨rfl,rfl⟩⟩;go_loopw [1,5,32] (fun iv pv y wr=>∃ k:Nat,k <= d /\ y=vd vq k /\ iv=vd vq ((i / 2^k:Nat):Int) /\ wr.ownsRow w.1.size 22 1 pv k (Oa ((List.range k).map f)) /\ vA w.1.size w wr) (fun _ _ y _=>d-(intOf y).toNat)
 case atStart=>exact ⟨0,Mb _,rfl,by simp,jk,hb⟩
 case round =>
  clear jk hb hcA kc2;obtain ⟨k,hk,rfl,rfl,Aa,hb⟩:=hrel;by_cases ta:k<d
  ·obtain ⟨b2,q2,A2,n2,c2,eA,Nz,Ss,Vd,Wm⟩:=dN (zKR hb HR.out) (show k<ls.length by have:=Li.out;have:=HN.out;omega)
   rw [HT.out.at_ k (by omega)] at Vd
   injection eA with eA
   injection eA with e3 e4
   subst e3 e4;have hj:i / 2^k<2^(d-k):=by
    rw [Nat.div_lt_iff_lt_mul (Nat.pow_pos (by omega)),<- Nat.pow_add,show d-k+k=d by omega]
    exact HI.out
   have hx:(i / 2^k) ^^^ 1<n2:=by rw [Vd];exact Nat.xor_lt_two_pow hj (Nat.one_lt_two_pow (by omega))
   have hlr:=(Nb Wm).2.2.2.2;rw [(Nb Wm).1] at hlr Ss hx;obtain ⟨b3,q3,eA3,hbl3,MO⟩:=Fg hlr hx;rw [<- HF.out k] at MO;have Kk:f k<18446744073709551616:=by rw [HF.out];exact HL64.out k _
   have Rm:i / 2^(k+1)=i / 2^k / 2:=by rw [If,Nat.div_div_eq_div_mul]
   have Yh:i / 2^k<1024:=Nat.lt_of_le_of_lt (qz _ _) hi10;have hxo:=zIC ⟨i / 2^k,Yh⟩;simp only at hxo;obtain ⟨j,Uz⟩:=zEX (i / 2^k);rw [<- Uz] at hxo MO hx Rm Yh |-;obtain ⟨jx,hjx⟩:=zEX (j ^^^ 1);rw [<- hjx] at hxo MO hx;obtain ⟨n3,Um⟩:=zEX ((ls.getD k []).length);rw [<- Um] at Ss hx;obtain ⟨z,hz⟩:=zEX (f k);rw [<- hz] at MO Kk;have HRS:=zH (show (List.range k).map f++[z]=(List.range (k+1)).map f by rw [hz];exact zGJ f k)
   have g5:(0:Int)<=jx:=by omega
   have g6:(jx:Int)<n3:=by omega
   have g7:(0:Int)<=k:=by omega
   have g8:(k:Int)<d:=by omega
   have g9:(j:Int).tdiv 2=((j / 2:Nat):Int):=by rw [CJ (by omega)];omega
   obtain ⟨j2,Tm⟩:=zEX (j / 2);rw [<- Tm] at g9 Rm;have hj2l:j2 <= 1024:=by omega
   have HDV:=zH Rm;have Zb:=zH ta;subst eA3;clear hlr Wm Vd hj Uz hjx Um hz Tm Rm ta hx;go_wp2_with (at_builtin;refine uk rfl _ _ rfl Ls rfl (Aa.alloc _) rfl (Ew _ _ _) (oq [z]) (by omega) (by simp;have:=hb.size;omega) ?_)
   intro v' wn Rb Wa Dc;have ma:=(Ca wr.1.size wr).alloc zR (.cells #[vd vn z] 22);have hB:=tp (Aa.alloc _) Wa (by simp;have:=hb.size;omega)
   replace hb:=(AL hb ma hb.size).trans hB;replace Aa:wn.ownsRow w.1.size 22 1 v' (k+1) (Oa ((List.range (k+1)).map f)):=MF (b:=[z]) Rb HRS.out;clear Rb Wa Dc ma hB;go_wp2
   go_roundw
   case rel=>exact ⟨k+1,by have:=Zb.out;omega,by go_num,by first | (rw [HDV.out];done) | (rw [HDV.out];go_num),Aa,hb⟩
   case measure=>have:=Zb.out;simp [intOf];omega
  ·have e:k=d:=by omega
   subst e;clear ta hk;obtain ⟨Av,cv,rfl,-⟩:=de Aa;have ox:=zH (show Oa pl=Oa ((List.range k).map f) by rw [HP.out])
   rw [<- ox.out] at Aa;have cu:=zH Aa;clear Aa;go_wp2;go_ret
   exact ⟨_,rfl,cu.out,hb⟩
def yA (root n i oc:Nat) (leaf path:List Nat):Bool :=
 uw n&&decide (i<n)&&decide (2^path.length=n)&&decide (root<zb)&&decide (oc<zb)&&Xc leaf&&Xc path
theorem zF7 (root n i oc:Nat) (A B:Option vy) (a c b e:Nat) (leaf path:List Nat) (w:vw) (hl:RWd w [ve A a c] leaf) (hp:RWd w [ve B b e] path) (Xe:path.length <= 62) :
  vB prog 254 #[vd vn root,vd vq n,vd vq i,vf #[ve A a c,vd vn oc,ve B b e]] w fun e w'=>e=vl (.bool (yA root n i oc leaf path)) /\ vA w.1.size w w':=by
 have Gb:=(Nb hp).1;subst Gb;have da:=(Ca w.1.size w).alloc zR (.cells #[ve A a c,vd vn oc,ve B path.length e] 274);have ue:=Blk.new w 274 #[ve A a c,vd vn oc,ve B path.length e];have Rr:=zH (fun w=>vU n w)
 have Ip:=zH (fun w1 (hb:vA w.1.size w w1)=>QP A a c leaf w1 (Bb hb hl))
 have ji:=zH (fun w1 (hb:vA w.1.size w w1)=>QP B path.length e path w1 (Bb hb hp))
 have hV:yA root n i oc leaf path=(uw n&&decide (i<n)&&decide (2^path.length=n)&&decide (root<zb)&&decide (oc<zb)&&Xc leaf&&Xc path):=rfl;obtain ⟨pv,pF⟩:=zEX (yA root n i oc leaf path);rw [<- pF] at hV |-;obtain ⟨np,Zz⟩:=zEX (path.length);obtain ⟨ol,hol⟩:=zEX (Xc leaf);obtain ⟨op,hop⟩:=zEX (Xc path);obtain ⟨on,hon⟩:=zEX (uw n);rw [<- Zz] at Xe da ue ji hV |-;rw [<- hol] at Ip hV;rw [<- hop] at ji hV;rw [<- hon] at Rr hV;have HV:=zH hV;have kc:=ue.cell;have f1:¬((i:Int)<0):=by omega
 have f1':decide ((i:Int)<0)=false:=db f1;clear pF Zz hol hop hon hV hl hp;rcases on with _ | _
 ·have HF:=zH (show pv=false by rw [HV.out];rfl)
  clear HV Ip ji;go_enter func254,ntmps254
  go_wp2_with fail
  generalize w.alloc _=w1 at da ue kc |-;refine (Rr.out _).mono ?_;rintro _ w2 ⟨rfl,rfl⟩;go_wp2_with fail
  go_ret
  exact ⟨by rw [HF.out];rfl,da⟩
 ·by_cases Rc:i<n
  ·have t1:¬((n:Int)<=i):=by omega
   have t1':decide ((n:Int)<=i)=false:=db t1;have t1n:decide (n <= i)=false:=db (by omega)
   obtain ⟨pw,Vm⟩:=zEX (2^np);have hpl2:pw<9223372036854775808:=by rw [Vm];exact Nat.lt_of_le_of_lt (Io (by omega) Xe) (by decide)
   have hw:wrap64 ((2:Int)^np)=(pw:Int):=by
    rw [show (2:Int)^np=(pw:Int) by rw [Vm,Bo];rfl]
    unfold wrap64;omega
   rw [<- Vm] at HV;clear Vm hpl2;by_cases tC:pw=n
   ·have t2:((pw:Int)!=n)=false:=by subst tC;simp
    by_cases hr:root<zb
    ·by_cases hs:oc<zb
     ·have t3:decide ((root:Int)<18446744069414584321)=true:=tb (by unfold zb at hr;omega)
      have t4:decide ((oc:Int)<18446744069414584321)=true:=tb (by unfold zb at hs;omega)
      rcases ol with _ | _
      ·have HF:=zH (show pv=false by rw [HV.out];simp)
       clear HV hr hs tC;go_enter func254,ntmps254
       go_wp2_with fail
       generalize w.alloc _=w1 at da ue kc |-;refine (Rr.out _).mono ?_;rintro _ w2 ⟨rfl,rfl⟩;go_wp2_with fail
       refine (Ip.out _ da).mono ?_;rintro _ w2 ⟨rfl,rfl⟩;go_wp2_with fail
       go_ret
       exact ⟨by rw [HF.out];rfl,da⟩
      ·have HF:=zH (show pv=op by rw [HV.out,tb Rc,tb tC,tb hr,tb hs];simp)
       clear HV hr hs tC;go_enter func254,ntmps254
       go_wp2_with fail
       generalize w.alloc _=w1 at da ue kc |-;refine (Rr.out _).mono ?_;rintro _ w2 ⟨rfl,rfl⟩;go_wp2_with fail
       refine (Ip.out _ da).mono ?_;rintro _ w2 ⟨rfl,rfl⟩;go_wp2_with fail
       refine (ji.out _ da).mono ?_;rintro _ w2 ⟨rfl,rfl⟩;go_wp2_with fail
       go_ret
       exact ⟨by rw [HF.out];rfl,da⟩
     ·have HF:=zH (show pv=false by rw [HV.out,db hs];simp)
      have t3:decide ((root:Int)<18446744069414584321)=true:=tb (by unfold zb at hr;omega)
      have t4:decide ((oc:Int)<18446744069414584321)=false:=db (by unfold zb at hs;omega)
      clear HV Ip ji hr hs tC;go_enter func254,ntmps254
      go_wp2_with fail
      generalize w.alloc _=w1 at da ue kc |-;refine (Rr.out _).mono ?_;rintro _ w2 ⟨rfl,rfl⟩;go_wp2_with fail
      go_ret
      exact ⟨by rw [HF.out];rfl,da⟩
    ·have HF:=zH (show pv=false by rw [HV.out,db hr];simp)
     have t3:decide ((root:Int)<18446744069414584321)=false:=db (by unfold zb at hr;omega)
     clear HV Ip ji hr tC;go_enter func254,ntmps254
     go_wp2_with fail
     generalize w.alloc _=w1 at da ue kc |-;refine (Rr.out _).mono ?_;rintro _ w2 ⟨rfl,rfl⟩;go_wp2_with fail
     go_ret
     exact ⟨by rw [HF.out];rfl,da⟩
   ·have HF:=zH (show pv=false by rw [HV.out,db tC];simp)
    have t2:((pw:Int)!=n)=true:=by rw [Bf];omega
    clear HV Ip ji tC;go_enter func254,ntmps254
    go_wp2_with fail
    generalize w.alloc _=w1 at da ue kc |-;refine (Rr.out _).mono ?_;rintro _ w2 ⟨rfl,rfl⟩;go_wp2_with fail
    go_ret
    exact ⟨by rw [HF.out];rfl,da⟩
  ·have HF:=zH (show pv=false by rw [HV.out,db Rc];simp)
   have t1:(n:Int)<=i:=by omega
   have t1':decide ((n:Int)<=i)=true:=tb t1;have t1n:decide (n <= i)=true:=tb (by omega)
   clear HV Ip ji;go_enter func254,ntmps254
   go_wp2_with fail
   generalize w.alloc _=w1 at da ue kc |-;refine (Rr.out _).mono ?_;rintro _ w2 ⟨rfl,rfl⟩;go_wp2_with fail
   go_ret
   exact ⟨by rw [HF.out];rfl,da⟩
def Nr (w:vw) (g:Nat) (O:Ha) (F:Nat -> Prop) (lab:Nat) (l:List Nat) (e:Ending) (w':vw):Prop :=
 e=vl (.tuple #[vd vn (((Ri O lab l).getD 0:Nat):Int), .bool (Ri O lab l).isSome]) /\ ∃ F',OrcAt w' g (Kf O lab l) F' /\ Moved F F' w w'
theorem zBv {w:vw} {g B:Nat} {O:Ha} {F:Nat -> Prop} (h:OrcAt w g O F) (hi:O.ideal=false) (hB:w.cell? ⟨B,0,vD⟩=vE (.pointer (vE ⟨g,0,vD⟩))) (lab:Nat) (l:List Nat) (A:Option vy) (n c:Nat) {K:Nat -> Prop} (hl:Ue K w (ve A n c) l) (hK:∀ b,K b -> ¬F b)
  (oh:lab<18446744073709551616) (hlen:l.length <= 1000000) (Ta:0<l.length) (hO:pc O 1000000) :
  vB prog 255 #[vd vn lab,ve A n c, .pointer (vE ⟨B,0,vD⟩)] w (Nr w g O F lab l):=by
 have HH:=zH (aM h lab l A n c hl hK oh hlen (.inl Ta) hO.1 hO.2);have e1:Ri O lab l=vE (me O lab l):=by unfold Ri;rw [hi];rfl
 have e2:Kf O lab l=Pc O lab l:=by unfold Kf;rw [hi];rfl
 unfold Nr;rw [e1,e2];simp only [Option.getD_some,Option.isSome_some];clear h hl hK oh hlen Ta hO e1 e2 hi;go_enter func255,ntmps255
 go_wp2_with fail
 refine HH.out.mono ?_;rintro _ w1 ⟨rfl,h1⟩;have H1:=zH h1;clear h1;go_wp2
 go_ret2
 exact ⟨rfl,H1.out⟩
theorem zBt {w:vw} {g:Nat} {O:Ha} {F:Nat -> Prop} (h:OrcAt w g O F) (hi:O.ideal=true) (lab:Nat) (l:List Nat) (A:Option vy) (n c:Nat) {K:Nat -> Prop} (hl:Ue K w (ve A n c) l)
  (oh:lab<18446744073709551616) (hlen:l.length <= 1000000) (hO:pc O 1000000) :
  vB prog 109 #[.pointer (vE ⟨g,0,vD⟩),vd vn lab,ve A n c] w (Nr w g O F lab l):=by
 have e1:Ri O lab l=zr O lab l:=by unfold Ri;rw [hi];rfl
 have e2:Kf O lab l=O:=by unfold Kf;rw [hi];rfl
 refine (zFT h lab l A n c (ak hl) oh hlen (.inr hi) hO.1).mono fun e w' hh=>?_
 unfold Nr;rw [e1,e2];exact ⟨hh.1,F,h.below hh.2,Qc hh.2⟩
theorem UX:∀ b:Fin 1024,bits .and vq (b.val:Int) 1=((b.val%2:Nat):Int):=by decide +kernel
theorem VN (O:Ha) (lab:Nat) (l:List Nat):(Kf O lab l).ideal=O.ideal:=by
 unfold Kf;split
 ·rfl
 ·exact BT O lab l
theorem dJ {O:Ha} {k:Nat} (h:pc O k) (lab:Nat) (l:List Nat):pc (Kf O lab l) (k+1):=by
 unfold Kf;split
 ·exact uf h (Nat.le_succ k)
 ·exact pq h lab l
theorem eY {O:Ha} (h:Gl O) {lab a:Nat} {l:List Nat} (e:Ri O lab l=vE a):a<zb:=by
 unfold Ri zr at e;split at e
 ·split at e
  ·split at e
   ·rename_i b hb
    injection e with e
    subst e;unfold Ve at hb;cases hc:O.qs.find? (Ft lab l) with
    | none=>rw [hc] at hb;cases hb
    | some x =>
     rw [hc] at hb
     injection hb with hb
     rw [<- hb];exact h x (List.mem_of_find?_eq_some hc)
   ·try (cases e;done)
    all_goals split at e
    all_goals try (cases e;done)
    all_goals (injection e with e;rw [<- e];exact nN lab l)
  ·cases e
 ·injection e with e
  rw [<- e];exact Mz h lab l
theorem jR {p:Nat} {r:List Nat} {O:Ha} {lab i a:Nat} {el:List Nat} (h:Ri O lab el=vE a) :
  wm (p :: r) O lab el i=wm r (Kf O lab el) 17 (if i%2=1 then [p,a] else [a,p]) (i / 2) /\ El (p :: r) O lab el i=El r (Kf O lab el) 17 (if i%2=1 then [p,a] else [a,p]) (i / 2):=by
 simp only [wm,El,h,Option.bind_some,and_self]
theorem zAI {r:List Nat} {O:Ha} {lab i:Nat} {el:List Nat} (h:Ri O lab el=vD):wm r O lab el i=vD /\ El r O lab el i=Kf O lab el:=by
 cases r <;> simp [wm,El,h]
theorem kY {B:Nat} {w u:vw} (hB:B <= w.1.size) (h:vA w.drew.1.size w.drew u):vA B w u:=⟨h.os,h.tape,h.output,h.size,fun b hb=>h.block b (by show b<w.1.size;omega)⟩
theorem CO {w4 wn:vw} {gq:Nat} {x:vx} {o:Obj} {row:Option Nat} (hg:((w4.setCell ⟨gq,2,vD⟩ x).alloc o).grownBy wn row):(∀ b,b<w4.1.size -> b≠gq -> row≠vE b -> wn.1[b]?=w4.1[b]?) /\ w4.1.size <= wn.1.size /\ wn.os=w4.os /\ wn.tape=w4.tape /\ wn.output=w4.output:=by
 have hs:((w4.setCell ⟨gq,2,vD⟩ x).alloc o).1.size=w4.1.size+1:=by simp [vF]
 refine ⟨fun b hb hn hr=>?_,by have:=hg.size;omega,hg.os,hg.tape,hg.output⟩
 exact ((hg.block b (by omega) (fun e=>hr e.symm)).trans (Below.heap_alloc _ o b (by simpa [vF] using hb))).trans (ug w4 _ x b hn)
theorem PU {F F':Nat -> Prop} {w0 w wn:vw} (m:Moved F F' w0 w) (h:(∀ b,b<w0.1.size -> wn.1[b]?=w.1[b]?) /\ w.1.size <= wn.1.size /\ wn.os=w.os /\ wn.tape=w.tape /\ wn.output=w.output):Moved F F' w0 wn :=
 ⟨h.2.2.1.trans m.os,h.2.2.2.1.trans m.tape,h.2.2.2.2.trans m.output,xb m.size h.2.1,fun b hb hn=>(h.1 b hb).trans (m.block b hb hn),m.foot⟩
def wL (w:vw) (g gx gq:Nat) (F:Nat -> Prop) (id:Bool) (i np:Nat) (path:List Nat) (xc:Array vx) (rv:Option Nat) (ro:Ha) (av st:vx) (wr:vw):Prop :=
 ∃ (k lab n:Nat) (el:List Nat) (Oc:Ha) (Fc Ke:Nat -> Prop) (an:Int) (Ae:Option vy) (ce:Nat) (cs:List vx),
  (k <= np /\ st=vd vq k /\ lab<18446744073709551616 /\ 0<el.length /\ el.length <= 100001) /\
  (OrcAt wr g Oc Fc /\ Moved F Fc w wr /\ Oc.ideal=id /\ pc Oc (300000+k)) /\
  (Blk wr gq 95 #[vd vn lab,ve Ae el.length ce,vd vn an] /\ ¬Fc gq) /\
  (Ue Ke wr (ve Ae el.length ce) el /\ ∀ b,Ke b -> b<wr.1.size /\ ¬Fc b /\ b≠gq) /\
  (Blk wr gx 274 xc /\ ¬Fc gx) /\
  (wr.ownsRow (gq+1) 95 3 av n cs /\ n <= k /\ ∀ b,av.ownBlock=vE b -> ¬Fc b /\ ¬Ke b) /\
  rv=wm (path.drop k) Oc lab el (i / 2^k) /\ ro=El (path.drop k) Oc lab el (i / 2^k)
theorem DO {w w4 wn w9:vw} {g gx gq i np k n:Nat} {F Fd:Nat -> Prop} {O':Ha} {id:Bool} {path el':List Nat} {xc:Array vx} {rv:Option Nat} {ro:Ha} {u v':vx} {Nj:List vx}
  (H4:OrcAt w4 g O' Fd) (M5:Moved F Fd w w4) (hid:O'.ideal=id) (hO:pc O' (300000+(k+1)))
  (fm:∀ b,b<w4.1.size -> b≠gq -> u.ownBlock≠vE b -> wn.1[b]?=w4.1[b]?) (fs:w4.1.size <= wn.1.size /\ wn.os=w4.os /\ wn.tape=w4.tape /\ wn.output=w4.output)
  (yw:∀ b,u.ownBlock=vE b -> ¬Fd b) (Cj:∀ b,u.ownBlock=vE b -> gq+1 <= b) (tw:¬Fd gq) (YC:¬Fd gx) (Ck:Blk w4 gx 274 xc) (Mk:gx<gq) (hw:w.1.size <= gx)
  (own:wn.ownsRow (gq+1) 95 3 v' (n+1) Nj) (Dc:v'.ownBlock=u.ownBlock \/ v'.ownBlock=vE (w4.1.size+1)) (hn:n <= k) (hk:k+1 <= np)
  (a9:∀ b,b<wn.1.size -> b≠gq -> w9.1[b]?=wn.1[b]?) (s9:wn.1.size<w9.1.size) (o9:w9.os=wn.os /\ w9.tape=wn.tape /\ w9.output=wn.output)
  (OC:Blk w9 gq 95 #[vd vn 17,ve (vE ⟨wn.1.size,0,vD⟩) 2 2,vd vn 0]) (NC:Blk w9 wn.1.size 22 (Oa el').toArray) (Jk:el'.length=2) (hel64:∀ x∈el',x<18446744073709551616) (hgq4:gq<w4.1.size)
  (Ox:rv=wm (path.drop (k+1)) O' 17 el' (i / 2^(k+1))) (Nx:ro=El (path.drop (k+1)) O' 17 el' (i / 2^(k+1))) :
  wL w g gx gq F id i np path xc rv ro v' (vd vq ((k+1:Nat):Int)) w9:=by
 have ag:∀ b,b<w4.1.size -> b≠gq -> u.ownBlock≠vE b -> w9.1[b]?=w4.1[b]?:=fun b h1 h2 h3=>(a9 b (by have:=fs.1;omega) h2).trans (fm b h1 h2 h3)
 have hgx4:=Ck.lt;have f1:=fs.1;refine ⟨k+1,17,n+1,el',O',Fd,fun b=>b=wn.1.size,0,vE ⟨wn.1.size,0,vD⟩,2,Nj,⟨hk,rfl,by decide,by omega,by omega⟩,⟨?_,?_,hid,hO⟩,⟨by rw [Jk];exact OC,tw⟩,⟨by rw [Jk];exact nK NC Jk hel64 (by simp [maxLen]),fun b hb=>?_⟩,⟨?_,YC⟩,⟨?_,by omega,fun b hb=>?_⟩,Ox,Nx⟩
 ·exact H4.keep (by omega) fun b hb=>ag b (H4.lt b hb) (fun e=>tw (by rw [<- e];exact hb)) (fun e=>yw b e hb)
 ·exact PU M5 ⟨fun b hb=>ag b (by have:=M5.size;omega) (by omega) (fun e=>by have:=Cj b e;omega),by omega,o9.1.trans fs.2.1,o9.2.1.trans fs.2.2.1,o9.2.2.trans fs.2.2.2⟩
 ·subst hb
  exact ⟨s9,fun e=>by have:=H4.lt _ e;omega,by omega⟩
 ·exact (ag gx hgx4 (by omega) (fun e=>by have:=Cj gx e;omega)).trans Ck
 ·exact di own fun b hb=>a9 b (own.lt b hb).2 (fun e=>by have:=(own.lt b hb).1;omega)
 ·have h2:=(own.lt b hb).2
  refine ⟨fun e=>?_,fun e=>by omega⟩
  rcases Dc with h | h
  ·rw [h] at hb;exact yw b hb e
  ·rw [h] at hb;have:=Za hb;have:=H4.lt b e;omega
theorem zDf {w:vw} {g B:Nat} {O:Ha} {F K:Nat -> Prop} (h:OrcAt w g O F) (hid:O.ideal=false) (hB:Blk w B 43 #[.pointer (vE ⟨g,0,vD⟩)]) (nFB:¬F B) (root i oc:Nat) (A Bp:Option vy) (a c pb pe:Nat) (leaf path:List Nat) (hl:Ue K w (ve A a c) leaf) (hp:Ue K w (ve Bp pb pe) path)
  (hK:∀ b,K b -> b<w.1.size /\ ¬F b) (hlen:leaf.length <= 100000) (Xe:path.length <= 10) (hi:i<1024) (hO:pc O 300000) (pM:oc<18446744073709551616) :
  vB prog 257 #[.func (.func 255) #[] #[.pointer (vE ⟨B,0,vD⟩)],vd vn root,vd vq i,vf #[ve A a c,vd vn oc,ve Bp pb pe]] w fun e w'=>∃ v F',e=vl (.tuple #[v, .bool (wm path O 16 (oc :: leaf) i == vE root)]) /\
   OrcAt w' g (El path O 16 (oc :: leaf) i) F' /\ Moved F F' w w':=by
 have ma:=(Ca w.1.size w).alloc zR (.cells #[ve A a c,vd vn oc,ve Bp pb pe] 274);have kx:=Blk.new w 274 #[ve A a c,vd vn oc,ve Bp pb pe];have Xr:=zH (fun w1 (hb:vA w.1.size w w1)=>gW oc A a c leaf w1 (ak (dn hl hb)) (by omega))
 have H:=zH h;have HL:=zH hl;have HP:=zH hp;have HK:=zH hK;have Rg:=zH hlen;have HO:=zH hO;have dx:=zH hid;obtain ⟨rv,Ag⟩:=zEX (wm path O 16 (oc :: leaf) i);obtain ⟨ro,af⟩:=zEX (El path O 16 (oc :: leaf) i);rw [<- Ag,<- af];have yo:=zH Ag;have ff:=zH af;have BJ:=zH pM;have kc:=kx.cell;have HB:=zH hB;have mx:=zH nFB;clear hB nFB;clear h hl hp hK hlen hO hid Ag af pM;go_enter func257,ntmps257
 go_wp2_with fail
 generalize w.alloc _=w1 at ma kx kc |-;refine (Xr.out _ ma).mono ?_;rintro _ w2 ⟨v,rfl,hv,Ba⟩;obtain ⟨Av,cv,rfl,-⟩:=de hv;go_wp2_with fail
 have SB:=(Ca w2.1.size w2).alloc zR (.cells #[vd vn 16,ve Av (a+1) cv,vd vn 0] 95);have kq:=Blk.new w2 95 #[vd vn 16,ve Av (a+1) cv,vd vn 0];have Jb:=pa ma Ba;have VB:=pa Jb SB;have l1:w.1.size<w1.1.size:=kx.lt;have l2:=Ba.size;have Mk:w.1.size<w2.1.size:=by omega
 replace kx:=(ja kx Ba).below SB Mk;have Tn:∀ x∈oc :: leaf,x<18446744073709551616:=sj BJ.out (by obtain ⟨A',c',e',-,-,h9⟩:=nA HL.out;exact h9)
 have Pk:=fun b hb=>hv.lt b hb
 have Wo:=dn (PI hv Tn) SB;have dq:=nA HP.out;generalize w2.alloc _=w3 at VB kx kq Wo |-;generalize hgq:w2.1.size=gq at kq Mk |-;obtain ⟨gx,oI⟩:=zEX (w.1.size);rw [<- oI] at kx Mk |-;have Ki:=zH oI;have Wq:pb=path.length:=by obtain ⟨A',c',e',-⟩:=dq;injection e' with _ e2 _;
 clear oI ma SB Ba kc hv Jb Tn dq;subst Wq;have Tw:=zH (show a=leaf.length by obtain ⟨A',c',e',-⟩:=nA HL.out;injection e' with _ e2 _)
 have hX:∀ b,b<w.1.size -> b≠gq /\ b≠gx:=fun b hb=>by have:=Ki.out;omega
 have YI:∀ b,w.1.size <= b -> ¬F b:=fun b hb hf=>by have:=H.out.lt b hf;omega
 have iE:wL w g gx gq F false i path.length path #[ve A a c,vd vn oc,ve Bp path.length pe] rv ro (ve vD 0 0) (vd vq 0) w3:=by
  refine ⟨0,16,0,oc :: leaf,O,F,fun b=>(ve Av (a+1) cv).ownBlock=vE b,0,Av,cv,[],⟨Mb _,rfl,by decide,by simp,by have:=Rg.out;simp;omega⟩,⟨H.out.below VB,Qc VB,dx.out,HO.out⟩,⟨?_,YI gq (by have:=Ki.out;omega)⟩,⟨?_,fun b hb=>?_⟩,⟨kx,YI gx (by have:=Ki.out;omega)⟩,⟨⟨rfl, .inl ⟨rfl,rfl⟩⟩,zR,fun b hb=>by simp [Value.ownBlock] at hb⟩,?_,?_⟩
  ·rw [xg,<- Tw.out];exact kq
  ·rw [xg,<- Tw.out];exact Wo
  ·have:=Pk b hb
   have:=kq.lt;exact ⟨by omega,YI b (by omega),by omega⟩
  ·rw [yo.out];simp
  ·rw [ff.out];simp
 clear Wo kq kx VB Pk l1 l2 hgq yo ff HO dx;go_loopw [11,12] (fun av st wr=>wL w g gx gq F false i path.length path #[ve A a c,vd vn oc,ve Bp path.length pe] rv ro av st wr) (fun _ st _=>path.length+1-(intOf st).toNat)
 case atStart=>exact iE
 case round =>
  clear iE;obtain ⟨k,lab,n,el,Oc,Fc,Ke,an,Ae,ce,cs,⟨hk,rfl,oh,hel0,Jk⟩,⟨h1,m1,pI,Pn⟩,⟨kq,SC⟩,⟨Wo,FE⟩,⟨kx,UC⟩,⟨own,yg,Zx⟩,Ox,Nx⟩:=hrel;have HASK:=zH (show ∀ e' w',Nr wr g Oc Fc lab el e' w' -> Nr wr g Oc Fc lab el e' w' from fun _ _ h=>h)
  have xq:=zH (show vB prog 255 #[vd vn lab,ve Ae el.length ce, .pointer (vE ⟨B,0,vD⟩)] wr (Nr wr g Oc Fc lab el) from zBv h1 pI ((HB.out.moved m1 mx.out).cell 0) lab el Ae el.length ce Wo (fun b hb=>(FE b hb).2.1) oh (by omega) hel0 (uf Pn (by omega)))
  have To:=kq.cell;have hfq:=kq.frozen;have hqx:gx≠gq:=by omega
  have HKe:=zH FE;have Uw:=zH Zx;have HKE:=zH Wo;have M1:=zH m1;have KQ:=zH kq;have KX:=zH kx;have cu:=zH own;have Wy:=zH Pn;have H1:=zH h1;have hnk2:n <= 10:=by omega
  have ib:=kq.lt;rcases hq:Ri Oc lab el with _ | Hc
  ·obtain ⟨s1,s2⟩:=zAI (r:=path.drop k) (i:=i / 2^k) hq
   have Ag:rv=vD:=by rw [Ox,s1]
   have af:ro=Kf Oc lab el:=by rw [Nx,s2]
   have xq:=zH (show vB prog 255 #[vd vn lab,ve Ae el.length ce, .pointer (vE ⟨B,0,vD⟩)] wr (fun e w'=>e=vl (.tuple #[vd vn 0, .bool false]) /\ ∃ F',OrcAt w' g (Kf Oc lab el) F' /\ Moved Fc F' wr w') from by have:=xq.out;unfold Nr at this;rw [hq] at this;exact this)
   have yo:=zH Ag;have ff:=zH af;clear Ox Nx s1 s2 hq Ag af Wo FE Zx m1 kq kx own Pn h1;go_wp2_with fail
   refine xq.out.mono ?_;rintro _ w4 ⟨rfl,Fd,h4,m4⟩;have eh:=zH (show OrcAt w4 g ro Fd /\ Moved F Fd w w4 from by rw [ff.out];exact ⟨h4,M1.out.trans m4⟩)
   clear h4 m4;go_wp2
   go_ret2
   exact ⟨_,Fd,by rw [yo.out];rfl,eh.out⟩
  ·have xq:=zH (show vB prog 255 #[vd vn lab,ve Ae el.length ce, .pointer (vE ⟨B,0,vD⟩)] wr (fun e w'=>e=vl (.tuple #[vd vn Hc, .bool true]) /\ ∃ F',OrcAt w' g (Kf Oc lab el) F' /\ Moved Fc F' wr w') from by have:=xq.out;unfold Nr at this;rw [hq] at this;exact this)
   have HQ:=zH hq;have HAN:=zH (eY h1.ok.ans hq);have TA:=zH Ox;have RA:=zH Nx;clear Ox Nx hq Wo FE Zx m1 kq kx own Pn h1;by_cases hkn:k=path.length
   ·subst hkn
    have Ag:rv=vE Hc:=by rw [TA.out,List.drop_length];exact HQ.out
    have af:ro=Kf Oc lab el:=by rw [RA.out,List.drop_length];rfl
    obtain ⟨res,Vv⟩:=zEX ((rv == vE root));have dres:((Hc:Int)==root)=res:=by
     rw [Vv,Ag];by_cases h:Hc=root
     ·subst h;simp
     ·have h2:((Hc:Int)==root)=false:=by rw [Gd];omega
      rw [h2];symm;simpa using h
    have dkk:(((path.length:Nat):Int) == (path.length:Int))=true:=by simp
    have sx:=zH Vv.symm;have ff:=zH af;clear Vv Ag af TA RA;go_wp2_with fail
    refine xq.out.mono ?_;rintro _ w4 ⟨rfl,Fd,h4,m4⟩;have ai:=KQ.out.moved m4 SC;have pk:=TF cu.out m4 (fun b hb=>(Uw.out b hb).1)
    have tw:=Sd m4 ib SC;have YC:=Sd m4 KX.out.lt UC;have yw:∀ b,u11.ownBlock=vE b -> ¬Fd b:=fun b hb=>Sd m4 (cu.out.lt b hb).2 (Uw.out b hb).1
    have Cj:∀ b,u11.ownBlock=vE b -> gq+1 <= b:=fun b hb=>(pk.lt b hb).1
    have M5:=zH (M1.out.trans m4);have Xn:(w4.setCell ⟨gq,2,vD⟩ (vd vn Hc)).ownsRow (gq+1) 95 3 u11 n cs:=di pk fun b hb=>ug w4 _ _ b (fun e=>by have:=Cj b hb;simp at e;omega)
    have H4:=zH h4;have Rs:=ai.cell;have XE:=ai.frozen;have Ck:=zH (KX.out.moved m4 UC);have SI:=Ck.out.cell;have Hu:=ai.set_ 2 (vd vn Hc);have Pf:=Hu.cell;have VI:gq<w4.1.size:=ai.lt;have KQ4:=zH ai;have BI:(w4.setCell ⟨gq,2,vD⟩ (vd vn Hc)).1.size=w4.1.size:=by simp [vF]
    have uC:Rd ((w4.setCell ⟨gq,2,vD⟩ (vd vn Hc)).alloc (.cells #[vd vn lab,ve Ae el.length ce,vd vn Hc] 95)) 3 (vE ⟨w4.1.size,0,vD⟩) 1 [vd vn lab,ve Ae el.length ce,vd vn Hc]:=by
     have:=XM (w4.setCell ⟨gq,2,vD⟩ (vd vn Hc)) (vd vn lab) (ve Ae el.length ce) (vd vn Hc) 95;rw [BI] at this;exact this
    clear h4 m4 ai pk To hfq;go_wp2_with (at_builtin;refine uk rfl _ _ rfl NL rfl (Xn.alloc _) rfl uC (by intro u hu;simp at hu;rcases hu with rfl | rfl | rfl <;> rfl) (by omega) (by simp;omega) ?_)
    intro v' wn Rb Wa Dc;obtain ⟨fm,fs⟩:=CO Wa;have eh:=zH (show OrcAt wn g ro Fd /\ Moved F Fd w wn from by
     rw [ff.out];refine ⟨H4.out.keep fs.1 fun b hb=>fm b (H4.out.lt b hb) (fun e=>tw (by rw [<- e];exact hb)) (fun e=>yw b e hb),PU M5.out ⟨fun b hb=>fm b (by have:=M5.out.size;omega) (hX b hb).1 (fun e=>by have:=Cj b e;have:=(hX b hb);have:=Ki.out;omega),fs⟩⟩)
    have nh:∀ j,wn.cell? ⟨gx,j,vD⟩=_:=fun j=>(show wn.cell? ⟨gx,j,vD⟩=w4.cell? ⟨gx,j,vD⟩ by simp only [World.cell?,fm gx Ck.out.lt (by omega) (fun e=>by have:=Cj gx e;omega)]).trans (Ck.out.cell j)
    clear Wa Dc Rb fm fs SI Rs XE Pf Hu Xn;go_wp2
    go_ret2
    exact ⟨_,Fd,by rw [sx.out];rfl,eh.out⟩
   ·have zu:k<path.length:=by omega
    have gM:path.drop k=path.getD k 0 :: path.drop (k+1):=by
     rw [List.drop_eq_getElem_cons zu,Cb,Xb zu];rfl
    have Rm:i / 2^k / 2=i / 2^(k+1):=by rw [If,Nat.div_div_eq_div_mul]
    have Ag:=TA.out;have af:=RA.out;rw [gM] at Ag af;rw [(jR HQ.out).1,Rm] at Ag;rw [(jR HQ.out).2,Rm] at af;have dkk:((k:Int)==path.length)=false:=by rw [Gd];omega
    have yo:=zH Ag;have ff:=zH af;have Bm:=zH zu;clear Ag af TA RA gM Rm hkn;go_wp2_with fail
    refine xq.out.mono ?_;rintro _ w4 ⟨rfl,Fd,h4,m4⟩;have ai:=KQ.out.moved m4 SC;have pk:=TF cu.out m4 (fun b hb=>(Uw.out b hb).1)
    have tw:=Sd m4 ib SC;have YC:=Sd m4 KX.out.lt UC;have yw:∀ b,u11.ownBlock=vE b -> ¬Fd b:=fun b hb=>Sd m4 (cu.out.lt b hb).2 (Uw.out b hb).1
    have Cj:∀ b,u11.ownBlock=vE b -> gq+1 <= b:=fun b hb=>(pk.lt b hb).1
    have M5:=zH (M1.out.trans m4);have Xn:(w4.setCell ⟨gq,2,vD⟩ (vd vn Hc)).ownsRow (gq+1) 95 3 u11 n cs:=di pk fun b hb=>ug w4 _ _ b (fun e=>by have:=Cj b hb;simp at e;omega)
    have H4:=zH h4;have Rs:=ai.cell;have XE:=ai.frozen;have Ck:=zH (KX.out.moved m4 UC);have SI:=Ck.out.cell;have Hu:=ai.set_ 2 (vd vn Hc);have Pf:=Hu.cell;have VI:gq<w4.1.size:=ai.lt;have KQ4:=zH ai;have BI:(w4.setCell ⟨gq,2,vD⟩ (vd vn Hc)).1.size=w4.1.size:=by simp [vF]
    have uC:Rd ((w4.setCell ⟨gq,2,vD⟩ (vd vn Hc)).alloc (.cells #[vd vn lab,ve Ae el.length ce,vd vn Hc] 95)) 3 (vE ⟨w4.1.size,0,vD⟩) 1 [vd vn lab,ve Ae el.length ce,vd vn Hc]:=by
     have:=XM (w4.setCell ⟨gq,2,vD⟩ (vd vn Hc)) (vd vn lab) (ve Ae el.length ce) (vd vn Hc) 95;rw [BI] at this;exact this
    clear h4 m4 ai pk To hfq;go_wp2_with (at_builtin;refine uk rfl _ _ rfl NL rfl (Xn.alloc _) rfl uC (by intro u hu;simp at hu;rcases hu with rfl | rfl | rfl <;> rfl) (by omega) (by simp;omega) ?_)
    intro v' wn Rb Wa Dc;obtain ⟨fm,fs⟩:=CO Wa;have nh:∀ j,wn.cell? ⟨gx,j,vD⟩=_:=fun j=>(show wn.cell? ⟨gx,j,vD⟩=w4.cell? ⟨gx,j,vD⟩ by simp only [World.cell?,fm gx Ck.out.lt (by omega) (fun e=>by have:=Cj gx e;omega)]).trans (Ck.out.cell j)
    have hKw:∀ b,K b -> b<w.1.size -> wn.1[b]?=w.1[b]?:=fun b hb hl=>(fm b (by have:=M5.out.size;omega) (hX b hl).1 (fun e=>by have:=Cj b e;have:=Ki.out;omega)).trans (M5.out.block b hl (HK.out b hb).2)
    have QI:=iw HP.out (xb M5.out.size fs.1) hKw;obtain ⟨b3,q3,eP,Sa,Pz⟩:=Fg (Nb (ak QI)).2.2.2.2 Bm.out;have Yo:=uK (Nb (ak QI)).2.2.2.1 Bm.out;subst eP;have Ur:=zH Yo;have FM:=zH fm;have FS:=zH fs;have rL:=zH Rb;have lL:=zH Dc;have GROW:=zH Wa;have PC:=(Hu.alloc (.cells #[vd vn lab,ve Ae el.length ce,vd vn Hc] 95)).grown Wa (fun e=>by have:=Cj gq e.symm;omega)
    have hkI:(k:Int) <= 10:=by omega
    have hkl2:(k:Int)<path.length:=by have:=Bm.out;omega
    have hk0:(0:Int)<=k:=by omega
    obtain ⟨px,Yo⟩:=zEX (path.getD k 0);rw [<- Yo] at Pz Ur yo ff;clear Wa Dc Rb fm fs SI Rs XE Pf Hu Xn uC hKw QI Yo;have KQN:=zH PC;have lqn:=PC.lt;have qh:=Blk.new wn 22 #[vd vn Hc,vd vn px];have Rq:=(Ca wn.1.size wn).alloc zR (.cells #[vd vn Hc,vd vn px] 22);have sp:=ja PC Rq;have zm:=zH (show Hc<18446744073709551616 by have:=HAN.out;unfold zb at this;omega)
    have Yh:i / 2^k<1024:=Nat.lt_of_le_of_lt (qz _ _) hi;have Uq:=UX ⟨i / 2^k,Yh⟩;simp only at Uq;rw [show ((i / 2^k:Nat):Int)=(i:Int) / 2^k by simp] at Uq
    have py:wn.1.size<(wn.alloc (.cells #[vd vn Hc,vd vn px] 22)).1.size:=by simp
    clear PC Yh;by_cases Xj:i / 2^k%2=1
    ·rw [Xj] at Uq
     have dd:((1:Int) == 1)=true:=rfl;have aH:=zH (fun w9 a9 s9 o9 OC NC=>DO (w9:=w9) (el':=[px,Hc]) (O':=Kf Oc lab el) (rv:=rv) (ro:=ro) (path:=path) (i:=i) (np:=path.length) (id:=false) H4.out M5.out (by rw [VN];exact pI) (uf (dJ Wy.out lab el) (by omega)) FM.out FS.out yw Cj tw YC Ck.out Mk (by have:=Ki.out;omega) rL.out (lL.out.imp id fun h=>h.trans (by first | rfl | (simp [vF];done))) yg (by have:=Bm.out;omega) a9 s9 o9 OC NC rfl (sj Ur.out (sj zm.out fun _ h=>nomatch h)) VI (by have:=yo.out;rw [Na Xj] at this;exact this) (by have:=ff.out;rw [Na Xj] at this;exact this))
     clear Xj;go_upto_region 14 with fail
     generalize nm:wn.alloc _=wp at sp qh Rq py |-;obtain ⟨gp,Kv⟩:=zEX (wn.1.size);have Zw:=zH Kv;rw [<- Kv] at qh |-;have lgp:gq<gp:=by rw [Kv];exact lqn
     have fM:=qh.cell;have lpp:=qh.lt;have Xt:=zH sp;have Aq:=zH Rq;have ux:=zH py;clear sp Rq nm Kv py;refine dX (Ub) [9,11] [9] [1,5,6] [0,1,2,3,4,5,6,7,8,9,10,11] (by kernel_rfl) (by kernel_rfl) ?_
     refine zA0 (ra) ?_;intro Wc ia;refine iL ?_;refine bL (ra) rfl rfl rfl ?_;replace qh:=qh.drew.below ia qh.lt;have qL:=zH (Xt.out.drew.below ia Xt.out.lt);have NT:=qh.cell;have RT:=qh.frozen;have pR:=zH ia;clear fM ia lpp;go_simp;refine ⟨fun h=>Bool.noConfusion h,?_⟩
     have ny:=qh.set_ 0 (vd vn px);have zI:vA wn.1.size wn (Wc.setCell ⟨gp,0,vD⟩ (vd vn px)):=(Aq.out.trans (kY (Nat.le_of_lt ux.out) pR.out)).setCell (by rw [Zw.out];exact zR) _
     have qI:Blk (Wc.setCell ⟨gp,0,vD⟩ (vd vn px)) gq 95 _:=qL.out.far (p:=⟨gp,0,vD⟩) (by simp;omega) _
     refine zPU ?_
     generalize Wc.setCell _ _=w6 at ny zI qI |-;have Lg:=ny.cell;have Vq:=ny.frozen;clear qh NT RT qL;have ia:=ra.refl w6;refine iL ?_;refine bL (ra) rfl rfl rfl ?_;go_simp;refine ⟨fun h=>Bool.noConfusion h,?_⟩
     have CC:=ny.set_ 1 (vd vn Hc);have AI:vA wn.1.size wn (w6.setCell ⟨gp,1,vD⟩ (vd vn Hc)):=zI.setCell (by rw [Zw.out];exact zR) _
     have ky:Blk (w6.setCell ⟨gp,1,vD⟩ (vd vn Hc)) gq 95 _:=qI.far (p:=⟨gp,1,vD⟩) (by simp;omega) _
     refine zPU ?_
     generalize w6.setCell _ _=Mu at CC AI ky |-;refine eX ?_;have LG:Hid (Blk Mu wn.1.size 22 (Oa [px,Hc]).toArray):=by
      show Blk _ _ _ _
      rw [<- Zw.out]
      simpa [Oa] using CC
     have hcp4:=ky.cell;have hfp4:=ky.frozen;have Xt:=zH ky;have VA:=zH AI;have ux:=zH (show wn.1.size<Mu.1.size by rw [<- Zw.out];exact CC.lt)
     clear ny CC zI AI qI ky Lg Vq ia Aq;go_wp2_with fail
     rw [Zw.out];have dp:∀ (x0 x1 x2:vx) b,b≠gq -> (((Mu.setCell ⟨gq,0,vD⟩ x0).setCell ⟨gq,1,vD⟩ x1).setCell ⟨gq,2,vD⟩ x2).1[b]?=Mu.1[b]?:=fun x0 x1 x2 b hb=>(ug _ ⟨gq,2,vD⟩ x2 b hb).trans ((ug _ ⟨gq,1,vD⟩ x1 b hb).trans (ug Mu ⟨gq,0,vD⟩ x0 b hb))
     have Sn:=aH.out (((Mu.setCell ⟨gq,0,vD⟩ (vd vn 17)).setCell ⟨gq,1,vD⟩ (ve (vE ⟨wn.1.size,0,vD⟩) 2 2)).setCell ⟨gq,2,vD⟩ (vd vn 0)) (fun b hb hn=>(dp _ _ _ b hn).trans (VA.out.block b hb)) (by simpa [vF] using ux.out) ⟨VA.out.os,VA.out.tape,VA.out.output⟩ (by have:=((Xt.out.set_ 0 (vd vn 17)).set_ 1 (ve (vE ⟨wn.1.size,0,vD⟩) 2 2)).set_ 2 (vd vn 0);simpa using this) ((dp _ _ _ _ (by omega)).trans LG.out)
     refine ⟨by rw [show (k:Int)+1=((k+1:Nat):Int) by simp];exact Sn,by have:=Bm.out;simp [intOf];omega⟩
    ·have h0:i / 2^k%2=0:=by omega
     rw [h0] at Uq;have dd:(((0:Nat):Int) == 1)=false:=rfl;have aH:=zH (fun w9 a9 s9 o9 OC NC=>DO (w9:=w9) (el':=[Hc,px]) (O':=Kf Oc lab el) (rv:=rv) (ro:=ro) (path:=path) (i:=i) (np:=path.length) (id:=false) H4.out M5.out (by rw [VN];exact pI) (uf (dJ Wy.out lab el) (by omega)) FM.out FS.out yw Cj tw YC Ck.out Mk (by have:=Ki.out;omega) rL.out (lL.out.imp id fun h=>h.trans (by first | rfl | (simp [vF];done))) yg (by have:=Bm.out;omega) a9 s9 o9 OC NC rfl (sj zm.out (sj Ur.out fun _ h=>nomatch h)) VI (by have:=yo.out;rw [ya Xj] at this;exact this) (by have:=ff.out;rw [ya Xj] at this;exact this))
     clear Xj h0;go_upto_region 15 with fail
     generalize nm:wn.alloc _=wp at sp qh Rq py |-;have fM:=sp.cell;have hfp2:=sp.frozen;have LG:=zH qh;have Xt:=zH sp;have Aq:=zH Rq;have ux:=zH py;clear qh sp Rq nm;go_wp2_with fail
     have dp:∀ (x0 x1 x2:vx) b,b≠gq -> (((wp.setCell ⟨gq,0,vD⟩ x0).setCell ⟨gq,1,vD⟩ x1).setCell ⟨gq,2,vD⟩ x2).1[b]?=wp.1[b]?:=fun x0 x1 x2 b hb=>(ug _ ⟨gq,2,vD⟩ x2 b hb).trans ((ug _ ⟨gq,1,vD⟩ x1 b hb).trans (ug wp ⟨gq,0,vD⟩ x0 b hb))
     have Sn:=aH.out (((wp.setCell ⟨gq,0,vD⟩ (vd vn 17)).setCell ⟨gq,1,vD⟩ (ve (vE ⟨wn.1.size,0,vD⟩) 2 2)).setCell ⟨gq,2,vD⟩ (vd vn 0)) (fun b hb hn=>(dp _ _ _ b hn).trans (Aq.out.block b hb)) (by simpa [vF] using ux.out) ⟨Aq.out.os,Aq.out.tape,Aq.out.output⟩ (by have:=((Xt.out.set_ 0 (vd vn 17)).set_ 1 (ve (vE ⟨wn.1.size,0,vD⟩) 2 2)).set_ 2 (vd vn 0);simpa using this) ((dp _ _ _ _ (by omega)).trans LG.out)
     refine ⟨by rw [show (k:Int)+1=((k+1:Nat):Int) by simp];exact Sn,by have:=Bm.out;simp [intOf];omega⟩
theorem zDe {w:vw} {g:Nat} {O:Ha} {F K:Nat -> Prop} (h:OrcAt w g O F) (hid:O.ideal=true) (root i oc:Nat) (A Bp:Option vy) (a c pb pe:Nat) (leaf path:List Nat) (hl:Ue K w (ve A a c) leaf) (hp:Ue K w (ve Bp pb pe) path)
  (hK:∀ b,K b -> b<w.1.size /\ ¬F b) (hlen:leaf.length <= 100000) (Xe:path.length <= 10) (hi:i<1024) (hO:pc O 300000) (pM:oc<18446744073709551616) :
  vB prog 257 #[.func (.func 109) #[.pointer (vE ⟨g,0,vD⟩)] #[],vd vn root,vd vq i,vf #[ve A a c,vd vn oc,ve Bp pb pe]] w fun e w'=>∃ v F',e=vl (.tuple #[v, .bool (wm path O 16 (oc :: leaf) i == vE root)]) /\
   OrcAt w' g (El path O 16 (oc :: leaf) i) F' /\ Moved F F' w w':=by
 have ma:=(Ca w.1.size w).alloc zR (.cells #[ve A a c,vd vn oc,ve Bp pb pe] 274);have kx:=Blk.new w 274 #[ve A a c,vd vn oc,ve Bp pb pe];have Xr:=zH (fun w1 (hb:vA w.1.size w w1)=>gW oc A a c leaf w1 (ak (dn hl hb)) (by omega))
 have H:=zH h;have HL:=zH hl;have HP:=zH hp;have HK:=zH hK;have Rg:=zH hlen;have HO:=zH hO;have dx:=zH hid;obtain ⟨rv,Ag⟩:=zEX (wm path O 16 (oc :: leaf) i);obtain ⟨ro,af⟩:=zEX (El path O 16 (oc :: leaf) i);rw [<- Ag,<- af];have yo:=zH Ag;have ff:=zH af;have BJ:=zH pM;have kc:=kx.cell;clear h hl hp hK hlen hO hid Ag af pM;go_enter func257,ntmps257
 go_wp2_with fail
 generalize w.alloc _=w1 at ma kx kc |-;refine (Xr.out _ ma).mono ?_;rintro _ w2 ⟨v,rfl,hv,Ba⟩;obtain ⟨Av,cv,rfl,-⟩:=de hv;go_wp2_with fail
 have SB:=(Ca w2.1.size w2).alloc zR (.cells #[vd vn 16,ve Av (a+1) cv,vd vn 0] 95);have kq:=Blk.new w2 95 #[vd vn 16,ve Av (a+1) cv,vd vn 0];have Jb:=pa ma Ba;have VB:=pa Jb SB;have l1:w.1.size<w1.1.size:=kx.lt;have l2:=Ba.size;have Mk:w.1.size<w2.1.size:=by omega
 replace kx:=(ja kx Ba).below SB Mk;have Tn:∀ x∈oc :: leaf,x<18446744073709551616:=sj BJ.out (by obtain ⟨A',c',e',-,-,h9⟩:=nA HL.out;exact h9)
 have Pk:=fun b hb=>hv.lt b hb
 have Wo:=dn (PI hv Tn) SB;have dq:=nA HP.out;generalize w2.alloc _=w3 at VB kx kq Wo |-;generalize hgq:w2.1.size=gq at kq Mk |-;obtain ⟨gx,oI⟩:=zEX (w.1.size);rw [<- oI] at kx Mk |-;have Ki:=zH oI;have Wq:pb=path.length:=by obtain ⟨A',c',e',-⟩:=dq;injection e' with _ e2 _;
 clear oI ma SB Ba kc hv Jb Tn dq;subst Wq;have Tw:=zH (show a=leaf.length by obtain ⟨A',c',e',-⟩:=nA HL.out;injection e' with _ e2 _)
 have hX:∀ b,b<w.1.size -> b≠gq /\ b≠gx:=fun b hb=>by have:=Ki.out;omega
 have YI:∀ b,w.1.size <= b -> ¬F b:=fun b hb hf=>by have:=H.out.lt b hf;omega
 have iE:wL w g gx gq F true i path.length path #[ve A a c,vd vn oc,ve Bp path.length pe] rv ro (ve vD 0 0) (vd vq 0) w3:=by
  refine ⟨0,16,0,oc :: leaf,O,F,fun b=>(ve Av (a+1) cv).ownBlock=vE b,0,Av,cv,[],⟨Mb _,rfl,by decide,by simp,by have:=Rg.out;simp;omega⟩,⟨H.out.below VB,Qc VB,dx.out,HO.out⟩,⟨?_,YI gq (by have:=Ki.out;omega)⟩,⟨?_,fun b hb=>?_⟩,⟨kx,YI gx (by have:=Ki.out;omega)⟩,⟨⟨rfl, .inl ⟨rfl,rfl⟩⟩,zR,fun b hb=>by simp [Value.ownBlock] at hb⟩,?_,?_⟩
  ·rw [xg,<- Tw.out];exact kq
  ·rw [xg,<- Tw.out];exact Wo
  ·have:=Pk b hb
   have:=kq.lt;exact ⟨by omega,YI b (by omega),by omega⟩
  ·rw [yo.out];simp
  ·rw [ff.out];simp
 clear Wo kq kx VB Pk l1 l2 hgq yo ff HO dx;go_loopw [11,12] (fun av st wr=>wL w g gx gq F true i path.length path #[ve A a c,vd vn oc,ve Bp path.length pe] rv ro av st wr) (fun _ st _=>path.length+1-(intOf st).toNat)
 case atStart=>exact iE
 case round =>
  clear iE;obtain ⟨k,lab,n,el,Oc,Fc,Ke,an,Ae,ce,cs,⟨hk,rfl,oh,hel0,Jk⟩,⟨h1,m1,pI,Pn⟩,⟨kq,SC⟩,⟨Wo,FE⟩,⟨kx,UC⟩,⟨own,yg,Zx⟩,Ox,Nx⟩:=hrel;have HASK:=zH (show ∀ e' w',Nr wr g Oc Fc lab el e' w' -> Nr wr g Oc Fc lab el e' w' from fun _ _ h=>h)
  have xq:=zH (show vB prog 109 #[.pointer (vE ⟨g,0,vD⟩),vd vn lab,ve Ae el.length ce] wr (Nr wr g Oc Fc lab el) from zBt h1 pI lab el Ae el.length ce Wo oh (by omega) (uf Pn (by omega)))
  have To:=kq.cell;have hfq:=kq.frozen;have hqx:gx≠gq:=by omega
  have HKe:=zH FE;have Uw:=zH Zx;have HKE:=zH Wo;have M1:=zH m1;have KQ:=zH kq;have KX:=zH kx;have cu:=zH own;have Wy:=zH Pn;have H1:=zH h1;have hnk2:n <= 10:=by omega
  have ib:=kq.lt;rcases hq:Ri Oc lab el with _ | Hc
  ·obtain ⟨s1,s2⟩:=zAI (r:=path.drop k) (i:=i / 2^k) hq
   have Ag:rv=vD:=by rw [Ox,s1]
   have af:ro=Kf Oc lab el:=by rw [Nx,s2]
   have xq:=zH (show vB prog 109 #[.pointer (vE ⟨g,0,vD⟩),vd vn lab,ve Ae el.length ce] wr (fun e w'=>e=vl (.tuple #[vd vn 0, .bool false]) /\ ∃ F',OrcAt w' g (Kf Oc lab el) F' /\ Moved Fc F' wr w') from by have:=xq.out;unfold Nr at this;rw [hq] at this;exact this)
   have yo:=zH Ag;have ff:=zH af;clear Ox Nx s1 s2 hq Ag af Wo FE Zx m1 kq kx own Pn h1;go_wp2_with fail
   refine xq.out.mono ?_;rintro _ w4 ⟨rfl,Fd,h4,m4⟩;have eh:=zH (show OrcAt w4 g ro Fd /\ Moved F Fd w w4 from by rw [ff.out];exact ⟨h4,M1.out.trans m4⟩)
   clear h4 m4;go_wp2
   go_ret2
   exact ⟨_,Fd,by rw [yo.out];rfl,eh.out⟩
  ·have xq:=zH (show vB prog 109 #[.pointer (vE ⟨g,0,vD⟩),vd vn lab,ve Ae el.length ce] wr (fun e w'=>e=vl (.tuple #[vd vn Hc, .bool true]) /\ ∃ F',OrcAt w' g (Kf Oc lab el) F' /\ Moved Fc F' wr w') from by have:=xq.out;unfold Nr at this;rw [hq] at this;exact this)
   have HQ:=zH hq;have HAN:=zH (eY h1.ok.ans hq);have TA:=zH Ox;have RA:=zH Nx;clear Ox Nx hq Wo FE Zx m1 kq kx own Pn h1;by_cases hkn:k=path.length
   ·subst hkn
    have Ag:rv=vE Hc:=by rw [TA.out,List.drop_length];exact HQ.out
    have af:ro=Kf Oc lab el:=by rw [RA.out,List.drop_length];rfl
    obtain ⟨res,Vv⟩:=zEX ((rv == vE root));have dres:((Hc:Int)==root)=res:=by
     rw [Vv,Ag];by_cases h:Hc=root
     ·subst h;simp
     ·have h2:((Hc:Int)==root)=false:=by rw [Gd];omega
      rw [h2];symm;simpa using h
    have dkk:(((path.length:Nat):Int) == (path.length:Int))=true:=by simp
    have sx:=zH Vv.symm;have ff:=zH af;clear Vv Ag af TA RA;go_wp2_with fail
    refine xq.out.mono ?_;rintro _ w4 ⟨rfl,Fd,h4,m4⟩;have ai:=KQ.out.moved m4 SC;have pk:=TF cu.out m4 (fun b hb=>(Uw.out b hb).1)
    have tw:=Sd m4 ib SC;have YC:=Sd m4 KX.out.lt UC;have yw:∀ b,u11.ownBlock=vE b -> ¬Fd b:=fun b hb=>Sd m4 (cu.out.lt b hb).2 (Uw.out b hb).1
    have Cj:∀ b,u11.ownBlock=vE b -> gq+1 <= b:=fun b hb=>(pk.lt b hb).1
    have M5:=zH (M1.out.trans m4);have Xn:(w4.setCell ⟨gq,2,vD⟩ (vd vn Hc)).ownsRow (gq+1) 95 3 u11 n cs:=di pk fun b hb=>ug w4 _ _ b (fun e=>by have:=Cj b hb;simp at e;omega)
    have H4:=zH h4;have Rs:=ai.cell;have XE:=ai.frozen;have Ck:=zH (KX.out.moved m4 UC);have SI:=Ck.out.cell;have Hu:=ai.set_ 2 (vd vn Hc);have Pf:=Hu.cell;have VI:gq<w4.1.size:=ai.lt;have KQ4:=zH ai;have BI:(w4.setCell ⟨gq,2,vD⟩ (vd vn Hc)).1.size=w4.1.size:=by simp [vF]
    have uC:Rd ((w4.setCell ⟨gq,2,vD⟩ (vd vn Hc)).alloc (.cells #[vd vn lab,ve Ae el.length ce,vd vn Hc] 95)) 3 (vE ⟨w4.1.size,0,vD⟩) 1 [vd vn lab,ve Ae el.length ce,vd vn Hc]:=by
     have:=XM (w4.setCell ⟨gq,2,vD⟩ (vd vn Hc)) (vd vn lab) (ve Ae el.length ce) (vd vn Hc) 95;rw [BI] at this;exact this
    clear h4 m4 ai pk To hfq;go_wp2_with (at_builtin;refine uk rfl _ _ rfl NL rfl (Xn.alloc _) rfl uC (by intro u hu;simp at hu;rcases hu with rfl | rfl | rfl <;> rfl) (by omega) (by simp;omega) ?_)
    intro v' wn Rb Wa Dc;obtain ⟨fm,fs⟩:=CO Wa;have eh:=zH (show OrcAt wn g ro Fd /\ Moved F Fd w wn from by
     rw [ff.out];refine ⟨H4.out.keep fs.1 fun b hb=>fm b (H4.out.lt b hb) (fun e=>tw (by rw [<- e];exact hb)) (fun e=>yw b e hb),PU M5.out ⟨fun b hb=>fm b (by have:=M5.out.size;omega) (hX b hb).1 (fun e=>by have:=Cj b e;have:=(hX b hb);have:=Ki.out;omega),fs⟩⟩)
    have nh:∀ j,wn.cell? ⟨gx,j,vD⟩=_:=fun j=>(show wn.cell? ⟨gx,j,vD⟩=w4.cell? ⟨gx,j,vD⟩ by simp only [World.cell?,fm gx Ck.out.lt (by omega) (fun e=>by have:=Cj gx e;omega)]).trans (Ck.out.cell j)
    clear Wa Dc Rb fm fs SI Rs XE Pf Hu Xn;go_wp2
    go_ret2
    exact ⟨_,Fd,by rw [sx.out];rfl,eh.out⟩
   ·have zu:k<path.length:=by omega
    have gM:path.drop k=path.getD k 0 :: path.drop (k+1):=by
     rw [List.drop_eq_getElem_cons zu,Cb,Xb zu];rfl
    have Rm:i / 2^k / 2=i / 2^(k+1):=by rw [If,Nat.div_div_eq_div_mul]
    have Ag:=TA.out;have af:=RA.out;rw [gM] at Ag af;rw [(jR HQ.out).1,Rm] at Ag;rw [(jR HQ.out).2,Rm] at af;have dkk:((k:Int)==path.length)=false:=by rw [Gd];omega
    have yo:=zH Ag;have ff:=zH af;have Bm:=zH zu;clear Ag af TA RA gM Rm hkn;go_wp2_with fail
    refine xq.out.mono ?_;rintro _ w4 ⟨rfl,Fd,h4,m4⟩;have ai:=KQ.out.moved m4 SC;have pk:=TF cu.out m4 (fun b hb=>(Uw.out b hb).1)
    have tw:=Sd m4 ib SC;have YC:=Sd m4 KX.out.lt UC;have yw:∀ b,u11.ownBlock=vE b -> ¬Fd b:=fun b hb=>Sd m4 (cu.out.lt b hb).2 (Uw.out b hb).1
    have Cj:∀ b,u11.ownBlock=vE b -> gq+1 <= b:=fun b hb=>(pk.lt b hb).1
    have M5:=zH (M1.out.trans m4);have Xn:(w4.setCell ⟨gq,2,vD⟩ (vd vn Hc)).ownsRow (gq+1) 95 3 u11 n cs:=di pk fun b hb=>ug w4 _ _ b (fun e=>by have:=Cj b hb;simp at e;omega)
    have H4:=zH h4;have Rs:=ai.cell;have XE:=ai.frozen;have Ck:=zH (KX.out.moved m4 UC);have SI:=Ck.out.cell;have Hu:=ai.set_ 2 (vd vn Hc);have Pf:=Hu.cell;have VI:gq<w4.1.size:=ai.lt;have KQ4:=zH ai;have BI:(w4.setCell ⟨gq,2,vD⟩ (vd vn Hc)).1.size=w4.1.size:=by simp [vF]
    have uC:Rd ((w4.setCell ⟨gq,2,vD⟩ (vd vn Hc)).alloc (.cells #[vd vn lab,ve Ae el.length ce,vd vn Hc] 95)) 3 (vE ⟨w4.1.size,0,vD⟩) 1 [vd vn lab,ve Ae el.length ce,vd vn Hc]:=by
     have:=XM (w4.setCell ⟨gq,2,vD⟩ (vd vn Hc)) (vd vn lab) (ve Ae el.length ce) (vd vn Hc) 95;rw [BI] at this;exact this
    clear h4 m4 ai pk To hfq;go_wp2_with (at_builtin;refine uk rfl _ _ rfl NL rfl (Xn.alloc _) rfl uC (by intro u hu;simp at hu;rcases hu with rfl | rfl | rfl <;> rfl) (by omega) (by simp;omega) ?_)
    intro v' wn Rb Wa Dc;obtain ⟨fm,fs⟩:=CO Wa;have nh:∀ j,wn.cell? ⟨gx,j,vD⟩=_:=fun j=>(show wn.cell? ⟨gx,j,vD⟩=w4.cell? ⟨gx,j,vD⟩ by simp only [World.cell?,fm gx Ck.out.lt (by omega) (fun e=>by have:=Cj gx e;omega)]).trans (Ck.out.cell j)
    have hKw:∀ b,K b -> b<w.1.size -> wn.1[b]?=w.1[b]?:=fun b hb hl=>(fm b (by have:=M5.out.size;omega) (hX b hl).1 (fun e=>by have:=Cj b e;have:=Ki.out;omega)).trans (M5.out.block b hl (HK.out b hb).2)
    have QI:=iw HP.out (xb M5.out.size fs.1) hKw;obtain ⟨b3,q3,eP,Sa,Pz⟩:=Fg (Nb (ak QI)).2.2.2.2 Bm.out;have Yo:=uK (Nb (ak QI)).2.2.2.1 Bm.out;subst eP;have Ur:=zH Yo;have FM:=zH fm;have FS:=zH fs;have rL:=zH Rb;have lL:=zH Dc;have GROW:=zH Wa;have PC:=(Hu.alloc (.cells #[vd vn lab,ve Ae el.length ce,vd vn Hc] 95)).grown Wa (fun e=>by have:=Cj gq e.symm;omega)
    have hkI:(k:Int) <= 10:=by omega
    have hkl2:(k:Int)<path.length:=by have:=Bm.out;omega
    have hk0:(0:Int)<=k:=by omega
    obtain ⟨px,Yo⟩:=zEX (path.getD k 0);rw [<- Yo] at Pz Ur yo ff;clear Wa Dc Rb fm fs SI Rs XE Pf Hu Xn uC hKw QI Yo;have KQN:=zH PC;have lqn:=PC.lt;have qh:=Blk.new wn 22 #[vd vn Hc,vd vn px];have Rq:=(Ca wn.1.size wn).alloc zR (.cells #[vd vn Hc,vd vn px] 22);have sp:=ja PC Rq;have zm:=zH (show Hc<18446744073709551616 by have:=HAN.out;unfold zb at this;omega)
    have Yh:i / 2^k<1024:=Nat.lt_of_le_of_lt (qz _ _) hi;have Uq:=UX ⟨i / 2^k,Yh⟩;simp only at Uq;rw [show ((i / 2^k:Nat):Int)=(i:Int) / 2^k by simp] at Uq
    have py:wn.1.size<(wn.alloc (.cells #[vd vn Hc,vd vn px] 22)).1.size:=by simp
    clear PC Yh;by_cases Xj:i / 2^k%2=1
    ·rw [Xj] at Uq
     have dd:((1:Int) == 1)=true:=rfl;have aH:=zH (fun w9 a9 s9 o9 OC NC=>DO (w9:=w9) (el':=[px,Hc]) (O':=Kf Oc lab el) (rv:=rv) (ro:=ro) (path:=path) (i:=i) (np:=path.length) (id:=true) H4.out M5.out (by rw [VN];exact pI) (uf (dJ Wy.out lab el) (by omega)) FM.out FS.out yw Cj tw YC Ck.out Mk (by have:=Ki.out;omega) rL.out (lL.out.imp id fun h=>h.trans (by first | rfl | (simp [vF];done))) yg (by have:=Bm.out;omega) a9 s9 o9 OC NC rfl (sj Ur.out (sj zm.out fun _ h=>nomatch h)) VI (by have:=yo.out;rw [Na Xj] at this;exact this) (by have:=ff.out;rw [Na Xj] at this;exact this))
     clear Xj;go_upto_region 14 with fail
     generalize nm:wn.alloc _=wp at sp qh Rq py |-;obtain ⟨gp,Kv⟩:=zEX (wn.1.size);have Zw:=zH Kv;rw [<- Kv] at qh |-;have lgp:gq<gp:=by rw [Kv];exact lqn
     have fM:=qh.cell;have lpp:=qh.lt;have Xt:=zH sp;have Aq:=zH Rq;have ux:=zH py;clear sp Rq nm Kv py;refine dX (Ub) [9,11] [9] [1,5,6] [0,1,2,3,4,5,6,7,8,9,10,11] (by kernel_rfl) (by kernel_rfl) ?_
     refine zA0 (ra) ?_;intro Wc ia;refine iL ?_;refine bL (ra) rfl rfl rfl ?_;replace qh:=qh.drew.below ia qh.lt;have qL:=zH (Xt.out.drew.below ia Xt.out.lt);have NT:=qh.cell;have RT:=qh.frozen;have pR:=zH ia;clear fM ia lpp;go_simp;refine ⟨fun h=>Bool.noConfusion h,?_⟩
     have ny:=qh.set_ 0 (vd vn px);have zI:vA wn.1.size wn (Wc.setCell ⟨gp,0,vD⟩ (vd vn px)):=(Aq.out.trans (kY (Nat.le_of_lt ux.out) pR.out)).setCell (by rw [Zw.out];exact zR) _
     have qI:Blk (Wc.setCell ⟨gp,0,vD⟩ (vd vn px)) gq 95 _:=qL.out.far (p:=⟨gp,0,vD⟩) (by simp;omega) _
     refine zPU ?_
     generalize Wc.setCell _ _=w6 at ny zI qI |-;have Lg:=ny.cell;have Vq:=ny.frozen;clear qh NT RT qL;have ia:=ra.refl w6;refine iL ?_;refine bL (ra) rfl rfl rfl ?_;go_simp;refine ⟨fun h=>Bool.noConfusion h,?_⟩
     have CC:=ny.set_ 1 (vd vn Hc);have AI:vA wn.1.size wn (w6.setCell ⟨gp,1,vD⟩ (vd vn Hc)):=zI.setCell (by rw [Zw.out];exact zR) _
     have ky:Blk (w6.setCell ⟨gp,1,vD⟩ (vd vn Hc)) gq 95 _:=qI.far (p:=⟨gp,1,vD⟩) (by simp;omega) _
     refine zPU ?_
     generalize w6.setCell _ _=Mu at CC AI ky |-;refine eX ?_;have LG:Hid (Blk Mu wn.1.size 22 (Oa [px,Hc]).toArray):=by
      show Blk _ _ _ _
      rw [<- Zw.out]
      simpa [Oa] using CC
     have hcp4:=ky.cell;have hfp4:=ky.frozen;have Xt:=zH ky;have VA:=zH AI;have ux:=zH (show wn.1.size<Mu.1.size by rw [<- Zw.out];exact CC.lt)
     clear ny CC zI AI qI ky Lg Vq ia Aq;go_wp2_with fail
     rw [Zw.out];have dp:∀ (x0 x1 x2:vx) b,b≠gq -> (((Mu.setCell ⟨gq,0,vD⟩ x0).setCell ⟨gq,1,vD⟩ x1).setCell ⟨gq,2,vD⟩ x2).1[b]?=Mu.1[b]?:=fun x0 x1 x2 b hb=>(ug _ ⟨gq,2,vD⟩ x2 b hb).trans ((ug _ ⟨gq,1,vD⟩ x1 b hb).trans (ug Mu ⟨gq,0,vD⟩ x0 b hb))
     have Sn:=aH.out (((Mu.setCell ⟨gq,0,vD⟩ (vd vn 17)).setCell ⟨gq,1,vD⟩ (ve (vE ⟨wn.1.size,0,vD⟩) 2 2)).setCell ⟨gq,2,vD⟩ (vd vn 0)) (fun b hb hn=>(dp _ _ _ b hn).trans (VA.out.block b hb)) (by simpa [vF] using ux.out) ⟨VA.out.os,VA.out.tape,VA.out.output⟩ (by have:=((Xt.out.set_ 0 (vd vn 17)).set_ 1 (ve (vE ⟨wn.1.size,0,vD⟩) 2 2)).set_ 2 (vd vn 0);simpa using this) ((dp _ _ _ _ (by omega)).trans LG.out)
     refine ⟨by rw [show (k:Int)+1=((k+1:Nat):Int) by simp];exact Sn,by have:=Bm.out;simp [intOf];omega⟩
    ·have h0:i / 2^k%2=0:=by omega
     rw [h0] at Uq;have dd:(((0:Nat):Int) == 1)=false:=rfl;have aH:=zH (fun w9 a9 s9 o9 OC NC=>DO (w9:=w9) (el':=[Hc,px]) (O':=Kf Oc lab el) (rv:=rv) (ro:=ro) (path:=path) (i:=i) (np:=path.length) (id:=true) H4.out M5.out (by rw [VN];exact pI) (uf (dJ Wy.out lab el) (by omega)) FM.out FS.out yw Cj tw YC Ck.out Mk (by have:=Ki.out;omega) rL.out (lL.out.imp id fun h=>h.trans (by first | rfl | (simp [vF];done))) yg (by have:=Bm.out;omega) a9 s9 o9 OC NC rfl (sj zm.out (sj Ur.out fun _ h=>nomatch h)) VI (by have:=yo.out;rw [ya Xj] at this;exact this) (by have:=ff.out;rw [ya Xj] at this;exact this))
     clear Xj h0;go_upto_region 15 with fail
     generalize nm:wn.alloc _=wp at sp qh Rq py |-;have fM:=sp.cell;have hfp2:=sp.frozen;have LG:=zH qh;have Xt:=zH sp;have Aq:=zH Rq;have ux:=zH py;clear qh sp Rq nm;go_wp2_with fail
     have dp:∀ (x0 x1 x2:vx) b,b≠gq -> (((wp.setCell ⟨gq,0,vD⟩ x0).setCell ⟨gq,1,vD⟩ x1).setCell ⟨gq,2,vD⟩ x2).1[b]?=wp.1[b]?:=fun x0 x1 x2 b hb=>(ug _ ⟨gq,2,vD⟩ x2 b hb).trans ((ug _ ⟨gq,1,vD⟩ x1 b hb).trans (ug wp ⟨gq,0,vD⟩ x0 b hb))
     have Sn:=aH.out (((wp.setCell ⟨gq,0,vD⟩ (vd vn 17)).setCell ⟨gq,1,vD⟩ (ve (vE ⟨wn.1.size,0,vD⟩) 2 2)).setCell ⟨gq,2,vD⟩ (vd vn 0)) (fun b hb hn=>(dp _ _ _ b hn).trans (Aq.out.block b hb)) (by simpa [vF] using ux.out) ⟨Aq.out.os,Aq.out.tape,Aq.out.output⟩ (by have:=((Xt.out.set_ 0 (vd vn 17)).set_ 1 (ve (vE ⟨wn.1.size,0,vD⟩) 2 2)).set_ 2 (vd vn 0);simpa using this) ((dp _ _ _ _ (by omega)).trans LG.out)
     refine ⟨by rw [show (k:Int)+1=((k+1:Nat):Int) by simp];exact Sn,by have:=Bm.out;simp [intOf];omega⟩
def Cp (O:Ha) (root n i oc:Nat) (leaf path:List Nat):Bool:=yA root n i oc leaf path&&(wm path O 16 (oc :: leaf) i == vE root)
def zp (O:Ha) (root n i oc:Nat) (leaf path:List Nat):Ha:=if yA root n i oc leaf path then El path O 16 (oc :: leaf) i else O
theorem T7 {root n i oc:Nat} {leaf path:List Nat} (h:yA root n i oc leaf path=true):path.length <= 10 /\ i<1024 /\ oc<zb:=by
 unfold yA at h;simp only [mc,Oo] at h;obtain ⟨⟨⟨⟨⟨⟨h1,h2⟩,h3⟩,h4⟩,h5⟩,h6⟩,h7⟩:=h;obtain ⟨d,hd,rfl⟩:=s6 h1;have e:path.length=d:=by
  rcases Nat.lt_trichotomy path.length d with h | h | h
  ·have:=Nat.pow_lt_pow_right (a:=2) (by omega) h;omega
  ·exact h
  ·have:=Nat.pow_lt_pow_right (a:=2) (by omega) h;omega
 have:2^d <= 2^10:=Io (by omega) hd
 exact ⟨by omega,by omega,h5⟩
theorem zIi {w:vw} {g:Nat} {O:Ha} {F K:Nat -> Prop} (h:OrcAt w g O F) (root n i oc:Nat) (A Bp:Option vy) (a c pb pe:Nat) (leaf path:List Nat) (hl:Ue K w (ve A a c) leaf) (hp:Ue K w (ve Bp pb pe) path)
  (hK:∀ b,K b -> b<w.1.size /\ ¬F b) (hlen:leaf.length <= 100000) (Xe:path.length <= 62) (hO:pc O 300000) :
  vB prog 178 #[.pointer (vE ⟨g,0,vD⟩),vd vn root,vd vq n,vd vq i,vf #[ve A a c,vd vn oc,ve Bp pb pe]] w fun e w'=>∃ F',e=vl (.bool (Cp O root n i oc leaf path)) /\
   OrcAt w' g (zp O root n i oc leaf path) F' /\ Moved F F' w w':=by
 obtain ⟨kB,kX,da,ib⟩:=Eh w 43 274 #[.pointer (vE ⟨g,0,vD⟩)] #[ve A a c,vd vn oc,ve Bp pb pe];have Wr:=zH (fun w1 (hb:vA w.1.size w w1)=>zF7 root n i oc A Bp a c pb pe leaf path w1 (ak (dn hl hb)) (ak (dn hp hb)) Xe)
 have H:=zH h;have HL:=zH hl;have HP:=zH hp;have HK:=zH hK;have Rg:=zH hlen;have HO:=zH hO;have nFB:Hid (¬F w.1.size):=fun e=>by have:=h.lt _ e;omega
 clear h hl hp hK hlen Xe hO;cases hv:yA root n i oc leaf path
 ·have HV:=zH (show Cp O root n i oc leaf path=false by unfold Cp;rw [hv];rfl)
  have HW:=zH (show zp O root n i oc leaf path=O by unfold zp;rw [hv];rfl)
  rw [hv] at Wr;rw [HV.out,HW.out];clear hv HV HW;go_enter func178,ntmps178
  go_wp2_with fail
  generalize (w.alloc _).alloc _=w1 at kB kX da ib |-;refine (Wr.out _ da).mono ?_;rintro _ w2 ⟨rfl,Ba⟩;have hb:=pa da Ba;have eh:=zH (show OrcAt w2 g O F /\ Moved F F w w2 from ⟨H.out.below hb,Qc hb⟩)
  go_wp2_with fail
  go_ret
  exact ⟨F,rfl,eh.out⟩
 ·obtain ⟨p10,rU,hs⟩:=T7 hv
  have lK:oc<18446744073709551616:=by unfold zb at hs;omega
  have BJ:=zH lK;obtain ⟨res,Vv⟩:=zEX ((wm path O 16 (oc :: leaf) i == vE root));obtain ⟨ro,af⟩:=zEX (El path O 16 (oc :: leaf) i);have HV:=zH (show Cp O root n i oc leaf path=res by unfold Cp;rw [hv,Vv];rfl)
  have HW:=zH (show zp O root n i oc leaf path=ro by unfold zp;rw [hv,af];rfl)
  have sx:=zH Vv;have ff:=zH af;rw [hv] at Wr;rw [HV.out,HW.out];have HP10:=zH p10;have HI:=zH rU;cases hid:O.ideal
  ·have dx:=zH hid
   clear hv HV HW Vv af hs lK p10 rU hid;go_enter func178,ntmps178
   go_wp2_with fail
   generalize (w.alloc _).alloc _=w1 at kB kX da ib |-;refine (Wr.out _ da).mono ?_;rintro _ w2 ⟨rfl,Ba⟩;replace kB:=ja kB Ba;replace kX:=ja kX Ba;replace da:=pa da Ba;have WB:=kB.cell;have hcX:=kX.cell;clear Ba Wr;have Cq:=zH (X0 (H.out.below da));rw [dx.out] at Cq;go_wp2_with fail
   refine Cq.out.mono ?_;rintro _ w3 ⟨rfl,rfl⟩;have FOL:=zH (zDf (H.out.below da) dx.out kB nFB.out root i oc A Bp a c pb pe leaf path (dn HL.out da) (dn HP.out da) (fun b hb=>⟨by have:=(HK.out b hb).1;have:=da.size;omega,(HK.out b hb).2⟩) Rg.out HP10.out HI.out HO.out BJ.out)
   rw [<- sx.out,<- ff.out] at FOL;have MB:=zH (Qc (F:=F) da);clear kB kX da ib;go_wp2_with fail
   refine FOL.out.mono ?_;rintro _ w4 ⟨v,F',rfl,h4,m4⟩;have eh:=zH (show OrcAt w4 g ro F' /\ Moved F F' w w4 from ⟨h4,MB.out.trans m4⟩)
   clear h4 m4;go_wp2;go_ret
   exact ⟨F',rfl,eh.out⟩
  ·have dx:=zH hid
   clear hv HV HW Vv af hs lK p10 rU hid;go_enter func178,ntmps178
   go_wp2_with fail
   generalize (w.alloc _).alloc _=w1 at kB kX da ib |-;refine (Wr.out _ da).mono ?_;rintro _ w2 ⟨rfl,Ba⟩;replace kB:=ja kB Ba;replace kX:=ja kX Ba;replace da:=pa da Ba;have WB:=kB.cell;have hcX:=kX.cell;clear Ba Wr;have Cq:=zH (X0 (H.out.below da));rw [dx.out] at Cq;go_wp2_with fail
   refine Cq.out.mono ?_;rintro _ w3 ⟨rfl,rfl⟩;have FOL:=zH (zDe (H.out.below da) dx.out root i oc A Bp a c pb pe leaf path (dn HL.out da) (dn HP.out da) (fun b hb=>⟨by have:=(HK.out b hb).1;have:=da.size;omega,(HK.out b hb).2⟩) Rg.out HP10.out HI.out HO.out BJ.out)
   rw [<- sx.out,<- ff.out] at FOL;have MB:=zH (Qc (F:=F) da);clear kB kX da ib;go_wp2_with fail
   refine FOL.out.mono ?_;rintro _ w4 ⟨v,F',rfl,h4,m4⟩;have eh:=zH (show OrcAt w4 g ro F' /\ Moved F F' w w4 from ⟨h4,MB.out.trans m4⟩)
   clear h4 m4;go_wp2;go_ret
   exact ⟨F',rfl,eh.out⟩
theorem jN {w w3:vw} {g gr:Nat} {O:Ha} {F F':Nat -> Prop} {t:vz} {c0 c1 x y:vx} (m:Moved F F' w w3) (hg:w.1.size <= gr) (h:OrcAt w3 g O F') (hn:¬F' gr) (k:Blk w3 gr t #[c0,c1]) :
  OrcAt ((w3.setCell ⟨gr,0,vD⟩ x).setCell ⟨gr,1,vD⟩ y) g O F' /\ Moved F F' w ((w3.setCell ⟨gr,0,vD⟩ x).setCell ⟨gr,1,vD⟩ y) /\ Blk ((w3.setCell ⟨gr,0,vD⟩ x).setCell ⟨gr,1,vD⟩ y) gr t #[x,y] :=
 ⟨(h.set hn x).set hn y,Gg (Gg m hg 0 x) hg 1 y,by have:=rE k 0 1 x y;simpa using this⟩
theorem zFk (w:vw) (x y:Nat):(w.alloc (.cells #[vd vn x,vd vn y] 22)).ownsRow w.1.size 22 1 (ve (vE ⟨w.1.size,0,vD⟩) 2 2) 2 (Oa [x,y]) :=
 ⟨rfl, .inr ⟨w.1.size,2,_,rfl,zR,heap_alloc_new w _,zR,by simp [maxLen],rfl,rfl⟩⟩
theorem zHN (label:Nat) (w:vw) :
  vB prog 134 #[vd vn label] w fun e w'=>e=vl (vf #[vd vn label,vd vn 0]) /\ vA w.1.size w w':=by
 have k2:=Blk.new w 129 #[vd vn label,vd vn 0];have Ba:=(Ca w.1.size w).alloc zR (.cells #[vd vn label,vd vn 0] 129);have c0:=k2.cell 0;have c1:=k2.cell 1;go_enter func134,ntmps134
 go_wp2_with fail
 generalize w.alloc _=w1 at k2 Ba c0 c1 |-;exact Tc (v:=vf #[vd vn label,vd vn 0]) (by simp [results,results134,go_sem,c0,c1]) rfl ⟨rfl,Ba⟩
theorem DW {w:vw} {g:Nat} {O:Ha} {F K:Nat -> Prop} (h:OrcAt w g O F) (st ct tag:Nat) (A:Option vy) (n c:Nat) (l:List Nat) (hl:Ue K w (ve A n c) l) (hlen:l.length <= 100000) (Sc:st<18446744073709551616) (htag:tag<18446744073709551616) (hO:pc O 1000000) :
  vB prog 133 #[.pointer (vE ⟨g,0,vD⟩),vf #[vd vn st,vd vn ct],vd vn tag,ve A n c] w fun e w' =>
   e=vl (vf #[vd vn (me O 18 (st :: tag :: l):Int),vd vn 0]) /\ ∃ F',OrcAt w' g (Pc O 18 (st :: tag :: l)) F' /\ Moved F F' w w':=by
 obtain ⟨kx,kr,da,ib⟩:=Eh w 129 129 #[vd vn st,vd vn ct] #[vd vn 0,vd vn 0];have H:=zH h;have Ra:=(Nb (ak hl)).2.2.2.2;have Tn:=(Nb (ak hl)).2.2.2.1;have hn:=(Nb (ak hl)).1;subst hn;have zm:=zH (sj Sc (sj htag Tn));have Rg:=zH hlen;have HO:=zH hO;have UD:=zH Ra;clear h hl Ra Tn Sc htag hO;go_enter func133,ntmps133
 go_upto_region 1 with fail
 generalize (w.alloc _).alloc _=w1 at kx kr da ib |-;have nh:=kx.cell;have Aa:=zFk w1 st tag;have ma:=(Ca w1.1.size w1).alloc zR (.cells #[vd vn st,vd vn tag] 22);have vI:=(UD.out.below da).below ma;have hgs:w.1.size+1<w1.1.size:=kr.lt;clear ib;go_wp2_with (at_builtin;refine uk rfl _ _ rfl OL rfl Aa rfl vI (oq _) (by omega) (by simp) ?_)
 intro v' w2 Rv Wa Dc;have Ba:vA w1.1.size w1 w2:=ma.trans (tp Aa Wa (by simp))
 have hkr:=PI (l:=st :: tag :: l) (MF (c:=st :: tag :: l) Rv rfl) zm.out;have jn:=ja kx Ba;have pg:=ja kr Ba;have Sa:=pa da Ba;have H2:=zH (H.out.below Sa);have WD:=zH (show ∀ b,v'.ownBlock=vE b -> ¬F b from fun b hb hf=>by
  have:=H.out.lt b hf;have:=(Rv.lt b hb).1;omega)
 have ah:∃ A' c',v'=ve A' (2+l.length) c':=by obtain ⟨A',c',e,-⟩:=de Rv;exact ⟨A',c',e⟩
 obtain ⟨Av,cv,rfl⟩:=ah;have zJ:=zH (aM H2.out 18 (st :: tag :: l) Av (2+l.length) cv hkr WD.out (by decide) (by simp;omega) (.inl (by simp)) HO.out.1 HO.out.2)
 have M2:=zH (Qc (F:=F) Sa);have Bt:¬F (w.1.size+1):=fun e=>by have:=H.out.lt _ e;omega
 clear Rv Wa Dc Aa ma vI Ba jn hkr Sa da kx nh kr;go_wp2_with fail
 refine zJ.out.mono ?_;rintro _ w3 ⟨rfl,F',h3,m3⟩;have rm:=pg.moved m3 Bt;have Mh:=Sd m3 pg.lt Bt;have rF:=jN (x:=vd vn (me O 18 (st :: tag :: l):Int)) (y:=vd vn 0) (gr:=w.1.size+1) (M2.out.trans m3) (by omega) h3 Mh rm
 have WE:=rm.frozen;have Vi:=rm.cell;clear h3 m3 pg;go_wp2_with fail
 obtain ⟨s1,s2,s3⟩:=rF;generalize (w3.setCell _ _).setCell _ _=w4 at s1 s2 s3 |-;have c0:=s3.cell 0;have c1:=s3.cell 1;exact Tc (v:=vf #[vd vn (me O 18 (st :: tag :: l):Int),vd vn 0]) (by simp [results,results133,go_sem,c0,c1]) rfl ⟨rfl,F',s1,s2⟩
theorem zAf {w:vw} {g:Nat} {O:Ha} {F:Nat -> Prop} (h:OrcAt w g O F) (st ct p:Nat) (hp:0<p) (hp64:p<18446744073709551616) (Sc:st<18446744073709551616) (Qz:ct<1000000000) (hO:pc O 1000000) :
  vB prog 140 #[.pointer (vE ⟨g,0,vD⟩),vf #[vd vn st,vd vn ct],vd vn p] w fun e w' =>
   e=vl (.tuple #[vd vn ((me O 19 [st,ct]%p:Nat):Int),vf #[vd vn st,vd vn ((ct+1:Nat):Int)]]) /\ ∃ F',OrcAt w' g (Pc O 19 [st,ct]) F' /\ Moved F F' w w':=by
 obtain ⟨kx,kr,da,ib⟩:=Eh w 129 129 #[vd vn st,vd vn ct] #[vd vn 0,vd vn 0];have H:=zH h;have zm:=zH (show ∀ x∈[st,ct],x<18446744073709551616 from sj Sc (sj (by omega) fun _ h=>nomatch h))
 have HO:=zH hO;have d0:((p:Int) == 0)=false:=by rw [Gd];omega
 have HP64:=zH hp64;have HP:=zH hp;obtain ⟨c1,td⟩:=zEX (ct+1);have ec:vn.wrap ((ct:Int)+1)=(c1:Int):=by rw [pj];omega
 rw [<- td];obtain ⟨av,Zx⟩:=zEX (me O 19 [st,ct]);rw [<- Zx];obtain ⟨rv,Ag⟩:=zEX (av%p);have er:(av:Int).tmod (p:Int)=rv:=by rw [Int.tmod_eq_emod_of_nonneg (by omega),Ag];exact (Int.natCast_emod av p).symm
 rw [<- Ag];have Uw:=zH Zx;have zg:(p:Int)≠0:=by omega
 have tC:¬(p=0):=by omega
 clear h Sc Qz hO td Zx Ag hp64;go_enter func140,ntmps140
 go_upto_region 3 with fail
 generalize (w.alloc _).alloc _=w1 at kx kr da ib |-;have nh:=kx.cell;have ma:=(Ca w1.1.size w1).alloc zR (.cells #[vd vn st,vd vn ct] 22);have kp:=Blk.new w1 22 #[vd vn st,vd vn ct];have hgs:w.1.size+1<w1.1.size:=kr.lt;have QF:¬F w1.1.size:=fun e=>by have:=H.out.lt _ e;omega
 clear ib;have jn:=ja kx ma;have pg:=ja kr ma;have Sa:=pa da ma;have H2:=zH (H.out.below Sa);have zJ:=zH (aM H2.out 19 [st,ct] (vE ⟨w1.1.size,0,vD⟩) 2 2 (nK (l:=[st,ct]) kp rfl zm.out (by simp [maxLen])) (fun b hb=>by subst hb;exact QF) (by decide) (by simp) (.inl (by simp)) HO.out.1 HO.out.2)
 rw [<- Uw.out] at zJ;have M2:=zH (Qc (F:=F) Sa);have nFx:¬F w.1.size:=fun e=>by have:=H.out.lt _ e;omega
 have Bt:¬F (w.1.size+1):=fun e=>by have:=H.out.lt _ e;omega
 have KX2:=zH jn;have Mi:=zH pg;clear ma kp jn pg Sa da kx kr;go_wp2_with fail
 generalize w1.alloc _=w2 at H2 zJ M2 KX2 Mi |-;refine zJ.out.mono ?_;rintro _ w3 ⟨rfl,F',h3,m3⟩;have RI:=KX2.out.moved m3 nFx;have rm:=Mi.out.moved m3 Bt;have Mh:=Sd m3 Mi.out.lt Bt;have MM:=zH (M2.out.trans m3);have H3:=zH h3;clear h3 m3 zJ nh;have nh:=RI.cell;have lx:=RI.lt;have nxr:w.1.size≠w.1.size+1:=by omega
 go_wp2_with fail
 obtain ⟨gr,Va⟩:=zEX (w.1.size+1);rw [<- Va] at rm Mh nxr |-;have HGR:=zH Va;clear Va;refine zd (Km gr) [10] [0,1,2,3,4,5,6,7,8,9,10] (by kernel_rfl) (by kernel_rfl) ?_
 refine Se (Re gr) ?_;intro Wc Ja ia;have k3:Blk Wc gr 129 #[vd vn 0,vd vn 0]:=by rw [Ja.out];exact rm.drew
 have h4:=jN (x:=vd vn st) (y:=vd vn c1) (show Moved F F' w Wc by rw [Ja.out];exact ow MM.out) (by rw [HGR.out];omega) (show OrcAt Wc g (Pc O 19 [st,ct]) F' by rw [Ja.out];exact H3.out.drew) Mh k3
 have WE:=k3.frozen;have Vi:=k3.cell;clear Ja;refine oo ?_;refine ef (Re gr) rfl rfl rfl ?_;go_simp;refine ⟨GO Wc gr 0 1 (vd vn st) (vd vn c1),?_⟩;obtain ⟨s1,s2,s3⟩:=h4
 refine zPU ?_
 generalize (Wc.setCell _ _).setCell _ _=w5 at s1 s2 s3 |-;refine Jc ?_;have c0:=s3.cell 0;have c2:=s3.cell 1;go_wp2;exact Tc (v:=.tuple #[vd vn rv,vf #[vd vn st,vd vn c1]]) (by simp [results,results140,go_sem,c0,c2]) rfl ⟨rfl,F',s1,s2⟩
def Cg (p:Nat) (x y:Int):Prop:=(p:Int)∣x-y
theorem Cg.rfl' {p:Nat} {x:Int}:Cg p x x:=⟨0,by omega⟩
theorem Cg.of_eq {p:Nat} {x y:Int} (h:x=y):Cg p x y:=h ▸ Cg.rfl'
theorem Cg.symm {p:Nat} {x y:Int} (h:Cg p x y):Cg p y x:=by
 obtain ⟨c,hc⟩:=h;exact ⟨-c,by rw [Int.mul_neg,<- hc];omega⟩
theorem Cg.trans {p:Nat} {x y z:Int} (h:Cg p x y) (h2:Cg p y z):Cg p x z:=by
 obtain ⟨c,hc⟩:=h;obtain ⟨d,hd⟩:=h2;exact ⟨c+d,by rw [Int.mul_add,<- hc,<- hd];omega⟩
theorem Cg.add {p:Nat} {x y u v:Int} (h:Cg p x y) (h2:Cg p u v):Cg p (x+u) (y+v):=by
 obtain ⟨c,hc⟩:=h;obtain ⟨d,hd⟩:=h2;exact ⟨c+d,by rw [Int.mul_add,<- hc,<- hd];omega⟩
theorem Cg.mul {p:Nat} {x y u v:Int} (h:Cg p x y) (h2:Cg p u v):Cg p (x*u) (y*v):=by
 obtain ⟨c,hc⟩:=h;obtain ⟨d,hd⟩:=h2;refine ⟨c*u+y*d,?_⟩;have e:x*u-y*v=(x-y)*u+y*(u-v):=by rw [Int.sub_mul,Int.mul_sub];omega
 rw [e,hc,hd,Int.mul_add,Ao,<- Ao y,Jj y (p:Int),Ao]
theorem Cg.neg {p:Nat} {x y:Int} (h:Cg p x y):Cg p (-x) (-y):=by
 obtain ⟨c,hc⟩:=h;exact ⟨-c,by rw [Int.mul_neg,<- hc];omega⟩
theorem Cg.mod {p:Nat} (x:Nat):Cg p ((x%p:Nat):Int) (x:Int):=by
 refine ⟨-((x / p:Nat):Int),?_⟩;have h:=bu x p;have h2:((p*(x / p)+x%p:Nat):Int)=(x:Int):=by rw [h]
 rw [Ml,Uf] at h2;rw [Int.mul_neg];omega
theorem Cg.pow {p:Nat} {x y:Int} (h:Cg p x y) (k:Nat):Cg p (x^k) (y^k):=by
 induction k with
 | zero=>exact Cg.of_eq (by rw [Int.pow_zero,Int.pow_zero])
 | succ k ih=>rw [jj,jj];exact ih.mul h
theorem Cg.eq {p a b:Nat} (h:Cg p (a:Int) (b:Int)) (ha:a<p) (hb:b<p):a=b:=by
 obtain ⟨c,hc⟩:=h;rcases Int.lt_trichotomy c 0 with h1 | h1 | h1
 ·have:(p:Int)*c <= (p:Int)*(-1):=Int.mul_le_mul_of_nonneg_left (by omega) (by omega)
  omega
 ·subst h1;omega
 ·have:(p:Int)*1 <= (p:Int)*c:=Int.mul_le_mul_of_nonneg_left (by omega) (by omega)
  omega
def yb (a:Nat -> Int) (x:Int):Nat -> Int
 | 0=>0
 | n+1=>yb a x n+a n*x^n
theorem Po {p:Nat} {a b:Nat -> Int} {x y:Int} (h:∀ i,Cg p (a i) (b i)) (hx:Cg p x y):∀ n,Cg p (yb a x n) (yb b y n)
 | 0=>Cg.rfl'
 | n+1=>(Po h hx n).add ((h n).mul (hx.pow n))
theorem RS (a:Nat -> Int) (x:Int):∀ n,yb a x (2*n)=yb (fun i=>a (2*i)) (x*x) n+x*yb (fun i=>a (2*i+1)) (x*x) n
 | 0=>by simp [yb]
 | n+1=>by
  have e:(x*x)^n=x^(2*n):=by rw [Ch];congr 1;rw [jj,jj,Int.pow_zero,Kn]
  show yb a x (2*n)+a (2*n)*x^(2*n)+a (2*n+1)*x^(2*n+1)=_
  rw [RS a x n];show _=(yb (fun i=>a (2*i)) (x*x) n+a (2*n)*(x*x)^n)+x*(yb (fun i=>a (2*i+1)) (x*x) n+a (2*n+1)*(x*x)^n)
  rw [e,jj]
  grind
theorem tQ (p w:Nat):∀ k,Cg p (Cr p w k:Int) ((w:Int)^k)
 | 0=>Cg.rfl'
 | k+1=>by
  show Cg p ((Cr p w k*w%p:Nat):Int) _
  refine (Cg.mod _).trans ?_;rw [Uf,jj];exact (tQ p w k).mul Cg.rfl'
theorem WC (p a:Nat) (hp:0<p):Cg p (Zf p a:Int) (-(a:Int)):=by
 have h1:Cg p ((a%p:Nat):Int) (a:Int):=Cg.mod a;refine Cg.trans ?_ h1.neg;have h:=ic a hp;unfold Zf;split
 ·rename_i h0
  rw [h0];exact Cg.rfl'
 ·exact ⟨1,by omega⟩
theorem xO (p:Nat) (hp:0<p):∀ (j:Nat) (a:Nat -> Nat) (w:Nat),(j=0 \/ Cg p ((w:Int)^(2^(j-1))) (-1)) -> ∀ k,k<2^j -> Cg p (Rj p j a w k:Int) (yb (fun i=>(a i:Int)) ((w:Int)^k) (2^j))
 | 0,a,w,_,k,hk=>by
  obtain rfl:k=0:=by omega
  show Cg p (a 0:Int) _
  exact Cg.of_eq (by simp [yb])
 | j+1,a,w,hw,k,hk=>by
  have sh:Cg p ((w:Int)^(2^j)) (-1):=by
   rcases hw with h | h
   ·omega
   ·exact h
  have Yv:j=0 \/ Cg p (((w*w%p:Nat):Int)^(2^(j-1))) (-1):=by
   rcases Ho j with h | h
   ·exact Or.inl h
   ·refine Or.inr (((Cg.mod (p:=p) (w*w)).pow _).trans ?_)
    have e:((w*w:Nat):Int)^(2^(j-1))=(w:Int)^(2^j):=by
     rw [Uf,show 2^j=2*2^(j-1) by rw [ze,<- If];congr 1;omega,Ch]
     congr 1
     rw [jj,jj,Int.pow_zero,Kn]
    rw [e];exact sh
  have key:∀ i,i<2^j -> ∀ x:Int,Cg p (x*x) (((w:Int)^i)*((w:Int)^i)) -> Cg p ((Rj p j (fun i=>a (2*i)) (w*w%p) i:Int)+x*(Rj p j (fun i=>a (2*i+1)) (w*w%p) i:Int)) (yb (fun i=>(a i:Int)) x (2^(j+1))):=by
   intro i hi x hx;have e0:Cg p (((w*w%p:Nat):Int)^i) (x*x):=by
    refine ((Cg.mod (p:=p) (w*w)).pow _).trans (Cg.trans (Cg.of_eq ?_) hx.symm);rw [Uf,Int.mul_pow]
   have h1:=(xO p hp j (fun i=>a (2*i)) (w*w%p) Yv i hi).trans (Po (fun _=>Cg.rfl') e0 _)
   have h2:=(xO p hp j (fun i=>a (2*i+1)) (w*w%p) Yv i hi).trans (Po (fun _=>Cg.rfl') e0 _)
   rw [show 2^(j+1)=2*2^j by rw [If,ze],RS]
   exact h1.add (Cg.rfl'.mul h2)
  rw [Rj];simp only [];split
  ·rename_i ta
   refine (Cg.mod _).trans (Cg.trans ?_ (key k ta ((w:Int)^k) Cg.rfl'));rw [Ml];refine Cg.rfl'.add ((Cg.mod _).trans ?_);rw [Uf];exact (tQ p w k).mul Cg.rfl'
  ·rename_i aF
   obtain ⟨i,rfl⟩:∃ i,k=2^j+i:=⟨k-2^j,by omega⟩
   have hi:i<2^j:=by rw [If] at hk;omega
   rw [XG];have ex:Cg p ((w:Int)^(2^j+i)) (-((w:Int)^i)):=by
    rw [Int.pow_add];refine (sh.mul Cg.rfl').trans (Cg.of_eq (by omega))
   refine (Cg.mod _).trans (Cg.trans ?_ (key i hi ((w:Int)^(2^j+i)) ?_))
   ·rw [Ml]
    refine Cg.rfl'.add ((WC p _ hp).trans ?_);refine ((Cg.mod _).neg).trans ?_;rw [Uf];refine (((tQ p w i).mul Cg.rfl').neg).trans ?_;rw [<- Int.neg_mul];exact ex.symm.mul Cg.rfl'
   ·refine (ex.mul ex).trans (Cg.of_eq ?_)
    rw [Int.neg_mul_neg]
def EA (p:Nat):Nat -> Nat -> Nat -> Nat
 | 0,_,_=>1
 | f+1,b,e=>if e%2=1 then b*EA p f (b*b%p) (e / 2)%p else EA p f (b*b%p) (e / 2)
theorem oN (p:Nat):∀ (f b e:Nat),e<2^f -> Cg p (EA p f b e:Int) ((b:Int)^e)
 | 0,b,e,h=>by
  obtain rfl:e=0:=by omega
  exact Cg.of_eq (by simp [EA])
 | f+1,b,e,h=>by
  have h2:e / 2<2^f:=by rw [If] at h;omega
  have ih:=(oN p f (b*b%p) (e / 2) h2).trans ((Cg.mod (p:=p) (b*b)).pow _);have e1:((b*b:Nat):Int)^(e / 2)=(b:Int)^(2*(e / 2)):=by
   rw [Uf,Ch]
   congr 1
   rw [jj,jj,Int.pow_zero,Kn]
  rw [e1] at ih;rw [EA];split
  ·rename_i h1
   refine (Cg.mod _).trans ?_;rw [Uf,show (b:Int)^e=(b:Int)*b^(2*(e / 2)) by rw [Jj,<- jj];congr 1;omega]
   exact Cg.rfl'.mul ih
  ·rw [show 2*(e / 2)=e by omega] at ih
   exact ih
theorem zDj {p:Nat} (h:Fb p=true):EA p 64 (Kb p).1 ((p-1) / 2)=p-1 /\ (p-1)%2=0 /\ (p-1) / 2<2^64:=by
 rcases Dt h with rfl | rfl | rfl | rfl | rfl | rfl | rfl <;> decide +kernel
theorem zDk {p:Nat} (h:Fb p=true):Cg p (((Kb p).1:Int)^((p-1) / 2)) (-1):=by
 obtain ⟨h1,-,h3⟩:=zDj h;have h4:=oN p 64 (Kb p).1 ((p-1) / 2) h3;rw [h1] at h4;refine h4.symm.trans ⟨1,?_⟩;have:=(Pb h).1;omega
theorem FQ {p n j:Nat} (h:Fb p=true) (hn:Dk p n) (hj:n=2^j):j=0 \/ Cg p ((Be p n:Int)^(2^(j-1))) (-1):=by
 rcases Ho j with h0 | h0
 ·exact Or.inl h0
 ·right
  refine ((Cg.mod (p:=p) _).pow _).trans (Cg.trans (Cg.of_eq ?_) (zDk h));rw [Bo,<- Ch]
  congr 1
  have e:n=2*2^(j-1):=by rw [hj,ze,<- If];congr 1;omega
  have hd:=hn.dvd;have Nk:=hn.pos;obtain ⟨q,hq⟩:∃ q,p-1=n*q:=⟨(p-1) / n,by have:=bu (p-1) n;omega⟩
  rw [hq,Nat.mul_div_cancel_left _ (by omega),e,Nat.mul_assoc,Nat.mul_div_cancel_left _ (by omega),ze]
theorem zAw {p:Nat} (h:Fb p=true):EA p 64 2 (p-1)=1 /\ EA p 64 (Kb p).1 (p-1)=1 /\ p-1<2^64:=by
 rcases Dt h with rfl | rfl | rfl | rfl | rfl | rfl | rfl <;> decide +kernel
theorem zH1 {p:Nat} (h:Fb p=true):Cg p ((2:Int)^(p-1)) 1:=by
 obtain ⟨h1,-,h3⟩:=zAw h;have h4:=oN p 64 2 (p-1) h3;rw [h1] at h4;exact h4.symm
theorem JH {p:Nat} (h:Fb p=true):Cg p (((Kb p).1:Int)^(p-1)) 1:=by
 obtain ⟨-,h1,h3⟩:=zAw h;have h4:=oN p 64 (Kb p).1 (p-1) h3;rw [h1] at h4;exact h4.symm
theorem zDQ {p n j:Nat} (h:Fb p=true) (hj:n=2^j):Cg p ((n:Int)*((n^(p-2)%p:Nat):Int)) 1:=by
 have hp:=Pb h;refine (Cg.rfl'.mul (Cg.mod _)).trans ?_;have e:(n:Int)*((n^(p-2):Nat):Int)=((2:Int)^(p-1))^j:=by
  rw [Bo,hj,Bo,Jj,<- jj,<- Ch,<- Ch,Nat.succ_eq_add_one,show p-2+1=p-1 by omega,ze]
  rfl
 rw [e];refine ((zH1 h).pow j).trans (Cg.of_eq ?_);exact Int.one_pow
theorem GQ {p n:Nat} (h:Fb p=true) (hn:Dk p n):Cg p ((Be p n:Int)^n) 1:=by
 refine ((Cg.mod (p:=p) _).pow _).trans (Cg.trans (Cg.of_eq ?_) (JH h));rw [Bo,<- Ch]
 congr 1
 have hd:=hn.dvd;have:=bu (p-1) n;rw [ze];omega
theorem uU {p n:Nat} (h:Fb p=true) (hn:Dk p n):Cg p ((Be p n:Int)*((Be p n^(p-2)%p:Nat):Int)) 1:=by
 have hp:=Pb h;refine (Cg.rfl'.mul (Cg.mod _)).trans ?_;have e:(Be p n:Int)*((Be p n^(p-2):Nat):Int)=((Be p n:Int)^n)^((p-1) / n):=by
  have hd:=hn.dvd;have h2:=bu (p-1) n;rw [Bo,Jj,<- jj,<- Ch]
  congr 1
  omega
 rw [e];exact ((GQ h hn).pow _).trans (Cg.of_eq Int.one_pow)
theorem YY {p:Nat}:∀ (j:Nat) (x:Int) (t:Nat),t<j -> Cg p (x^(2^t)) (-1) -> Cg p (yb (fun _=>1) x (2^j)) 0
 | 0,_,t,ht,_=>absurd ht (Nat.not_lt_zero t)
 | j+1,x,t,ht,hx=>by
  rw [show 2^(j+1)=2*2^j by rw [If,ze],RS]
  show Cg p (yb (fun _=>1) (x*x) (2^j)+x*yb (fun _=>1) (x*x) (2^j)) 0
  cases t with
  | zero =>
   rw [Nat.pow_zero,jj,Int.pow_zero,Kn] at hx;exact (Cg.rfl'.add (hx.mul Cg.rfl')).trans (Cg.of_eq (by omega))
  | succ t =>
   have ih:=YY j (x*x) t (by omega) (by
    refine Cg.trans (Cg.of_eq ?_) hx;rw [show x*x=x^2 by rw [jj,jj,Int.pow_zero,Kn],<- Ch]
    congr 1
    rw [If,ze])
   exact (ih.add (Cg.rfl'.mul ih)).trans (Cg.of_eq (by omega))
theorem E6:∀ o:Nat,(-1:Int)^(2*o+1)=-1
 | 0=>by decide
 | o+1=>by rw [show 2*(o+1)+1=(2*o+1)+1+1 by omega,jj,jj,E6 o];decide
theorem S9 {p:Nat}:∀ (j:Nat) (w:Int) (d:Nat),Cg p (w^(2^(j-1))) (-1) -> 0<d -> d<2^j -> ∃ t,t<j /\ Cg p ((w^d)^(2^t)) (-1)
 | 0,_,d,_,h0,h1=>by omega
 | j+1,w,d,hw,h0,h1=>by
  rcases Nat.mod_two_eq_zero_or_one d with h | h
  ·obtain ⟨e,rfl⟩:∃ e,d=2*e:=⟨d / 2,by omega⟩
   have hj:j≠0:=by rintro rfl;omega
   have he:e<2^j:=by rw [If] at h1;omega
   obtain ⟨t,ht,hc⟩:=S9 j (w^2) e (by
    refine Cg.trans (Cg.of_eq ?_) hw;rw [<- Ch]
    congr 1
    show 2*2^(j-1)=2^j
    rw [ze,<- If]
    congr 1
    omega) (by omega) he
   exact ⟨t,by omega,by rw [Ch (a:=w)];exact hc⟩
  ·obtain ⟨o,rfl⟩:∃ o,d=2*o+1:=⟨d / 2,by omega⟩
   refine ⟨j,by omega,?_⟩
   rw [<- Ch,ze,Ch];exact (Cg.pow hw _).trans (Cg.of_eq (E6 o))
theorem YV {p j d:Nat} {w:Int} (hw:Cg p (w^(2^(j-1))) (-1)) (h0:0<d) (h1:d<2^j):Cg p (yb (fun _=>1) (w^d) (2^j)) 0:=by
 obtain ⟨t,ht,hc⟩:=S9 j w d hw h0 h1;exact YY j _ t ht hc
def Pa (f:Nat -> Int):Nat -> Int
 | 0=>0
 | n+1=>Pa f n+f n
theorem uv (a:Nat -> Int) (x:Int):∀ n,yb a x n=Pa (fun i=>a i*x^i) n
 | 0=>rfl
 | n+1=>by rw [yb,Pa,uv a x n]
theorem Gi {p:Nat} {f g:Nat -> Int}:∀ n,(∀ i,i<n -> Cg p (f i) (g i)) -> Cg p (Pa f n) (Pa g n)
 | 0,_=>Cg.rfl'
 | n+1,h=>(Gi n fun i hi=>h i (by omega)).add (h n (by omega))
theorem Ly (c:Int) (f:Nat -> Int):∀ n,c*Pa f n=Pa (fun i=>c*f i) n
 | 0=>by simp [Pa]
 | n+1=>by rw [Pa,Pa,Int.mul_add,Ly c f n]
theorem XK (f g:Nat -> Int):∀ n,Pa (fun i=>f i+g i) n=Pa f n+Pa g n
 | 0=>rfl
 | n+1=>by rw [Pa,Pa,Pa,XK f g n];omega
theorem sD:∀ n,Pa (fun _=>0) n=0
 | 0=>rfl
 | n+1=>by rw [Pa,sD n];rfl
theorem IA (f:Nat -> Nat -> Int) (m:Nat):∀ n,Pa (fun i=>Pa (fun k=>f i k) m) n=Pa (fun k=>Pa (fun i=>f i k) n) m
 | 0=>by simp only [Pa];rw [sD]
 | n+1=>by
  rw [Pa,IA f m n,<- XK]
  rfl
theorem zAa {p n q:Nat} {f:Nat -> Int} {y:Int} (hq:q<n) (h0:∀ k,k<n -> k≠q -> Cg p (f k) 0) (h1:Cg p (f q) y):Cg p (Pa f n) y:=by
 induction n with
 | zero=>omega
 | succ n ih =>
  rw [Pa];by_cases e:q=n
  ·subst e
   have hz:Cg p (Pa f q) (Pa (fun _=>0) q):=Gi q fun i hi=>h0 i (by omega) (by omega)
   rw [sD] at hz;exact (hz.add h1).trans (Cg.of_eq (by omega))
  ·exact ((ih (by omega) fun k hk Ta=>h0 k (by omega) Ta).add (h0 n (by omega) (by omega))).trans (Cg.of_eq (by omega))
theorem MS:∀ n:Nat,yb (fun _=>1) 1 n=(n:Int)
 | 0=>rfl
 | n+1=>by rw [yb,MS n,Int.one_pow];omega
theorem PZ {p j:Nat} {w v:Int} (hw:Cg p (w^(2^(j-1))) (-1)) (hv:Cg p (w*v) 1):Cg p (v^(2^(j-1))) (-1):=by
 have h1:=hv.pow (2^(j-1));rw [Int.mul_pow,Int.one_pow] at h1;have h2:=((hw.mul (Cg.rfl' (x:=v^(2^(j-1))))).symm.trans h1).neg;exact Cg.trans (Cg.of_eq (by omega)) h2
theorem tP {p:Nat} {w v:Int} (hv:Cg p (w*v) 1) (q:Nat):Cg p (v^q*w^q) 1:=by
 rw [<- Int.mul_pow,Jj v w];exact (hv.pow q).trans (Cg.of_eq Int.one_pow)
theorem zDM {p n j:Nat} (m:Nat -> Int) (w v s:Int) (hn:n=2^j) (hw:j=0 \/ Cg p (w^(2^(j-1))) (-1)) (hv:Cg p (w*v) 1) (hs:Cg p ((n:Int)*s) 1) (q:Nat) (hq:q<n) :
  Cg p (yb (fun i=>s*yb m (v^i) n) (w^q) n) (m q):=by
 have hx:∀ k,k<n -> k≠q -> Cg p (yb (fun _=>1) (v^k*w^q) n) 0:=by
  intro k hk Ta;have hj:j≠0:=by rintro rfl;omega
  have sh:Cg p (w^(2^(j-1))) (-1):=hw.resolve_left hj;rcases Nat.lt_or_gt_of_ne Ta with h | h
  ·have e:Cg p (v^k*w^q) (w^(q-k)):=by
    obtain ⟨d,rfl⟩:∃ d,q=k+d:=⟨q-k,by omega⟩
    rw [XG,Int.pow_add,<- Ao];exact ((tP hv k).mul Cg.rfl').trans (Cg.of_eq (Kn _))
   rw [hn];exact (Po (fun _=>Cg.rfl') e _).trans (YV sh (by omega) (by omega))
  ·have e:Cg p (v^k*w^q) (v^(k-q)):=by
    obtain ⟨d,rfl⟩:∃ d,k=q+d:=⟨k-q,by omega⟩
    rw [XG,Int.pow_add,Ao,Jj (v^d),<- Ao];exact ((tP hv q).mul Cg.rfl').trans (Cg.of_eq (Kn _))
   rw [hn];exact (Po (fun _=>Cg.rfl') e _).trans (YV (PZ sh hv) (by omega) (by omega))
 have Yj:Cg p (yb (fun _=>1) (v^q*w^q) n) (n:Int):=(Po (fun _=>Cg.rfl') (tP hv q) n).trans (Cg.of_eq (MS n))
 have e1:yb (fun i=>s*yb m (v^i) n) (w^q) n=Pa (fun k=>s*m k*yb (fun _=>1) (v^k*w^q) n) n:=by
  rw [uv];have e2:(fun i=>s*yb m (v^i) n*(w^q)^i)=fun i=>Pa (fun k=>s*m k*(v^k*w^q)^i) n:=by
   funext i
   rw [uv,Jj (s*_),<- Ao,Ly]
   congr 1
   funext k
   rw [Int.mul_pow,<- Ch (a:=v),<- Ch (a:=v),ze i k]
   grind
  rw [e2,IA]
  congr 1
  funext k
  rw [uv,Ly]
  congr 1
  funext i
  rw [Kn]
 rw [e1];refine zAa hq (fun k hk Ta=>?_) ?_
 ·exact (Cg.rfl'.mul (hx k hk Ta)).trans (Cg.of_eq (Int.mul_zero _))
 ·refine (Cg.rfl'.mul Yj).trans (Cg.trans (Cg.of_eq (y:=(n:Int)*s*m q) (by grind)) ?_)
  exact (hs.mul Cg.rfl').trans (Cg.of_eq (Kn _))
theorem rP {p n j:Nat} (l:List Nat) (h:Fb p=true) (hn:Dk p n) (hj:n=2^j) {i:Nat} (hi:i<n) :
  Cg p (Xm p n j l i:Int) (((n^(p-2)%p:Nat):Int)*yb (fun k=>((l.getD k 0:Nat):Int)) (((Be p n^(p-2)%p:Nat):Int)^i) n):=by
 have hp:=Pb h;have hv:j=0 \/ Cg p (((Be p n^(p-2)%p:Nat):Int)^(2^(j-1))) (-1):=(FQ h hn hj).imp id fun h1=>PZ h1 (uU h hn)
 have h1:=xO p (by omega) j (lJ p l) (Be p n^(p-2)%p) hv i (by omega)
 rw [<- hj] at h1;refine (Cg.mod _).trans ?_;rw [Uf,Jj];exact Cg.rfl'.mul (h1.trans (Po (fun k=>Cg.mod _) Cg.rfl' n))
theorem UY {p:Nat} {a b:Nat -> Int} (x:Int):∀ n,(∀ i,i<n -> Cg p (a i) (b i)) -> Cg p (yb a x n) (yb b x n)
 | 0,_=>Cg.rfl'
 | n+1,h=>(UY x n fun i hi=>h i (by omega)).add ((h n (by omega)).mul Cg.rfl')
theorem tU {p n j:Nat} (l:List Nat) (h:Fb p=true) (hn:Dk p n) (hj:n=2^j) {q:Nat} (hq:q<n) :
  Cg p (yb (fun i=>(Xm p n j l i:Int)) ((Be p n:Int)^q) n) ((l.getD q 0:Nat):Int) :=
 (UY _ n fun _ hi=>rP l h hn hj hi).trans (zDM (fun k=>((l.getD k 0:Nat):Int)) _ _ _ hj (FQ h hn hj) (uU h hn) (zDQ h hj) q hq)
theorem OS {a b:Nat -> Int} (x:Int):∀ n,(∀ i,i<n -> a i=b i) -> yb a x n=yb b x n
 | 0,_=>rfl
 | n+1,h=>by rw [yb,yb,OS x n fun i hi=>h i (by omega),h n (by omega)]
theorem sO (a:Nat -> Nat) (k v:Nat) (x:Int):∀ n,k<n -> yb (fun i=>(xf a k v i:Int)) x n=yb (fun i=>(a i:Int)) x n+((v:Int)-a k)*x^k
 | 0,h=>by omega
 | n+1,h=>by
  rw [yb,yb];by_cases e:k=n
  ·subst e
   rw [OS (b:=fun i=>(a i:Int)) x k fun i hi=>by simp only [xf];rw [ya (by omega)]]
   simp only [xf,if_true]
   grind
  ·rw [sO a k v x n (by omega)]
   simp only [xf];rw [ya (by omega)]
   omega
theorem RW {p b:Nat} (hp:0<p) (l:List Nat) (x:Int) (m:Nat):∀ i,i <= m -> Cg p (yb (fun k=>(tg p b l i k:Int)) x (b+m)) ((x^b-1)*yb (fun k=>((l.getD k 0:Nat):Int)) x i)
 | 0,_=>by
  refine Cg.of_eq ?_;show yb (fun k=>((0:Nat):Int)) x (b+m)=(x^b-1)*0
  rw [uv,Int.mul_zero,<- sD (b+m)]
  congr 1
  funext k
  simp
 | i+1,hi=>by
  have ih:=RW hp (b:=b) l x m i (by omega)
  rw [tg];rw [sO _ _ _ _ _ (by omega),sO _ _ _ _ _ (by omega),yb]
  generalize xf (tg p b l i) i ((tg p b l i i+Zf p (l.getD i 0))%p)=v;have h1:Cg p (((tg p b l i i+Zf p (l.getD i 0))%p:Nat)-(tg p b l i i:Int)) (-((l.getD i 0:Nat):Int)):=by
   have:=((Cg.mod (p:=p) (tg p b l i i+Zf p (l.getD i 0))).trans (Cg.trans (Cg.of_eq (Ml _ _)) (Cg.rfl'.add (WC p (l.getD i 0) hp)))).add (Cg.rfl' (x:=-(tg p b l i i:Int)));exact Cg.trans (Cg.of_eq (by omega)) (this.trans (Cg.of_eq (by omega)))
  have h2:Cg p (((v (b+i)+l.getD i 0)%p:Nat)-(v (b+i):Int)) ((l.getD i 0:Nat):Int):=by
   have:=((Cg.mod (p:=p) (v (b+i)+l.getD i 0)).trans (Cg.of_eq (Ml _ _))).add (Cg.rfl' (x:=-(v (b+i):Int)));exact Cg.trans (Cg.of_eq (by omega)) (this.trans (Cg.of_eq (by omega)))
  refine ((ih.add (h1.mul Cg.rfl')).add (h2.mul Cg.rfl')).trans (Cg.of_eq ?_);rw [Int.pow_add]
  grind
theorem zAE {p b:Nat} (hp:0<p) (hb:0<b) (l:List Nat):∀ i k,Cg p (tg p b l i k:Int) ((if b <= k /\ k<b+i then ((l.getD (k-b) 0:Nat):Int) else 0)-(if k<i then ((l.getD k 0:Nat):Int) else 0))
 | 0,k=>by
  rw [ya (by omega),ya (by omega)]
  exact Cg.of_eq rfl
 | i+1,k=>by
  have ih:=zAE hp hb l i;rw [tg];simp only [xf];by_cases h1:k=b+i
  ·subst h1
   rw [Na rfl,ya (by omega),Na (by omega),XG]
   have h:=ih (b+i);rw [ya (by omega)] at h
   refine (Cg.mod _).trans (Cg.trans (Cg.of_eq (Ml _ _)) ?_);by_cases h2:b+i<i+1
   ·omega
   ·rw [ya h2]
    rw [ya (by omega)] at h
    exact (h.add Cg.rfl').trans (Cg.of_eq (by omega))
  ·rw [ya h1]
   by_cases h2:k=i
   ·subst h2
    rw [Na rfl,Na (show k<k+1 by omega)]
    have h:=ih k;rw [ya (by omega:¬k<k)] at h
    refine (Cg.mod _).trans (Cg.trans (Cg.of_eq (Ml _ _)) ?_);have e:(if b <= k /\ k<b+(k+1) then ((l.getD (k-b) 0:Nat):Int) else 0)=(if b <= k /\ k<b+k then ((l.getD (k-b) 0:Nat):Int) else 0):=by
     by_cases h3:b <= k
     ·rw [Na (by omega),Na (by omega)]
     ·rw [ya (by omega),ya (by omega)]
    rw [e];exact (h.add (WC p _ hp)).trans (Cg.of_eq (by omega))
   ·rw [ya h2]
    have h:=ih k;refine h.trans (Cg.of_eq ?_)
    congr 1
    ·by_cases h3:b <= k /\ k<b+i
     ·rw [Na h3,Na (by omega)]
     ·rw [ya h3,ya (by omega)]
    ·by_cases h3:k<i
     ·rw [Na h3,Na (by omega)]
     ·rw [ya h3,ya (by omega)]
theorem mX (p b i:Nat):(Mr p b).getD i 0=if i<b+1 then nR p b i else 0:=Bl _ _ _
theorem P5 {p b:Nat} (hp:1<p) (hb:0<b) (m:List Nat) (i:Nat):∀ j,j<b -> Cg p ((ik p (Mr p b) m (j+1)).getD i 0:Int) (-((m.getD i 0:Nat):Int))
 | 0,_=>by
  have hz:(Mr p b).getD 0 0=p-1:=by rw [mX,Na (by omega)];rfl
  rw [ik,gu,mN,ya (by omega),oJ,hz]
  have e0:(ik p (Mr p b) m 0).getD i 0=0:=by rw [ik];rfl
  rw [e0,Nat.sub_zero];refine (Cg.mod _).trans ?_;rw [Lj];refine (Cg.mod _).trans ?_;rw [Uf];have h1:Cg p ((p-1:Nat):Int) (-1):=⟨1,by omega⟩
  exact ((Cg.rfl' (x:=((m.getD i 0:Nat):Int))).mul h1).trans (Cg.of_eq (by omega))
 | j+1,hj=>by
  have hz:(Mr p b).getD (j+1) 0=0:=by
   rw [mX,Na (by omega),nR,ya (by omega),ya (by omega)]
  rw [zEC _ _ _ _ hz];exact (Cg.mod _).trans (P5 hp hb m i j (by omega))
theorem zEF {p b:Nat} (hp:1<p) (hb:0<b) (m:List Nat) (i:Nat):Cg p ((Rk p (Mr p b) m).getD i 0:Int) ((if b <= i then ((m.getD (i-b) 0:Nat):Int) else 0)-((m.getD i 0:Nat):Int)):=by
 have hz:(Mr p b).getD b 0=1:=by rw [mX,Na (by omega),nR,ya (by omega),Na rfl]
 obtain ⟨c,rfl⟩:∃ c,b=c+1:=⟨b-1,by omega⟩
 rw [Rk,nX,ik,gu,mN,oJ,hz,Pp];have h:=P5 hp hb m i c (by omega)
 refine (Cg.mod _).trans (Cg.trans (Cg.of_eq (Ml _ _)) ?_);by_cases h1:i<c+1
 ·rw [Na h1,ya (by omega)]
  exact (h.add Cg.rfl').trans (Cg.of_eq (by omega))
 ·rw [ya h1,Na (by omega)]
  exact (h.add (Cg.mod _)).trans (Cg.of_eq (by omega))
theorem Q5 {p b:Nat} (hp:1<p) (hb:0<b) (m:List Nat) (i:Nat):(Rk p (Mr p b) m).getD i 0=tg p b m m.length i:=by
 refine Cg.eq (p:=p) ((zEF hp hb m i).trans (Cg.trans (Cg.of_eq ?_) (zAE (by omega) hb m m.length i).symm)) (zED (by omega) _ _ _ _) (DD (by omega) _ _ _)
 congr 1
 ·by_cases h1:b <= i
  ·rw [Na h1]
   by_cases h2:i<b+m.length
   ·rw [Na ⟨h1,h2⟩]
   ·rw [ya (by omega),XJ (by omega)];rfl
  ·rw [ya h1,ya (by omega)]
 ·by_cases h1:i<m.length
  ·rw [Na h1]
  ·rw [ya h1,XJ (by omega)];rfl
theorem vT {p a b:Nat}:∀ k,Cg p (VJ p a b k:Int) ((a:Int)*b^k)
 | 0=>Cg.of_eq (by rw [VJ,Int.pow_zero,Int.mul_one])
 | k+1=>by
  rw [VJ];refine (Cg.mod _).trans ?_;rw [Uf,jj,<- Ao];exact (vT k).mul Cg.rfl'
theorem BS {p s n:Nat} (k:Nat):Cg p (Fh p s n k:Int) ((s:Int)*(Be p n:Int)^k):=(vT k).trans ((Cg.mod s).mul Cg.rfl')
theorem QS (a:Nat -> Int) (x:Int):∀ n,yb a x (n+1)=a 0+x*yb (fun i=>a (i+1)) x n
 | 0=>by simp [yb]
 | n+1=>by
  rw [yb,QS a x n,yb,jj]
  grind
theorem fU {p x:Nat}:∀ l:List Nat,Cg p (Ys p x l:Int) (yb (fun i=>((l.getD i 0:Nat):Int)) (x:Int) l.length)
 | []=>Cg.rfl'
 | c :: l=>by
  rw [Ys,xg,QS];refine (Cg.mod _).trans (Cg.trans (Cg.of_eq (Ml _ _)) ?_);refine (((Cg.mod (Ys p x l*x)).trans (Cg.trans (Cg.of_eq (Uf _ _)) ((fU l).mul Cg.rfl'))).add Cg.rfl').trans (Cg.of_eq ?_);show yb (fun i=>((l.getD i 0:Nat):Int)) (x:Int) l.length*(x:Int)+c=(c:Int)+x*yb (fun i=>((l.getD i 0:Nat):Int)) (x:Int) l.length
  rw [Jj,Int.add_comm]
theorem V7 {p x:Nat}:∀ k,Cg p (Og p x k:Int) ((x:Int)^k)
 | 0=>Cg.rfl'
 | k+1=>by
  rw [Og];refine (Cg.mod _).trans ?_;rw [Uf,jj];exact (V7 k).mul Cg.rfl'
theorem aZ {p x:Nat} (l:List Nat):∀ k,Cg p (evS p l (Og p x) k:Int) (yb (fun i=>((l.getD i 0:Nat):Int)) (x:Int) k)
 | 0=>Cg.rfl'
 | k+1=>by
  rw [evS,yb];refine (Cg.mod _).trans (Cg.trans (Cg.of_eq (Ml _ _)) ?_);refine (aZ l k).add ((Cg.mod _).trans ?_);rw [Uf];exact Cg.rfl'.mul (V7 k)
theorem RJ {p x:Nat} (l:List Nat):Cg p (Lc p l x:Int) (yb (fun i=>((l.getD i 0:Nat):Int)) (x:Int) l.length):=aZ l _
theorem ru {p:Nat} (hp:0<p) (l:List Nat) (x:Nat):Lc p l x<p:=by
 rw [Lc];cases l.length with
 | zero=>exact hp
 | succ k=>exact ic _ hp
theorem zDP {p n i:Nat} {w v:Int} (h1:Cg p (w^n) 1) (h2:Cg p (w*v) 1) (hi:i<n):Cg p (w^((n-i)%n)) (v^i):=by
 have h3:Cg p (w^((n-i)%n)*w^i) 1:=by
  rcases Ho i with h | h
  ·subst h
   rw [Nat.sub_zero,Nat.mod_self];exact Cg.of_eq (by simp)
  ·rw [Kj (by omega),<- Int.pow_add,show n-i+i=n by omega]
   exact h1
 have h4:=tP h2 i;have h5:Cg p (w^((n-i)%n)) (w^((n-i)%n)*(v^i*w^i)):=(Cg.of_eq (Int.mul_one _).symm).trans (Cg.rfl'.mul h4.symm);refine h5.trans ((Cg.of_eq ?_).trans ((h3.mul Cg.rfl').trans (Cg.of_eq (Kn _))));rw [Jj (v^i),Ao]
theorem U0 {p j:Nat} (l:List Nat) (h:Fb p=true) (hn:Dk p l.length) (hj:l.length=2^j) {i:Nat} (hi:i<l.length):pP p l 1 i=Xm p l.length j l i:=by
 have hp:=Pb h;refine Cg.eq (p:=p) ?_ (ic _ (by omega)) (ic _ (by omega))
 refine Cg.trans ?_ (rP l h hn hj hi).symm;refine (Cg.mod _).trans ?_;rw [Uf,Jj];have e1:(1%p)^(p-2)%p=1:=by rw [Kj (show 1<p by omega),Nat.one_pow,Kj (by omega)]
 rw [e1];refine Cg.mul ((vT i).trans (Cg.of_eq ?_)) ?_
 ·rw [show ((1:Nat):Int)=1 from rfl,Int.one_pow,Int.mul_one]
 ·rw [intE]
  refine (fU l).trans (Po (fun _=>Cg.rfl') ?_ _)
  refine (BS _).trans (Cg.trans (Cg.of_eq ?_) (zDP (GQ h hn) (uU h hn) hi));exact Kn _
def pA (L:Ma) (msg rf:List Nat):List Nat:=(List.range (L.block+rf.length)).map (Iu L msg rf)
def kD (L:Ma) (q:List Nat):List Nat:=(List.range (L.block+q.length)).map (tg L.p L.block q q.length)
theorem zG5 {L:Ma} (hL:Lb L) {msg rf:List Nat} (h1:msg.length=L.block) (h2:rf.length=L.queries):fN L msg rf=pA L msg rf:=by
 have hp:=Pb hL.p;have hb:=hL.b1;have hk:=hL.k;obtain ⟨hlen,j,hj⟩:=yy hL;have Au:L.block.log2=j:=by rw [hj];exact rz
 have dm:(fN L msg rf).length=L.block+rf.length:=by
  rw [fN,FK];have h3:=Ex L.p ((List.range msg.length).map (pP L.p msg 1)) (Rk L.p (Mr L.p L.block) rf);have h4:=GM L.p (Mr L.p L.block) rf;rw [nX] at h4;rw [Jm,Eo] at h3;omega
 refine LF (by rw [dm,pA,Jm,Eo]) fun i hi=>?_
 rw [dm] at hi;rw [fN,DK,gu,Bl,Q5 (by omega) (by omega),pA,Bl,Na hi,Iu,YF]
 by_cases h3:i<L.block
 ·rw [Na (by omega),Na h3,Au,U0 (j:=j) msg hL.p (by rw [h1];exact hlen) (by rw [h1];exact hj) (by omega),h1,Nat.add_comm]
 ·rw [ya (by omega),ya h3,Lj]
  exact Kj (DD (by omega) _ _ _)
theorem xQ {L:Ma} (hL:Lb L) {q:List Nat} (h:q.length=L.block+2*L.queries-1):Dw L q=kD L q:=by
 have hp:=Pb hL.p;have hb:=hL.b1;have hk:=hL.k;have dm:(Dw L q).length=L.block+q.length:=by
  rw [Dw,FK];have h4:=GM L.p (Mr L.p L.block) q;rw [nX] at h4;omega
 refine LF (by rw [dm,kD,Jm,Eo]) fun i hi=>?_
 rw [dm] at hi;rw [Dw,DK,Q5 (by omega) (by omega),kD,Bl,Na hi]
theorem ZY {p nb:Nat} (A B:Nat -> Nat) (x:Int):∀ n,Cg p (yb (fun k=>(YF p nb A B k:Int)) x n) (yb (fun k=>(A k:Int)) x n+yb (fun k=>(B k:Int)) x (min n nb))
 | 0=>by rw [Nat.zero_min];exact Cg.rfl'
 | n+1=>by
  have ih:=ZY A B x (p:=p) (nb:=nb) n;rw [yb,yb];by_cases h:n<nb
  ·rw [show min (n+1) nb=n+1 by omega,yb,YF,Na h]
   rw [show min n nb=n by omega] at ih
   refine (ih.add (((Cg.mod (A n+B n)).trans (Cg.of_eq (Ml _ _))).mul (Cg.rfl' (x:=x^n)))).trans (Cg.of_eq ?_);rw [Int.add_mul];omega
  ·rw [show min (n+1) nb=nb by omega,YF,ya h]
   rw [show min n nb=nb by omega] at ih
   exact (ih.add Cg.rfl').trans (Cg.of_eq (by omega))
theorem NS (f:Nat -> Nat) (x:Int) (n:Nat):yb (fun i=>((((List.range n).map f).getD i 0:Nat):Int)) x n=yb (fun i=>(f i:Int)) x n :=
 OS x n fun i hi=>by rw [Bl,Na hi]
theorem XV {p n:Nat} (h:Fb p=true) (hn:Dk p n) (k:Nat):Cg p (((Be p n:Int)^k)^n) 1:=by
 rw [<- Ch,ze,Ch];exact ((GQ h hn).pow k).trans (Cg.of_eq Int.one_pow)
theorem IL {p n k:Nat}:Cg p (Fh p 1 n k:Int) ((Be p n:Int)^k):=BS k |>.trans (Cg.of_eq (Kn _))
theorem W3 {p:Nat} {x:Int} (h:Cg p x 1):Cg p (x-1) 0:=by
 obtain ⟨c,hc⟩:=h;exact ⟨c,by rw [<- hc];omega⟩
theorem zG7 {L:Ma} (hL:Lb L) {msg rf:List Nat} (hm:∀ i,msg.getD i 0<L.p) {k:Nat} (hk:k<L.block):Lc L.p (pA L msg rf) (Fh L.p 1 L.block k)=msg.getD k 0:=by
 have hp:=Pb hL.p;obtain ⟨hlen,j,hj⟩:=yy hL;have Au:L.block.log2=j:=by rw [hj];exact rz
 refine Cg.eq (p:=L.p) ?_ (ru (by omega) _ _) (hm k)
 refine (RJ _).trans ?_;have hl:(pA L msg rf).length=L.block+rf.length:=by rw [pA,Jm,Eo]
 rw [hl,pA,NS];refine (Po (fun _=>Cg.rfl') IL _).trans ?_
 refine (ZY _ _ _ _).trans ?_;rw [show min (L.block+rf.length) L.block=L.block by omega]
 have hv:=RW (p:=L.p) (b:=L.block) (by omega) rf ((Be L.p L.block:Int)^k) rf.length rf.length zR
 have h0:Cg L.p (((Be L.p L.block:Int)^k)^L.block-1) 0:=W3 (XV hL.p hlen k);have hi:=tU (q:=k) msg hL.p hlen hj hk;rw [Au];refine ((hv.trans (h0.mul Cg.rfl')).add hi).trans (Cg.of_eq ?_);rw [Int.zero_mul,Int.zero_add]
theorem zGw {L:Ma} (hL:Lb L) (q:List Nat) (k:Nat):Lc L.p (kD L q) (Fh L.p 1 L.block k)=0:=by
 have hp:=Pb hL.p;obtain ⟨hlen,j,hj⟩:=yy hL;refine Cg.eq (p:=L.p) ?_ (ru (by omega) _ _) (by omega)
 refine (RJ _).trans ?_;have hl:(kD L q).length=L.block+q.length:=by rw [kD,Jm,Eo]
 rw [hl,kD,NS];refine (Po (fun _=>Cg.rfl') IL _).trans ?_
 have hv:=RW (p:=L.p) (b:=L.block) (by omega) q ((Be L.p L.block:Int)^k) q.length q.length zR
 have h0:Cg L.p (((Be L.p L.block:Int)^k)^L.block-1) 0:=W3 (XV hL.p hlen k);refine (hv.trans (h0.mul Cg.rfl')).trans (Cg.of_eq ?_);rw [Int.zero_mul]
 rfl
def lG (p:Nat) (f:Nat -> Nat):Nat -> Nat
 | 0=>0
 | k+1=>(lG p f k+f k)%p
theorem UQ {p:Nat} (f:Nat -> Nat):∀ k,Cg p (lG p f k:Int) (Pa (fun i=>(f i:Int)) k)
 | 0=>Cg.rfl'
 | k+1=>by
  rw [lG,Pa];exact (Cg.mod _).trans (Cg.trans (Cg.of_eq (Ml _ _)) ((UQ f k).add Cg.rfl'))
theorem zAc {p:Nat} (hp:0<p) (f:Nat -> Nat):∀ k,lG p f k<p
 | 0=>hp
 | _+1=>ic _ hp
theorem W7 {p n:Nat} {x:Int} (h:Cg p (x^n) 1) (i:Nat):Cg p (x^i) (x^(i%n)):=by
 have e:=bu i n;rw [<- e];rw [Int.pow_add,Ch,Nat.mul_add_mod,Nat.mod_mod];exact ((h.pow _).mul Cg.rfl').trans (Cg.of_eq (by rw [Int.one_pow,Kn]))
theorem zEZ {p n:Nat} (h:Fb p=true) (hn:Dk p n) (i:Nat):Cg p (yb (fun _=>1) ((Be p n:Int)^i) n) (if i%n=0 then (n:Int) else 0):=by
 obtain ⟨j,hj⟩:=hn.two;have h1:=W7 (GQ h hn) i;refine (Po (fun _=>Cg.rfl') h1 n).trans ?_
 split
 ·rename_i h0
  rw [h0,Int.pow_zero];exact Cg.of_eq (MS n)
 ·rename_i h0
  have ta:i%n<n:=ic _ hn.pos;rcases FQ h hn hj with h2 | h2
  ·subst h2
   rw [hj] at h0 ta;omega
  ·have:=YV (p:=p) (j:=j) (d:=i%n) h2 (by omega) (by rw [<- hj];exact ta)
   rw [<- hj] at this;exact this
theorem zHK {p n m:Nat} (h:Fb p=true) (hn:Dk p n) (a:Nat -> Int):Cg p (Pa (fun k=>yb a ((Be p n:Int)^k) m) n) ((n:Int)*Pa (fun i=>if i%n=0 then a i else 0) m):=by
 have e1:Pa (fun k=>yb a ((Be p n:Int)^k) m) n=Pa (fun i=>a i*yb (fun _=>1) ((Be p n:Int)^i) n) m:=by
  have e2:(fun k=>yb a ((Be p n:Int)^k) m)=fun k=>Pa (fun i=>a i*((Be p n:Int)^k)^i) m:=by funext k;rw [uv]
  rw [e2,IA]
  congr 1
  funext i
  rw [uv,Ly]
  congr 1
  funext k
  rw [Kn,<- Ch,<- Ch,ze]
 rw [e1,Ly];refine Gi m fun i _=>?_
 refine (Cg.rfl'.mul (zEZ h hn i)).trans (Cg.of_eq ?_);split
 ·rw [Jj]
 ·rw [Int.mul_zero,Int.mul_zero]
theorem yW {g:Nat -> Int} {s:Nat}:∀ t,(∀ i,i<t -> g (s+i)=0) -> Pa g (s+t)=Pa g s
 | 0,_=>rfl
 | t+1,h=>by
  rw [<- Nat.add_assoc,Pa,yW t fun i hi=>h i (by omega),h t (by omega)]
  omega
theorem zAd {n:Nat} (hn:0<n) (a:Nat -> Int):∀ q,Pa (fun i=>if i%n=0 then a i else 0) (q*n+1)=a 0+Pa (fun k=>a ((k+1)*n)) q
 | 0=>by
  rw [Nat.zero_mul];simp [Pa]
 | q+1=>by
  have h1:=zAd hn a q;have h2:=yW (g:=fun i=>if i%n=0 then a i else 0) (s:=q*n+1) (n-1) fun i hi=>by
   rw [ya];rw [show q*n+1+i=(1+i)+n*q by rw [ze];omega,Nat.add_mul_mod_self_left,Kj (by omega)]
   omega
  rw [Nat.succ_mul,show q*n+n+1=(q*n+1+(n-1))+1 by omega,Pa,h2,h1,show q*n+1+(n-1)=(q+1)*n by rw [Nat.succ_mul];omega,Pa]
  rw [Na (Nat.mul_mod_left _ _)];omega
theorem Z3 {p b:Nat} (hp:0<p) (l:List Nat):∀ q,Cg p (Ay p b l q:Int) (-(Pa (fun k=>((l.getD ((k+1)*b-1) 0:Nat):Int)) q))
 | 0=>Cg.rfl'
 | q+1=>by
  rw [Ay,Pa];refine (Cg.mod _).trans (Cg.trans (Cg.of_eq (Ml _ _)) ?_);exact ((Z3 hp l q).add (WC p _ hp)).trans (Cg.of_eq (by omega))
theorem zEa {L:Ma} (hL:Lb L) (l:List Nat):lG L.p (fun k=>Lc L.p (sg L l) (Fh L.p 1 L.block k)) L.block=0:=by
 have hp:=Pb hL.p;have hb:=hL.b1;obtain ⟨hlen,j,hj⟩:=yy hL;refine Cg.eq (p:=L.p) ?_ (zAc (by omega) _ _) (by omega)
 refine (UQ _ _).trans ?_;refine (Gi (g:=fun k=>yb (fun i=>(((sg L l).getD i 0:Nat):Int)) ((Be L.p L.block:Int)^k) (sg L l).length) L.block fun k _=>(RJ _).trans (Po (fun _=>Cg.rfl') IL _)).trans ?_
 refine (zHK hL.p hlen _).trans ?_;have hl:(sg L l).length=l.length / L.block*L.block+1+l.length%L.block:=by
  have:=bu l.length L.block;rw [sg,xg,ze];omega
 have hf:=yW (g:=fun i=>if i%L.block=0 then (((sg L l).getD i 0:Nat):Int) else 0) (s:=l.length / L.block*L.block+1) (l.length%L.block) fun i hi=>by
  have hm:l.length%L.block<L.block:=ic _ (by omega)
  rw [ya];rw [show l.length / L.block*L.block+1+i=(1+i)+L.block*(l.length / L.block) by rw [ze];omega,Nat.add_mul_mod_self_left,Kj (by omega)]
  omega
 rw [hl,hf,zAd (by omega)]
 have e0:((((sg L l).getD 0 0:Nat):Int))=(Ay L.p L.block l (l.length / L.block):Int):=rfl;have e1:(fun k=>(((sg L l).getD ((k+1)*L.block) 0:Nat):Int))=fun k=>((l.getD ((k+1)*L.block-1) 0:Nat):Int):=by
  funext k
  have:0<(k+1)*L.block:=Nat.mul_pos (by omega) (by omega)
  obtain ⟨c,hc⟩:∃ c,(k+1)*L.block=c+1:=⟨(k+1)*L.block-1,by omega⟩
  rw [hc,sg,Nat.add_sub_cancel]
  rfl
 rw [e0,e1];refine (Cg.rfl'.mul (((Z3 (by omega) l _).add Cg.rfl').trans (Cg.of_eq (Int.add_left_neg _)))).trans (Cg.of_eq ?_)
 rw [Int.mul_zero]
 rfl
theorem uX {p n:Nat} (hn:0<n) (l:List Nat) (s:Nat) (x:Int) (hx:Cg p (x^n) 1):∀ i,Cg p (yb (fun k=>(Ql p n l s i k:Int)) x n) (yb (fun k=>((l.getD k 0:Nat):Int)) ((s:Int)*x) i)
 | 0=>by
  refine Cg.of_eq ?_;show yb (fun k=>((0:Nat):Int)) x n=0
  rw [uv,<- sD n]
  congr 1
  funext k
  simp
 | i+1=>by
  have ih:=uX hn l s x hx i;rw [Ql,sO _ _ _ _ _ (ic _ hn),yb];refine ih.add ?_;have h1:Cg p (((Ql p n l s i (i%n)+l.getD i 0*Cr p s i%p)%p:Nat)-(Ql p n l s i (i%n):Int)) (((l.getD i 0:Nat):Int)*(s:Int)^i):=by
   have h2:Cg p ((l.getD i 0*Cr p s i%p:Nat):Int) (((l.getD i 0:Nat):Int)*(s:Int)^i):=(Cg.mod _).trans (Cg.trans (Cg.of_eq (Uf _ _)) (Cg.rfl'.mul (tQ p s i)));have h3:=((Cg.mod (p:=p) (Ql p n l s i (i%n)+l.getD i 0*Cr p s i%p)).trans (Cg.trans (Cg.of_eq (Ml _ _)) (Cg.rfl'.add h2))).add (Cg.rfl' (x:=-(Ql p n l s i (i%n):Int)));exact Cg.trans (Cg.of_eq (by omega)) (h3.trans (Cg.of_eq (by omega)))
  refine (h1.mul (W7 hx i).symm).trans (Cg.of_eq ?_);rw [Int.mul_pow,Ao]
theorem US {p n j s k:Nat} (h:Fb p=true) (hn:Dk p n) (hj:n=2^j) (l:List Nat) (hk:k<n):Qj p n j l s k=Lc p l (Fh p s n k):=by
 have hp:=Pb h;refine Cg.eq (p:=p) ?_ (uO (by omega) _ _ _ _ _) (ru (by omega) _ _)
 have h1:=xO p (by omega) j (Ql p n l (s%p) l.length) (Be p n) (FQ h hn hj) k (by rw [<- hj];exact hk)
 rw [<- hj] at h1;refine h1.trans ((uX hn.pos l _ _ (XV h hn k) _).trans (Cg.trans ?_ (RJ l).symm));exact Po (fun _=>Cg.rfl') ((((Cg.mod s).mul Cg.rfl')).trans (BS k).symm) _
theorem zB7 (B:Nat) (v:List Nat) (n:Nat):(Ks B v n).length=n:=by simp [Ks]
theorem qv (B:Nat) (l:Nat -> List Nat) (ps:Nat -> Nat):∀ i,(ql B l ps (i+1)).length=(ql B l ps i).length+ps i:=fun i=>by rw [EL,Ni,zB7]
theorem RU (L:Ma) (rows:List Ua) (ws:List Nat) (pu:Nat):(dk L rows ws pu).length=L.a+L.b+L.b+L.b:=by
 unfold dk Up;rw [qv,qv,qv,qv];show 0+L.a+L.b+L.b+L.b=_
 omega
theorem dO {B:Nat} {l:Nat -> List Nat} {ps:Nat -> Nat} {r:List Nat} (h:r∈Up B l ps):∃ i k,i<4 /\ k<ps i /\ r=Lq B (l i) k:=by
 unfold Up ql at h;obtain ⟨i,hi,hr⟩:=List.mem_flatMap.1 h;obtain ⟨k,hk,rfl⟩:=Ed.1 hr;exact ⟨i,k,Oi.1 hi,Oi.1 hk,rfl⟩
theorem I5 {L:Ma} {rows:List Ua} {ws:List Nat} {pu:Nat} {r:List Nat} (h:r∈dk L rows ws pu):r.length=L.block:=by
 obtain ⟨i,k,-,-,rfl⟩:=dO h;simp [Lq]
theorem Bv {l:List Nat} {p:Nat} (hp:0<p) (h:∀ x∈l,x<p) (i:Nat):l.getD i 0<p:=by
 rw [Cb];cases e:l[i]? with
 | none=>exact hp
 | some x=>exact h x (List.mem_of_getElem? e)
theorem zEB {L:Ma} {rows:List Ua} {ws:List Nat} {pu:Nat} (hp:0<L.p) (hw:∀ x∈ws,x<L.p) {r:List Nat} (h:r∈dk L rows ws pu) (j:Nat):r.getD j 0<L.p:=by
 obtain ⟨i,k,hi,-,rfl⟩:=dO h;rw [Lq,Bl];split
 ·refine Bv hp ?_ _
  rcases (show i=0 \/ i=1 \/ i=2 \/ i=3 by omega) with rfl | rfl | rfl | rfl
  ·exact fun x hx=>hw x (List.mem_of_mem_drop hx)
  all_goals
   intro x hx;obtain ⟨r,-,rfl⟩:=Ed.1 hx;exact G4 hp _ _
 ·exact hp
end Go.Proofs.YteoghgbnielkpaaGreat
