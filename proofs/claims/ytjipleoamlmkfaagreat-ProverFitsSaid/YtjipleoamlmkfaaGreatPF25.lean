/- A part of the proof. No condition. -/
import Derived.Test.YtjipleoamlmkfaaGreatProg
import Derived.Test.YtjipleoamlmkfaaGreatPF22
import Derived.Test.YtjipleoamlmkfaaGreatPF21
import Derived.BigQuiet
import Derived.Deep.QuietTactic
import Derived.Test.YtjipleoamlmkfaaGreatPF23
import Derived.Test.YtjipleoamlmkfaaGreatPF17

set_option maxRecDepth 100000
set_option maxHeartbeats 8000000
set_option linter.unusedVariables false
set_option linter.unusedSimpArgs false
namespace Go.Proofs.YtjipleoamlmkfaaGreat
open Go.RowKit Go.Maps
def Qc (O:La) (k:Nat):Prop:=O.qs.length <= k /\ O.dr <= k
theorem Wl {O:La} {k:Nat} (h:Qc O k) (lab:Nat) (el:List Nat):Qc (jc O lab el) (k+1):=by
 obtain ⟨i,s,d,q⟩:=O;have h1:q.length <= k:=h.1;have h2:d <= k:=h.2;unfold jc;split
 ·split
  ·exact ⟨Nat.le_succ_of_le h1,Nat.le_succ_of_le h2⟩
  ·split
   ·refine ⟨?_,?_⟩
    ·rw [Yu,gH,List.length_append]
     exact Nat.succ_le_succ h1
    ·rw [orcDr]
     exact Nat.succ_le_succ h2
   ·refine ⟨?_,?_⟩
    ·rw [Yu,List.length_append]
     exact Nat.succ_le_succ h1
    ·exact Nat.le_succ_of_le h2
 ·exact ⟨Nat.le_succ_of_le h1,Nat.le_succ_of_le h2⟩
where
 orcDr {i:Bool} {s d:Nat} {q:List Qn} {lab a:Nat} {el:List Nat}:(Mh (Rm ⟨i,s,d,q⟩) lab el a).dr=d+1:=rfl
theorem Ox {lab:Nat}:∀ (qs:List (List Nat)) {O:La} {k:Nat},Qc O k -> Qc (Nb O lab qs) (k+qs.length)
 | [],_,_,h=>h
 | q :: r,O,k,h=>by
  have:=Ox (lab:=lab) r (Wl h lab q);rw [List.length_cons,show k+(r.length+1)=k+1+r.length by omega]
  exact this
theorem Ih {O:La} {k m:Nat} (h:Qc O k) (hm:k <= m):Qc O m:=⟨Nat.le_trans h.1 hm,Nat.le_trans h.2 hm⟩
theorem I9 (O:La) (lab:Nat) (el:List Nat):(jc O lab el).ideal=O.ideal:=by
 unfold jc;split
 ·split
  ·rfl
  ·split
   ·rw [addQ_id,vM]
   ·rw [addQ_id]
 ·rfl
where
 addQ_id {O:La} {lab a:Nat} {el:List Nat}:(Mh O lab el a).ideal=O.ideal:=by simp only [Mh]
def Qk (leaves:List (List Nat)) (salts:List Nat):List (List Nat):=(List.range leaves.length).map fun i=>salts.getD i 0 :: leaves.getD i []
theorem yE (leaves:List (List Nat)) (salts:List Nat):(Qk leaves salts).length=leaves.length:=by simp [Qk]
theorem rO (leaves:List (List Nat)) (salts:List Nat) (i:Nat) (h:i<leaves.length):(Qk leaves salts).getD i []=salts.getD i 0 :: leaves.getD i []:=by simp [Qk,List.getD_eq_getElem?_getD,h]
theorem Bx {α:Type} {l:List α} {i:Nat} (d:α) (h:i<l.length):l.getD i d∈l:=by
 rw [List.getD_eq_getElem?_getD,List.getElem?_eq_getElem h];exact List.getElem_mem h
theorem WN:(Tryz.prog.info? 28).map (fun i=>(i.zero,i.size,i.bytes))=some (some (.slice none 0 0),1,24):=by kernel_rfl
theorem jH:Gj Tryz.prog 41 28 1 24 (.slice none 0 0):=by
 obtain ⟨i0,hi,Ff,Zb,td⟩:=info_parts WN;exact ⟨Tryz.underlying41,⟨i0,hi,Ff,Zb,td⟩,rfl,by omega⟩
def UB (v:Value):Nat:=match v with | .slice _ n _=>n | _=>0
def iG (w:World) (g:Nat) (F:Nat -> Prop) (d:Nat) (O0:La) (L0:List Nat) (lv vs:Value) (wq:World):Prop :=
 ∃ (j:Nat) (ls:List (List Nat)) (Oj:La) (lj:List Nat) (F1:Nat -> Prop) (gj M:Nat) (T:Nat -> Prop) (cs:List Value),
  (lj.length=2^j /\ (∀ x∈lj,x<Xa) /\ lv= .slice (some ⟨gj,0,none⟩) (2^j) (2^j) /\ Blk wq gj 22 (Ca lj).toArray /\ T gj) /\
  (OrcAt wq g Oj F1 /\ Moved F F1 w wq /\ Qc Oj M /\ M+2*2^j <= 204096) /\ (jq d O0 L0=ls++jq j Oj lj /\ ey d O0 L0=ey j Oj lj /\ ls.length+j <= 10) /\
  (wq.ownsRow (w.heap.size+1) 28 1 vs (ls.length+1) cs /\ Rs T wq cs (ls++[lj])) /\
  ((∀ b,T b -> w.heap.size<b /\ b<wq.heap.size /\ ¬F1 b /\ vs.ownBlock≠some b) /\ (∀ b,vs.ownBlock=some b -> ¬F1 b) /\ Blk wq w.heap.size 99 #[.slice none 0 0] /\ ¬F1 w.heap.size)
theorem WL {w:World} {g:Nat} {O:La} {F K:Nat -> Prop} (h:OrcAt w g O F) (A B:Option Addr) (n c m e:Nat) (leaves:List (List Nat)) (salts:List Nat) (d:Nat)
  (hl:ti K w (.slice A n c) leaves) (hs:Km K w (.slice B m e) salts) (hK:∀ b,K b -> b<w.heap.size /\ ¬F b) (hd:d <= 10) (hn:leaves.length=2^d) (RD:salts.length=leaves.length) (ON:Sd salts=true) (hle:∀ l∈leaves,Sd l=true)
  (Zo:∀ l∈leaves,l.length <= 100000) (hO:Qc O 100000) :
  Calls Tryz.prog 38 #[.pointer (some ⟨g,0,none⟩), .slice A n c, .slice B m e] w fun e w'=>∃ tv F' T,e= .returned (.tuple #[.agg #[tv], .int .i64 0]) /\
   OrcAt w' g (ey d (Nb O 16 (Qk leaves salts)) (Ee O 16 (Qk leaves salts))) F' /\ Moved F F' w w' /\ ti T w' tv (jq d (Nb O 16 (Qk leaves salts)) (Ee O 16 (Qk leaves salts))) /\ ∀ b,T b -> w.heap.size <= b /\ b<w'.heap.size /\ ¬F' b:=by
 obtain ⟨rfl,Nc,jf⟩:=iO hl;have hmn:m=salts.length:=by obtain ⟨A',c',e1,-⟩:=pB hs;injection e1 with _ e2 _
 subst hmn;have Od:leaves.length <= 1024:=by rw [hn];exact Nat.le_trans (Nat.pow_le_pow_right (by omega) hd) (by decide)
 have Ve:0<leaves.length:=by rw [hn];exact Nat.pow_pos (by omega)
 have sy:=zH (show ∀ w,Calls Tryz.prog 107 #[.int .i64 leaves.length] w fun e w'=>e= .returned (.bool true) /\ w=w' from fun w=>by have:=dI leaves.length w;rw [hn,eJ hd] at this;rw [hn];exact this)
 obtain ⟨q0,sn⟩:=zEX (Qk leaves salts);rw [<- sn];have HQL:=zH (show q0.length=leaves.length by rw [sn,yE])
 have HQ:=zH (fun i (hi:i<leaves.length)=>show q0.getD i []=salts.getD i 0 :: leaves.getD i [] by rw [sn];exact rO _ _ _ hi)
 obtain ⟨nn,jg⟩:=zEX (leaves.length);rw [RD] at hs |-;rw [<- jg] at hl hs hn Ve Od sy HQL HQ Nc |-;have ya:=(Below.refl w.heap.size w).alloc zR (.cells #[.slice none 0 0] 99);have eu:=Blk.new w 99 #[.slice none 0 0];have HSe:=zH (show ∀ w1,Below w.heap.size w w1 -> Calls Tryz.prog 108 #[.slice B nn e] w1 fun e w'=>e= .returned (.bool true) /\ w1=w' from fun w1 hb=>by have:=MI B nn e salts w1 (Pk (Bw hs hb));rw [ON] at this;exact this)
 have HLe:=zH (show ∀ w1 i A1 n1 c1,RWd w1 [.slice A1 n1 c1] (leaves.getD i []) -> i<nn -> Calls Tryz.prog 108 #[.slice A1 n1 c1] w1 fun e w'=>e= .returned (.bool true) /\ w1=w' from fun w1 i A1 n1 c1 hr hi=>by have:=MI A1 n1 c1 (leaves.getD i []) w1 hr;rw [hle _ (Bx [] (by omega))] at this;exact this)
 have HL:=zH hl;have HS:=zH hs;have HK:=zH hK;have HN:=zH hn;have Lf:=zH jg;have Qi:=zH (show ∀ i,i<nn -> (leaves.getD i []).length <= 100000 from fun i hi=>Zo _ (Bx [] (by omega)))
 have HO:=zH hO;have H:=zH h;have Ka:((nn:Int) != (nn:Int))=false:=by simp
 have qv:=fun w=>Fp nn (by omega) w
 obtain ⟨zc,Ei⟩:=zEX (Fa nn fun _=>0)
 rw [<- Ei] at qv;have Ps:=zH Ei;clear hl hs hK hn jg Zo hO h ON hle RD sn Ei;go_enter Tryz.func38,Tryz.ntmps38
 go_wp2_with fail
 refine (sy.out _).mono ?_;rintro _ w1 ⟨rfl,rfl⟩;go_wp2_with fail
 refine (HSe.out _ ya).mono ?_;rintro _ w1 ⟨rfl,rfl⟩;go_wp2_with fail
 generalize w.alloc _=w1 at ya eu |-;go_loopw [35] (fun y wr=>∃ i:Nat,i <= nn /\ y= .int .i64 i /\ wr=w1) (fun y _=>nn-(intOf y).toNat)
 case atStart=>exact ⟨0,Nat.zero_le _,rfl,rfl⟩
 case round =>
  obtain ⟨i,hi,rfl,rfl⟩:=hrel;by_cases oa:i<nn
  ·obtain ⟨b,q,A1,n1,c1,eA,hKb,Za,Tj,yr⟩:=oI (sE HL.out ya) (show i<leaves.length by have:=Lf.out;omega)
   have Je:=Pk yr;have Mu:=zH (HLe.out wr i A1 n1 c1 Je oa);have g1:(0:Int) <= (i:Int):=by omega
   have g2:(i:Int)<(nn:Int):=by omega
   subst eA;have Fb:=zH oa;clear yr Je oa;go_wp2_with fail
   refine Mu.out.mono ?_;rintro _ w2 ⟨rfl,rfl⟩;go_wp2
   go_roundw
   case rel=>exact ⟨i+1,by have:=Fb.out;omega,by go_num,by first | rfl | trivial⟩
   case measure=>have:=Fb.out;simp [intOf];omega
  ·have e1:nn=i:=by omega
   subst e1;clear oa hi;go_wp2_with fail
   have It:w.heap.size<wr.heap.size:=eu.lt;have ia:=(Below.refl wr.heap.size wr).alloc zR (.cells zc 22);have kl0:=Blk.new wr 22 zc;replace eu:=ea eu ia;replace ya:=ja ya ia;generalize wr.alloc _=wA at kl0 eu ya |-;generalize wr.heap.size=gl at kl0 It |-;clear ia qv;obtain ⟨V,hV⟩:∃ V:Nat -> Nat,V=fun k=>(Ee O 16 q0).getD k 0:=⟨_,rfl⟩
   have HV:=zH (show ∀ i,i<nn -> V i=Kc (Nb O 16 (q0.take i)) 16 (salts.getD i 0 :: leaves.getD i []) from fun i hi=>by rw [hV];simp only;rw [GG O 16 q0 i (by rw [HQL.out];exact hi),HQ.out i hi])
   have Bk:=zH (show ∀ k,V k=(Ee O 16 q0).getD k 0 from fun k=>by rw [hV])
   have Xf:=zH (show ∀ i,i<nn -> Nb O 16 (q0.take (i+1))=jc (Nb O 16 (q0.take i)) 16 (salts.getD i 0 :: leaves.getD i []) from fun i hi=>by rw [FG O 16 q0 i (by rw [HQL.out];exact hi),HQ.out i hi])
   have ry:=zH (show ∀ i,i <= nn -> Qc (Nb O 16 (q0.take i)) 200000 from fun i hi=>Ih (Ox (q0.take i) HO.out) (by rw [List.length_take];omega))
   clear hV;have HLA:=zH (sE HL.out ya);have uo:=zH (Bw HS.out ya);have mA:Moved F F w wA:=Ic ya;have nFl:¬F gl:=fun e=>by have:=H.out.lt gl e;omega
   have hKl:Hid (∀ b,K b -> ¬Be F gl b):=fun b hb e=>by
    have:=HK.out b hb;rcases e with e | e
    ·exact this.2 e
    ·omega
   rw [Ps.out,show Fa nn (fun _=>0)=Fa nn (fun k=>if k<0 then V k else 0) from ui fun i _=>by rw [if_neg (by omega)]] at kl0
   have HA:=H.out.below ya;have hg49:(nn:Int) <= 1024:=by omega
   go_loopw [49] (fun y wr=>∃ (i:Nat) (F1:Nat -> Prop),i <= nn /\ y= .int .i64 i /\ OrcAt wr g (Nb O 16 (q0.take i)) F1 /\ Moved (Be F gl) (Be F1 gl) wA wr /\ Blk wr gl 22 (Fa nn fun k=>if k<i then V k else 0) /\ ¬F1 gl) (fun y _=>nn-(intOf y).toNat)
   case atStart=>exact ⟨0,F,Nat.zero_le _,rfl,HA,Moved.refl,kl0,nFl⟩
   case round =>
    clear kl0 HA nFl;obtain ⟨i,F1,hi,rfl,h1,m1,kl,nU⟩:=hrel;by_cases oa:i<nn
    ·obtain ⟨b,q,A1,n1,c1,eA,hKb,Za,Tj,yr⟩:=oI (jO HLA.out m1 hKl.out) (show i<leaves.length by have:=Lf.out;omega)
     have za:=Pk (gO uo.out m1 hKl.out);have hnB:=(zb za).1;rw [hnB] at za;obtain ⟨b2,q2,eB,Sj,BN⟩:=Ye (zb za).2.2.2.2 (show i<salts.length by omega)
     rw [<- hnB] at za;have hx:=yz (zb za).2.2.2.1 (show i<salts.length by omega)
     have Je:=Pk yr;have HLL1:=zH (Qi.out i oa);have Gm:=zH (HV.out i oa);have Qu:=zH (Xf.out i oa);have qy:=zH (ry.out i hi);subst eA eB;have Fb:=zH oa;have QH:∀ y∈salts.getD i 0 :: leaves.getD i [],y<18446744073709551616:=Nj hx (by obtain ⟨A',c',e',-,-,h9⟩:=pB yr;exact h9)
     have yk:=zH QH;have nm1:∀ b',b'<wr.heap.size -> ∀ b'',wr.heap.size <= b'' -> b'≠b'':=fun _ _ _ _=>by omega
     have Eu:=zH h1.lt;have g1:(0:Int) <= (i:Int):=by omega
     have g2:(i:Int)<(nn:Int):=by omega
     obtain ⟨ho,hho⟩:=zEX (jc (Nb O 16 (q0.take i)) 16 (salts.getD i 0 :: leaves.getD i []));obtain ⟨vv,bu⟩:=zEX (Kc (Nb O 16 (q0.take i)) 16 (salts.getD i 0 :: leaves.getD i []));have HHO:=zH hho;have Su:=zH bu;generalize salts.getD i 0=x at *;generalize leaves.getD i []=lf at *;clear yr za hnB QH oa nm1 hho bu hx;go_wp2_with fail
     refine (tS x A1 n1 c1 lf wr Je (by have:=HLL1.out;omega)).mono ?_
     rintro _ w2 ⟨v,rfl,hv,xa⟩;obtain ⟨Av,cv,rfl,-,-,-,Vb⟩:=Tb hv;have hkv:=zH (qz hv yk.out);have h2:=zH (h1.below xa);have ak:=ea kl xa;have m2:=m1.trans (xB (F:=F1) (Ic xa) gl);have HVB:=zH (show ∀ b',(Value.slice Av (n1+1) cv).ownBlock=some b' -> ¬F1 b' from fun b' Qo hf=>by have:=Eu.out b' hf;have:=(hv.lt b' Qo).1;omega)
     clear hv xa h1 kl m1 Tj BN Vb Je;go_wp2_with fail
     refine (QA h2.out 16 (x :: lf) Av (n1+1) cv hkv.out HVB.out (by decide) (by have:=HLL1.out;simp;omega) (.inl (by simp)) (by have:=qy.out.1;omega) (by have:=qy.out.2;omega)).mono ?_
     rintro _ w3 ⟨rfl,F2,h3,m3⟩;rw [<- Su.out];rw [<- HHO.out] at h3;have tf:=Me m3 ak.lt nU;have sj:=ak.moved m3 nU;have m4:=m2.trans (xB m3 gl);have Tq:w3.cell? ⟨gl,i,none⟩=_:=(sj.cell i).trans (Fe _ Fb.out);have ig:=sj.frozen;have H3:=zH h3;clear ak h2 m2 m3 h3 hkv;go_wp2
     go_roundw
     case rel =>
      refine ⟨i+1,F2,by have:=Fb.out;omega,by go_num,?_,m4.trans (VI _ _ _),?_,tf⟩
      ·rw [Qu.out,<- HHO.out]
       exact H3.out.set tf _
      ·have:=sj.set_ i (.int .u64 vv)
       rw [Tm] at this;rw [show Pe (fun k=>if k<i then V k else 0) i vv=Pe (fun k=>if k<i then V k else 0) i (V i) from by rw [Gm.out,Su.out],zF] at this
       exact this
     case measure=>have:=Fb.out;simp [intOf];omega
    ·have e1:nn=i:=by omega
     subst e1;have ak:Blk wr gl 22 (Ca (Ee O 16 q0)).toArray:=by
      rw [Dq,show (List.range nn).map (fun k=>if k<nn then V k else 0)=Ee O 16 q0 from List.ext_getElem (by rw [List.length_map,List.length_range,Dw,HQL.out]) fun k h1 h2=>by
       have hk:k<nn:=by simpa using h1
       simp only [List.getElem_map,List.getElem_range,if_pos hk,Bk.out];rw [List.getD_eq_getElem?_getD,List.getElem?_eq_getElem h2];rfl] at kl
      exact kl
     have hO0:Nb O 16 (q0.take nn)=Nb O 16 q0:=by rw [<- HQL.out,DG]
     rw [hO0] at h1;have tC:=zH (show Qc (Nb O 16 q0) 200000 by rw [<- hO0];exact ry.out nn zR)
     have Qt:Moved F F1 w wr:=WO mA m1 (by omega)
     have aq:=eu.moved m1 (fun e=>by
      rcases e with e | e
      ·have:=H.out.lt _ e;omega
      ·omega)
     have nFr:¬F1 w.heap.size:=fun e=>by
      rcases m1.foot _ (.inl e) with h | h
      ·rcases h with h | h
       ·have:=H.out.lt _ h;omega
       ·omega
      ·have:=eu.lt;omega
     have Rz:=zH (IG H.out.ok.ans 16 q0);have zk:=zH (show (Ee O 16 q0).length=2^d by rw [Dw,HQL.out,HN.out])
     obtain ⟨O0,FD⟩:∃ O0,O0=Nb O 16 q0:=⟨_,rfl⟩;obtain ⟨L0,hL0⟩:=zEX (Ee O 16 q0);rw [<- FD] at h1 tC;rw [<- hL0] at ak Rz zk;have HO0:=zH FD;have HL00:=zH hL0;clear hO0 FD hL0 kl m1 eu HV Bk Xf ry HLA uo mA hKl oa hi HQ HLe Ps ya H HL HS HK;go_wp2_with fail
     have ia:=(Below.refl wr.heap.size wr).alloc zR (.cells #[.slice (some ⟨gl,0,none⟩) nn nn] 28);have hgl2:=ak.lt;have XW:gl<wr.heap.size:=hgl2;have ph:(wr.alloc (.cells #[.slice (some ⟨gl,0,none⟩) nn nn] 28)).ownsRow (w.heap.size+1) 28 1 (.slice (some ⟨wr.heap.size,0,none⟩) 1 1) 1 [.slice (some ⟨gl,0,none⟩) nn nn]:=⟨rfl, .inr ⟨wr.heap.size,1,_,rfl,by omega,heap_alloc_new wr _,zR,by simp [maxLen],rfl,rfl⟩⟩
     have sj:=ea ak ia;have Mg:=ea aq ia;have h3:=h1.below ia;have ir:=Qt.trans (Ic (F:=F1) ia);have Eu:=zH h1.lt;have Kl:∀ x∈L0,x<18446744073709551616:=fun x hx=>by have:=Rz.out x hx;unfold Xa at this;omega
     have BU:=oz sj (n:=nn) (by rw [zk.out,HN.out]) Kl (by simp only [maxLen];omega)
     have nv:¬F1 wr.heap.size:=fun e=>by have:=Eu.out _ e;omega
     generalize wr.alloc _=wB at ia ph sj Mg h3 ir BU |-;generalize wr.heap.size=gv at XW nv ph |-;have GX:iG w g F d O0 L0 (.slice (some ⟨gl,0,none⟩) nn nn) (.slice (some ⟨gv,0,none⟩) 1 1) wB:=by
      refine ⟨d,[],O0,L0,F1,gl,200000,fun b=>b=gl,[.slice (some ⟨gl,0,none⟩) nn nn],⟨zk.out,Rz.out,by rw [HN.out],sj,rfl⟩,⟨h3,ir,tC.out,by have:=HN.out;omega⟩,⟨rfl,rfl,by simpa using hd⟩,⟨ph,⟨rfl,fun i h1 h2=>?_⟩⟩,⟨fun b hb=>?_,fun b hb=>?_,Mg,nFr⟩⟩
      ·obtain rfl:i=0:=by simp at h1;omega
       exact BU
      ·subst hb
       refine ⟨It,sj.lt,nU,fun e=>?_⟩
       simp [Value.ownBlock] at e
       omega
      ·simp [Value.ownBlock] at hb
       subst hb;exact nv
     clear ak h1 Qt aq nFr nU ph sj Mg h3 ir BU ia tC Eu Kl nv XW hgl2 Rz zk HO hg49 Ka Ve Od Nc jf;have HSm:=zH (show ∀ j,j <= 10 -> 2^j <= 1024 from fun j hj=>Nat.le_trans (Nat.pow_le_pow_right (by omega) hj) (by decide))
     go_loopw [10,13] (fun lv vs wq=>iG w g F d O0 L0 lv vs wq) (fun lv _ _=>UB lv)
     case atStart=>exact GX
     case round =>
      clear GX;obtain ⟨j,ls,Oj,lj,F1,gj,M,T,cs,⟨Pt,haj,rfl,kj,hTj⟩,⟨hj,mj,hLe,hM⟩,⟨et,eo,hlsj⟩,⟨own,rows⟩,⟨hT,vn,kr,nFr⟩⟩:=hrel;rcases j with _ | j
      ·have e1:(2:Nat)^0=1:=rfl
       obtain ⟨Av,cv,rfl,-⟩:=Tb own;have gll:w.heap.size<wr.heap.size:=kr.lt;have hvr:∀ b,(Value.slice Av (ls.length+1) cv).ownBlock=some b -> b≠w.heap.size:=fun b hb e=>by have:=(own.lt b hb).1;omega
       have hf:=kr.frozen;have hc:wr.cell? ⟨w.heap.size,0,none⟩=_:=kr.cell 0;have Ni:=zH (show ∃ F' T',OrcAt (wr.setCell ⟨w.heap.size,0,none⟩ (.slice Av (ls.length+1) cv)) g (ey 0 Oj lj) F' /\ Moved F F' w (wr.setCell ⟨w.heap.size,0,none⟩ (.slice Av (ls.length+1) cv)) /\ ti T' (wr.setCell ⟨w.heap.size,0,none⟩ (.slice Av (ls.length+1) cv)) (.slice Av (ls.length+1) cv) (ls++jq 0 Oj lj) /\ ∀ b,T' b -> w.heap.size <= b /\ b<(wr.setCell ⟨w.heap.size,0,none⟩ (.slice Av (ls.length+1) cv)).heap.size /\ ¬F' b from by
        have hset:∀ b,b≠w.heap.size -> (wr.setCell ⟨w.heap.size,0,none⟩ (.slice Av (ls.length+1) cv)).heap[b]?=wr.heap[b]?:=fun b hb=>Below.heap_setCell wr _ _ b hb
        refine ⟨F1,fun b=>T b \/ (Value.slice Av (ls.length+1) cv).ownBlock=some b,hj.set nFr _,Ld mj zR _ _,?_,fun b hb=>?_⟩
        ·exact zO (xz rows (by simp [World.setCell]) fun b hb _=>hset b (by have:=(hT b hb).1;omega)) (zg own fun b hb=>hset b (hvr b hb))
        ·have Ra:(wr.setCell ⟨w.heap.size,0,none⟩ (.slice Av (ls.length+1) cv)).heap.size=wr.heap.size:=by simp [World.setCell]
         rw [Ra];rcases hb with hb | hb
         ·exact ⟨by have:=(hT b hb).1;omega,(hT b hb).2.1,(hT b hb).2.2.1⟩
         ·exact ⟨by have:=(own.lt b hb).1;omega,(own.lt b hb).2,vn b hb⟩)
       rw [<- et,<- eo,HL00.out,HO0.out] at Ni;clear hT vn own rows hj mj et eo kj Pt haj hTj hLe hM;have cz:(wr.setCell ⟨w.heap.size,0,none⟩ (.slice Av (ls.length+1) cv)).cell? ⟨w.heap.size,0,none⟩=some (.slice Av (ls.length+1) cv):=by
        have:=(kr.set_ 0 (.slice Av (ls.length+1) cv)).cell 0
        simpa using this
       go_wp2;refine bodyPost_ret (v:=.tuple #[.agg #[.slice Av (ls.length+1) cv], .int .i64 0]) (by simp [results,Tryz.results38,go_sem,cz]) rfl ?_
       obtain ⟨F',T',d1,d2,d3,d4⟩:=Ni.out
       first | exact ⟨_,F',T',rfl,d1,d2,d3,d4⟩ | exact ⟨_,rfl,F',d1,d2,T',d3,d4⟩
      ·have h1024:=HSm.out j (by omega)
       have epow:(2:Nat)^(j+1)=2*2^j:=by rw [Nat.pow_succ,Nat.mul_comm]
       obtain ⟨nk,EN⟩:=zEX (2^j);rw [epow] at Pt hM |-;rw [<- EN] at Pt hM h1024 |-;have Lg:0<nk:=by rw [EN];exact Nat.pow_pos (by omega)
       obtain ⟨nj,hnj⟩:=zEX (2*nk);rw [<- hnj] at Pt |-;have HNK:=zH EN;have HNJ:=zH hnj;have c1:decide ((1:Int)<(nj:Int))=true:=decide_eq_true (by omega)
       have c2:(nj:Int).tdiv 2=(nk:Int):=by rw [Int.tdiv_eq_ediv_of_nonneg (by omega)];omega
       have qv:=fun w=>Fp nk (by omega) w
       obtain ⟨zc,Ei⟩:=zEX (Fa nk fun _=>0)
       rw [<- Ei] at qv;have Ps:=zH Ei;have ia:=(Below.refl wr.heap.size wr).alloc zR (.cells zc 22);have kn0:=Blk.new wr 22 zc;have Eu:=zH hj.lt;have ET:=zH et;have EO:=zH eo;have HAJ:=zH haj;have HLJ:=zH Pt;have HLS:=zH hlsj;have xX:=zH hM;have HT:=zH hT;have HVS:=zH vn;have Lu:=zH hLe;have nFn:¬F1 wr.heap.size:=fun e=>by have:=Eu.out _ e;omega
       have hgj:=kj.lt;have hgjn:gj<wr.heap.size:=hgj;have Da:=kr.lt;have nFj:¬F1 gj:=(hT gj hTj).2.2.1;have HTN:=zH (show ∀ b,T b -> b≠wr.heap.size from fun b hb e=>by have:=(hT b hb).2.1;omega)
       have vl:=zH (show ∀ b,u13.ownBlock=some b -> b<wr.heap.size from fun b hb=>(own.lt b hb).2)
       have DV:w.heap.size<wr.heap.size:=Da;clear et eo haj Pt hlsj hM hT vn hLe EN hnj Ei epow;replace kj:=ea kj ia;replace kr:=ea kr ia;replace hj:=hj.below ia;replace own:=db own ia zR;replace rows:=xz rows ia.size fun b _ hl=>ia.block b hl
       replace mj:=mj.trans (Ic (F:=F1) ia);go_wp2_with fail
       generalize wr.alloc _=wB at kn0 kj kr hj own rows mj |-;generalize wr.heap.size=gn at kn0 Eu HT nFn hgj hgjn Da HTN vl DV |-;have iI:gn<wB.heap.size:=kn0.lt;have h2a:=zH hj.ok.ans;clear ia qv hgj Da;obtain ⟨V,hV⟩:∃ V:Nat -> Nat,V=fun k=>(Ee Oj 17 (ld lj)).getD k 0:=⟨_,rfl⟩
       have Ri:=zH (show (ld lj).length=nk by rw [CI,HLJ.out,HNJ.out];omega)
       have HPG:=zH (show ∀ i,i<nk -> (ld lj).getD i []=[lj.getD (2*i) 0,lj.getD (2*i+1) 0] from fun i hi=>wQ lj i (by rw [HLJ.out,HNJ.out];omega))
       have HV:=zH (show ∀ i,i<nk -> V i=Kc (Nb Oj 17 ((ld lj).take i)) 17 [lj.getD (2*i) 0,lj.getD (2*i+1) 0] from fun i hi=>by rw [hV];simp only;rw [GG Oj 17 (ld lj) i (by rw [Ri.out];exact hi),HPG.out i hi])
       have Bk:=zH (show ∀ k,V k=(Ee Oj 17 (ld lj)).getD k 0 from fun k=>by rw [hV])
       have Xf:=zH (show ∀ i,i<nk -> Nb Oj 17 ((ld lj).take (i+1))=jc (Nb Oj 17 ((ld lj).take i)) 17 [lj.getD (2*i) 0,lj.getD (2*i+1) 0] from fun i hi=>by rw [FG Oj 17 (ld lj) i (by rw [Ri.out];exact hi),HPG.out i hi])
       have ry:=zH (show ∀ i,i <= nk -> Qc (Nb Oj 17 ((ld lj).take i)) (M+nk) from fun i hi=>Ih (Ox ((ld lj).take i) Lu.out) (by rw [List.length_take];omega))
       clear hV;rw [Ps.out,show Fa nk (fun _=>0)=Fa nk (fun k=>if k<0 then V k else 0) from ui fun i _=>by rw [if_neg (by omega)]] at kn0
       have KJ:=zH kj;have HAJ2:=zH (show ∀ k,lj.getD k 0<Xa from fun k=>by
        rw [List.getD_eq_getElem?_getD];rcases Nat.lt_or_ge k lj.length with h1 | h1
        ·rw [List.getElem?_eq_getElem h1];exact HAJ.out _ (List.getElem_mem h1)
        ·rw [List.getElem?_eq_none h1];show 0<Xa;decide)
       have nOj:¬Be F1 gn gj:=fun e=>by
        rcases e with e | e
        ·exact nFj e
        ·omega
       have uU:=zH own;have ROWS:=zH rows;have KR:=zH kr;have MJ:=zH mj;clear kj kr own rows mj;go_loopw [77] (fun y wq=>∃ (i:Nat) (F2:Nat -> Prop),i <= nk /\ y= .int .i64 i /\ OrcAt wq g (Nb Oj 17 ((ld lj).take i)) F2 /\ Moved (Be F1 gn) (Be F2 gn) wB wq /\ Blk wq gn 22 (Fa nk fun k=>if k<i then V k else 0) /\ ¬F2 gn) (fun y _=>nk-(intOf y).toNat)
       case atStart=>exact ⟨0,F1,Nat.zero_le _,rfl,hj,Moved.refl,kn0,nFn⟩
       case round =>
        clear kn0 hj;obtain ⟨i,F2,hi,rfl,h2,m2,kn,tf⟩:=hrel;by_cases oa:i<nk
        ·have kj:=KJ.out.moved m2 nOj
         have lgj:=kj.lt;have nO2:¬Be F2 gn gj:=Me m2 KJ.out.lt nOj;have Gm:=zH (HV.out i oa);have Qu:=zH (Xf.out i oa);have qy:=zH (ry.out i hi);have hcA:=QG kj (show 2*i<lj.length by rw [HLJ.out,HNJ.out];omega)
         have hcB:=QG kj (show 2*i+1<lj.length by rw [HLJ.out,HNJ.out];omega)
         have HXq:=zH (HAJ2.out (2*i));have HYq:=zH (HAJ2.out (2*i+1));obtain ⟨i2,pq⟩:=zEX (2*i);rw [<- pq] at Gm Qu hcA hcB HXq HYq;obtain ⟨i3,ij⟩:=zEX (i2+1);rw [<- ij] at Gm Qu hcB HYq;have e1:IntKind.i64.wrap (2*(i:Int))=(i2:Int):=by rw [IntKind.wrap_i64];omega
         have e2:IntKind.i64.wrap ((i2:Int)+1)=(i3:Int):=by rw [IntKind.wrap_i64];omega
         have hnj3:i3<nj:=by rw [HNJ.out];omega
         have g1:(0:Int) <= (i:Int):=by omega
         have g2:(i:Int)<(nk:Int):=by omega
         have g3:(0:Int) <= (i2:Int):=by omega
         have g4:(i2:Int)<(nj:Int):=by omega
         have g5:(0:Int) <= (i3:Int):=by omega
         have g6:(i3:Int)<(nj:Int):=by omega
         obtain ⟨ho,hho⟩:=zEX (jc (Nb Oj 17 ((ld lj).take i)) 17 [lj.getD i2 0,lj.getD i3 0]);obtain ⟨vv,bu⟩:=zEX (Kc (Nb Oj 17 ((ld lj).take i)) 17 [lj.getD i2 0,lj.getD i3 0]);have HHO:=zH hho;have Su:=zH bu;generalize lj.getD i2 0=x at *;generalize lj.getD i3 0=y at *;have Fb:=zH oa;have Yp:=zH pq;have HI3:=zH ij;have H2:=zH h2;obtain ⟨NQ,Nd⟩:=zEX (wr.heap.size);rw [<- Nd] at lgj;have ye:=zH Nd;have KN:=zH kn;have M2:=zH m2;clear hho bu oa pq ij h2 Nd kj kn m2 hnj3;go_wp2_with fail
         refine Pc (Kf (Be F2 gn) NQ) [14,15,17] [0,1,2,3,4,5,6,7,8,9,10,11,12,13,14,15,16,17] (by kernel_rfl) (by kernel_rfl) ?_
         refine di (Cb (Be F2 gn) NQ) ?_;intro Wc Ba da;have H3:=zH (show OrcAt Wc g (Nb Oj 17 ((ld lj).take i)) F2 by rw [Ba.out];exact H2.out.drew)
         have M3:=zH (show Moved (Be F1 gn) (Be F2 gn) wB Wc by rw [Ba.out];exact Ln M2.out)
         have Ir:Blk Wc gn 22 (Fa nk fun k=>if k<i then V k else 0):=by rw [Ba.out];exact KN.out.drew
         have Ob:NQ <= Wc.heap.size:=by rw [Ba.out,ye.out];exact zR
         clear Ba H2 KN M2;refine xk ?_;refine de (Cb (Be F2 gn) NQ) rfl rfl rfl ?_;go_simp;refine ⟨xf ((Below.refl _ _).alloc zR _) Ob,?_⟩;have ia:=(Below.refl Wc.heap.size Wc).alloc zR (.cells #[.int .u64 x, .int .u64 y] 22);have kp:=Blk.new Wc 22 #[.int .u64 x, .int .u64 y];have nFp:¬F2 Wc.heap.size:=fun e=>by have:=H3.out.lt _ e;omega
         replace Ir:=ea Ir ia;replace H3:=zH (H3.out.below ia);replace M3:=zH (M3.out.trans (xB (Ic (F:=F2) ia) gn));replace Ob:=Nat.le_trans Ob ia.size
         try simp only [Act.put,zLa,zLb,zLc]
         generalize Wc.alloc _=w3 at kp Ir H3 M3 Ob |-;generalize Wc.heap.size=gp at kp nFp |-;clear ia da;have da:=(Cb (Be F2 gn) NQ).refl w3;have hkp:=zH (oz (l:=[x,y]) kp (n:=2) rfl (Nj (by have:=HXq.out;unfold Xa at this;omega) (Nj (by have:=HYq.out;unfold Xa at this;omega) (fun _ h=>nomatch h))) (by simp [maxLen]))
         refine oc (Cb (Be F2 gn) NQ) rfl rfl rfl (fun _=>by go_simp <;> rfl) ((QA H3.out 17 [x,y] (some ⟨gp,0,none⟩) 2 2 hkp.out (fun b hb=>by subst hb;exact nFp) (by decide) (by simp) (.inl (by simp)) (by have:=qy.out.1;have:=xX.out;omega) (by have:=qy.out.2;have:=xX.out;omega)).mono ?_)
         rintro e w4 ⟨rfl,F3,h4,m4⟩;refine ⟨_,rfl,AD m4 Ob (fun b _ h=>.inl h),?_⟩
         replace da:=(Cb (Be F2 gn) NQ).trans _ _ _ da (AD m4 Ob (fun b _ h=>.inl h))
         simp only [Act.put,zLa,zLb,zLc];have Mr:=Me m4 Ir.lt tf;have kn4:=Ir.moved m4 tf;have M4:=zH (M3.out.trans (xB m4 gn));have H4:=zH h4;have Tq:w4.cell? ⟨gn,i,none⟩=_:=(kn4.cell i).trans (Fe _ Fb.out);have ig:=kn4.frozen;clear da Ir H3 M3 m4 h4 hkp hcA hcB kp nFp;have da:=(Cb (Be F2 gn) NQ).refl w4;refine xk ?_;refine de (Cb (Be F2 gn) NQ) rfl rfl rfl ?_;go_simp;refine ⟨DH (.inr rfl) _,?_⟩
         try simp only [Act.put,zLa,zLb,zLc]
         refine pc ?_;rw [<- Su.out];rw [<- HHO.out] at H4;go_wp2
         go_roundw
         case rel =>
          refine ⟨i+1,F3,by have:=Fb.out;omega,by go_num,?_,M4.out.trans (VI _ _ _),?_,Mr⟩
          ·rw [Qu.out,<- HHO.out]
           exact H4.out.set Mr _
          ·have:=kn4.set_ i (.int .u64 vv)
           rw [Tm] at this;rw [show Pe (fun k=>if k<i then V k else 0) i vv=Pe (fun k=>if k<i then V k else 0) i (V i) from by rw [Gm.out,Su.out],zF] at this
           exact this
         case measure=>have:=Fb.out;simp [intOf];omega
        ·have e1:nk=i:=by omega
         subst e1;have kn2:Blk wr gn 22 (Ca (Ee Oj 17 (ld lj))).toArray:=by
          rw [Dq,show (List.range nk).map (fun k=>if k<nk then V k else 0)=Ee Oj 17 (ld lj) from List.ext_getElem (by rw [List.length_map,List.length_range,Dw,Ri.out]) fun k h1 h2=>by
           have hk:k<nk:=by simpa using h1
           simp only [List.getElem_map,List.getElem_range,if_pos hk,Bk.out];rw [List.getD_eq_getElem?_getD,List.getElem?_eq_getElem h2];rfl] at kn
          exact kn
         have xt:Nb Oj 17 ((ld lj).take nk)=Nb Oj 17 (ld lj):=by rw [<- Ri.out,DG]
         rw [xt] at h2;have nO:∀ b,u13.ownBlock=some b -> ¬Be F1 gn b:=fun b hb e=>by
          rcases e with e | e
          ·exact HVS.out b hb e
          ·have:=vl.out b hb;omega
         have nT:∀ b,T b -> ¬Be F1 gn b:=fun b hb e=>by
          rcases e with e | e
          ·exact (HT.out b hb).2.2.1 e
          ·exact HTN.out b hb e
         have Px:=CB uU.out m2 nO;have dK:=xz ROWS.out m2.size fun b hb hl=>m2.block b hl (nT b hb)
         have aq:=KR.out.moved m2 (fun e=>by
          rcases e with e | e
          ·exact nFr e
          ·omega)
         have nFr2:¬F2 w.heap.size:=fun e=>Me m2 KR.out.lt (fun e=>by
          rcases e with e | e
          ·exact nFr e
          ·omega) (.inl e)
         have mj2:=XO MJ.out m2 (by omega)
         have nT2:∀ b,T b -> ¬F2 b:=fun b hb e=>Me m2 (by have:=(HT.out b hb).2.1;have:=iI;omega) (nT b hb) (.inl e)
         have nV2:∀ b,u13.ownBlock=some b -> ¬F2 b:=fun b hb e=>Me m2 (by have:=vl.out b hb;have:=iI;omega) (nO b hb) (.inl e)
         have hL2:(Ee Oj 17 (ld lj)).length=nk:=by rw [Dw,Ri.out]
         have dG:=zH (IG h2a.out 17 (ld lj));have FL2:=zH h2.lt;have Vh:=kn2.lt;have H2:=zH h2;have KN2:=zH kn2;have fe:=zH aq;have ROWS2:=zH dK;have MJ2:=zH mj2;have NT2:=zH nT2;have NV2:=zH nV2;have NFR2:=zH nFr2;have hszr:w.heap.size+1 <= wr.heap.size:=by have:=aq.lt;omega
         clear h2 kn kn2 xt nO nT dK aq nFr2 mj2 nT2 nV2 m2 oa hi;go_wp2_with (at_builtin;refine If rfl _ _ rfl jH rfl (Px.alloc _) rfl (Uk _ _ _) (by intro u hu;rw [List.mem_singleton.1 hu];rfl) (by have:=HLS.out;omega) (by simp;omega) ?_)
         intro v' wn Ta Ha Ab;have ia:=(Below.refl wr.heap.size wr).alloc zR (.cells #[.slice (some ⟨gn,0,none⟩) nk nk] 28);have hsa:(wr.alloc (.cells #[.slice (some ⟨gn,0,none⟩) nk nk] 28)).heap.size=wr.heap.size+1:=by simp
         have hbv:∀ b,u13.ownBlock=some b -> w.heap.size+1 <= b /\ b<wr.heap.size:=fun b hb=>Px.lt b hb
         go_wp2
         go_roundw
         case rel =>
          have Ir:=(KN2.out.below ia Vh).grown Ha (fun e=>by have:=vl.out gn e.symm;omega)
          have Mg:=(fe.out.below ia fe.out.lt).grown Ha (fun e=>by have:=(hbv _ e.symm).1;omega)
          have Kl:∀ x∈Ee Oj 17 (ld lj),x<18446744073709551616:=fun x hx=>by have:=dG.out x hx;unfold Xa at this;omega
          refine ⟨j,ls++[lj],Nb Oj 17 (ld lj),Ee Oj 17 (ld lj),F2,gn,M+nk,fun b=>T b \/ b=gn,cs++[.slice (some ⟨gn,0,none⟩) nk nk],⟨by rw [hL2,HNK.out],dG.out,by rw [HNK.out],Ir, .inr rfl⟩,⟨?_,?_,?_,?_⟩,⟨?_,?_,?_⟩,⟨?_,?_⟩,⟨fun b hb=>?_,fun b hb=>?_,Mg,NFR2.out⟩⟩
          ·exact (H2.out.below ia).keep Ha.size fun b hb=>Ha.block b (by have:=FL2.out b hb;omega) (fun e=>NV2.out b e.symm hb)
          ·exact UI (MJ2.out.trans (Ic ia)) Ha (fun b hb=>by have:=(hbv b hb).1;omega)
          ·exact Ih (Ox (ld lj) Lu.out) (by rw [Ri.out];exact zR)
          ·have:=xX.out;have:=HNK.out;omega
          ·rw [ET.out];simp [jq]
          ·rw [EO.out];rfl
          ·have:=HLS.out;simp;omega
          ·rw [List.length_append];exact Ta
          ·refine yO (AO (xz (xz ROWS2.out ia.size fun b _ hl=>ia.block b hl) Ha.size fun b hb hl=>Ha.block b hl (fun e=>(HT.out b hb).2.2.2 e.symm)) fun b hb=>.inl hb) ?_
           exact pz (oz Ir hL2 Kl (by simp only [maxLen];omega)) fun b hb=>.inr hb
          ·have Df:=Ha.size
           rcases hb with hb | hb
           ·refine ⟨(HT.out b hb).1,by have:=(HT.out b hb).2.1;omega,NT2.out b hb,fun e=>?_⟩
            rcases Ab with h | h
            ·rw [h] at e;exact (HT.out b hb).2.2.2 e
            ·rw [h] at e;have:=Option.some.inj e;have:=(HT.out b hb).2.1;omega
           ·subst hb
            refine ⟨DV,by omega,tf,fun e=>?_⟩
            rcases Ab with h | h
            ·rw [h] at e;have:=vl.out _ e;omega
            ·rw [h] at e;have:=Option.some.inj e;omega
          ·rcases Ab with h | h
           ·rw [h] at hb;exact NV2.out b hb
           ·rw [h] at hb
            intro e;have:=Option.some.inj hb;have:=FL2.out b e;omega
         case measure=>show UB (.slice (some ⟨gn,0,none⟩) nk nk)<UB (.slice (some ⟨gj,0,none⟩) nj nj);simp only [UB];have:=HNJ.out;omega
end Go.Proofs.YtjipleoamlmkfaaGreat
namespace Go.Proofs.YtjipleoamlmkfaaGreat
open Go.RowKit
def N5 (O:La):Prop:=O.ideal=false -> ∀ q∈O.qs,q.ans=ji q.lab q.el
theorem zBP {O:La} (h:N5 O) (lab:Nat) (el:List Nat):N5 (jc O lab el):=by
 intro hi;rw [I9] at hi;unfold jc;split
 ·split
  ·exact h hi
  ·rw [if_neg (by rw [hi];exact Bool.false_ne_true),Yu]
   intro q hq;rcases List.mem_append.1 hq with hq | hq
   ·exact h hi q hq
   ·rw [List.mem_singleton] at hq
    subst hq
    rfl
 ·exact h hi
structure Tr where
 O:La
 st:Nat
 ct:Nat
def Zg (s:Tr) (tag:Nat) (l:List Nat):Tr:=⟨jc s.O 18 (s.st :: tag :: l),Kc s.O 18 (s.st :: tag :: l),0⟩
def AA (s:Tr):Nat:=Kc s.O 19 [s.st,s.ct]
def Ed (s:Tr):Tr:=⟨jc s.O 19 [s.st,s.ct],s.st,s.ct+1⟩
def ef (O:La) (L:Va) (dg:Nat) (pub:List Nat):Tr:=Zg ⟨O,20,0⟩ 1 (dg :: L.block :: L.n :: L.queries :: pub)
structure ChR where
 al:Nat
 rh:Nat
 be:Nat
def tk (s:Tr) (p root:Nat):ChR:=⟨AA (Zg s 2 [root])%p,AA (Ed (Zg s 2 [root]))%p,AA (Ed (Ed (Zg s 2 [root])))%p⟩
def ve (s:Tr) (root:Nat):Tr:=Ed (Ed (Ed (Zg s 2 [root])))
def Zr (s:Tr) (all:List Nat) (n q:Nat):List Nat:=Sr (Zg s 3 all).O (Zg s 3 all).st 0 n q
def Li (s:Tr) (all:List Nat) (q:Nat):La:=Nb (Zg s 3 all).O 19 (Rh (Zg s 3 all).st 0 q)
def ng (w:World) (g:Nat):List Value -> Nat -> World
 | [],_=>w
 | x :: r,k=>ng (w.setCell ⟨g,k,none⟩ x) g r (k+1)
theorem nK {g:Nat} {t:TypeId}:∀ (xs:List Value) (k:Nat) (w:World) (cs:List Value),Blk w g t cs.toArray -> k+xs.length=cs.length -> Blk (ng w g xs k) g t (cs.take k++xs).toArray
 | [],k,w,cs,h,hk=>by
  rw [List.append_nil,List.take_of_length_le (by simp at hk;omega)]
  exact h
 | x :: r,k,w,cs,h,hk=>by
  simp only [List.length_cons] at hk;have h1:=h.set_ k x;rw [List.setIfInBounds_toArray] at h1;have:=nK r (k+1) (w.setCell ⟨g,k,none⟩ x) (cs.set k x) h1 (by rw [List.length_set];omega)
  have e:(cs.set k x).take (k+1)=cs.take k++[x]:=by
   rw [List.take_succ_eq_append_getElem (by rw [List.length_set];omega),List.getElem_set_self,List.take_set_of_le zR]
  rw [e,List.append_assoc] at this;exact this
theorem Sw {g:Nat} {t:TypeId} {w:World} {cs:Array Value} (xs:List Value) (h:Blk w g t cs) (hk:xs.length=cs.size):Blk (ng w g xs 0) g t xs.toArray:=by
 have:=nK xs 0 w cs.toList (by simpa using h) (by simpa using hk)
 simpa using this
theorem uF {g N:Nat} (hg:N <= g):∀ (xs:List Value) (k:Nat) (w:World),Below N w (ng w g xs k)
 | [],_,w=>Below.refl _ w
 | x :: r,k,w=>((Below.refl N w).setCell (p:=⟨g,k,none⟩) hg x).trans (uF hg r (k+1) _)
theorem Xr {g b:Nat} (hb:b≠g):∀ (xs:List Value) (k:Nat) (w:World),(ng w g xs k).heap[b]?=w.heap[b]?
 | [],_,_=>rfl
 | x :: r,k,w=>(Xr hb r (k+1) _).trans (Below.heap_setCell w ⟨g,k,none⟩ x b hb)
theorem Ti {x:Nat} (h:x<Xa):x<18446744073709551616:=by unfold Xa at h;omega
theorem pK {g N:Nat} {w0 w:World} {xs:List Value} (h:Below N w0 w) (hg:N <= g):Below N w0 (ng w g xs 0):=h.trans (uF hg xs 0 w)
end Go.Proofs.YtjipleoamlmkfaaGreat
namespace Go.Proofs.YtjipleoamlmkfaaGreat
open Go.RowKit Go.Maps
structure Xu (d:Nat) (ls:List (List Nat)):Prop where
 d10:d <= 10
 len:ls.length=d+1
 at_:∀ k,k <= d -> (ls.getD k []).length=2^(d-k)
theorem aC:∀ (d:Nat) (O:La) (l:List Nat),l.length=2^d -> (jq d O l).length=d+1 /\ ∀ k,k <= d -> ((jq d O l).getD k []).length=2^(d-k)
 | 0,O,l,h=>⟨rfl,fun k hk=>by
  obtain rfl:k=0:=by omega
  exact h⟩
 | d+1,O,l,h=>by
  have hn:(Ee O 17 (ld l)).length=2^d:=by rw [Dw,CI,h,Nat.pow_succ];omega
  obtain ⟨h1,h2⟩:=aC d (Nb O 17 (ld l)) (Ee O 17 (ld l)) hn;refine ⟨by simp [jq,h1],fun k hk=>?_⟩
  rcases k with _ | k
  ·exact h
  ·have:=h2 k (by omega)
   simpa [jq,show d+1-(k+1)=d-k by omega] using this
theorem aT {d:Nat} (O:La) {l:List Nat} (hd:d <= 10) (h:l.length=2^d):Xu d (jq d O l):=⟨hd,(aC d O l h).1,(aC d O l h).2⟩
theorem ZR {d:Nat} {ls:List (List Nat)} (h:Xu d ls):su ls=(ls.getD d []).getD 0 0:=by
 unfold su;have hl:=h.len;rw [List.getLastD_eq_getLast?,List.getLast?_eq_getElem?,List.getD_eq_getElem?_getD (l:=ls),show ls.length-1=d by omega]
theorem IB:∀ (ls:List (List Nat)) (i:Nat),yj ls i=(List.range (ls.length-1)).map fun k=>(ls.getD k []).getD ((i / 2^k) ^^^ 1) 0
 | [],_=>rfl
 | [_],_=>rfl
 | l :: m :: r,i=>by
  rw [yj,IB (m :: r) (i / 2)];simp only [List.length_cons,Nat.add_sub_cancel];rw [List.range_succ_eq_map,List.map_cons,List.map_map];simp only [List.getD_cons_zero,Nat.pow_zero,Nat.div_one,List.cons.injEq,true_and];refine List.map_congr_left fun k _=>?_
  simp only [Function.comp,List.getD_cons_succ,Nat.pow_succ];rw [Nat.div_div_eq_div_mul,Nat.mul_comm 2]
theorem YT:∀ b:Fin 1024,bits .xor .i64 (b.val:Int) 1=((b.val ^^^ 1:Nat):Int):=by decide +kernel
theorem Gz {w:World} {A:Option Addr} {n c:Nat} {ls:List (List Nat)} (h:Qd w [.slice A n c] ls) {i:Nat} (hi:i<ls.length) :
  ∃ b q A1 n1 c1,A=some ⟨b,q,none⟩ /\ b<w.heap.size /\ w.cell? ⟨b,q+i,none⟩=some (.slice A1 n1 c1) /\ n1=(ls.getD i []).length /\ RWd w [.slice A1 n1 c1] (ls.getD i []):=by
 obtain ⟨b,q,A1,n1,c1,h1,h2,h3,h4⟩:=Zl (sh h).2.2.2 hi;have e:ls[i]=ls.getD i []:=by rw [List.getD_eq_getElem?_getD,List.getElem?_eq_getElem hi];rfl
 rw [e] at h4;exact ⟨b,q,A1,n1,c1,h1,h2,h3,(zb h4).1,h4⟩
theorem MK {w:World} {A:Option Addr} {n c d:Nat} {ls:List (List Nat)} (h:Qd w [.slice A n c] ls) (ht:Xu d ls) :
  Calls Tryz.prog 110 #[.agg #[.slice A n c]] w fun e w'=>e= .returned (.bool true) /\ Below w.heap.size w w':=by
 obtain ⟨rfl,Nc,jf,-⟩:=sh h;have hd:=ht.d10;have aa:=(Below.refl w.heap.size w).alloc zR (.cells #[.slice A ls.length c] 99);have Gf:=Blk.new w 99 #[.slice A ls.length c];have HR:=zH (FR aa h);have hlen:=ht.len;have HT:=zH ht;have sy:=zH (show ∀ w,Calls Tryz.prog 107 #[.int .i64 ((2^d:Nat):Int)] w fun e w'=>e= .returned (.bool true) /\ w=w' from fun w=>by have:=dI (2^d) w;rw [eJ hd] at this;exact this)
 obtain ⟨b,q,A1,n1,c1,eA,Za,Dt,Ve,-⟩:=Gz h (show 0<ls.length by omega)
 rw [ht.at_ 0 (Nat.zero_le _),Nat.sub_zero] at Ve;rw [Nat.add_zero] at Dt;obtain ⟨nn,jg⟩:=zEX (ls.length);rw [<- jg] at HR Nc aa Gf hlen |-;rw [<- Ve] at sy;have oH:=zH Ve;have Lf:=zH jg;subst eA;have g0:(0:Int)<(nn:Int):=by omega
 have gz:((nn:Int) == 0)=false:=by rw [beq_eq_false_iff_ne];omega
 have hn11:nn <= 11:=by omega
 have HL:=zH hlen;have HD:=zH hd;clear h ht hd hlen Ve jg Nc jf;go_enter Tryz.func110,Tryz.ntmps110
 go_wp2_with fail
 refine (sy.out _).mono ?_;rintro _ w1 ⟨rfl,rfl⟩;go_wp2_with fail
 generalize w.alloc _=w1 at aa Gf HR |-
 go_loop [3,27] (fun s y=>∃ k z:Nat,k <= nn /\ y= .int .i64 k /\ s= .int .i64 z /\ Hid (z=if k <= d then 2^(d-k) else 0)) (fun _ y=>nn-(intOf y).toNat)
 case atStart=>exact ⟨0,n1,Nat.zero_le _,rfl,rfl,by show _=_;rw [if_pos (Nat.zero_le _),Nat.sub_zero];exact oH.out⟩
 case round =>
  obtain ⟨k,z,hk,rfl,rfl,HZ⟩:=hrel;by_cases oa:k<nn
  ·obtain ⟨b2,q2,A2,n2,c2,eA,Sj,Tj,Od,-⟩:=Gz HR.out (show k<ls.length by have:=Lf.out;omega)
   have hkd:k <= d:=by have:=HL.out;omega
   rw [HT.out.at_ k hkd] at Od;have hz:z=n2:=by rw [Od,HZ.out,if_pos hkd]
   subst hz;have Ff:0<z:=by rw [Od];exact Nat.pow_pos (by omega)
   have Zb:z <= 1024:=by rw [Od];exact Nat.le_trans (Nat.pow_le_pow_right (by omega) (show d-k <= 10 by have:=HD.out;omega)) (by decide)
   have HZ2:=zH (show z / 2=if k+1 <= d then 2^(d-(k+1)) else 0 by
    rw [Od];by_cases h1:k+1 <= d
    ·rw [if_pos h1,show d-k=(d-(k+1))+1 by omega,Nat.pow_succ];omega
    ·rw [if_neg h1,show d-k=0 by omega])
   have d1:((z:Int) == 0)=false:=by rw [beq_eq_false_iff_ne];omega
   have d2:((z:Int) != (z:Int))=false:=by simp
   have d3:(z:Int).tdiv 2=((z / 2:Nat):Int):=by rw [Int.tdiv_eq_ediv_of_nonneg (by omega)];omega
   obtain ⟨z2,td⟩:=zEX (z / 2);rw [<- td] at d3 HZ2;have hz2l:z2 <= 512:=by omega
   have g1:(0:Int) <= (k:Int):=by omega
   have g2:(k:Int)<(nn:Int):=by omega
   injection eA with eA
   injection eA with e1 e2
   subst e1 e2;have Fb:=zH oa;clear Od td Ff oa hkd;go_wp2
   go_round
   case rel=>exact ⟨k+1,z2,by have:=Fb.out;omega,by go_num,by go_num,HZ2⟩
   case measure=>have:=Fb.out;simp [intOf];omega
  ·have e:k=nn:=by omega
   subst e;have hz:z=0:=by rw [HZ.out,if_neg (by have:=HL.out;omega)]
   subst hz;clear oa hk;go_wp2;go_ret
   exact ⟨rfl,aa⟩
theorem FK {d:Nat} {ls:List (List Nat)} (h:Xu d ls) {k:Nat} (hk:k <= d):0<(ls.getD k []).length:=by rw [h.at_ k hk];exact Nat.pow_pos (by omega)
theorem aS {w:World} {A:Option Addr} {n c d:Nat} {ls:List (List Nat)} (h:Qd w [.slice A n c] ls) (ht:Xu d ls) :
  Calls Tryz.prog 39 #[.agg #[.slice A n c]] w fun e w'=>e= .returned (.int .u64 (su ls:Int)) /\ Below w.heap.size w w':=by
 obtain ⟨rfl,Nc,jf,-⟩:=sh h;have aa:=(Below.refl w.heap.size w).alloc zR (.cells #[.slice A ls.length c] 99);have Gf:=Blk.new w 99 #[.slice A ls.length c];have hlen:=ht.len;have HW:=zH (fun w1 (hb:Below w.heap.size w w1)=>MK (FR hb h) ht)
 obtain ⟨b,q,A1,n1,c1,eA,Za,Dt,Ve,Jd⟩:=Gz h (show d<ls.length by omega)
 obtain ⟨b1,q1,eA1,Vy,LD⟩:=Ye (by have:=(zb Jd).2.2.2.2;rw [Ve] at this;exact this) (FK ht zR)
 rw [Nat.add_zero,<- ZR ht] at LD;have dp:0<n1:=by rw [Ve];exact FK ht zR
 obtain ⟨nn,jg⟩:=zEX (ls.length);rw [<- jg] at aa Gf hlen HW Nc |-;generalize su ls=rt at *;have hn11:nn <= 11:=by have:=ht.d10;omega
 have e1:IntKind.i64.wrap ((nn:Int)-1)=(d:Int):=by rw [IntKind.wrap_i64];omega
 have g0:(0:Int)<(n1:Int):=by omega
 have g1:(d:Int)<(nn:Int):=by omega
 have g2:(0:Int) <= (d:Int):=by omega
 subst eA eA1;have kc:=Gf.cell;clear h ht Jd jg hlen Ve dp Nc jf;go_enter Tryz.func39,Tryz.ntmps39
 go_wp2_with fail
 generalize w.alloc _=w1 at aa Gf kc |-;refine (HW.out _ aa).mono ?_;rintro _ w2 ⟨rfl,xa⟩;have kc2:=(ea Gf xa).cell;have hb:=ja aa xa;have hcA:=(hb.cell (p:=⟨b,q+d,none⟩) Za).trans Dt;have hcB:=(hb.cell (p:=⟨b1,q1,none⟩) Vy).trans LD;clear kc Dt LD aa xa Gf;go_wp2;go_ret
 exact ⟨rfl,hb⟩
theorem CQ {w:World} {A:Option Addr} {n c d i:Nat} {ls:List (List Nat)} (h:Qd w [.slice A n c] ls) (ht:Xu d ls) (hi:i<2^d) (oa:∀ k j,(ls.getD k []).getD j 0<18446744073709551616) :
  Calls Tryz.prog 43 #[.agg #[.slice A n c], .int .i64 i] w fun e w'=>∃ v,e= .returned v /\ w'.ownsRow w.heap.size 22 1 v d (Ca (yj ls i)) /\ Below w.heap.size w w':=by
 obtain ⟨rfl,Nc,jf,-⟩:=sh h;have aa:=(Below.refl w.heap.size w).alloc zR (.cells #[.slice A ls.length c] 99);have Gf:=Blk.new w 99 #[.slice A ls.length c];have hlen:=ht.len;have HW:=zH (fun w1 (hb:Below w.heap.size w w1)=>MK (FR hb h) ht)
 have HR:=zH h;have HT:=zH ht;obtain ⟨b,q,A1,n1,c1,eA,Za,Dt,Ve,Jd⟩:=Gz h (show 0<ls.length by omega)
 rw [ht.at_ 0 (Nat.zero_le _),Nat.sub_zero] at Ve;rw [Nat.add_zero] at Dt;have hd10:=ht.d10;have HP:=zH (show yj ls i=(List.range d).map fun k=>(ls.getD k []).getD ((i / 2^k) ^^^ 1) 0 by rw [IB,hlen];rfl)
 obtain ⟨f,hf⟩:∃ f:Nat -> Nat,f=fun k=>(ls.getD k []).getD ((i / 2^k) ^^^ 1) 0:=⟨_,rfl⟩
 rw [<- hf] at HP;have HF:=zH (fun k=>show f k=(ls.getD k []).getD ((i / 2^k) ^^^ 1) 0 by rw [hf])
 obtain ⟨nn,jg⟩:=zEX (ls.length);rw [<- jg] at aa Gf hlen HW Nc HR |-;obtain ⟨pl,Wh⟩:=zEX (yj ls i);rw [<- Wh] at HP |-;have hn11:nn <= 11:=by omega
 have hi10:i<1024:=Nat.lt_of_lt_of_le hi (Nat.le_trans (Nat.pow_le_pow_right (by omega) hd10) (by decide))
 have e1:IntKind.i64.wrap ((nn:Int)-1)=(d:Int):=by rw [IntKind.wrap_i64];omega
 have g0:(0:Int)<(nn:Int):=by omega
 have g1:(d:Int) <= (c:Int):=by omega
 have g2:(0:Int) <= (d:Int):=by omega
 have g3:¬((i:Int)<0):=by omega
 have g3':decide ((i:Int)<0)=false:=decide_eq_false g3;have g4:decide ((n1:Int) <= (i:Int))=false:=decide_eq_false (by omega)
 have g4n:decide (n1 <= i)=false:=decide_eq_false (by omega)
 have g4p:¬(n1 <= i):=by omega
 have hcut:∀ w,(Instr.slice 41 (.slice A nn c) none (some (.int .i64 d)) none).run Tryz.prog w= .ok (.slice A d c) w:=fun w=>iK jH A nn c d (by omega)
 subst eA;have kc:=Gf.cell;have HN:=zH hlen;have HI:=zH hi;have Lf:=zH jg;have HL64:=zH oa;clear h ht Jd jg hlen Nc jf hf Wh Ve hi oa;go_enter Tryz.func43,Tryz.ntmps43
 go_wp2_with fail
 generalize w.alloc _=w1 at aa Gf kc |-;refine (HW.out _ aa).mono ?_;rintro _ w2 ⟨rfl,xa⟩;have kc2:=(ea Gf xa).cell;have hb:=ja aa xa;have hcA:=(hb.cell (p:=⟨b,q,none⟩) Za).trans Dt;clear kc Dt aa xa Gf HW;go_wp2_with fail
 have ph:w2.ownsRow w.heap.size 22 1 (.slice none 0 0) 0 (Ca ((List.range 0).map f)):=⟨rfl, .inl ⟨rfl,rfl⟩⟩;go_loopw [1,5,32] (fun iv pv y wr=>∃ k:Nat,k <= d /\ y= .int .i64 k /\ iv= .int .i64 ((i / 2^k:Nat):Int) /\ wr.ownsRow w.heap.size 22 1 pv k (Ca ((List.range k).map f)) /\ Below w.heap.size w wr) (fun _ _ y _=>d-(intOf y).toNat)
 case atStart=>exact ⟨0,Nat.zero_le _,rfl,by simp,ph,hb⟩
 case round =>
  clear ph hb hcA kc2;obtain ⟨k,hk,rfl,rfl,ma,hb⟩:=hrel;by_cases oa:k<d
  ·obtain ⟨b2,q2,A2,n2,c2,eA,Sj,Tj,Od,Ch⟩:=Gz (FR hb HR.out) (show k<ls.length by have:=Lf.out;have:=HN.out;omega)
   rw [HT.out.at_ k (by omega)] at Od
   injection eA with eA
   injection eA with e3 e4
   subst e3 e4;have hj:i / 2^k<2^(d-k):=by
    rw [Nat.div_lt_iff_lt_mul (Nat.pow_pos (by omega)),<- Nat.pow_add,show d-k+k=d by omega]
    exact HI.out
   have hx:(i / 2^k) ^^^ 1<n2:=by rw [Od];exact Nat.xor_lt_two_pow hj (Nat.one_lt_two_pow (by omega))
   have hlr:=(zb Ch).2.2.2.2;rw [(zb Ch).1] at hlr Tj hx;obtain ⟨b3,q3,Bv,hbl3,UA⟩:=Ye hlr hx;rw [<- HF.out k] at UA;have ig:f k<18446744073709551616:=by rw [HF.out];exact HL64.out k _
   have Tv:i / 2^(k+1)=i / 2^k / 2:=by rw [Nat.pow_succ,Nat.div_div_eq_div_mul]
   have Il:i / 2^k<1024:=Nat.lt_of_le_of_lt (Nat.div_le_self _ _) hi10;have hxo:=YT ⟨i / 2^k,Il⟩;simp only at hxo;obtain ⟨j,DP⟩:=zEX (i / 2^k);rw [<- DP] at hxo UA hx Tv Il |-;obtain ⟨jx,hjx⟩:=zEX (j ^^^ 1);rw [<- hjx] at hxo UA hx;obtain ⟨n3,Ll⟩:=zEX ((ls.getD k []).length);rw [<- Ll] at Tj hx;obtain ⟨z,hz⟩:=zEX (f k);rw [<- hz] at UA ig;have Ns:=zH (show (List.range k).map f++[z]=(List.range (k+1)).map f by rw [hz];exact iF f k)
   have g5:(0:Int) <= (jx:Int):=by omega
   have g6:(jx:Int)<(n3:Int):=by omega
   have g7:(0:Int) <= (k:Int):=by omega
   have g8:(k:Int)<(d:Int):=by omega
   have g9:(j:Int).tdiv 2=((j / 2:Nat):Int):=by rw [Int.tdiv_eq_ediv_of_nonneg (by omega)];omega
   obtain ⟨j2,Vj⟩:=zEX (j / 2);rw [<- Vj] at g9 Tv;have hj2l:j2 <= 1024:=by omega
   have HDV:=zH Tv;have Fb:=zH oa;subst Bv;clear hlr Ch Od hj DP hjx Ll hz Vj Tv oa hx;go_wp2_with (at_builtin;refine If rfl _ _ rfl Vi rfl (ma.alloc _) rfl (Uk _ _ _) (yg [z]) (by omega) (by simp;have:=hb.size;omega) ?_)
   intro v' wn Ta Ha Ab;have ia:=(Below.refl wr.heap.size wr).alloc zR (.cells #[.int .u64 z] 22);have hB:=mh (ma.alloc _) Ha (by simp;have:=hb.size;omega)
   replace hb:=(Om hb ia hb.size).trans hB;replace ma:wn.ownsRow w.heap.size 22 1 v' (k+1) (Ca ((List.range (k+1)).map f)):=Kr (b:=[z]) Ta Ns.out;clear Ta Ha Ab ia hB;go_wp2
   go_roundw
   case rel=>exact ⟨k+1,by have:=Fb.out;omega,by go_num,by first | (rw [HDV.out];done) | (rw [HDV.out];go_num),ma,hb⟩
   case measure=>have:=Fb.out;simp [intOf];omega
  ·have e:k=d:=by omega
   subst e;clear oa hk;obtain ⟨Av,cv,rfl,-⟩:=Tb ma;have HP2:=zH (show Ca pl=Ca ((List.range k).map f) by rw [HP.out])
   rw [<- HP2.out] at ma;have uU:=zH ma;clear ma;go_wp2;go_ret
   exact ⟨_,rfl,uU.out,hb⟩
end Go.Proofs.YtjipleoamlmkfaaGreat
namespace Go.Proofs.YtjipleoamlmkfaaGreat
open Go.RowKit Go.Maps
def pW (root n i zf:Nat) (leaf path:List Nat):Bool :=
 VU n&&decide (i<n)&&decide (2^path.length=n)&&decide (root<Xa)&&decide (zf<Xa)&&Sd leaf&&Sd path
theorem zCI (root n i zf:Nat) (A B:Option Addr) (a c b e:Nat) (leaf path:List Nat) (w:World) (hl:RWd w [.slice A a c] leaf) (hp:RWd w [.slice B b e] path) (Wh:path.length <= 62) :
  Calls Tryz.prog 75 #[.int .u64 root, .int .i64 n, .int .i64 i, .agg #[.slice A a c, .int .u64 zf, .slice B b e]] w fun e w'=>e= .returned (.bool (pW root n i zf leaf path)) /\ Below w.heap.size w w':=by
 have Za:=(zb hp).1;subst Za;have aa:=(Below.refl w.heap.size w).alloc zR (.cells #[.slice A a c, .int .u64 zf, .slice B path.length e] 80);have Gf:=Blk.new w 80 #[.slice A a c, .int .u64 zf, .slice B path.length e];have sy:=zH (fun w=>dI n w)
 have Hu:=zH (fun w1 (hb:Below w.heap.size w w1)=>MI A a c leaf w1 (ib hb hl))
 have Sx:=zH (fun w1 (hb:Below w.heap.size w w1)=>MI B path.length e path w1 (ib hb hp))
 have hV:pW root n i zf leaf path=(VU n&&decide (i<n)&&decide (2^path.length=n)&&decide (root<Xa)&&decide (zf<Xa)&&Sd leaf&&Sd path):=rfl;obtain ⟨pv,rn⟩:=zEX (pW root n i zf leaf path);rw [<- rn] at hV |-;obtain ⟨np,iw⟩:=zEX (path.length);obtain ⟨ol,hol⟩:=zEX (Sd leaf);obtain ⟨op,hop⟩:=zEX (Sd path);obtain ⟨on,hon⟩:=zEX (VU n);rw [<- iw] at Wh aa Gf Sx hV |-;rw [<- hol] at Hu hV;rw [<- hop] at Sx hV;rw [<- hon] at sy hV;have HV:=zH hV;have kc:=Gf.cell;have f1:¬((i:Int)<0):=by omega
 have f1':decide ((i:Int)<0)=false:=decide_eq_false f1;clear rn iw hol hop hon hV hl hp;rcases on with _ | _
 ·have HF:=zH (show pv=false by rw [HV.out];rfl)
  clear HV Hu Sx;go_enter Tryz.func75,Tryz.ntmps75
  go_wp2_with fail
  generalize w.alloc _=w1 at aa Gf kc |-;refine (sy.out _).mono ?_;rintro _ w2 ⟨rfl,rfl⟩;go_wp2_with fail
  go_ret
  exact ⟨by rw [HF.out];rfl,aa⟩
 ·by_cases Pb:i<n
  ·have t1:¬((n:Int) <= (i:Int)):=by omega
   have t1':decide ((n:Int) <= (i:Int))=false:=decide_eq_false t1;have t1n:decide (n <= i)=false:=decide_eq_false (by omega)
   obtain ⟨pw,rp⟩:=zEX (2^np);have hpl2:pw<9223372036854775808:=by rw [rp];exact Nat.lt_of_le_of_lt (Nat.pow_le_pow_right (by omega) Wh) (by decide)
   have hw:wrap64 ((2:Int)^np)=(pw:Int):=by
    rw [show (2:Int)^np=(pw:Int) by rw [rp,Int.natCast_pow];rfl]
    unfold wrap64;omega
   rw [<- rp] at HV;clear rp hpl2;by_cases ZW:pw=n
   ·have t2:((pw:Int) != (n:Int))=false:=by subst ZW;simp
    by_cases hr:root<Xa
    ·by_cases hs:zf<Xa
     ·have t3:decide ((root:Int)<18446744069414584321)=true:=decide_eq_true (by unfold Xa at hr;omega)
      have t4:decide ((zf:Int)<18446744069414584321)=true:=decide_eq_true (by unfold Xa at hs;omega)
      rcases ol with _ | _
      ·have HF:=zH (show pv=false by rw [HV.out];simp)
       clear HV hr hs ZW;go_enter Tryz.func75,Tryz.ntmps75
       go_wp2_with fail
       generalize w.alloc _=w1 at aa Gf kc |-;refine (sy.out _).mono ?_;rintro _ w2 ⟨rfl,rfl⟩;go_wp2_with fail
       refine (Hu.out _ aa).mono ?_;rintro _ w2 ⟨rfl,rfl⟩;go_wp2_with fail
       go_ret
       exact ⟨by rw [HF.out];rfl,aa⟩
      ·have HF:=zH (show pv=op by rw [HV.out,decide_eq_true Pb,decide_eq_true ZW,decide_eq_true hr,decide_eq_true hs];simp)
       clear HV hr hs ZW;go_enter Tryz.func75,Tryz.ntmps75
       go_wp2_with fail
       generalize w.alloc _=w1 at aa Gf kc |-;refine (sy.out _).mono ?_;rintro _ w2 ⟨rfl,rfl⟩;go_wp2_with fail
       refine (Hu.out _ aa).mono ?_;rintro _ w2 ⟨rfl,rfl⟩;go_wp2_with fail
       refine (Sx.out _ aa).mono ?_;rintro _ w2 ⟨rfl,rfl⟩;go_wp2_with fail
       go_ret
       exact ⟨by rw [HF.out];rfl,aa⟩
     ·have HF:=zH (show pv=false by rw [HV.out,decide_eq_false hs];simp)
      have t3:decide ((root:Int)<18446744069414584321)=true:=decide_eq_true (by unfold Xa at hr;omega)
      have t4:decide ((zf:Int)<18446744069414584321)=false:=decide_eq_false (by unfold Xa at hs;omega)
      clear HV Hu Sx hr hs ZW;go_enter Tryz.func75,Tryz.ntmps75
      go_wp2_with fail
      generalize w.alloc _=w1 at aa Gf kc |-;refine (sy.out _).mono ?_;rintro _ w2 ⟨rfl,rfl⟩;go_wp2_with fail
      go_ret
      exact ⟨by rw [HF.out];rfl,aa⟩
    ·have HF:=zH (show pv=false by rw [HV.out,decide_eq_false hr];simp)
     have t3:decide ((root:Int)<18446744069414584321)=false:=decide_eq_false (by unfold Xa at hr;omega)
     clear HV Hu Sx hr ZW;go_enter Tryz.func75,Tryz.ntmps75
     go_wp2_with fail
     generalize w.alloc _=w1 at aa Gf kc |-;refine (sy.out _).mono ?_;rintro _ w2 ⟨rfl,rfl⟩;go_wp2_with fail
     go_ret
     exact ⟨by rw [HF.out];rfl,aa⟩
   ·have HF:=zH (show pv=false by rw [HV.out,decide_eq_false ZW];simp)
    have t2:((pw:Int) != (n:Int))=true:=by rw [bne_iff_ne];omega
    clear HV Hu Sx ZW;go_enter Tryz.func75,Tryz.ntmps75
    go_wp2_with fail
    generalize w.alloc _=w1 at aa Gf kc |-;refine (sy.out _).mono ?_;rintro _ w2 ⟨rfl,rfl⟩;go_wp2_with fail
    go_ret
    exact ⟨by rw [HF.out];rfl,aa⟩
  ·have HF:=zH (show pv=false by rw [HV.out,decide_eq_false Pb];simp)
   have t1:(n:Int) <= (i:Int):=by omega
   have t1':decide ((n:Int) <= (i:Int))=true:=decide_eq_true t1;have t1n:decide (n <= i)=true:=decide_eq_true (by omega)
   clear HV Hu Sx;go_enter Tryz.func75,Tryz.ntmps75
   go_wp2_with fail
   generalize w.alloc _=w1 at aa Gf kc |-;refine (sy.out _).mono ?_;rintro _ w2 ⟨rfl,rfl⟩;go_wp2_with fail
   go_ret
   exact ⟨by rw [HF.out];rfl,aa⟩
end Go.Proofs.YtjipleoamlmkfaaGreat
namespace Go.Proofs.YtjipleoamlmkfaaGreat
open Go.RowKit Go.Maps
def kS (w:World) (g:Nat) (O:La) (F:Nat -> Prop) (lab:Nat) (l:List Nat) (e:Ending) (w':World):Prop :=
 e= .returned (.tuple #[.int .u64 (((dL O lab l).getD 0:Nat):Int), .bool (dL O lab l).isSome]) /\ ∃ F',OrcAt w' g (Aq O lab l) F' /\ Moved F F' w w'
theorem zBs {w:World} {g B:Nat} {O:La} {F:Nat -> Prop} (h:OrcAt w g O F) (hi:O.ideal=false) (hB:w.cell? ⟨B,0,none⟩=some (.pointer (some ⟨g,0,none⟩))) (lab:Nat) (l:List Nat) (A:Option Addr) (n c:Nat) {K:Nat -> Prop} (hl:Km K w (.slice A n c) l) (hK:∀ b,K b -> ¬F b)
  (Yo:lab<18446744073709551616) (hlen:l.length <= 1000000) (Ka:0<l.length) (hO:Qc O 1000000) :
  Calls Tryz.prog 76 #[.int .u64 lab, .slice A n c, .pointer (some ⟨B,0,none⟩)] w (kS w g O F lab l):=by
 have HH:=zH (QA h lab l A n c hl hK Yo hlen (.inl Ka) hO.1 hO.2);have e1:dL O lab l=some (Kc O lab l):=by unfold dL;rw [hi];rfl
 have e2:Aq O lab l=jc O lab l:=by unfold Aq;rw [hi];rfl
 unfold kS;rw [e1,e2];simp only [Option.getD_some,Option.isSome_some];clear h hl hK Yo hlen Ka hO e1 e2 hi;go_enter Tryz.func76,Tryz.ntmps76
 go_wp2_with fail
 refine HH.out.mono ?_;rintro _ w1 ⟨rfl,h1⟩;have H1:=zH h1;clear h1;go_wp2
 go_ret2
 exact ⟨rfl,H1.out⟩
theorem zBq {w:World} {g:Nat} {O:La} {F:Nat -> Prop} (h:OrcAt w g O F) (hi:O.ideal=true) (lab:Nat) (l:List Nat) (A:Option Addr) (n c:Nat) {K:Nat -> Prop} (hl:Km K w (.slice A n c) l)
  (Yo:lab<18446744073709551616) (hlen:l.length <= 1000000) (hO:Qc O 1000000) :
  Calls Tryz.prog 79 #[.pointer (some ⟨g,0,none⟩), .int .u64 lab, .slice A n c] w (kS w g O F lab l):=by
 have e1:dL O lab l=GJ O lab l:=by unfold dL;rw [hi];rfl
 have e2:Aq O lab l=O:=by unfold Aq;rw [hi];rfl
 refine (zCz h lab l A n c (Pk hl) Yo hlen (.inr hi) hO.1).mono fun e w' hh=>?_
 unfold kS;rw [e1,e2];exact ⟨hh.1,F,h.below hh.2,Ic hh.2⟩
theorem G8:∀ b:Fin 1024,bits .and .i64 (b.val:Int) 1=((b.val%2:Nat):Int):=by decide +kernel
theorem W1 (O:La) (lab:Nat) (l:List Nat):(Aq O lab l).ideal=O.ideal:=by
 unfold Aq;split
 ·rfl
 ·exact I9 O lab l
theorem U4 {O:La} {k:Nat} (h:Qc O k) (lab:Nat) (l:List Nat):Qc (Aq O lab l) (k+1):=by
 unfold Aq;split
 ·exact Ih h (Nat.le_succ k)
 ·exact Wl h lab l
theorem O8 {O:La} (h:rm O) {lab a:Nat} {l:List Nat} (e:dL O lab l=some a):a<Xa:=by
 unfold dL GJ at e;split at e
 ·split at e
  ·split at e
   ·rename_i b hb
    injection e with e
    subst e;unfold Td at hb;cases hc:O.qs.find? (Yl lab l) with
    | none=>rw [hc] at hb;cases hb
    | some x =>
     rw [hc] at hb
     injection hb with hb
     rw [<- hb];exact h x (List.mem_of_find?_eq_some hc)
   ·try (cases e;done)
    all_goals split at e
    all_goals try (cases e;done)
    all_goals (injection e with e;rw [<- e];exact WB lab l)
  ·cases e
 ·injection e with e
  rw [<- e];exact Bt h lab l
theorem K5 {p:Nat} {r:List Nat} {O:La} {lab i a:Nat} {el:List Nat} (h:dL O lab el=some a) :
  RO (p :: r) O lab el i=RO r (Aq O lab el) 17 (if i%2=1 then [p,a] else [a,p]) (i / 2) /\ JO (p :: r) O lab el i=JO r (Aq O lab el) 17 (if i%2=1 then [p,a] else [a,p]) (i / 2):=by
 simp only [RO,JO,h,Option.bind_some,and_self]
theorem zBc {r:List Nat} {O:La} {lab i:Nat} {el:List Nat} (h:dL O lab el=none):RO r O lab el i=none /\ JO r O lab el i=Aq O lab el:=by
 cases r <;> simp [RO,JO,h]
theorem Q8 {B:Nat} {w u:World} (hB:B <= w.heap.size) (h:Below w.drew.heap.size w.drew u):Below B w u:=⟨h.os,h.tape,h.output,h.size,fun b hb=>h.block b (by show b<w.heap.size;omega)⟩
theorem J3 {w4 wn:World} {gq:Nat} {x:Value} {o:Obj} {row:Option Nat} (hg:((w4.setCell ⟨gq,2,none⟩ x).alloc o).grownBy wn row):(∀ b,b<w4.heap.size -> b≠gq -> row≠some b -> wn.heap[b]?=w4.heap[b]?) /\ w4.heap.size <= wn.heap.size /\ wn.os=w4.os /\ wn.tape=w4.tape /\ wn.output=w4.output:=by
 have hs:((w4.setCell ⟨gq,2,none⟩ x).alloc o).heap.size=w4.heap.size+1:=by simp [World.setCell]
 refine ⟨fun b hb hn hr=>?_,by have:=hg.size;omega,hg.os,hg.tape,hg.output⟩
 exact ((hg.block b (by omega) (fun e=>hr e.symm)).trans (Below.heap_alloc _ o b (by simpa [World.setCell] using hb))).trans (Below.heap_setCell w4 _ x b hn)
theorem E7 {F F':Nat -> Prop} {w0 w wn:World} (m:Moved F F' w0 w) (h:(∀ b,b<w0.heap.size -> wn.heap[b]?=w.heap[b]?) /\ w.heap.size <= wn.heap.size /\ wn.os=w.os /\ wn.tape=w.tape /\ wn.output=w.output):Moved F F' w0 wn :=
 ⟨h.2.2.1.trans m.os,h.2.2.2.1.trans m.tape,h.2.2.2.2.trans m.output,Nat.le_trans m.size h.2.1,fun b hb hn=>(h.1 b hb).trans (m.block b hb hn),m.foot⟩
def KZ (w:World) (g gx gq:Nat) (F:Nat -> Prop) (id:Bool) (i np:Nat) (path:List Nat) (xc:Array Value) (rv:Option Nat) (ro:La) (av st:Value) (wr:World):Prop :=
 ∃ (k lab n:Nat) (el:List Nat) (Oc:La) (Fc Ke:Nat -> Prop) (an:Int) (Ae:Option Addr) (ce:Nat) (cs:List Value),
  (k <= np /\ st= .int .i64 k /\ lab<18446744073709551616 /\ 0<el.length /\ el.length <= 100001) /\
  (OrcAt wr g Oc Fc /\ Moved F Fc w wr /\ Oc.ideal=id /\ Qc Oc (300000+k)) /\
  (Blk wr gq 133 #[.int .u64 lab, .slice Ae el.length ce, .int .u64 an] /\ ¬Fc gq) /\
  (Km Ke wr (.slice Ae el.length ce) el /\ ∀ b,Ke b -> b<wr.heap.size /\ ¬Fc b /\ b≠gq) /\
  (Blk wr gx 80 xc /\ ¬Fc gx) /\
  (wr.ownsRow (gq+1) 133 3 av n cs /\ n <= k /\ ∀ b,av.ownBlock=some b -> ¬Fc b /\ ¬Ke b) /\
  rv=RO (path.drop k) Oc lab el (i / 2^k) /\ ro=JO (path.drop k) Oc lab el (i / 2^k)
theorem K3 {w w4 wn w9:World} {g gx gq i np k n:Nat} {F Fd:Nat -> Prop} {O':La} {id:Bool} {path el':List Nat} {xc:Array Value} {rv:Option Nat} {ro:La} {u v':Value} {Ig:List Value}
  (H4:OrcAt w4 g O' Fd) (M5:Moved F Fd w w4) (hid:O'.ideal=id) (hO:Qc O' (300000+(k+1)))
  (fm:∀ b,b<w4.heap.size -> b≠gq -> u.ownBlock≠some b -> wn.heap[b]?=w4.heap[b]?) (fs:w4.heap.size <= wn.heap.size /\ wn.os=w4.os /\ wn.tape=w4.tape /\ wn.output=w4.output)
  (WU:∀ b,u.ownBlock=some b -> ¬Fd b) (Cx:∀ b,u.ownBlock=some b -> gq+1 <= b) (UU:¬Fd gq) (oX:¬Fd gx) (dz:Blk w4 gx 80 xc) (cA:gx<gq) (hw:w.heap.size <= gx)
  (own:wn.ownsRow (gq+1) 133 3 v' (n+1) Ig) (Ab:v'.ownBlock=u.ownBlock \/ v'.ownBlock=some (w4.heap.size+1)) (hn:n <= k) (hk:k+1 <= np)
  (a9:∀ b,b<wn.heap.size -> b≠gq -> w9.heap[b]?=wn.heap[b]?) (s9:wn.heap.size<w9.heap.size) (o9:w9.os=wn.os /\ w9.tape=wn.tape /\ w9.output=wn.output)
  (gX:Blk w9 gq 133 #[.int .u64 17, .slice (some ⟨wn.heap.size,0,none⟩) 2 2, .int .u64 0]) (fX:Blk w9 wn.heap.size 22 (Ca el').toArray) (zi:el'.length=2) (hel64:∀ x∈el',x<18446744073709551616) (hgq4:gq<w4.heap.size)
  (qV:rv=RO (path.drop (k+1)) O' 17 el' (i / 2^(k+1))) (pV:ro=JO (path.drop (k+1)) O' 17 el' (i / 2^(k+1))) :
  KZ w g gx gq F id i np path xc rv ro v' (.int .i64 ((k+1:Nat):Int)) w9:=by
 have ag:∀ b,b<w4.heap.size -> b≠gq -> u.ownBlock≠some b -> w9.heap[b]?=w4.heap[b]?:=fun b h1 h2 h3=>(a9 b (by have:=fs.1;omega) h2).trans (fm b h1 h2 h3)
 have hgx4:=dz.lt;have f1:=fs.1;refine ⟨k+1,17,n+1,el',O',Fd,fun b=>b=wn.heap.size,0,some ⟨wn.heap.size,0,none⟩,2,Ig,⟨hk,rfl,by decide,by omega,by omega⟩,⟨?_,?_,hid,hO⟩,⟨by rw [zi];exact gX,UU⟩,⟨by rw [zi];exact oz fX zi hel64 (by simp [maxLen]),fun b hb=>?_⟩,⟨?_,oX⟩,⟨?_,by omega,fun b hb=>?_⟩,qV,pV⟩
 ·exact H4.keep (by omega) fun b hb=>ag b (H4.lt b hb) (fun e=>UU (by rw [<- e];exact hb)) (fun e=>WU b e hb)
 ·exact E7 M5 ⟨fun b hb=>ag b (by have:=M5.size;omega) (by omega) (fun e=>by have:=Cx b e;omega),by omega,o9.1.trans fs.2.1,o9.2.1.trans fs.2.2.1,o9.2.2.trans fs.2.2.2⟩
 ·subst hb
  exact ⟨s9,fun e=>by have:=H4.lt _ e;omega,by omega⟩
 ·exact (ag gx hgx4 (by omega) (fun e=>by have:=Cx gx e;omega)).trans dz
 ·exact zg own fun b hb=>a9 b (own.lt b hb).2 (fun e=>by have:=(own.lt b hb).1;omega)
 ·have h2:=(own.lt b hb).2
  refine ⟨fun e=>?_,fun e=>by omega⟩
  rcases Ab with h | h
  ·rw [h] at hb;exact WU b hb e
  ·rw [h] at hb;have:=Option.some.inj hb;have:=H4.lt b e;omega
theorem zBS {w:World} {g B:Nat} {O:La} {F K:Nat -> Prop} (h:OrcAt w g O F) (hid:O.ideal=false) (hB:Blk w B 39 #[.pointer (some ⟨g,0,none⟩)]) (nFB:¬F B) (root i zf:Nat) (A Bp:Option Addr) (a c pb pe:Nat) (leaf path:List Nat) (hl:Km K w (.slice A a c) leaf) (hp:Km K w (.slice Bp pb pe) path)
  (hK:∀ b,K b -> b<w.heap.size /\ ¬F b) (hlen:leaf.length <= 100000) (Wh:path.length <= 10) (hi:i<1024) (hO:Qc O 300000) (C0:zf<18446744073709551616) :
  Calls Tryz.prog 80 #[.func (.func 76) #[] #[.pointer (some ⟨B,0,none⟩)], .int .u64 root, .int .i64 i, .agg #[.slice A a c, .int .u64 zf, .slice Bp pb pe]] w fun e w'=>∃ v F',e= .returned (.tuple #[v, .bool (RO path O 16 (zf :: leaf) i == some root)]) /\
   OrcAt w' g (JO path O 16 (zf :: leaf) i) F' /\ Moved F F' w w':=by
 have ia:=(Below.refl w.heap.size w).alloc zR (.cells #[.slice A a c, .int .u64 zf, .slice Bp pb pe] 80);have kx:=Blk.new w 80 #[.slice A a c, .int .u64 zf, .slice Bp pb pe];have uo:=zH (fun w1 (hb:Below w.heap.size w w1)=>tS zf A a c leaf w1 (Pk (Bw hl hb)) (by omega))
 have H:=zH h;have HL:=zH hl;have HP:=zH hp;have HK:=zH hK;have Qe:=zH hlen;have HO:=zH hO;have eV:=zH hid;obtain ⟨rv,dq⟩:=zEX (RO path O 16 (zf :: leaf) i);obtain ⟨ro,zo⟩:=zEX (JO path O 16 (zf :: leaf) i);rw [<- dq,<- zo];have qK:=zH dq;have Ms:=zH zo;have gZ:=zH C0;have kc:=kx.cell;have HB:=zH hB;have HNB:=zH nFB;clear hB nFB;clear h hl hp hK hlen hO hid dq zo C0;go_enter Tryz.func80,Tryz.ntmps80
 go_wp2_with fail
 generalize w.alloc _=w1 at ia kx kc |-;refine (uo.out _ ia).mono ?_;rintro _ w2 ⟨v,rfl,hv,xa⟩;obtain ⟨Av,cv,rfl,-⟩:=Tb hv;go_wp2_with fail
 have RW:=(Below.refl w2.heap.size w2).alloc zR (.cells #[.int .u64 16, .slice Av (a+1) cv, .int .u64 0] 133);have kq:=Blk.new w2 133 #[.int .u64 16, .slice Av (a+1) cv, .int .u64 0];have Na:=ja ia xa;have TW:=ja Na RW;have l1:w.heap.size<w1.heap.size:=kx.lt;have l2:=xa.size;have cA:w.heap.size<w2.heap.size:=by omega
 replace kx:=(ea kx xa).below RW cA;have Kl:∀ x∈zf :: leaf,x<18446744073709551616:=Nj gZ.out (by obtain ⟨A',c',e',-,-,h9⟩:=pB HL.out;exact h9)
 have Cr:=fun b hb=>hv.lt b hb
 have SM:=Bw (qz hv Kl) RW;have fp:=pB HP.out;generalize w2.alloc _=w3 at TW kx kq SM |-;generalize hgq:w2.heap.size=gq at kq cA |-;obtain ⟨gx,zY⟩:=zEX (w.heap.size);rw [<- zY] at kx cA |-;have Ku:=zH zY;have pH:pb=path.length:=by obtain ⟨A',c',e',-⟩:=fp;injection e' with _ e2 _;
 clear zY ia RW xa kc hv Na Kl fp;subst pH;have cV:=zH (show a=leaf.length by obtain ⟨A',c',e',-⟩:=pB HL.out;injection e' with _ e2 _)
 have hX:∀ b,b<w.heap.size -> b≠gq /\ b≠gx:=fun b hb=>by have:=Ku.out;omega
 have VY:∀ b,w.heap.size <= b -> ¬F b:=fun b hb hf=>by have:=H.out.lt b hf;omega
 have GX:KZ w g gx gq F false i path.length path #[.slice A a c, .int .u64 zf, .slice Bp path.length pe] rv ro (.slice none 0 0) (.int .i64 0) w3:=by
  refine ⟨0,16,0,zf :: leaf,O,F,fun b=>(Value.slice Av (a+1) cv).ownBlock=some b,0,Av,cv,[],⟨Nat.zero_le _,rfl,by decide,by simp,by have:=Qe.out;simp;omega⟩,⟨H.out.below TW,Ic TW,eV.out,HO.out⟩,⟨?_,VY gq (by have:=Ku.out;omega)⟩,⟨?_,fun b hb=>?_⟩,⟨kx,VY gx (by have:=Ku.out;omega)⟩,⟨⟨rfl, .inl ⟨rfl,rfl⟩⟩,zR,fun b hb=>by simp [Value.ownBlock] at hb⟩,?_,?_⟩
  ·rw [List.length_cons,<- cV.out];exact kq
  ·rw [List.length_cons,<- cV.out];exact SM
  ·have:=Cr b hb
   have:=kq.lt;exact ⟨by omega,VY b (by omega),by omega⟩
  ·rw [qK.out];simp
  ·rw [Ms.out];simp
 clear SM kq kx TW Cr l1 l2 hgq qK Ms HO eV;go_loopw [11,12] (fun av st wr=>KZ w g gx gq F false i path.length path #[.slice A a c, .int .u64 zf, .slice Bp path.length pe] rv ro av st wr) (fun _ st _=>path.length+1-(intOf st).toNat)
 case atStart=>exact GX
 case round =>
  clear GX;obtain ⟨k,lab,n,el,Oc,Fc,Ke,an,Ae,ce,cs,⟨hk,rfl,Yo,hel0,zi⟩,⟨h1,m1,AY,oo⟩,⟨kq,jX⟩,⟨SM,QX⟩,⟨kx,lX⟩,⟨own,EN,sV⟩,qV,pV⟩:=hrel;have HASK:=zH (show ∀ e' w',kS wr g Oc Fc lab el e' w' -> kS wr g Oc Fc lab el e' w' from fun _ _ h=>h)
  have bQ:=zH (show Calls Tryz.prog 76 #[.int .u64 lab, .slice Ae el.length ce, .pointer (some ⟨B,0,none⟩)] wr (kS wr g Oc Fc lab el) from zBs h1 AY ((HB.out.moved m1 HNB.out).cell 0) lab el Ae el.length ce SM (fun b hb=>(QX b hb).2.1) Yo (by omega) hel0 (Ih oo (by omega)))
  have So:=kq.cell;have hfq:=kq.frozen;have hqx:gx≠gq:=by omega
  have HKe:=zH QX;have dV:=zH sV;have HKE:=zH SM;have M1:=zH m1;have KQ:=zH kq;have KX:=zH kx;have uU:=zH own;have gK:=zH oo;have H1:=zH h1;have hnk2:n <= 10:=by omega
  have Ra:=kq.lt;rcases hq:dL Oc lab el with _ | qe
  ·obtain ⟨s1,s2⟩:=zBc (r:=path.drop k) (i:=i / 2^k) hq
   have dq:rv=none:=by rw [qV,s1]
   have zo:ro=Aq Oc lab el:=by rw [pV,s2]
   have bQ:=zH (show Calls Tryz.prog 76 #[.int .u64 lab, .slice Ae el.length ce, .pointer (some ⟨B,0,none⟩)] wr (fun e w'=>e= .returned (.tuple #[.int .u64 0, .bool false]) /\ ∃ F',OrcAt w' g (Aq Oc lab el) F' /\ Moved Fc F' wr w') from by have:=bQ.out;unfold kS at this;rw [hq] at this;exact this)
   have qK:=zH dq;have Ms:=zH zo;clear qV pV s1 s2 hq dq zo SM QX sV m1 kq kx own oo h1;go_wp2_with fail
   refine bQ.out.mono ?_;rintro _ w4 ⟨rfl,Fd,h4,m4⟩;have Ni:=zH (show OrcAt w4 g ro Fd /\ Moved F Fd w w4 from by rw [Ms.out];exact ⟨h4,M1.out.trans m4⟩)
   clear h4 m4;go_wp2
   go_ret2
   exact ⟨_,Fd,by rw [qK.out];rfl,Ni.out⟩
  ·have bQ:=zH (show Calls Tryz.prog 76 #[.int .u64 lab, .slice Ae el.length ce, .pointer (some ⟨B,0,none⟩)] wr (fun e w'=>e= .returned (.tuple #[.int .u64 qe, .bool true]) /\ ∃ F',OrcAt w' g (Aq Oc lab el) F' /\ Moved Fc F' wr w') from by have:=bQ.out;unfold kS at this;rw [hq] at this;exact this)
   have HQ:=zH hq;have HAN:=zH (O8 h1.ok.ans hq);have uW:=zH qV;have tW:=zH pV;clear qV pV hq SM QX sV m1 kq kx own oo h1;by_cases hkn:k=path.length
   ·subst hkn
    have dq:rv=some qe:=by rw [uW.out,List.drop_length];exact HQ.out
    have zo:ro=Aq Oc lab el:=by rw [tW.out,List.drop_length];rfl
    obtain ⟨res,eG⟩:=zEX ((rv == some root));have dres:((qe:Int) == (root:Int))=res:=by
     rw [eG,dq];by_cases h:qe=root
     ·subst h;simp
     ·have h2:((qe:Int) == (root:Int))=false:=by rw [beq_eq_false_iff_ne];omega
      rw [h2];symm;simpa using h
    have dkk:(((path.length:Nat):Int) == (path.length:Int))=true:=by simp
    have Yz:=zH eG.symm;have Ms:=zH zo;clear eG dq zo uW tW;go_wp2_with fail
    refine bQ.out.mono ?_;rintro _ w4 ⟨rfl,Fd,h4,m4⟩;have ku:=KQ.out.moved m4 jX;have Kw:=CB uU.out m4 (fun b hb=>(dV.out b hb).1)
    have UU:=Me m4 Ra jX;have oX:=Me m4 KX.out.lt lX;have WU:∀ b,u11.ownBlock=some b -> ¬Fd b:=fun b hb=>Me m4 (uU.out.lt b hb).2 (dV.out b hb).1
    have Cx:∀ b,u11.ownBlock=some b -> gq+1 <= b:=fun b hb=>(Kw.lt b hb).1
    have M5:=zH (M1.out.trans m4);have Rx:(w4.setCell ⟨gq,2,none⟩ (.int .u64 qe)).ownsRow (gq+1) 133 3 u11 n cs:=zg Kw fun b hb=>Below.heap_setCell w4 _ _ b (fun e=>by have:=Cx b hb;simp at e;omega)
    have H4:=zH h4;have tV:=ku.cell;have UX:=ku.frozen;have dz:=zH (KX.out.moved m4 lX);have QY:=dz.out.cell;have FU:=ku.set_ 2 (.int .u64 qe);have lq:=FU.cell;have SY:gq<w4.heap.size:=ku.lt;have KQ4:=zH ku;have JY:(w4.setCell ⟨gq,2,none⟩ (.int .u64 qe)).heap.size=w4.heap.size:=by simp [World.setCell]
    have aX:Rd ((w4.setCell ⟨gq,2,none⟩ (.int .u64 qe)).alloc (.cells #[.int .u64 lab, .slice Ae el.length ce, .int .u64 qe] 133)) 3 (some ⟨w4.heap.size,0,none⟩) 1 [.int .u64 lab, .slice Ae el.length ce, .int .u64 qe]:=by
     have:=R0 (w4.setCell ⟨gq,2,none⟩ (.int .u64 qe)) (.int .u64 lab) (.slice Ae el.length ce) (.int .u64 qe) 133;rw [JY] at this;exact this
    clear h4 m4 ku Kw So hfq;go_wp2_with (at_builtin;refine If rfl _ _ rfl SZ rfl (Rx.alloc _) rfl aX (by intro u hu;simp at hu;rcases hu with rfl | rfl | rfl <;> rfl) (by omega) (by simp;omega) ?_)
    intro v' wn Ta Ha Ab;obtain ⟨fm,fs⟩:=J3 Ha;have Ni:=zH (show OrcAt wn g ro Fd /\ Moved F Fd w wn from by
     rw [Ms.out];refine ⟨H4.out.keep fs.1 fun b hb=>fm b (H4.out.lt b hb) (fun e=>UU (by rw [<- e];exact hb)) (fun e=>WU b e hb),E7 M5.out ⟨fun b hb=>fm b (by have:=M5.out.size;omega) (hX b hb).1 (fun e=>by have:=Cx b e;have:=(hX b hb);have:=Ku.out;omega),fs⟩⟩)
    have kh:∀ j,wn.cell? ⟨gx,j,none⟩=_:=fun j=>(show wn.cell? ⟨gx,j,none⟩=w4.cell? ⟨gx,j,none⟩ by simp only [World.cell?,fm gx dz.out.lt (by omega) (fun e=>by have:=Cx gx e;omega)]).trans (dz.out.cell j)
    clear Ha Ab Ta fm fs QY tV UX lq FU Rx;go_wp2
    go_ret2
    exact ⟨_,Fd,by rw [Yz.out];rfl,Ni.out⟩
   ·have BU:k<path.length:=by omega
    have YZ:path.drop k=path.getD k 0 :: path.drop (k+1):=by
     rw [List.drop_eq_getElem_cons BU,List.getD_eq_getElem?_getD,List.getElem?_eq_getElem BU];rfl
    have Tv:i / 2^k / 2=i / 2^(k+1):=by rw [Nat.pow_succ,Nat.div_div_eq_div_mul]
    have dq:=uW.out;have zo:=tW.out;rw [YZ] at dq zo;rw [(K5 HQ.out).1,Tv] at dq;rw [(K5 HQ.out).2,Tv] at zo;have dkk:((k:Int) == (path.length:Int))=false:=by rw [beq_eq_false_iff_ne];omega
    have qK:=zH dq;have Ms:=zH zo;have SJ:=zH BU;clear dq zo uW tW YZ Tv hkn;go_wp2_with fail
    refine bQ.out.mono ?_;rintro _ w4 ⟨rfl,Fd,h4,m4⟩;have ku:=KQ.out.moved m4 jX;have Kw:=CB uU.out m4 (fun b hb=>(dV.out b hb).1)
    have UU:=Me m4 Ra jX;have oX:=Me m4 KX.out.lt lX;have WU:∀ b,u11.ownBlock=some b -> ¬Fd b:=fun b hb=>Me m4 (uU.out.lt b hb).2 (dV.out b hb).1
    have Cx:∀ b,u11.ownBlock=some b -> gq+1 <= b:=fun b hb=>(Kw.lt b hb).1
    have M5:=zH (M1.out.trans m4);have Rx:(w4.setCell ⟨gq,2,none⟩ (.int .u64 qe)).ownsRow (gq+1) 133 3 u11 n cs:=zg Kw fun b hb=>Below.heap_setCell w4 _ _ b (fun e=>by have:=Cx b hb;simp at e;omega)
    have H4:=zH h4;have tV:=ku.cell;have UX:=ku.frozen;have dz:=zH (KX.out.moved m4 lX);have QY:=dz.out.cell;have FU:=ku.set_ 2 (.int .u64 qe);have lq:=FU.cell;have SY:gq<w4.heap.size:=ku.lt;have KQ4:=zH ku;have JY:(w4.setCell ⟨gq,2,none⟩ (.int .u64 qe)).heap.size=w4.heap.size:=by simp [World.setCell]
    have aX:Rd ((w4.setCell ⟨gq,2,none⟩ (.int .u64 qe)).alloc (.cells #[.int .u64 lab, .slice Ae el.length ce, .int .u64 qe] 133)) 3 (some ⟨w4.heap.size,0,none⟩) 1 [.int .u64 lab, .slice Ae el.length ce, .int .u64 qe]:=by
     have:=R0 (w4.setCell ⟨gq,2,none⟩ (.int .u64 qe)) (.int .u64 lab) (.slice Ae el.length ce) (.int .u64 qe) 133;rw [JY] at this;exact this
    clear h4 m4 ku Kw So hfq;go_wp2_with (at_builtin;refine If rfl _ _ rfl SZ rfl (Rx.alloc _) rfl aX (by intro u hu;simp at hu;rcases hu with rfl | rfl | rfl <;> rfl) (by omega) (by simp;omega) ?_)
    intro v' wn Ta Ha Ab;obtain ⟨fm,fs⟩:=J3 Ha;have kh:∀ j,wn.cell? ⟨gx,j,none⟩=_:=fun j=>(show wn.cell? ⟨gx,j,none⟩=w4.cell? ⟨gx,j,none⟩ by simp only [World.cell?,fm gx dz.out.lt (by omega) (fun e=>by have:=Cx gx e;omega)]).trans (dz.out.cell j)
    have hKw:∀ b,K b -> b<w.heap.size -> wn.heap[b]?=w.heap[b]?:=fun b hb hl=>(fm b (by have:=M5.out.size;omega) (hX b hl).1 (fun e=>by have:=Cx b e;have:=Ku.out;omega)).trans (M5.out.block b hl (HK.out b hb).2)
    have PY:=Dp HP.out (Nat.le_trans M5.out.size fs.1) hKw;obtain ⟨b3,q3,eP,Ga,XV⟩:=Ye (zb (Pk PY)).2.2.2.2 SJ.out;have CU:=yz (zb (Pk PY)).2.2.2.1 SJ.out;subst eP;have oR:=zH CU;have FM:=zH fm;have FS:=zH fs;have IZ:=zH Ta;have DZ:=zH Ab;have GROW:=zH Ha;have iX:=(FU.alloc (.cells #[.int .u64 lab, .slice Ae el.length ce, .int .u64 qe] 133)).grown Ha (fun e=>by have:=Cx gq e.symm;omega)
    have hkI:(k:Int) <= 10:=by omega
    have hkl2:(k:Int)<(path.length:Int):=by have:=SJ.out;omega
    have aW:(0:Int) <= (k:Int):=by omega
    obtain ⟨px,CU⟩:=zEX (path.getD k 0);rw [<- CU] at XV oR qK Ms;clear Ha Ab Ta fm fs QY tV UX lq FU Rx aX hKw PY CU;have KQN:=zH iX;have lqn:=iX.lt;have Rq:=Blk.new wn 22 #[.int .u64 qe, .int .u64 px];have rR:=(Below.refl wn.heap.size wn).alloc zR (.cells #[.int .u64 qe, .int .u64 px] 22);have BO:=ea iX rR;have yk:=zH (show qe<18446744073709551616 by have:=HAN.out;unfold Xa at this;omega)
    have Il:i / 2^k<1024:=Nat.lt_of_le_of_lt (Nat.div_le_self _ _) hi;have tR:=G8 ⟨i / 2^k,Il⟩;simp only at tR;rw [show ((i / 2^k:Nat):Int)=(i:Int) / 2^k by simp] at tR
    have BV:wn.heap.size<(wn.alloc (.cells #[.int .u64 qe, .int .u64 px] 22)).heap.size:=by simp
    clear iX Il;by_cases Nk:i / 2^k%2=1
    ·rw [Nk] at tR
     have dd:((1:Int) == 1)=true:=rfl;have lY:=zH (fun w9 a9 s9 o9 gX fX=>K3 (w9:=w9) (el':=[px,qe]) (O':=Aq Oc lab el) (rv:=rv) (ro:=ro) (path:=path) (i:=i) (np:=path.length) (id:=false) H4.out M5.out (by rw [W1];exact AY) (Ih (U4 gK.out lab el) (by omega)) FM.out FS.out WU Cx UU oX dz.out cA (by have:=Ku.out;omega) IZ.out (DZ.out.imp id fun h=>h.trans (by first | rfl | (simp [World.setCell];done))) EN (by have:=SJ.out;omega) a9 s9 o9 gX fX rfl (Nj oR.out (Nj yk.out fun _ h=>nomatch h)) SY (by have:=qK.out;rw [if_pos Nk] at this;exact this) (by have:=Ms.out;rw [if_pos Nk] at this;exact this))
     clear Nk;go_upto_region 14 with fail
     generalize xH:wn.alloc _=wp at BO Rq rR BV |-;obtain ⟨gp,AU⟩:=zEX (wn.heap.size);have rU:=zH AU;rw [<- AU] at Rq |-;have lgp:gq<gp:=by rw [AU];exact lqn
     have XZ:=Rq.cell;have lpp:=Rq.lt;have sU:=zH BO;have bR:=zH rR;have iV:=zH BV;clear BO rR xH AU BV;refine JT (Bb) [9,11] [9] [1,5,6] [0,1,2,3,4,5,6,7,8,9,10,11] (by kernel_rfl) (by kernel_rfl) ?_
     refine zBe (pa) ?_;intro Wc da;refine CZ ?_;refine VK (pa) rfl rfl rfl ?_;replace Rq:=Rq.drew.below da Rq.lt;have GZ:=zH (sU.out.drew.below da sU.out.lt);have W6:=Rq.cell;have X6:=Rq.frozen;have O5:=zH da;clear XZ da lpp;go_simp;refine ⟨fun h=>Bool.noConfusion h,?_⟩
     have AV:=Rq.set_ 0 (.int .u64 px);have eX:Below wn.heap.size wn (Wc.setCell ⟨gp,0,none⟩ (.int .u64 px)):=(bR.out.trans (Q8 (Nat.le_of_lt iV.out) O5.out)).setCell (by rw [rU.out];exact zR) _
     have BY:Blk (Wc.setCell ⟨gp,0,none⟩ (.int .u64 px)) gq 133 _:=GZ.out.far (p:=⟨gp,0,none⟩) (by simp;omega) _
     try simp only [Act.put,zLa,zLb,zLc]
     generalize Wc.setCell _ _=w6 at AV eX BY |-;have aj:=AV.cell;have dn:=AV.frozen;clear Rq W6 X6 GZ;have da:=pa.refl w6;refine CZ ?_;refine VK (pa) rfl rfl rfl ?_;go_simp;refine ⟨fun h=>Bool.noConfusion h,?_⟩
     have cX:=AV.set_ 1 (.int .u64 qe);have IY:Below wn.heap.size wn (w6.setCell ⟨gp,1,none⟩ (.int .u64 qe)):=eX.setCell (by rw [rU.out];exact zR) _
     have xV:Blk (w6.setCell ⟨gp,1,none⟩ (.int .u64 qe)) gq 133 _:=BY.far (p:=⟨gp,1,none⟩) (by simp;omega) _
     try simp only [Act.put,zLa,zLb,zLc]
     generalize w6.setCell _ _=IU at cX IY xV |-;refine MT ?_;have iY:Hid (Blk IU wn.heap.size 22 (Ca [px,qe]).toArray):=by
      show Blk _ _ _ _
      rw [<- rU.out]
      simpa [Ca] using cX
     have hcp4:=xV.cell;have hfp4:=xV.frozen;have sU:=zH xV;have wW:=zH IY;have iV:=zH (show wn.heap.size<IU.heap.size by rw [<- rU.out];exact cX.lt)
     clear AV cX eX IY BY xV aj dn da bR;go_wp2_with fail
     rw [rU.out];have ON:∀ (x0 x1 x2:Value) b,b≠gq -> (((IU.setCell ⟨gq,0,none⟩ x0).setCell ⟨gq,1,none⟩ x1).setCell ⟨gq,2,none⟩ x2).heap[b]?=IU.heap[b]?:=fun x0 x1 x2 b hb=>(Below.heap_setCell _ ⟨gq,2,none⟩ x2 b hb).trans ((Below.heap_setCell _ ⟨gq,1,none⟩ x1 b hb).trans (Below.heap_setCell IU ⟨gq,0,none⟩ x0 b hb))
     have Uo:=lY.out (((IU.setCell ⟨gq,0,none⟩ (.int .u64 17)).setCell ⟨gq,1,none⟩ (.slice (some ⟨wn.heap.size,0,none⟩) 2 2)).setCell ⟨gq,2,none⟩ (.int .u64 0)) (fun b hb hn=>(ON _ _ _ b hn).trans (wW.out.block b hb)) (by simpa [World.setCell] using iV.out) ⟨wW.out.os,wW.out.tape,wW.out.output⟩ (by have:=((sU.out.set_ 0 (.int .u64 17)).set_ 1 (.slice (some ⟨wn.heap.size,0,none⟩) 2 2)).set_ 2 (.int .u64 0);simpa using this) ((ON _ _ _ _ (by omega)).trans iY.out)
     refine ⟨by rw [show (k:Int)+1=((k+1:Nat):Int) by simp];exact Uo,by have:=SJ.out;simp [intOf];omega⟩
    ·have h0:i / 2^k%2=0:=by omega
     rw [h0] at tR;have dd:(((0:Nat):Int) == 1)=false:=rfl;have lY:=zH (fun w9 a9 s9 o9 gX fX=>K3 (w9:=w9) (el':=[qe,px]) (O':=Aq Oc lab el) (rv:=rv) (ro:=ro) (path:=path) (i:=i) (np:=path.length) (id:=false) H4.out M5.out (by rw [W1];exact AY) (Ih (U4 gK.out lab el) (by omega)) FM.out FS.out WU Cx UU oX dz.out cA (by have:=Ku.out;omega) IZ.out (DZ.out.imp id fun h=>h.trans (by first | rfl | (simp [World.setCell];done))) EN (by have:=SJ.out;omega) a9 s9 o9 gX fX rfl (Nj yk.out (Nj oR.out fun _ h=>nomatch h)) SY (by have:=qK.out;rw [if_neg Nk] at this;exact this) (by have:=Ms.out;rw [if_neg Nk] at this;exact this))
     clear Nk h0;go_upto_region 15 with fail
     generalize xH:wn.alloc _=wp at BO Rq rR BV |-;have XZ:=BO.cell;have hfp2:=BO.frozen;have iY:=zH Rq;have sU:=zH BO;have bR:=zH rR;have iV:=zH BV;clear Rq BO rR xH;go_wp2_with fail
     have ON:∀ (x0 x1 x2:Value) b,b≠gq -> (((wp.setCell ⟨gq,0,none⟩ x0).setCell ⟨gq,1,none⟩ x1).setCell ⟨gq,2,none⟩ x2).heap[b]?=wp.heap[b]?:=fun x0 x1 x2 b hb=>(Below.heap_setCell _ ⟨gq,2,none⟩ x2 b hb).trans ((Below.heap_setCell _ ⟨gq,1,none⟩ x1 b hb).trans (Below.heap_setCell wp ⟨gq,0,none⟩ x0 b hb))
     have Uo:=lY.out (((wp.setCell ⟨gq,0,none⟩ (.int .u64 17)).setCell ⟨gq,1,none⟩ (.slice (some ⟨wn.heap.size,0,none⟩) 2 2)).setCell ⟨gq,2,none⟩ (.int .u64 0)) (fun b hb hn=>(ON _ _ _ b hn).trans (bR.out.block b hb)) (by simpa [World.setCell] using iV.out) ⟨bR.out.os,bR.out.tape,bR.out.output⟩ (by have:=((sU.out.set_ 0 (.int .u64 17)).set_ 1 (.slice (some ⟨wn.heap.size,0,none⟩) 2 2)).set_ 2 (.int .u64 0);simpa using this) ((ON _ _ _ _ (by omega)).trans iY.out)
     refine ⟨by rw [show (k:Int)+1=((k+1:Nat):Int) by simp];exact Uo,by have:=SJ.out;simp [intOf];omega⟩
theorem zBR {w:World} {g:Nat} {O:La} {F K:Nat -> Prop} (h:OrcAt w g O F) (hid:O.ideal=true) (root i zf:Nat) (A Bp:Option Addr) (a c pb pe:Nat) (leaf path:List Nat) (hl:Km K w (.slice A a c) leaf) (hp:Km K w (.slice Bp pb pe) path)
  (hK:∀ b,K b -> b<w.heap.size /\ ¬F b) (hlen:leaf.length <= 100000) (Wh:path.length <= 10) (hi:i<1024) (hO:Qc O 300000) (C0:zf<18446744073709551616) :
  Calls Tryz.prog 80 #[.func (.func 79) #[.pointer (some ⟨g,0,none⟩)] #[], .int .u64 root, .int .i64 i, .agg #[.slice A a c, .int .u64 zf, .slice Bp pb pe]] w fun e w'=>∃ v F',e= .returned (.tuple #[v, .bool (RO path O 16 (zf :: leaf) i == some root)]) /\
   OrcAt w' g (JO path O 16 (zf :: leaf) i) F' /\ Moved F F' w w':=by
 have ia:=(Below.refl w.heap.size w).alloc zR (.cells #[.slice A a c, .int .u64 zf, .slice Bp pb pe] 80);have kx:=Blk.new w 80 #[.slice A a c, .int .u64 zf, .slice Bp pb pe];have uo:=zH (fun w1 (hb:Below w.heap.size w w1)=>tS zf A a c leaf w1 (Pk (Bw hl hb)) (by omega))
 have H:=zH h;have HL:=zH hl;have HP:=zH hp;have HK:=zH hK;have Qe:=zH hlen;have HO:=zH hO;have eV:=zH hid;obtain ⟨rv,dq⟩:=zEX (RO path O 16 (zf :: leaf) i);obtain ⟨ro,zo⟩:=zEX (JO path O 16 (zf :: leaf) i);rw [<- dq,<- zo];have qK:=zH dq;have Ms:=zH zo;have gZ:=zH C0;have kc:=kx.cell;clear h hl hp hK hlen hO hid dq zo C0;go_enter Tryz.func80,Tryz.ntmps80
 go_wp2_with fail
 generalize w.alloc _=w1 at ia kx kc |-;refine (uo.out _ ia).mono ?_;rintro _ w2 ⟨v,rfl,hv,xa⟩;obtain ⟨Av,cv,rfl,-⟩:=Tb hv;go_wp2_with fail
 have RW:=(Below.refl w2.heap.size w2).alloc zR (.cells #[.int .u64 16, .slice Av (a+1) cv, .int .u64 0] 133);have kq:=Blk.new w2 133 #[.int .u64 16, .slice Av (a+1) cv, .int .u64 0];have Na:=ja ia xa;have TW:=ja Na RW;have l1:w.heap.size<w1.heap.size:=kx.lt;have l2:=xa.size;have cA:w.heap.size<w2.heap.size:=by omega
 replace kx:=(ea kx xa).below RW cA;have Kl:∀ x∈zf :: leaf,x<18446744073709551616:=Nj gZ.out (by obtain ⟨A',c',e',-,-,h9⟩:=pB HL.out;exact h9)
 have Cr:=fun b hb=>hv.lt b hb
 have SM:=Bw (qz hv Kl) RW;have fp:=pB HP.out;generalize w2.alloc _=w3 at TW kx kq SM |-;generalize hgq:w2.heap.size=gq at kq cA |-;obtain ⟨gx,zY⟩:=zEX (w.heap.size);rw [<- zY] at kx cA |-;have Ku:=zH zY;have pH:pb=path.length:=by obtain ⟨A',c',e',-⟩:=fp;injection e' with _ e2 _;
 clear zY ia RW xa kc hv Na Kl fp;subst pH;have cV:=zH (show a=leaf.length by obtain ⟨A',c',e',-⟩:=pB HL.out;injection e' with _ e2 _)
 have hX:∀ b,b<w.heap.size -> b≠gq /\ b≠gx:=fun b hb=>by have:=Ku.out;omega
 have VY:∀ b,w.heap.size <= b -> ¬F b:=fun b hb hf=>by have:=H.out.lt b hf;omega
 have GX:KZ w g gx gq F true i path.length path #[.slice A a c, .int .u64 zf, .slice Bp path.length pe] rv ro (.slice none 0 0) (.int .i64 0) w3:=by
  refine ⟨0,16,0,zf :: leaf,O,F,fun b=>(Value.slice Av (a+1) cv).ownBlock=some b,0,Av,cv,[],⟨Nat.zero_le _,rfl,by decide,by simp,by have:=Qe.out;simp;omega⟩,⟨H.out.below TW,Ic TW,eV.out,HO.out⟩,⟨?_,VY gq (by have:=Ku.out;omega)⟩,⟨?_,fun b hb=>?_⟩,⟨kx,VY gx (by have:=Ku.out;omega)⟩,⟨⟨rfl, .inl ⟨rfl,rfl⟩⟩,zR,fun b hb=>by simp [Value.ownBlock] at hb⟩,?_,?_⟩
  ·rw [List.length_cons,<- cV.out];exact kq
  ·rw [List.length_cons,<- cV.out];exact SM
  ·have:=Cr b hb
   have:=kq.lt;exact ⟨by omega,VY b (by omega),by omega⟩
  ·rw [qK.out];simp
  ·rw [Ms.out];simp
 clear SM kq kx TW Cr l1 l2 hgq qK Ms HO eV;go_loopw [11,12] (fun av st wr=>KZ w g gx gq F true i path.length path #[.slice A a c, .int .u64 zf, .slice Bp path.length pe] rv ro av st wr) (fun _ st _=>path.length+1-(intOf st).toNat)
 case atStart=>exact GX
 case round =>
  clear GX;obtain ⟨k,lab,n,el,Oc,Fc,Ke,an,Ae,ce,cs,⟨hk,rfl,Yo,hel0,zi⟩,⟨h1,m1,AY,oo⟩,⟨kq,jX⟩,⟨SM,QX⟩,⟨kx,lX⟩,⟨own,EN,sV⟩,qV,pV⟩:=hrel;have HASK:=zH (show ∀ e' w',kS wr g Oc Fc lab el e' w' -> kS wr g Oc Fc lab el e' w' from fun _ _ h=>h)
  have bQ:=zH (show Calls Tryz.prog 79 #[.pointer (some ⟨g,0,none⟩), .int .u64 lab, .slice Ae el.length ce] wr (kS wr g Oc Fc lab el) from zBq h1 AY lab el Ae el.length ce SM Yo (by omega) (Ih oo (by omega)))
  have So:=kq.cell;have hfq:=kq.frozen;have hqx:gx≠gq:=by omega
  have HKe:=zH QX;have dV:=zH sV;have HKE:=zH SM;have M1:=zH m1;have KQ:=zH kq;have KX:=zH kx;have uU:=zH own;have gK:=zH oo;have H1:=zH h1;have hnk2:n <= 10:=by omega
  have Ra:=kq.lt;rcases hq:dL Oc lab el with _ | qe
  ·obtain ⟨s1,s2⟩:=zBc (r:=path.drop k) (i:=i / 2^k) hq
   have dq:rv=none:=by rw [qV,s1]
   have zo:ro=Aq Oc lab el:=by rw [pV,s2]
   have bQ:=zH (show Calls Tryz.prog 79 #[.pointer (some ⟨g,0,none⟩), .int .u64 lab, .slice Ae el.length ce] wr (fun e w'=>e= .returned (.tuple #[.int .u64 0, .bool false]) /\ ∃ F',OrcAt w' g (Aq Oc lab el) F' /\ Moved Fc F' wr w') from by have:=bQ.out;unfold kS at this;rw [hq] at this;exact this)
   have qK:=zH dq;have Ms:=zH zo;clear qV pV s1 s2 hq dq zo SM QX sV m1 kq kx own oo h1;go_wp2_with fail
   refine bQ.out.mono ?_;rintro _ w4 ⟨rfl,Fd,h4,m4⟩;have Ni:=zH (show OrcAt w4 g ro Fd /\ Moved F Fd w w4 from by rw [Ms.out];exact ⟨h4,M1.out.trans m4⟩)
   clear h4 m4;go_wp2
   go_ret2
   exact ⟨_,Fd,by rw [qK.out];rfl,Ni.out⟩
  ·have bQ:=zH (show Calls Tryz.prog 79 #[.pointer (some ⟨g,0,none⟩), .int .u64 lab, .slice Ae el.length ce] wr (fun e w'=>e= .returned (.tuple #[.int .u64 qe, .bool true]) /\ ∃ F',OrcAt w' g (Aq Oc lab el) F' /\ Moved Fc F' wr w') from by have:=bQ.out;unfold kS at this;rw [hq] at this;exact this)
   have HQ:=zH hq;have HAN:=zH (O8 h1.ok.ans hq);have uW:=zH qV;have tW:=zH pV;clear qV pV hq SM QX sV m1 kq kx own oo h1;by_cases hkn:k=path.length
   ·subst hkn
    have dq:rv=some qe:=by rw [uW.out,List.drop_length];exact HQ.out
    have zo:ro=Aq Oc lab el:=by rw [tW.out,List.drop_length];rfl
    obtain ⟨res,eG⟩:=zEX ((rv == some root));have dres:((qe:Int) == (root:Int))=res:=by
     rw [eG,dq];by_cases h:qe=root
     ·subst h;simp
     ·have h2:((qe:Int) == (root:Int))=false:=by rw [beq_eq_false_iff_ne];omega
      rw [h2];symm;simpa using h
    have dkk:(((path.length:Nat):Int) == (path.length:Int))=true:=by simp
    have Yz:=zH eG.symm;have Ms:=zH zo;clear eG dq zo uW tW;go_wp2_with fail
    refine bQ.out.mono ?_;rintro _ w4 ⟨rfl,Fd,h4,m4⟩;have ku:=KQ.out.moved m4 jX;have Kw:=CB uU.out m4 (fun b hb=>(dV.out b hb).1)
    have UU:=Me m4 Ra jX;have oX:=Me m4 KX.out.lt lX;have WU:∀ b,u11.ownBlock=some b -> ¬Fd b:=fun b hb=>Me m4 (uU.out.lt b hb).2 (dV.out b hb).1
    have Cx:∀ b,u11.ownBlock=some b -> gq+1 <= b:=fun b hb=>(Kw.lt b hb).1
    have M5:=zH (M1.out.trans m4);have Rx:(w4.setCell ⟨gq,2,none⟩ (.int .u64 qe)).ownsRow (gq+1) 133 3 u11 n cs:=zg Kw fun b hb=>Below.heap_setCell w4 _ _ b (fun e=>by have:=Cx b hb;simp at e;omega)
    have H4:=zH h4;have tV:=ku.cell;have UX:=ku.frozen;have dz:=zH (KX.out.moved m4 lX);have QY:=dz.out.cell;have FU:=ku.set_ 2 (.int .u64 qe);have lq:=FU.cell;have SY:gq<w4.heap.size:=ku.lt;have KQ4:=zH ku;have JY:(w4.setCell ⟨gq,2,none⟩ (.int .u64 qe)).heap.size=w4.heap.size:=by simp [World.setCell]
    have aX:Rd ((w4.setCell ⟨gq,2,none⟩ (.int .u64 qe)).alloc (.cells #[.int .u64 lab, .slice Ae el.length ce, .int .u64 qe] 133)) 3 (some ⟨w4.heap.size,0,none⟩) 1 [.int .u64 lab, .slice Ae el.length ce, .int .u64 qe]:=by
     have:=R0 (w4.setCell ⟨gq,2,none⟩ (.int .u64 qe)) (.int .u64 lab) (.slice Ae el.length ce) (.int .u64 qe) 133;rw [JY] at this;exact this
    clear h4 m4 ku Kw So hfq;go_wp2_with (at_builtin;refine If rfl _ _ rfl SZ rfl (Rx.alloc _) rfl aX (by intro u hu;simp at hu;rcases hu with rfl | rfl | rfl <;> rfl) (by omega) (by simp;omega) ?_)
    intro v' wn Ta Ha Ab;obtain ⟨fm,fs⟩:=J3 Ha;have Ni:=zH (show OrcAt wn g ro Fd /\ Moved F Fd w wn from by
     rw [Ms.out];refine ⟨H4.out.keep fs.1 fun b hb=>fm b (H4.out.lt b hb) (fun e=>UU (by rw [<- e];exact hb)) (fun e=>WU b e hb),E7 M5.out ⟨fun b hb=>fm b (by have:=M5.out.size;omega) (hX b hb).1 (fun e=>by have:=Cx b e;have:=(hX b hb);have:=Ku.out;omega),fs⟩⟩)
    have kh:∀ j,wn.cell? ⟨gx,j,none⟩=_:=fun j=>(show wn.cell? ⟨gx,j,none⟩=w4.cell? ⟨gx,j,none⟩ by simp only [World.cell?,fm gx dz.out.lt (by omega) (fun e=>by have:=Cx gx e;omega)]).trans (dz.out.cell j)
    clear Ha Ab Ta fm fs QY tV UX lq FU Rx;go_wp2
    go_ret2
    exact ⟨_,Fd,by rw [Yz.out];rfl,Ni.out⟩
   ·have BU:k<path.length:=by omega
    have YZ:path.drop k=path.getD k 0 :: path.drop (k+1):=by
     rw [List.drop_eq_getElem_cons BU,List.getD_eq_getElem?_getD,List.getElem?_eq_getElem BU];rfl
    have Tv:i / 2^k / 2=i / 2^(k+1):=by rw [Nat.pow_succ,Nat.div_div_eq_div_mul]
    have dq:=uW.out;have zo:=tW.out;rw [YZ] at dq zo;rw [(K5 HQ.out).1,Tv] at dq;rw [(K5 HQ.out).2,Tv] at zo;have dkk:((k:Int) == (path.length:Int))=false:=by rw [beq_eq_false_iff_ne];omega
    have qK:=zH dq;have Ms:=zH zo;have SJ:=zH BU;clear dq zo uW tW YZ Tv hkn;go_wp2_with fail
    refine bQ.out.mono ?_;rintro _ w4 ⟨rfl,Fd,h4,m4⟩;have ku:=KQ.out.moved m4 jX;have Kw:=CB uU.out m4 (fun b hb=>(dV.out b hb).1)
    have UU:=Me m4 Ra jX;have oX:=Me m4 KX.out.lt lX;have WU:∀ b,u11.ownBlock=some b -> ¬Fd b:=fun b hb=>Me m4 (uU.out.lt b hb).2 (dV.out b hb).1
    have Cx:∀ b,u11.ownBlock=some b -> gq+1 <= b:=fun b hb=>(Kw.lt b hb).1
    have M5:=zH (M1.out.trans m4);have Rx:(w4.setCell ⟨gq,2,none⟩ (.int .u64 qe)).ownsRow (gq+1) 133 3 u11 n cs:=zg Kw fun b hb=>Below.heap_setCell w4 _ _ b (fun e=>by have:=Cx b hb;simp at e;omega)
    have H4:=zH h4;have tV:=ku.cell;have UX:=ku.frozen;have dz:=zH (KX.out.moved m4 lX);have QY:=dz.out.cell;have FU:=ku.set_ 2 (.int .u64 qe);have lq:=FU.cell;have SY:gq<w4.heap.size:=ku.lt;have KQ4:=zH ku;have JY:(w4.setCell ⟨gq,2,none⟩ (.int .u64 qe)).heap.size=w4.heap.size:=by simp [World.setCell]
    have aX:Rd ((w4.setCell ⟨gq,2,none⟩ (.int .u64 qe)).alloc (.cells #[.int .u64 lab, .slice Ae el.length ce, .int .u64 qe] 133)) 3 (some ⟨w4.heap.size,0,none⟩) 1 [.int .u64 lab, .slice Ae el.length ce, .int .u64 qe]:=by
     have:=R0 (w4.setCell ⟨gq,2,none⟩ (.int .u64 qe)) (.int .u64 lab) (.slice Ae el.length ce) (.int .u64 qe) 133;rw [JY] at this;exact this
    clear h4 m4 ku Kw So hfq;go_wp2_with (at_builtin;refine If rfl _ _ rfl SZ rfl (Rx.alloc _) rfl aX (by intro u hu;simp at hu;rcases hu with rfl | rfl | rfl <;> rfl) (by omega) (by simp;omega) ?_)
    intro v' wn Ta Ha Ab;obtain ⟨fm,fs⟩:=J3 Ha;have kh:∀ j,wn.cell? ⟨gx,j,none⟩=_:=fun j=>(show wn.cell? ⟨gx,j,none⟩=w4.cell? ⟨gx,j,none⟩ by simp only [World.cell?,fm gx dz.out.lt (by omega) (fun e=>by have:=Cx gx e;omega)]).trans (dz.out.cell j)
    have hKw:∀ b,K b -> b<w.heap.size -> wn.heap[b]?=w.heap[b]?:=fun b hb hl=>(fm b (by have:=M5.out.size;omega) (hX b hl).1 (fun e=>by have:=Cx b e;have:=Ku.out;omega)).trans (M5.out.block b hl (HK.out b hb).2)
    have PY:=Dp HP.out (Nat.le_trans M5.out.size fs.1) hKw;obtain ⟨b3,q3,eP,Ga,XV⟩:=Ye (zb (Pk PY)).2.2.2.2 SJ.out;have CU:=yz (zb (Pk PY)).2.2.2.1 SJ.out;subst eP;have oR:=zH CU;have FM:=zH fm;have FS:=zH fs;have IZ:=zH Ta;have DZ:=zH Ab;have GROW:=zH Ha;have iX:=(FU.alloc (.cells #[.int .u64 lab, .slice Ae el.length ce, .int .u64 qe] 133)).grown Ha (fun e=>by have:=Cx gq e.symm;omega)
    have hkI:(k:Int) <= 10:=by omega
    have hkl2:(k:Int)<(path.length:Int):=by have:=SJ.out;omega
    have aW:(0:Int) <= (k:Int):=by omega
    obtain ⟨px,CU⟩:=zEX (path.getD k 0);rw [<- CU] at XV oR qK Ms;clear Ha Ab Ta fm fs QY tV UX lq FU Rx aX hKw PY CU;have KQN:=zH iX;have lqn:=iX.lt;have Rq:=Blk.new wn 22 #[.int .u64 qe, .int .u64 px];have rR:=(Below.refl wn.heap.size wn).alloc zR (.cells #[.int .u64 qe, .int .u64 px] 22);have BO:=ea iX rR;have yk:=zH (show qe<18446744073709551616 by have:=HAN.out;unfold Xa at this;omega)
    have Il:i / 2^k<1024:=Nat.lt_of_le_of_lt (Nat.div_le_self _ _) hi;have tR:=G8 ⟨i / 2^k,Il⟩;simp only at tR;rw [show ((i / 2^k:Nat):Int)=(i:Int) / 2^k by simp] at tR
    have BV:wn.heap.size<(wn.alloc (.cells #[.int .u64 qe, .int .u64 px] 22)).heap.size:=by simp
    clear iX Il;by_cases Nk:i / 2^k%2=1
    ·rw [Nk] at tR
     have dd:((1:Int) == 1)=true:=rfl;have lY:=zH (fun w9 a9 s9 o9 gX fX=>K3 (w9:=w9) (el':=[px,qe]) (O':=Aq Oc lab el) (rv:=rv) (ro:=ro) (path:=path) (i:=i) (np:=path.length) (id:=true) H4.out M5.out (by rw [W1];exact AY) (Ih (U4 gK.out lab el) (by omega)) FM.out FS.out WU Cx UU oX dz.out cA (by have:=Ku.out;omega) IZ.out (DZ.out.imp id fun h=>h.trans (by first | rfl | (simp [World.setCell];done))) EN (by have:=SJ.out;omega) a9 s9 o9 gX fX rfl (Nj oR.out (Nj yk.out fun _ h=>nomatch h)) SY (by have:=qK.out;rw [if_pos Nk] at this;exact this) (by have:=Ms.out;rw [if_pos Nk] at this;exact this))
     clear Nk;go_upto_region 14 with fail
     generalize xH:wn.alloc _=wp at BO Rq rR BV |-;obtain ⟨gp,AU⟩:=zEX (wn.heap.size);have rU:=zH AU;rw [<- AU] at Rq |-;have lgp:gq<gp:=by rw [AU];exact lqn
     have XZ:=Rq.cell;have lpp:=Rq.lt;have sU:=zH BO;have bR:=zH rR;have iV:=zH BV;clear BO rR xH AU BV;refine JT (Bb) [9,11] [9] [1,5,6] [0,1,2,3,4,5,6,7,8,9,10,11] (by kernel_rfl) (by kernel_rfl) ?_
     refine zBe (pa) ?_;intro Wc da;refine CZ ?_;refine VK (pa) rfl rfl rfl ?_;replace Rq:=Rq.drew.below da Rq.lt;have GZ:=zH (sU.out.drew.below da sU.out.lt);have W6:=Rq.cell;have X6:=Rq.frozen;have O5:=zH da;clear XZ da lpp;go_simp;refine ⟨fun h=>Bool.noConfusion h,?_⟩
     have AV:=Rq.set_ 0 (.int .u64 px);have eX:Below wn.heap.size wn (Wc.setCell ⟨gp,0,none⟩ (.int .u64 px)):=(bR.out.trans (Q8 (Nat.le_of_lt iV.out) O5.out)).setCell (by rw [rU.out];exact zR) _
     have BY:Blk (Wc.setCell ⟨gp,0,none⟩ (.int .u64 px)) gq 133 _:=GZ.out.far (p:=⟨gp,0,none⟩) (by simp;omega) _
     try simp only [Act.put,zLa,zLb,zLc]
     generalize Wc.setCell _ _=w6 at AV eX BY |-;have aj:=AV.cell;have dn:=AV.frozen;clear Rq W6 X6 GZ;have da:=pa.refl w6;refine CZ ?_;refine VK (pa) rfl rfl rfl ?_;go_simp;refine ⟨fun h=>Bool.noConfusion h,?_⟩
     have cX:=AV.set_ 1 (.int .u64 qe);have IY:Below wn.heap.size wn (w6.setCell ⟨gp,1,none⟩ (.int .u64 qe)):=eX.setCell (by rw [rU.out];exact zR) _
     have xV:Blk (w6.setCell ⟨gp,1,none⟩ (.int .u64 qe)) gq 133 _:=BY.far (p:=⟨gp,1,none⟩) (by simp;omega) _
     try simp only [Act.put,zLa,zLb,zLc]
     generalize w6.setCell _ _=IU at cX IY xV |-;refine MT ?_;have iY:Hid (Blk IU wn.heap.size 22 (Ca [px,qe]).toArray):=by
      show Blk _ _ _ _
      rw [<- rU.out]
      simpa [Ca] using cX
     have hcp4:=xV.cell;have hfp4:=xV.frozen;have sU:=zH xV;have wW:=zH IY;have iV:=zH (show wn.heap.size<IU.heap.size by rw [<- rU.out];exact cX.lt)
     clear AV cX eX IY BY xV aj dn da bR;go_wp2_with fail
     rw [rU.out];have ON:∀ (x0 x1 x2:Value) b,b≠gq -> (((IU.setCell ⟨gq,0,none⟩ x0).setCell ⟨gq,1,none⟩ x1).setCell ⟨gq,2,none⟩ x2).heap[b]?=IU.heap[b]?:=fun x0 x1 x2 b hb=>(Below.heap_setCell _ ⟨gq,2,none⟩ x2 b hb).trans ((Below.heap_setCell _ ⟨gq,1,none⟩ x1 b hb).trans (Below.heap_setCell IU ⟨gq,0,none⟩ x0 b hb))
     have Uo:=lY.out (((IU.setCell ⟨gq,0,none⟩ (.int .u64 17)).setCell ⟨gq,1,none⟩ (.slice (some ⟨wn.heap.size,0,none⟩) 2 2)).setCell ⟨gq,2,none⟩ (.int .u64 0)) (fun b hb hn=>(ON _ _ _ b hn).trans (wW.out.block b hb)) (by simpa [World.setCell] using iV.out) ⟨wW.out.os,wW.out.tape,wW.out.output⟩ (by have:=((sU.out.set_ 0 (.int .u64 17)).set_ 1 (.slice (some ⟨wn.heap.size,0,none⟩) 2 2)).set_ 2 (.int .u64 0);simpa using this) ((ON _ _ _ _ (by omega)).trans iY.out)
     refine ⟨by rw [show (k:Int)+1=((k+1:Nat):Int) by simp];exact Uo,by have:=SJ.out;simp [intOf];omega⟩
    ·have h0:i / 2^k%2=0:=by omega
     rw [h0] at tR;have dd:(((0:Nat):Int) == 1)=false:=rfl;have lY:=zH (fun w9 a9 s9 o9 gX fX=>K3 (w9:=w9) (el':=[qe,px]) (O':=Aq Oc lab el) (rv:=rv) (ro:=ro) (path:=path) (i:=i) (np:=path.length) (id:=true) H4.out M5.out (by rw [W1];exact AY) (Ih (U4 gK.out lab el) (by omega)) FM.out FS.out WU Cx UU oX dz.out cA (by have:=Ku.out;omega) IZ.out (DZ.out.imp id fun h=>h.trans (by first | rfl | (simp [World.setCell];done))) EN (by have:=SJ.out;omega) a9 s9 o9 gX fX rfl (Nj yk.out (Nj oR.out fun _ h=>nomatch h)) SY (by have:=qK.out;rw [if_neg Nk] at this;exact this) (by have:=Ms.out;rw [if_neg Nk] at this;exact this))
     clear Nk h0;go_upto_region 15 with fail
     generalize xH:wn.alloc _=wp at BO Rq rR BV |-;have XZ:=BO.cell;have hfp2:=BO.frozen;have iY:=zH Rq;have sU:=zH BO;have bR:=zH rR;have iV:=zH BV;clear Rq BO rR xH;go_wp2_with fail
     have ON:∀ (x0 x1 x2:Value) b,b≠gq -> (((wp.setCell ⟨gq,0,none⟩ x0).setCell ⟨gq,1,none⟩ x1).setCell ⟨gq,2,none⟩ x2).heap[b]?=wp.heap[b]?:=fun x0 x1 x2 b hb=>(Below.heap_setCell _ ⟨gq,2,none⟩ x2 b hb).trans ((Below.heap_setCell _ ⟨gq,1,none⟩ x1 b hb).trans (Below.heap_setCell wp ⟨gq,0,none⟩ x0 b hb))
     have Uo:=lY.out (((wp.setCell ⟨gq,0,none⟩ (.int .u64 17)).setCell ⟨gq,1,none⟩ (.slice (some ⟨wn.heap.size,0,none⟩) 2 2)).setCell ⟨gq,2,none⟩ (.int .u64 0)) (fun b hb hn=>(ON _ _ _ b hn).trans (bR.out.block b hb)) (by simpa [World.setCell] using iV.out) ⟨bR.out.os,bR.out.tape,bR.out.output⟩ (by have:=((sU.out.set_ 0 (.int .u64 17)).set_ 1 (.slice (some ⟨wn.heap.size,0,none⟩) 2 2)).set_ 2 (.int .u64 0);simpa using this) ((ON _ _ _ _ (by omega)).trans iY.out)
     refine ⟨by rw [show (k:Int)+1=((k+1:Nat):Int) by simp];exact Uo,by have:=SJ.out;simp [intOf];omega⟩
end Go.Proofs.YtjipleoamlmkfaaGreat
namespace Go.Proofs.YtjipleoamlmkfaaGreat
open Go.RowKit Go.Maps
def vX (O:La) (root n i zf:Nat) (leaf path:List Nat):Bool:=pW root n i zf leaf path&&(RO path O 16 (zf :: leaf) i == some root)
def uX (O:La) (root n i zf:Nat) (leaf path:List Nat):La:=if pW root n i zf leaf path then JO path O 16 (zf :: leaf) i else O
theorem zCH {root n i zf:Nat} {leaf path:List Nat} (h:pW root n i zf leaf path=true):path.length <= 10 /\ i<1024 /\ zf<Xa:=by
 unfold pW at h;simp only [Bool.and_eq_true,decide_eq_true_eq] at h;obtain ⟨⟨⟨⟨⟨⟨h1,h2⟩,h3⟩,h4⟩,h5⟩,h6⟩,h7⟩:=h;obtain ⟨d,hd,rfl⟩:=nP h1;have e:path.length=d:=by
  rcases Nat.lt_trichotomy path.length d with h | h | h
  ·have:=Nat.pow_lt_pow_right (a:=2) (by omega) h;omega
  ·exact h
  ·have:=Nat.pow_lt_pow_right (a:=2) (by omega) h;omega
 have:2^d <= 2^10:=Nat.pow_le_pow_right (by omega) hd
 exact ⟨by omega,by omega,h5⟩
theorem zDK {w:World} {g:Nat} {O:La} {F K:Nat -> Prop} (h:OrcAt w g O F) (root n i zf:Nat) (A Bp:Option Addr) (a c pb pe:Nat) (leaf path:List Nat) (hl:Km K w (.slice A a c) leaf) (hp:Km K w (.slice Bp pb pe) path)
  (hK:∀ b,K b -> b<w.heap.size /\ ¬F b) (hlen:leaf.length <= 100000) (Wh:path.length <= 62) (hO:Qc O 300000) :
  Calls Tryz.prog 23 #[.pointer (some ⟨g,0,none⟩), .int .u64 root, .int .i64 n, .int .i64 i, .agg #[.slice A a c, .int .u64 zf, .slice Bp pb pe]] w fun e w'=>∃ F',e= .returned (.bool (vX O root n i zf leaf path)) /\
   OrcAt w' g (uX O root n i zf leaf path) F' /\ Moved F F' w w':=by
 obtain ⟨kB,kX,aa,Ra⟩:=ah w 39 80 #[.pointer (some ⟨g,0,none⟩)] #[.slice A a c, .int .u64 zf, .slice Bp pb pe];have uS:=zH (fun w1 (hb:Below w.heap.size w w1)=>zCI root n i zf A Bp a c pb pe leaf path w1 (Pk (Bw hl hb)) (Pk (Bw hp hb)) Wh)
 have H:=zH h;have HL:=zH hl;have HP:=zH hp;have HK:=zH hK;have Qe:=zH hlen;have HO:=zH hO;have nFB:Hid (¬F w.heap.size):=fun e=>by have:=h.lt _ e;omega
 clear h hl hp hK hlen Wh hO;cases hv:pW root n i zf leaf path
 ·have HV:=zH (show vX O root n i zf leaf path=false by unfold vX;rw [hv];rfl)
  have HW:=zH (show uX O root n i zf leaf path=O by unfold uX;rw [hv];rfl)
  rw [hv] at uS;rw [HV.out,HW.out];clear hv HV HW;go_enter Tryz.func23,Tryz.ntmps23
  go_wp2_with fail
  generalize (w.alloc _).alloc _=w1 at kB kX aa Ra |-;refine (uS.out _ aa).mono ?_;rintro _ w2 ⟨rfl,xa⟩;have hb:=ja aa xa;have Ni:=zH (show OrcAt w2 g O F /\ Moved F F w w2 from ⟨H.out.below hb,Ic hb⟩)
  go_wp2_with fail
  go_ret
  exact ⟨F,rfl,Ni.out⟩
 ·obtain ⟨p10,l7,hs⟩:=zCH hv
  have pZ:zf<18446744073709551616:=by unfold Xa at hs;omega
  have gZ:=zH pZ;obtain ⟨res,eG⟩:=zEX ((RO path O 16 (zf :: leaf) i == some root));obtain ⟨ro,zo⟩:=zEX (JO path O 16 (zf :: leaf) i);have HV:=zH (show vX O root n i zf leaf path=res by unfold vX;rw [hv,eG];rfl)
  have HW:=zH (show uX O root n i zf leaf path=ro by unfold uX;rw [hv,zo];rfl)
  have Yz:=zH eG;have Ms:=zH zo;rw [hv] at uS;rw [HV.out,HW.out];have HP10:=zH p10;have HI:=zH l7;cases hid:O.ideal
  ·have eV:=zH hid
   clear hv HV HW eG zo hs pZ p10 l7 hid;go_enter Tryz.func23,Tryz.ntmps23
   go_wp2_with fail
   generalize (w.alloc _).alloc _=w1 at kB kX aa Ra |-;refine (uS.out _ aa).mono ?_;rintro _ w2 ⟨rfl,xa⟩;replace kB:=ea kB xa;replace kX:=ea kX xa;replace aa:=ja aa xa;have hcB:=kB.cell;have hcX:=kX.cell;clear xa uS;have Yp:=zH (S9 (H.out.below aa));rw [eV.out] at Yp;go_wp2_with fail
   refine Yp.out.mono ?_;rintro _ w3 ⟨rfl,rfl⟩;have FOL:=zH (zBS (H.out.below aa) eV.out kB nFB.out root i zf A Bp a c pb pe leaf path (Bw HL.out aa) (Bw HP.out aa) (fun b hb=>⟨by have:=(HK.out b hb).1;have:=aa.size;omega,(HK.out b hb).2⟩) Qe.out HP10.out HI.out HO.out gZ.out)
   rw [<- Yz.out,<- Ms.out] at FOL;have MB:=zH (Ic (F:=F) aa);clear kB kX aa Ra;go_wp2_with fail
   refine FOL.out.mono ?_;rintro _ w4 ⟨v,F',rfl,h4,m4⟩;have Ni:=zH (show OrcAt w4 g ro F' /\ Moved F F' w w4 from ⟨h4,MB.out.trans m4⟩)
   clear h4 m4;go_wp2;go_ret
   exact ⟨F',rfl,Ni.out⟩
  ·have eV:=zH hid
   clear hv HV HW eG zo hs pZ p10 l7 hid;go_enter Tryz.func23,Tryz.ntmps23
   go_wp2_with fail
   generalize (w.alloc _).alloc _=w1 at kB kX aa Ra |-;refine (uS.out _ aa).mono ?_;rintro _ w2 ⟨rfl,xa⟩;replace kB:=ea kB xa;replace kX:=ea kX xa;replace aa:=ja aa xa;have hcB:=kB.cell;have hcX:=kX.cell;clear xa uS;have Yp:=zH (S9 (H.out.below aa));rw [eV.out] at Yp;go_wp2_with fail
   refine Yp.out.mono ?_;rintro _ w3 ⟨rfl,rfl⟩;have FOL:=zH (zBR (H.out.below aa) eV.out root i zf A Bp a c pb pe leaf path (Bw HL.out aa) (Bw HP.out aa) (fun b hb=>⟨by have:=(HK.out b hb).1;have:=aa.size;omega,(HK.out b hb).2⟩) Qe.out HP10.out HI.out HO.out gZ.out)
   rw [<- Yz.out,<- Ms.out] at FOL;have MB:=zH (Ic (F:=F) aa);clear kB kX aa Ra;go_wp2_with fail
   refine FOL.out.mono ?_;rintro _ w4 ⟨v,F',rfl,h4,m4⟩;have Ni:=zH (show OrcAt w4 g ro F' /\ Moved F F' w w4 from ⟨h4,MB.out.trans m4⟩)
   clear h4 m4;go_wp2;go_ret
   exact ⟨F',rfl,Ni.out⟩
end Go.Proofs.YtjipleoamlmkfaaGreat
namespace Go.Proofs.YtjipleoamlmkfaaGreat
open Go.RowKit Go.Maps
theorem Kz {w w3:World} {g gr:Nat} {O:La} {F F':Nat -> Prop} {t:TypeId} {c0 c1 x y:Value} (m:Moved F F' w w3) (hg:w.heap.size <= gr) (h:OrcAt w3 g O F') (hn:¬F' gr) (k:Blk w3 gr t #[c0,c1]) :
  OrcAt ((w3.setCell ⟨gr,0,none⟩ x).setCell ⟨gr,1,none⟩ y) g O F' /\ Moved F F' w ((w3.setCell ⟨gr,0,none⟩ x).setCell ⟨gr,1,none⟩ y) /\ Blk ((w3.setCell ⟨gr,0,none⟩ x).setCell ⟨gr,1,none⟩ y) gr t #[x,y] :=
 ⟨(h.set hn x).set hn y,Ld (Ld m hg 0 x) hg 1 y,by have:=Xs k 0 1 x y;simpa using this⟩
theorem VP (w:World) (x y:Nat):(w.alloc (.cells #[.int .u64 x, .int .u64 y] 22)).ownsRow w.heap.size 22 1 (.slice (some ⟨w.heap.size,0,none⟩) 2 2) 2 (Ca [x,y]) :=
 ⟨rfl, .inr ⟨w.heap.size,2,_,rfl,zR,heap_alloc_new w _,zR,by simp [maxLen],rfl,rfl⟩⟩
theorem WS (label:Nat) (w:World) :
  Calls Tryz.prog 106 #[.int .u64 label] w fun e w'=>e= .returned (.agg #[.int .u64 label, .int .u64 0]) /\ Below w.heap.size w w':=by
 have k2:=Blk.new w 96 #[.int .u64 label, .int .u64 0];have xa:=(Below.refl w.heap.size w).alloc zR (.cells #[.int .u64 label, .int .u64 0] 96);have c0:=k2.cell 0;have c1:=k2.cell 1;go_enter Tryz.func106,Tryz.ntmps106
 go_wp2_with fail
 generalize w.alloc _=w1 at k2 xa c0 c1 |-;exact bodyPost_ret (v:=.agg #[.int .u64 label, .int .u64 0]) (by simp [results,Tryz.results106,go_sem,c0,c1]) rfl ⟨rfl,xa⟩
theorem CF {w:World} {g:Nat} {O:La} {F K:Nat -> Prop} (h:OrcAt w g O F) (st ct tag:Nat) (A:Option Addr) (n c:Nat) (l:List Nat) (hl:Km K w (.slice A n c) l) (hlen:l.length <= 100000) (Ef:st<18446744073709551616) (htag:tag<18446744073709551616) (hO:Qc O 1000000) :
  Calls Tryz.prog 105 #[.pointer (some ⟨g,0,none⟩), .agg #[.int .u64 st, .int .u64 ct], .int .u64 tag, .slice A n c] w fun e w' =>
   e= .returned (.agg #[.int .u64 (Kc O 18 (st :: tag :: l):Int), .int .u64 0]) /\ ∃ F',OrcAt w' g (jc O 18 (st :: tag :: l)) F' /\ Moved F F' w w':=by
 obtain ⟨kx,kr,aa,Ra⟩:=ah w 96 96 #[.int .u64 st, .int .u64 ct] #[.int .u64 0, .int .u64 0];have H:=zH h;have za:=(zb (Pk hl)).2.2.2.2;have Kl:=(zb (Pk hl)).2.2.2.1;have hn:=(zb (Pk hl)).1;subst hn;have yk:=zH (Nj Ef (Nj htag Kl));have Qe:=zH hlen;have HO:=zH hO;have Ls:=zH za;clear h hl za Kl Ef htag hO;go_enter Tryz.func105,Tryz.ntmps105
 go_upto_region 1 with fail
 generalize (w.alloc _).alloc _=w1 at kx kr aa Ra |-;have kh:=kx.cell;have ma:=VP w1 st tag;have ia:=(Below.refl w1.heap.size w1).alloc zR (.cells #[.int .u64 st, .int .u64 tag] 22);have xp:=(Ls.out.below aa).below ia;have hgs:w.heap.size+1<w1.heap.size:=kr.lt;clear Ra;go_wp2_with (at_builtin;refine If rfl _ _ rfl Bq rfl ma rfl xp (yg _) (by omega) (by simp) ?_)
 intro v' w2 Wj Ha Ab;have xa:Below w1.heap.size w1 w2:=ia.trans (mh ma Ha (by simp))
 have DN:=qz (l:=st :: tag :: l) (Kr (c:=st :: tag :: l) Wj rfl) yk.out;have En:=ea kx xa;have aq:=ea kr xa;have Ga:=ja aa xa;have H2:=zH (H.out.below Ga);have HVB:=zH (show ∀ b,v'.ownBlock=some b -> ¬F b from fun b hb hf=>by
  have:=H.out.lt b hf;have:=(Wj.lt b hb).1;omega)
 have Js:∃ A' c',v'= .slice A' (2+l.length) c':=by obtain ⟨A',c',e,-⟩:=Tb Wj;exact ⟨A',c',e⟩
 obtain ⟨Av,cv,rfl⟩:=Js;have dx:=zH (QA H2.out 18 (st :: tag :: l) Av (2+l.length) cv DN HVB.out (by decide) (by simp;omega) (.inl (by simp)) HO.out.1 HO.out.2)
 have M2:=zH (Ic (F:=F) Ga);have nU:¬F (w.heap.size+1):=fun e=>by have:=H.out.lt _ e;omega
 clear Wj Ha Ab ma ia xp xa En DN Ga aa kx kh kr;go_wp2_with fail
 refine dx.out.mono ?_;rintro _ w3 ⟨rfl,F',h3,m3⟩;have Mg:=aq.moved m3 nU;have tf:=Me m3 aq.lt nU;have bX:=Kz (x:=.int .u64 (Kc O 18 (st :: tag :: l):Int)) (y:=.int .u64 0) (gr:=w.heap.size+1) (M2.out.trans m3) (by omega) h3 tf Mg
 have Ft:=Mg.frozen;have vi:=Mg.cell;clear h3 m3 aq;go_wp2_with fail
 obtain ⟨s1,s2,s3⟩:=bX;generalize (w3.setCell _ _).setCell _ _=w4 at s1 s2 s3 |-;have c0:=s3.cell 0;have c1:=s3.cell 1;exact bodyPost_ret (v:=.agg #[.int .u64 (Kc O 18 (st :: tag :: l):Int), .int .u64 0]) (by simp [results,Tryz.results105,go_sem,c0,c1]) rfl ⟨rfl,F',s1,s2⟩
theorem xK {w:World} {g:Nat} {O:La} {F:Nat -> Prop} (h:OrcAt w g O F) (st ct p:Nat) (hp:0<p) (hp64:p<18446744073709551616) (Ef:st<18446744073709551616) (Rv:ct<1000000000) (hO:Qc O 1000000) :
  Calls Tryz.prog 111 #[.pointer (some ⟨g,0,none⟩), .agg #[.int .u64 st, .int .u64 ct], .int .u64 p] w fun e w' =>
   e= .returned (.tuple #[.int .u64 ((Kc O 19 [st,ct]%p:Nat):Int), .agg #[.int .u64 st, .int .u64 ((ct+1:Nat):Int)]]) /\ ∃ F',OrcAt w' g (jc O 19 [st,ct]) F' /\ Moved F F' w w':=by
 obtain ⟨kx,kr,aa,Ra⟩:=ah w 96 96 #[.int .u64 st, .int .u64 ct] #[.int .u64 0, .int .u64 0];have H:=zH h;have yk:=zH (show ∀ x∈[st,ct],x<18446744073709551616 from Nj Ef (Nj (by omega) fun _ h=>nomatch h))
 have HO:=zH hO;have d0:((p:Int) == 0)=false:=by rw [beq_eq_false_iff_ne];omega
 have HP64:=zH hp64;have HP:=zH hp;obtain ⟨c1,Nc⟩:=zEX (ct+1);have ec:IntKind.u64.wrap ((ct:Int)+1)=(c1:Int):=by rw [IntKind.wrap_u64];omega
 rw [<- Nc];obtain ⟨av,sV⟩:=zEX (Kc O 19 [st,ct]);rw [<- sV];obtain ⟨rv,dq⟩:=zEX (av%p);have er:(av:Int).tmod (p:Int)=(rv:Int):=by rw [Int.tmod_eq_emod_of_nonneg (by omega),dq];exact (Int.natCast_emod av p).symm
 rw [<- dq];have dV:=zH sV;have mx:(p:Int)≠0:=by omega
 have ZW:¬(p=0):=by omega
 clear h Ef Rv hO Nc sV dq hp64;go_enter Tryz.func111,Tryz.ntmps111
 go_upto_region 3 with fail
 generalize (w.alloc _).alloc _=w1 at kx kr aa Ra |-;have kh:=kx.cell;have ia:=(Below.refl w1.heap.size w1).alloc zR (.cells #[.int .u64 st, .int .u64 ct] 22);have kp:=Blk.new w1 22 #[.int .u64 st, .int .u64 ct];have hgs:w.heap.size+1<w1.heap.size:=kr.lt;have nFp:¬F w1.heap.size:=fun e=>by have:=H.out.lt _ e;omega
 clear Ra;have En:=ea kx ia;have aq:=ea kr ia;have Ga:=ja aa ia;have H2:=zH (H.out.below Ga);have dx:=zH (QA H2.out 19 [st,ct] (some ⟨w1.heap.size,0,none⟩) 2 2 (oz (l:=[st,ct]) kp rfl yk.out (by simp [maxLen])) (fun b hb=>by subst hb;exact nFp) (by decide) (by simp) (.inl (by simp)) HO.out.1 HO.out.2)
 rw [<- dV.out] at dx;have M2:=zH (Ic (F:=F) Ga);have nFx:¬F w.heap.size:=fun e=>by have:=H.out.lt _ e;omega
 have nU:¬F (w.heap.size+1):=fun e=>by have:=H.out.lt _ e;omega
 have KX2:=zH En;have fe:=zH aq;clear ia kp En aq Ga aa kx kr;go_wp2_with fail
 generalize w1.alloc _=w2 at H2 dx M2 KX2 fe |-;refine dx.out.mono ?_;rintro _ w3 ⟨rfl,F',h3,m3⟩;have Cw:=KX2.out.moved m3 nFx;have Mg:=fe.out.moved m3 nU;have tf:=Me m3 fe.out.lt nU;have MM:=zH (M2.out.trans m3);have H3:=zH h3;clear h3 m3 dx kh;have kh:=Cw.cell;have lx:=Cw.lt;have nxr:w.heap.size≠w.heap.size+1:=by omega
 go_wp2_with fail
 obtain ⟨gr,Da⟩:=zEX (w.heap.size+1);rw [<- Da] at Mg tf nxr |-;have HGR:=zH Da;clear Da;refine Pc (tg gr) [10] [0,1,2,3,4,5,6,7,8,9,10] (by kernel_rfl) (by kernel_rfl) ?_
 refine di (tc gr) ?_;intro Wc Ba da;have k3:Blk Wc gr 96 #[.int .u64 0, .int .u64 0]:=by rw [Ba.out];exact Mg.drew
 have h4:=Kz (x:=.int .u64 st) (y:=.int .u64 c1) (show Moved F F' w Wc by rw [Ba.out];exact Ln MM.out) (by rw [HGR.out];omega) (show OrcAt Wc g (jc O 19 [st,ct]) F' by rw [Ba.out];exact H3.out.drew) tf k3
 have Ft:=k3.frozen;have vi:=k3.cell;clear Ba;refine Pp ?_;refine de (tc gr) rfl rfl rfl ?_;go_simp;refine ⟨OA Wc gr 0 1 (.int .u64 st) (.int .u64 c1),?_⟩;obtain ⟨s1,s2,s3⟩:=h4
 try simp only [Act.put,zLa,zLb,zLc]
 generalize (Wc.setCell _ _).setCell _ _=w5 at s1 s2 s3 |-;refine pc ?_;have c0:=s3.cell 0;have c2:=s3.cell 1;go_wp2;exact bodyPost_ret (v:=.tuple #[.int .u64 rv, .agg #[.int .u64 st, .int .u64 c1]]) (by simp [results,Tryz.results111,go_sem,c0,c2]) rfl ⟨rfl,F',s1,s2⟩
end Go.Proofs.YtjipleoamlmkfaaGreat
