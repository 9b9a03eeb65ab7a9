/- A part of the proof. No condition. -/
import Derived.Test.YtbiieaiahdihnaaProg
import Derived.Test.YtbiieaiahdihnaaOP33
import Derived.Test.YtbiieaiahdihnaaOP21

namespace Go.Proofs.Ytbiieaiahdihnaa
open Go.RowKit Go.Maps
def ZV (O:Orc) (k:Nat):Prop:=O.qs.length≤k∧O.dr≤k
theorem Xt {O:Orc} {k:Nat} (h:ZV O k) (lab:Nat) (el:List Nat):ZV (ZA O lab el) (k+1):=by
 obtain ⟨i,s,d,q⟩:=O
 have h1:q.length≤k:=h.1
 have h2:d≤k:=h.2
 unfold ZA
 split
 ·split
  ·exact ⟨Nat.le_succ_of_le h1,Nat.le_succ_of_le h2⟩
  ·split
   ·refine ⟨?_,?_⟩
    ·rw [XC,Jz,List.length_append]
     exact Nat.succ_le_succ h1
    ·rw [orcDr]
     exact Nat.succ_le_succ h2
   ·refine ⟨?_,?_⟩
    ·rw [XC,List.length_append]
     exact Nat.succ_le_succ h1
    ·exact Nat.le_succ_of_le h2
 ·exact ⟨Nat.le_succ_of_le h1,Nat.le_succ_of_le h2⟩
where
 orcDr {i:Bool} {s d:Nat} {q:List Qn} {lab a:Nat} {el:List Nat}:(Xx (Y5 ⟨i,s,d,q⟩) lab el a).dr=d+1:=rfl
theorem Yk {lab:Nat}:∀ (qs:List (List Nat)) {O:Orc} {k:Nat},ZV O k→ZV (Zv O lab qs) (k+qs.length)
 | [],_,_,h=>h
 | q :: r,O,k,h=>by
  have:=Yk (lab:=lab) r (Xt h lab q)
  rw [List.length_cons,show k+(r.length+1)=k+1+r.length by omega]
  exact this
theorem Zs {O:Orc} {k m:Nat} (h:ZV O k) (hm:k≤m):ZV O m:=⟨Nat.le_trans h.1 hm,Nat.le_trans h.2 hm⟩
theorem XZ (O:Orc) (lab:Nat) (el:List Nat):(ZA O lab el).ideal=O.ideal:=by
 unfold ZA
 split
 ·split
  ·rfl
  ·split
   ·rw [addQ_id,JN]
   ·rw [addQ_id]
 ·rfl
where
 addQ_id {O:Orc} {lab a:Nat} {el:List Nat}:(Xx O lab el a).ideal=O.ideal:=by simp only [Xx]
def ZL (leaves:List (List Nat)) (salts:List Nat):List (List Nat):=(List.range leaves.length).map fun i=>salts.getD i 0 :: leaves.getD i []
theorem X9 (leaves:List (List Nat)) (salts:List Nat):(ZL leaves salts).length=leaves.length:=by simp [ZL]
theorem JO (leaves:List (List Nat)) (salts:List Nat) (i:Nat) (h:i<leaves.length):(ZL leaves salts).getD i []=salts.getD i 0 :: leaves.getD i []:=by simp [ZL,List.getD_eq_getElem?_getD,h]
theorem YM {α:Type} {l:List α} {i:Nat} (d:α) (h:i<l.length):l.getD i d∈l:=by
 rw [List.getD_eq_getElem?_getD,List.getElem?_eq_getElem h]
 exact List.getElem_mem h
theorem yW:(Try.prog.info? 23).map (fun i=>(i.zero,i.size,i.bytes))=some (some (.slice none 0 0),1,24):=by kernel_rfl
theorem xB:Jm Try.prog 22 23 1 24 (.slice none 0 0):=by
 obtain ⟨i0,hi,hz0,hz1,hz2⟩:=info_parts yW
 exact ⟨Try.underlying22,⟨i0,hi,hz0,hz1,hz2⟩,rfl,by omega⟩
def xr (v:Value):Nat:=match v with | .slice _ n _=>n | _=>0
def xA (w:World) (g:Nat) (F:Nat→Prop) (d:Nat) (O0:Orc) (L0:List Nat) (lv vs:Value) (wq:World):Prop :=
 ∃ (j:Nat) (ls:List (List Nat)) (Oj:Orc) (lj:List Nat) (F1:Nat→Prop) (gj M:Nat) (T:Nat→Prop) (cs:List Value),
  (lj.length=2^j∧(∀ x∈lj,x<Zg)∧lv= .slice (some ⟨gj,0,none⟩) (2^j) (2^j)∧Blk wq gj 26 (U64 lj).toArray∧T gj) ∧
  (OrcAt wq g Oj F1∧Moved F F1 w wq∧ZV Oj M∧M+2*2^j≤204096)∧(ZU d O0 L0=ls++ZU j Oj lj∧Vb d O0 L0=Vb j Oj lj∧ls.length+j≤10) ∧
  (wq.ownsRow (w.heap.size+1) 23 1 vs (ls.length+1) cs∧Uj T wq cs (ls++[lj])) ∧
  ((∀ b,T b→w.heap.size<b∧b<wq.heap.size∧¬F1 b∧vs.ownBlock≠some b)∧(∀ b,vs.ownBlock=some b→¬F1 b)∧Blk wq w.heap.size 34 #[.slice none 0 0]∧¬F1 w.heap.size)
set_option maxRecDepth 100000 in
set_option maxHeartbeats 2000000 in
theorem Jh {w:World} {g:Nat} {O:Orc} {F K:Nat→Prop} (h:OrcAt w g O F) (A B:Option Addr) (n c m e:Nat) (leaves:List (List Nat)) (salts:List Nat) (d:Nat)
  (hl:KRR K w (.slice A n c) leaves) (hs:KRd K w (.slice B m e) salts) (hK:∀ b,K b→b<w.heap.size∧¬F b) (hd:d≤10) (hn:leaves.length=2^d) (hsl:salts.length=leaves.length) (hse:ZB salts=true) (hle:∀ l∈leaves,ZB l=true)
  (hll:∀ l∈leaves,l.length≤100000) (hO:ZV O 100000) :
  Calls Try.prog 8 #[.pointer (some ⟨g,0,none⟩), .slice A n c, .slice B m e] w fun e w'=>∃ tv F' T,e= .returned (.tuple #[.agg #[tv], .int .i64 0]) ∧
   OrcAt w' g (Vb d (Zv O 16 (ZL leaves salts)) (Z0 O 16 (ZL leaves salts))) F'∧Moved F F' w w'∧KRR T w' tv (ZU d (Zv O 16 (ZL leaves salts)) (Z0 O 16 (ZL leaves salts)))∧∀ b,T b→w.heap.size≤b∧b<w'.heap.size∧¬F' b:=by
 obtain ⟨rfl,hc1,hc2⟩:=xt hl
 have hmn:m=salts.length:=by obtain ⟨A',c',e1,-⟩:=Yw hs;injection e1 with _ e2 _
 subst hmn
 have hn2:leaves.length≤1024:=by rw [hn];exact Nat.le_trans (Nat.pow_le_pow_right (by omega) hd) (by decide)
 have hn1:0<leaves.length:=by rw [hn];exact Nat.pow_pos (by omega)
 have HNum:=Lib.hid (show ∀ w,Calls Try.prog 24 #[.int .i64 (leaves.length:Int)] w fun e w'=>e= .returned (.bool true)∧w=w' from fun w=>by have:=Xy leaves.length w;rw [hn,Ub hd] at this;rw [hn];exact this)
 obtain ⟨q0,hq0⟩:∃ q0,q0=ZL leaves salts:=⟨_,rfl⟩
 rw [←hq0]
 have HQL:=Lib.hid (show q0.length=leaves.length by rw [hq0,X9])
 have HQ:=Lib.hid (fun i (hi:i<leaves.length)=>show q0.getD i []=salts.getD i 0 :: leaves.getD i [] by rw [hq0];exact JO _ _ _ hi)
 obtain ⟨nn,hnn⟩:∃ nn,nn=leaves.length:=⟨_,rfl⟩
 rw [hsl] at hs ⊢
 rw [←hnn] at hl hs hn hn1 hn2 HNum HQL HQ hc1 ⊢
 have hb1:=(Below.refl w.heap.size w).alloc (Nat.le_refl _) (.cells #[.slice none 0 0] 34)
 have kr1:=Blk.new w 34 #[.slice none 0 0]
 have HSe:=Lib.hid (show ∀ w1,Below w.heap.size w w1→Calls Try.prog 25 #[.slice B nn e] w1 fun e w'=>e= .returned (.bool true)∧w1=w' from fun w1 hb=>by have:=YE B nn e salts w1 (Zq (ZF hs hb));rw [hse] at this;exact this)
 have HLe:=Lib.hid (show ∀ w1 i A1 n1 c1,RWd w1 [.slice A1 n1 c1] (leaves.getD i [])→i<nn→Calls Try.prog 25 #[.slice A1 n1 c1] w1 fun e w'=>e= .returned (.bool true)∧w1=w' from fun w1 i A1 n1 c1 hr hi=>by have:=YE A1 n1 c1 (leaves.getD i []) w1 hr;rw [hle _ (YM [] (by omega))] at this;exact this)
 have HL:=Lib.hid hl
 have HS:=Lib.hid hs
 have HK:=Lib.hid hK
 have HN:=Lib.hid hn
 have HNN:=Lib.hid hnn
 have HLL:=Lib.hid (show ∀ i,i<nn→(leaves.getD i []).length≤100000 from fun i hi=>hll _ (YM [] (by omega)))
 have HO:=Lib.hid hO
 have H:=Lib.hid h
 have hne:((nn:Int) != (nn:Int))=false:=by simp
 have hmk:=fun w=>U5 nn (by omega) w
 obtain ⟨zc,hzc⟩:∃ zc,zc=ZD nn fun _=>0:=⟨_,rfl⟩
 rw [←hzc] at hmk
 have HZC:=Lib.hid hzc
 clear hl hs hK hn hnn hll hO h hse hle hsl hq0 hzc
 go_enter Try.func8,Try.ntmps8
 go_wp2_with fail
 refine (HNum.out _).mono ?_
 rintro _ w1 ⟨rfl,rfl⟩
 go_wp2_with fail
 refine (HSe.out _ hb1).mono ?_
 rintro _ w1 ⟨rfl,rfl⟩
 go_wp2_with fail
 generalize w.alloc _=w1 at hb1 kr1 ⊢
 go_loopw [35] (fun y wr=>∃ i:Nat,i≤nn∧y= .int .i64 (i:Int)∧wr=w1) (fun y _=>nn-(intOf y).toNat)
 case atStart=>exact ⟨0,Nat.zero_le _,rfl,rfl⟩
 case round =>
  obtain ⟨i,hi,rfl,rfl⟩:=hrel
  by_cases hlt:i<nn
  ·obtain ⟨b,q,A1,n1,c1,eA,hKb,hbl,hcell,hrow⟩:=J7 (Zz HL.out hb1) (show i<leaves.length by have:=HNN.out;omega)
   have hrw:=Zq hrow
   have HLi:=Lib.hid (HLe.out wr i A1 n1 c1 hrw hlt)
   have g1:(0:Int)≤(i:Int):=by omega
   have g2:(i:Int)<(nn:Int):=by omega
   subst eA
   have HLT:=Lib.hid hlt
   clear hrow hrw hlt
   go_wp2_with fail
   refine HLi.out.mono ?_
   rintro _ w2 ⟨rfl,rfl⟩
   go_wp2
   go_roundw
   case rel=>exact ⟨i+1,by have:=HLT.out;omega,by go_num,by first | rfl | trivial⟩
   case measure=>have:=HLT.out;simp [intOf];omega
  ·have e1:nn=i:=by omega
   subst e1
   clear hlt hi
   go_wp2_with fail
   have hgl:w.heap.size<wr.heap.size:=kr1.lt
   have hal:=(Below.refl wr.heap.size wr).alloc (Nat.le_refl _) (.cells zc 26)
   have kl0:=Blk.new wr 26 zc
   replace kr1:=kr1.below hal kr1.lt
   replace hb1:=Za hb1 hal
   generalize wr.alloc _=wA at kl0 kr1 hb1 ⊢
   generalize wr.heap.size=gl at kl0 hgl ⊢
   clear hal hmk
   obtain ⟨V,hV⟩:∃ V:Nat→Nat,V=fun k=>(Z0 O 16 q0).getD k 0:=⟨_,rfl⟩
   have HV:=Lib.hid (show ∀ i,i<nn→V i=ZM (Zv O 16 (q0.take i)) 16 (salts.getD i 0 :: leaves.getD i []) from fun i hi=>by rw [hV];simp only;rw [UI O 16 q0 i (by rw [HQL.out];exact hi),HQ.out i hi])
   have HVA:=Lib.hid (show ∀ k,V k=(Z0 O 16 q0).getD k 0 from fun k=>by rw [hV])
   have HST:=Lib.hid (show ∀ i,i<nn→Zv O 16 (q0.take (i+1))=ZA (Zv O 16 (q0.take i)) 16 (salts.getD i 0 :: leaves.getD i []) from fun i hi=>by rw [Ud O 16 q0 i (by rw [HQL.out];exact hi),HQ.out i hi])
   have HLEi:=Lib.hid (show ∀ i,i≤nn→ZV (Zv O 16 (q0.take i)) 200000 from fun i hi=>Zs (Yk (q0.take i) HO.out) (by rw [List.length_take];omega))
   clear hV
   have HLA:=Lib.hid (Zz HL.out hb1)
   have HSA:=Lib.hid (ZF HS.out hb1)
   have mA:Moved F F w wA:=Zh hb1
   have nFl:¬F gl:=fun e=>by have:=H.out.lt gl e;omega
   have hKl:Hid (∀ b,K b→¬Or1 F gl b):=fun b hb e=>by
    have:=HK.out b hb
    rcases e with e | e
    ·exact this.2 e
    ·omega
   rw [HZC.out,show ZD nn (fun _=>0)=ZD nn (fun k=>if k<0 then V k else 0) from Xg fun i _=>by rw [if_neg (by omega)]] at kl0
   have HA:=H.out.below hb1
   have hg49:(nn:Int)≤1024:=by omega
   go_loopw [49] (fun y wr=>∃ (i:Nat) (F1:Nat→Prop),i≤nn∧y= .int .i64 (i:Int)∧OrcAt wr g (Zv O 16 (q0.take i)) F1∧Moved (Or1 F gl) (Or1 F1 gl) wA wr∧Blk wr gl 26 (ZD nn fun k=>if k<i then V k else 0)∧¬F1 gl) (fun y _=>nn-(intOf y).toNat)
   case atStart=>exact ⟨0,F,Nat.zero_le _,rfl,HA,Moved.refl,kl0,nFl⟩
   case round =>
    clear kl0 HA nFl
    obtain ⟨i,F1,hi,rfl,h1,m1,kl,nF1⟩:=hrel
    by_cases hlt:i<nn
    ·obtain ⟨b,q,A1,n1,c1,eA,hKb,hbl,hcell,hrow⟩:=J7 (Xf HLA.out m1 hKl.out) (show i<leaves.length by have:=HNN.out;omega)
     have hrd:=Zq (zu HSA.out m1 hKl.out)
     have hnB:=(ZO hrd).1
     rw [hnB] at hrd
     obtain ⟨b2,q2,eB,hbl2,hcell2⟩:=ZN (ZO hrd).2.2.2.2 (show i<salts.length by omega)
     rw [←hnB] at hrd
     have hx:=Xb (ZO hrd).2.2.2.1 (show i<salts.length by omega)
     have hrw:=Zq hrow
     have HLL1:=Lib.hid (HLL.out i hlt)
     have HV1:=Lib.hid (HV.out i hlt)
     have HST1:=Lib.hid (HST.out i hlt)
     have HLE1:=Lib.hid (HLEi.out i hi)
     subst eA eB
     have HLT:=Lib.hid hlt
     have hlt64:∀ y∈salts.getD i 0 :: leaves.getD i [],y<18446744073709551616:=ZP hx (by obtain ⟨A',c',e',-,-,h9⟩:=Yw hrow;exact h9)
     have H64:=Lib.hid hlt64
     have nm1:∀ b',b'<wr.heap.size→∀ b'',wr.heap.size≤b''→b'≠b'':=fun _ _ _ _=>by omega
     have FL1:=Lib.hid h1.lt
     have g1:(0:Int)≤(i:Int):=by omega
     have g2:(i:Int)<(nn:Int):=by omega
     obtain ⟨ho,hho⟩:∃ ho,ho=ZA (Zv O 16 (q0.take i)) 16 (salts.getD i 0 :: leaves.getD i []):=⟨_,rfl⟩
     obtain ⟨vv,hvv⟩:∃ vv,vv=ZM (Zv O 16 (q0.take i)) 16 (salts.getD i 0 :: leaves.getD i []):=⟨_,rfl⟩
     have HHO:=Lib.hid hho
     have HVV:=Lib.hid hvv
     generalize salts.getD i 0=x at *
     generalize leaves.getD i []=lf at *
     clear hrow hrd hnB hlt64 hlt nm1 hho hvv hx
     go_wp2_with fail
     refine (Vu x A1 n1 c1 lf wr hrw (by have:=HLL1.out;omega)).mono ?_
     rintro _ w2 ⟨v,rfl,hv,hb2⟩
     obtain ⟨Av,cv,rfl,-,-,-,hvb⟩:=ZY hv
     have hkv:=Lib.hid (X6 hv H64.out)
     have h2:=Lib.hid (h1.below hb2)
     have kl2:=kl.below hb2 kl.lt
     have m2:=m1.trans (VQ (F:=F1) (Zh hb2) gl)
     have HVB:=Lib.hid (show ∀ b',(Value.slice Av (n1+1) cv).ownBlock=some b'→¬F1 b' from fun b' hb' hf=>by have:=FL1.out b' hf;have:=(hv.lt b' hb').1;omega)
     clear hv hb2 h1 kl m1 hcell hcell2 hvb hrw
     go_wp2_with fail
     refine (Y6 h2.out 16 (x :: lf) Av (n1+1) cv hkv.out HVB.out (by decide) (by have:=HLL1.out;simp;omega) (.inl (by simp)) (by have:=HLE1.out.1;omega) (by have:=HLE1.out.2;omega)).mono ?_
     rintro _ w3 ⟨rfl,F2,h3,m3⟩
     rw [←HVV.out]
     rw [←HHO.out] at h3
     have nF2:=Zn m3 kl2.lt nF1
     have kl3:=kl2.moved m3 nF1
     have m4:=m2.trans (VQ m3 gl)
     have hcl:w3.cell? ⟨gl,i,none⟩=_:=(kl3.cell i).trans (VR _ HLT.out)
     have hfl:=kl3.frozen
     have H3:=Lib.hid h3
     clear kl2 h2 m2 m3 h3 hkv
     go_wp2
     go_roundw
     case rel =>
      refine ⟨i+1,F2,by have:=HLT.out;omega,by go_num,?_,m4.trans (JI _ _ _),?_,nF2⟩
      ·rw [HST1.out,←HHO.out]
       exact H3.out.set nF2 _
      ·have:=kl3.set_ i (.int .u64 (vv:Int))
       rw [VW] at this
       rw [show Vk (fun k=>if k<i then V k else 0) i vv=Vk (fun k=>if k<i then V k else 0) i (V i) from by rw [HV1.out,HVV.out],UA] at this
       exact this
     case measure=>have:=HLT.out;simp [intOf];omega
    ·have e1:nn=i:=by omega
     subst e1
     have kl2:Blk wr gl 26 (U64 (Z0 O 16 q0)).toArray:=by
      rw [UR,show (List.range nn).map (fun k=>if k<nn then V k else 0)=Z0 O 16 q0 from List.ext_getElem (by rw [List.length_map,List.length_range,Yy,HQL.out]) fun k h1 h2=>by
       have hk:k<nn:=by simpa using h1
       simp only [List.getElem_map,List.getElem_range,if_pos hk,HVA.out]
       rw [List.getD_eq_getElem?_getD,List.getElem?_eq_getElem h2];rfl] at kl
      exact kl
     have hO0:Zv O 16 (q0.take nn)=Zv O 16 q0:=by rw [←HQL.out,KZ]
     rw [hO0] at h1
     have HLE0:=Lib.hid (show ZV (Zv O 16 q0) 200000 by rw [←hO0];exact HLEi.out nn (Nat.le_refl _))
     have hm1:Moved F F1 w wr:=zy mA m1 (by omega)
     have kr2:=kr1.moved m1 (fun e=>by
      rcases e with e | e
      ·have:=H.out.lt _ e;omega
      ·omega)
     have nFr:¬F1 w.heap.size:=fun e=>by
      rcases m1.foot _ (.inl e) with h | h
      ·rcases h with h | h
       ·have:=H.out.lt _ h;omega
       ·omega
      ·have:=kr1.lt;omega
     have HAns:=Lib.hid (X7 H.out.ok.ans 16 q0)
     have HL0:=Lib.hid (show (Z0 O 16 q0).length=2^d by rw [Yy,HQL.out,HN.out])
     obtain ⟨O0,hO0'⟩:∃ O0,O0=Zv O 16 q0:=⟨_,rfl⟩
     obtain ⟨L0,hL0⟩:∃ L0,L0=Z0 O 16 q0:=⟨_,rfl⟩
     rw [←hO0'] at h1 HLE0
     rw [←hL0] at kl2 HAns HL0
     have HO0:=Lib.hid hO0'
     have HL00:=Lib.hid hL0
     clear hO0 hO0' hL0 kl m1 kr1 HV HVA HST HLEi HLA HSA mA hKl hlt hi HQ HLe HZC hb1 H HL HS HK
     go_wp2_with fail
     have hal:=(Below.refl wr.heap.size wr).alloc (Nat.le_refl _) (.cells #[.slice (some ⟨gl,0,none⟩) nn nn] 23)
     have hgl2:=kl2.lt
     have hgv:gl<wr.heap.size:=hgl2
     have own0:(wr.alloc (.cells #[.slice (some ⟨gl,0,none⟩) nn nn] 23)).ownsRow (w.heap.size+1) 23 1 (.slice (some ⟨wr.heap.size,0,none⟩) 1 1) 1 [.slice (some ⟨gl,0,none⟩) nn nn]:=⟨rfl, .inr ⟨wr.heap.size,1,_,rfl,by omega,heap_alloc_new wr _,Nat.le_refl _,by simp [maxLen],rfl,rfl⟩⟩
     have kl3:=kl2.below hal kl2.lt
     have kr3:=kr2.below hal kr2.lt
     have h3:=h1.below hal
     have hm3:=hm1.trans (Zh (F:=F1) hal)
     have FL1:=Lib.hid h1.lt
     have hl64:∀ x∈L0,x<18446744073709551616:=fun x hx=>by have:=HAns.out x hx;unfold Zg at this;omega
     have hkl:=Yj kl3 (n:=nn) (by rw [HL0.out,HN.out]) hl64 (by simp only [maxLen];omega)
     have nv:¬F1 wr.heap.size:=fun e=>by have:=FL1.out _ e;omega
     generalize wr.alloc _=wB at hal own0 kl3 kr3 h3 hm3 hkl ⊢
     generalize wr.heap.size=gv at hgv nv own0 ⊢
     have REL:xA w g F d O0 L0 (.slice (some ⟨gl,0,none⟩) nn nn) (.slice (some ⟨gv,0,none⟩) 1 1) wB:=by
      refine ⟨d,[],O0,L0,F1,gl,200000,fun b=>b=gl,[.slice (some ⟨gl,0,none⟩) nn nn],⟨HL0.out,HAns.out,by rw [HN.out],kl3,rfl⟩,⟨h3,hm3,HLE0.out,by have:=HN.out;omega⟩,⟨rfl,rfl,by simpa using hd⟩,⟨own0,⟨rfl,fun i h1 h2=>?_⟩⟩,⟨fun b hb=>?_,fun b hb=>?_,kr3,nFr⟩⟩
      ·obtain rfl:i=0:=by simp at h1;omega
       exact hkl
      ·subst hb
       refine ⟨hgl,kl3.lt,nF1,fun e=>?_⟩
       simp [Value.ownBlock] at e
       omega
      ·simp [Value.ownBlock] at hb
       subst hb
       exact nv
     clear kl2 h1 hm1 kr2 nFr nF1 own0 kl3 kr3 h3 hm3 hkl hal HLE0 FL1 hl64 nv hgv hgl2 HAns HL0 HO hg49 hne hn1 hn2 hc1 hc2
     have HSm:=Lib.hid (show ∀ j,j≤10→2^j≤1024 from fun j hj=>Nat.le_trans (Nat.pow_le_pow_right (by omega) hj) (by decide))
     go_loopw [10,13] (fun lv vs wq=>xA w g F d O0 L0 lv vs wq) (fun lv _ _=>xr lv)
     case atStart=>exact REL
     case round =>
      clear REL
      obtain ⟨j,ls,Oj,lj,F1,gj,M,T,cs,⟨hlj,haj,rfl,kj,hTj⟩,⟨hj,mj,hLe,hM⟩,⟨et,eo,hlsj⟩,⟨own,rows⟩,⟨hT,hvs,kr,nFr⟩⟩:=hrel
      rcases j with _ | j
      ·have e1:(2:Nat)^0=1:=rfl
       obtain ⟨Av,cv,rfl,-⟩:=ZY own
       have gll:w.heap.size<wr.heap.size:=kr.lt
       have hvr:∀ b,(Value.slice Av (ls.length+1) cv).ownBlock=some b→b≠w.heap.size:=fun b hb e=>by have:=(own.lt b hb).1;omega
       have hf:=kr.frozen
       have hc:wr.cell? ⟨w.heap.size,0,none⟩=_:=kr.cell 0
       have DONE:=Lib.hid (show ∃ F' T',OrcAt (wr.setCell ⟨w.heap.size,0,none⟩ (.slice Av (ls.length+1) cv)) g (Vb 0 Oj lj) F'∧Moved F F' w (wr.setCell ⟨w.heap.size,0,none⟩ (.slice Av (ls.length+1) cv))∧KRR T' (wr.setCell ⟨w.heap.size,0,none⟩ (.slice Av (ls.length+1) cv)) (.slice Av (ls.length+1) cv) (ls++ZU 0 Oj lj)∧∀ b,T' b→w.heap.size≤b∧b<(wr.setCell ⟨w.heap.size,0,none⟩ (.slice Av (ls.length+1) cv)).heap.size∧¬F' b from by
        have hset:∀ b,b≠w.heap.size→(wr.setCell ⟨w.heap.size,0,none⟩ (.slice Av (ls.length+1) cv)).heap[b]?=wr.heap[b]?:=fun b hb=>Below.heap_setCell wr _ _ b hb
        refine ⟨F1,fun b=>T b∨(Value.slice Av (ls.length+1) cv).ownBlock=some b,hj.set nFr _,ZX mj (Nat.le_refl _) _ _,?_,fun b hb=>?_⟩
        ·exact K4 (Y4 rows (by simp [World.setCell]) fun b hb _=>hset b (by have:=(hT b hb).1;omega)) (ZE own fun b hb=>hset b (hvr b hb))
        ·have hsz:(wr.setCell ⟨w.heap.size,0,none⟩ (.slice Av (ls.length+1) cv)).heap.size=wr.heap.size:=by simp [World.setCell]
         rw [hsz]
         rcases hb with hb | hb
         ·exact ⟨by have:=(hT b hb).1;omega,(hT b hb).2.1,(hT b hb).2.2.1⟩
         ·exact ⟨by have:=(own.lt b hb).1;omega,(own.lt b hb).2,hvs b hb⟩)
       rw [←et,←eo,HL00.out,HO0.out] at DONE
       clear hT hvs own rows hj mj et eo kj hlj haj hTj hLe hM
       have cz:(wr.setCell ⟨w.heap.size,0,none⟩ (.slice Av (ls.length+1) cv)).cell? ⟨w.heap.size,0,none⟩=some (.slice Av (ls.length+1) cv):=by
        have:=(kr.set_ 0 (.slice Av (ls.length+1) cv)).cell 0
        simpa using this
       go_wp2
       refine bodyPost_ret (v:=.tuple #[.agg #[.slice Av (ls.length+1) cv], .int .i64 0]) (by simp [results,Try.results8,go_sem,cz]) rfl ?_
       obtain ⟨F',T',d1,d2,d3,d4⟩:=DONE.out
       first | exact ⟨_,F',T',rfl,d1,d2,d3,d4⟩ | exact ⟨_,rfl,F',d1,d2,T',d3,d4⟩
      ·have h1024:=HSm.out j (by omega)
       have epow:(2:Nat)^(j+1)=2*2^j:=by rw [Nat.pow_succ,Nat.mul_comm]
       obtain ⟨nk,hnk⟩:∃ nk,nk=2^j:=⟨_,rfl⟩
       rw [epow] at hlj hM ⊢
       rw [←hnk] at hlj hM h1024 ⊢
       have hk1:0<nk:=by rw [hnk];exact Nat.pow_pos (by omega)
       obtain ⟨nj,hnj⟩:∃ nj,nj=2*nk:=⟨_,rfl⟩
       rw [←hnj] at hlj ⊢
       have HNK:=Lib.hid hnk
       have HNJ:=Lib.hid hnj
       have c1:decide ((1:Int)<(nj:Int))=true:=decide_eq_true (by omega)
       have c2:(nj:Int).tdiv 2=(nk:Int):=by rw [Int.tdiv_eq_ediv_of_nonneg (by omega)];omega
       have hmk:=fun w=>U5 nk (by omega) w
       obtain ⟨zc,hzc⟩:∃ zc,zc=ZD nk fun _=>0:=⟨_,rfl⟩
       rw [←hzc] at hmk
       have HZC:=Lib.hid hzc
       have hal:=(Below.refl wr.heap.size wr).alloc (Nat.le_refl _) (.cells zc 26)
       have kn0:=Blk.new wr 26 zc
       have FL1:=Lib.hid hj.lt
       have ET:=Lib.hid et
       have EO:=Lib.hid eo
       have HAJ:=Lib.hid haj
       have HLJ:=Lib.hid hlj
       have HLS:=Lib.hid hlsj
       have HMM:=Lib.hid hM
       have HT:=Lib.hid hT
       have HVS:=Lib.hid hvs
       have HLE:=Lib.hid hLe
       have nFn:¬F1 wr.heap.size:=fun e=>by have:=FL1.out _ e;omega
       have hgj:=kj.lt
       have hgjn:gj<wr.heap.size:=hgj
       have hgr:=kr.lt
       have nFj:¬F1 gj:=(hT gj hTj).2.2.1
       have HTN:=Lib.hid (show ∀ b,T b→b≠wr.heap.size from fun b hb e=>by have:=(hT b hb).2.1;omega)
       have HVN:=Lib.hid (show ∀ b,u13.ownBlock=some b→b<wr.heap.size from fun b hb=>(own.lt b hb).2)
       have hwl:w.heap.size<wr.heap.size:=hgr
       clear et eo haj hlj hlsj hM hT hvs hLe hnk hnj hzc epow
       replace kj:=kj.below hal kj.lt
       replace kr:=kr.below hal kr.lt
       replace hj:=hj.below hal
       replace own:=Yp own hal (Nat.le_refl _)
       replace rows:=Y4 rows hal.size fun b _ hl=>hal.block b hl
       replace mj:=mj.trans (Zh (F:=F1) hal)
       go_wp2_with fail
       generalize wr.alloc _=wB at kn0 kj kr hj own rows mj ⊢
       generalize wr.heap.size=gn at kn0 FL1 HT nFn hgj hgjn hgr HTN HVN hwl ⊢
       have kn0lt:gn<wB.heap.size:=kn0.lt
       have h2a:=Lib.hid hj.ok.ans
       clear hal hmk hgj hgr
       obtain ⟨V,hV⟩:∃ V:Nat→Nat,V=fun k=>(Z0 Oj 17 (Zu lj)).getD k 0:=⟨_,rfl⟩
       have HPL:=Lib.hid (show (Zu lj).length=nk by rw [YW,HLJ.out,HNJ.out];omega)
       have HPG:=Lib.hid (show ∀ i,i<nk→(Zu lj).getD i []=[lj.getD (2*i) 0,lj.getD (2*i+1) 0] from fun i hi=>Ju lj i (by rw [HLJ.out,HNJ.out];omega))
       have HV:=Lib.hid (show ∀ i,i<nk→V i=ZM (Zv Oj 17 ((Zu lj).take i)) 17 [lj.getD (2*i) 0,lj.getD (2*i+1) 0] from fun i hi=>by rw [hV];simp only;rw [UI Oj 17 (Zu lj) i (by rw [HPL.out];exact hi),HPG.out i hi])
       have HVA:=Lib.hid (show ∀ k,V k=(Z0 Oj 17 (Zu lj)).getD k 0 from fun k=>by rw [hV])
       have HST:=Lib.hid (show ∀ i,i<nk→Zv Oj 17 ((Zu lj).take (i+1))=ZA (Zv Oj 17 ((Zu lj).take i)) 17 [lj.getD (2*i) 0,lj.getD (2*i+1) 0] from fun i hi=>by rw [Ud Oj 17 (Zu lj) i (by rw [HPL.out];exact hi),HPG.out i hi])
       have HLEi:=Lib.hid (show ∀ i,i≤nk→ZV (Zv Oj 17 ((Zu lj).take i)) (M+nk) from fun i hi=>Zs (Yk ((Zu lj).take i) HLE.out) (by rw [List.length_take];omega))
       clear hV
       rw [HZC.out,show ZD nk (fun _=>0)=ZD nk (fun k=>if k<0 then V k else 0) from Xg fun i _=>by rw [if_neg (by omega)]] at kn0
       have KJ:=Lib.hid kj
       have HAJ2:=Lib.hid (show ∀ k,lj.getD k 0<Zg from fun k=>by
        rw [List.getD_eq_getElem?_getD]
        rcases Nat.lt_or_ge k lj.length with h1 | h1
        ·rw [List.getElem?_eq_getElem h1];exact HAJ.out _ (List.getElem_mem h1)
        ·rw [List.getElem?_eq_none h1];show 0<Zg;decide)
       have nOj:¬Or1 F1 gn gj:=fun e=>by
        rcases e with e | e
        ·exact nFj e
        ·omega
       have OWN:=Lib.hid own
       have ROWS:=Lib.hid rows
       have KR:=Lib.hid kr
       have MJ:=Lib.hid mj
       clear kj kr own rows mj
       go_loopw [77] (fun y wq=>∃ (i:Nat) (F2:Nat→Prop),i≤nk∧y= .int .i64 (i:Int)∧OrcAt wq g (Zv Oj 17 ((Zu lj).take i)) F2∧Moved (Or1 F1 gn) (Or1 F2 gn) wB wq∧Blk wq gn 26 (ZD nk fun k=>if k<i then V k else 0)∧¬F2 gn) (fun y _=>nk-(intOf y).toNat)
       case atStart=>exact ⟨0,F1,Nat.zero_le _,rfl,hj,Moved.refl,kn0,nFn⟩
       case round =>
        clear kn0 hj
        obtain ⟨i,F2,hi,rfl,h2,m2,kn,nF2⟩:=hrel
        by_cases hlt:i<nk
        ·have kj:=KJ.out.moved m2 nOj
         have lgj:=kj.lt
         have nO2:¬Or1 F2 gn gj:=Zn m2 KJ.out.lt nOj
         have HV1:=Lib.hid (HV.out i hlt)
         have HST1:=Lib.hid (HST.out i hlt)
         have HLE1:=Lib.hid (HLEi.out i hi)
         have hcA:=U7 kj (show 2*i<lj.length by rw [HLJ.out,HNJ.out];omega)
         have hcB:=U7 kj (show 2*i+1<lj.length by rw [HLJ.out,HNJ.out];omega)
         have HXq:=Lib.hid (HAJ2.out (2*i))
         have HYq:=Lib.hid (HAJ2.out (2*i+1))
         obtain ⟨i2,hi2⟩:∃ i2,i2=2*i:=⟨_,rfl⟩
         rw [←hi2] at HV1 HST1 hcA hcB HXq HYq
         obtain ⟨i3,hi3⟩:∃ i3,i3=i2+1:=⟨_,rfl⟩
         rw [←hi3] at HV1 HST1 hcB HYq
         have e1:IntKind.i64.wrap (2*(i:Int))=(i2:Int):=by rw [IntKind.wrap_i64];omega
         have e2:IntKind.i64.wrap ((i2:Int)+1)=(i3:Int):=by rw [IntKind.wrap_i64];omega
         have hnj3:i3<nj:=by rw [HNJ.out];omega
         have g1:(0:Int)≤(i:Int):=by omega
         have g2:(i:Int)<(nk:Int):=by omega
         have g3:(0:Int)≤(i2:Int):=by omega
         have g4:(i2:Int)<(nj:Int):=by omega
         have g5:(0:Int)≤(i3:Int):=by omega
         have g6:(i3:Int)<(nj:Int):=by omega
         obtain ⟨ho,hho⟩:∃ ho,ho=ZA (Zv Oj 17 ((Zu lj).take i)) 17 [lj.getD i2 0,lj.getD i3 0]:=⟨_,rfl⟩
         obtain ⟨vv,hvv⟩:∃ vv,vv=ZM (Zv Oj 17 ((Zu lj).take i)) 17 [lj.getD i2 0,lj.getD i3 0]:=⟨_,rfl⟩
         have HHO:=Lib.hid hho
         have HVV:=Lib.hid hvv
         generalize lj.getD i2 0=x at *
         generalize lj.getD i3 0=y at *
         have HLT:=Lib.hid hlt
         have HI2:=Lib.hid hi2
         have HI3:=Lib.hid hi3
         have H2:=Lib.hid h2
         obtain ⟨NQ,hNQ⟩:∃ NQ,NQ=wr.heap.size:=⟨_,rfl⟩
         rw [←hNQ] at lgj
         have HNQ:=Lib.hid hNQ
         have KN:=Lib.hid kn
         have M2:=Lib.hid m2
         clear hho hvv hlt hi2 hi3 h2 hNQ kj kn m2 hnj3
         go_wp2_with fail
         refine Z7 (Yl (Or1 F2 gn) NQ) [14,15,17] [0,1,2,3,4,5,6,7,8,9,10,11,12,13,14,15,16,17] (by kernel_rfl) (by kernel_rfl) ?_
         refine Z4 (Zb (Or1 F2 gn) NQ) ?_
         intro Wc HWc hacc
         have H3:=Lib.hid (show OrcAt Wc g (Zv Oj 17 ((Zu lj).take i)) F2 by rw [HWc.out];exact H2.out.drew)
         have M3:=Lib.hid (show Moved (Or1 F1 gn) (Or1 F2 gn) wB Wc by rw [HWc.out];exact ZZ M2.out)
         have kn3:Blk Wc gn 26 (ZD nk fun k=>if k<i then V k else 0):=by rw [HWc.out];exact KN.out.drew
         have hNc:NQ≤Wc.heap.size:=by rw [HWc.out,HNQ.out];exact Nat.le_refl _
         clear HWc H2 KN M2
         repeat (first | (refine ZK (Zb (Or1 F2 gn) NQ) rfl rfl (fun _ _ _ h=>h) ?_;simp only [Act.put,zLa,zLb,zLc]) | (refine Zy (v:=?_) (Zb (Or1 F2 gn) NQ) rfl rfl (fun _ _ _ h=>h) ?_ ?_;rotate_left;(· (intro w' hR;(first | have hcells:=Zx ((Zb (Or1 F2 gn) NQ).trans _ _ _ hacc hR) | skip);go_simp;try with_reducible rfl));simp only [Act.put,zLa,zLb,zLc]))
         refine Z6 (Zb (Or1 F2 gn) NQ) rfl rfl rfl ?_
         go_simp
         refine ⟨Zm ((Below.refl _ _).alloc (Nat.le_refl _) _) hNc,?_⟩
         have hal:=(Below.refl Wc.heap.size Wc).alloc (Nat.le_refl _) (.cells #[.int .u64 (x:Int), .int .u64 (y:Int)] 26)
         have kp:=Blk.new Wc 26 #[.int .u64 (x:Int), .int .u64 (y:Int)]
         have nFp:¬F2 Wc.heap.size:=fun e=>by have:=H3.out.lt _ e;omega
         replace kn3:=kn3.below hal kn3.lt
         replace H3:=Lib.hid (H3.out.below hal)
         replace M3:=Lib.hid (M3.out.trans (VQ (Zh (F:=F2) hal) gn))
         replace hNc:=Nat.le_trans hNc hal.size
         try simp only [Act.put,zLa,zLb,zLc]
         generalize Wc.alloc _=w3 at kp kn3 H3 M3 hNc ⊢
         generalize Wc.heap.size=gp at kp nFp ⊢
         clear hal hacc
         have hacc:=(Zb (Or1 F2 gn) NQ).refl w3
         have hkp:=Lib.hid (Yj (l:=[x,y]) kp (n:=2) rfl (ZP (by have:=HXq.out;unfold Zg at this;omega) (ZP (by have:=HYq.out;unfold Zg at this;omega) (fun _ h=>nomatch h))) (by simp [maxLen]))
         refine YF (Zb (Or1 F2 gn) NQ) rfl rfl rfl (fun _=>by go_simp <;> rfl) ((Y6 H3.out 17 [x,y] (some ⟨gp,0,none⟩) 2 2 hkp.out (fun b hb=>by subst hb;exact nFp) (by decide) (by simp) (.inl (by simp)) (by have:=HLE1.out.1;have:=HMM.out;omega) (by have:=HLE1.out.2;have:=HMM.out;omega)).mono ?_)
         rintro e w4 ⟨rfl,F3,h4,m4⟩
         refine ⟨_,rfl,YL m4 hNc (fun b _ h=>.inl h),?_⟩
         replace hacc:=(Zb (Or1 F2 gn) NQ).trans _ _ _ hacc (YL m4 hNc (fun b _ h=>.inl h))
         simp only [Act.put,zLa,zLb,zLc]
         have nF3:=Zn m4 kn3.lt nF2
         have kn4:=kn3.moved m4 nF2
         have M4:=Lib.hid (M3.out.trans (VQ m4 gn))
         have H4:=Lib.hid h4
         have hcl:w4.cell? ⟨gn,i,none⟩=_:=(kn4.cell i).trans (VR _ HLT.out)
         have hfl:=kn4.frozen
         clear hacc kn3 H3 M3 m4 h4 hkp hcA hcB kp nFp
         have hacc:=(Zb (Or1 F2 gn) NQ).refl w4
         repeat (first | (refine ZK (Zb (Or1 F2 gn) NQ) rfl rfl (fun _ _ _ h=>h) ?_;simp only [Act.put,zLa,zLb,zLc]) | (refine Zy (v:=?_) (Zb (Or1 F2 gn) NQ) rfl rfl (fun _ _ _ h=>h) ?_ ?_;rotate_left;(· (intro w' hR;(first | have hcells:=Zx ((Zb (Or1 F2 gn) NQ).trans _ _ _ hacc hR) | skip);go_simp;try with_reducible rfl));simp only [Act.put,zLa,zLb,zLc]))
         refine Z6 (Zb (Or1 F2 gn) NQ) rfl rfl rfl ?_
         go_simp
         refine ⟨zm (.inr rfl) _,?_⟩
         try simp only [Act.put,zLa,zLb,zLc]
         refine Yd ?_
         rw [←HVV.out]
         rw [←HHO.out] at H4
         go_wp2
         go_roundw
         case rel =>
          refine ⟨i+1,F3,by have:=HLT.out;omega,by go_num,?_,M4.out.trans (JI _ _ _),?_,nF3⟩
          ·rw [HST1.out,←HHO.out]
           exact H4.out.set nF3 _
          ·have:=kn4.set_ i (.int .u64 (vv:Int))
           rw [VW] at this
           rw [show Vk (fun k=>if k<i then V k else 0) i vv=Vk (fun k=>if k<i then V k else 0) i (V i) from by rw [HV1.out,HVV.out],UA] at this
           exact this
         case measure=>have:=HLT.out;simp [intOf];omega
        ·have e1:nk=i:=by omega
         subst e1
         have kn2:Blk wr gn 26 (U64 (Z0 Oj 17 (Zu lj))).toArray:=by
          rw [UR,show (List.range nk).map (fun k=>if k<nk then V k else 0)=Z0 Oj 17 (Zu lj) from List.ext_getElem (by rw [List.length_map,List.length_range,Yy,HPL.out]) fun k h1 h2=>by
           have hk:k<nk:=by simpa using h1
           simp only [List.getElem_map,List.getElem_range,if_pos hk,HVA.out]
           rw [List.getD_eq_getElem?_getD,List.getElem?_eq_getElem h2];rfl] at kn
          exact kn
         have hO2:Zv Oj 17 ((Zu lj).take nk)=Zv Oj 17 (Zu lj):=by rw [←HPL.out,KZ]
         rw [hO2] at h2
         have nO:∀ b,u13.ownBlock=some b→¬Or1 F1 gn b:=fun b hb e=>by
          rcases e with e | e
          ·exact HVS.out b hb e
          ·have:=HVN.out b hb;omega
         have nT:∀ b,T b→¬Or1 F1 gn b:=fun b hb e=>by
          rcases e with e | e
          ·exact (HT.out b hb).2.2.1 e
          ·exact HTN.out b hb e
         have own2:=YU OWN.out m2 nO
         have rows2:=Y4 ROWS.out m2.size fun b hb hl=>m2.block b hl (nT b hb)
         have kr2:=KR.out.moved m2 (fun e=>by
          rcases e with e | e
          ·exact nFr e
          ·omega)
         have nFr2:¬F2 w.heap.size:=fun e=>Zn m2 KR.out.lt (fun e=>by
          rcases e with e | e
          ·exact nFr e
          ·omega) (.inl e)
         have mj2:=Gu MJ.out m2 (by omega)
         have nT2:∀ b,T b→¬F2 b:=fun b hb e=>Zn m2 (by have:=(HT.out b hb).2.1;have:=kn0lt;omega) (nT b hb) (.inl e)
         have nV2:∀ b,u13.ownBlock=some b→¬F2 b:=fun b hb e=>Zn m2 (by have:=HVN.out b hb;have:=kn0lt;omega) (nO b hb) (.inl e)
         have hL2:(Z0 Oj 17 (Zu lj)).length=nk:=by rw [Yy,HPL.out]
         have HL2lt:=Lib.hid (X7 h2a.out 17 (Zu lj))
         have FL2:=Lib.hid h2.lt
         have hgn:=kn2.lt
         have H2:=Lib.hid h2
         have KN2:=Lib.hid kn2
         have KR2:=Lib.hid kr2
         have ROWS2:=Lib.hid rows2
         have MJ2:=Lib.hid mj2
         have NT2:=Lib.hid nT2
         have NV2:=Lib.hid nV2
         have NFR2:=Lib.hid nFr2
         have hszr:w.heap.size+1≤wr.heap.size:=by have:=kr2.lt;omega
         clear h2 kn kn2 hO2 nO nT rows2 kr2 nFr2 mj2 nT2 nV2 m2 hlt hi
         go_wp2_with (at_builtin;refine ZJ rfl _ _ rfl xB rfl (own2.alloc _) rfl (Ug _ _ _) (by intro u hu;rw [List.mem_singleton.1 hu];rfl) (by have:=HLS.out;omega) (by simp;omega) ?_)
         intro v' wn hown' hgrow hblk
         have hal:=(Below.refl wr.heap.size wr).alloc (Nat.le_refl _) (.cells #[.slice (some ⟨gn,0,none⟩) nk nk] 23)
         have hsa:(wr.alloc (.cells #[.slice (some ⟨gn,0,none⟩) nk nk] 23)).heap.size=wr.heap.size+1:=by simp
         have hbv:∀ b,u13.ownBlock=some b→w.heap.size+1≤b∧b<wr.heap.size:=fun b hb=>own2.lt b hb
         go_wp2
         go_roundw
         case rel =>
          have kn3:=(KN2.out.below hal hgn).grown hgrow (fun e=>by have:=HVN.out gn e.symm;omega)
          have kr3:=(KR2.out.below hal KR2.out.lt).grown hgrow (fun e=>by have:=(hbv _ e.symm).1;omega)
          have hl64:∀ x∈Z0 Oj 17 (Zu lj),x<18446744073709551616:=fun x hx=>by have:=HL2lt.out x hx;unfold Zg at this;omega
          refine ⟨j,ls++[lj],Zv Oj 17 (Zu lj),Z0 Oj 17 (Zu lj),F2,gn,M+nk,fun b=>T b∨b=gn,cs++[.slice (some ⟨gn,0,none⟩) nk nk],⟨by rw [hL2,HNK.out],HL2lt.out,by rw [HNK.out],kn3, .inr rfl⟩,⟨?_,?_,?_,?_⟩,⟨?_,?_,?_⟩,⟨?_,?_⟩,⟨fun b hb=>?_,fun b hb=>?_,kr3,NFR2.out⟩⟩
          ·exact (H2.out.below hal).keep hgrow.size fun b hb=>hgrow.block b (by have:=FL2.out b hb;omega) (fun e=>NV2.out b e.symm hb)
          ·exact Jx (MJ2.out.trans (Zh hal)) hgrow (fun b hb=>by have:=(hbv b hb).1;omega)
          ·exact Zs (Yk (Zu lj) HLE.out) (by rw [HPL.out];exact Nat.le_refl _)
          ·have:=HMM.out;have:=HNK.out;omega
          ·rw [ET.out];simp [ZU]
          ·rw [EO.out];rfl
          ·have:=HLS.out;simp;omega
          ·rw [List.length_append];exact hown'
          ·refine zD (Gr (Y4 (Y4 ROWS2.out hal.size fun b _ hl=>hal.block b hl) hgrow.size fun b hb hl=>hgrow.block b hl (fun e=>(HT.out b hb).2.2.2 e.symm)) fun b hb=>.inl hb) ?_
           exact Yx (Yj kn3 hL2 hl64 (by simp only [maxLen];omega)) fun b hb=>.inr hb
          ·have hs2:=hgrow.size
           rcases hb with hb | hb
           ·refine ⟨(HT.out b hb).1,by have:=(HT.out b hb).2.1;omega,NT2.out b hb,fun e=>?_⟩
            rcases hblk with h | h
            ·rw [h] at e;exact (HT.out b hb).2.2.2 e
            ·rw [h] at e;have:=Option.some.inj e;have:=(HT.out b hb).2.1;omega
           ·subst hb
            refine ⟨hwl,by omega,nF2,fun e=>?_⟩
            rcases hblk with h | h
            ·rw [h] at e;have:=HVN.out _ e;omega
            ·rw [h] at e;have:=Option.some.inj e;omega
          ·rcases hblk with h | h
           ·rw [h] at hb;exact NV2.out b hb
           ·rw [h] at hb
            intro e
            have:=Option.some.inj hb
            have:=FL2.out b e
            omega
         case measure=>show xr (.slice (some ⟨gn,0,none⟩) nk nk)<xr (.slice (some ⟨gj,0,none⟩) nj nj);simp only [xr];have:=HNJ.out;omega
end Go.Proofs.Ytbiieaiahdihnaa
