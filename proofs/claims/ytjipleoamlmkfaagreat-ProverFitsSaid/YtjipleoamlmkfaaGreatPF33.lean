/- A part of the proof. No condition. -/
import Derived.Test.YtjipleoamlmkfaaGreatProg
import Derived.Test.YtjipleoamlmkfaaGreatPF29
import Derived.Test.YtjipleoamlmkfaaGreatPF22
import Derived.Test.YtjipleoamlmkfaaGreatPF17
import Derived.Test.YtjipleoamlmkfaaGreatPF23
import Derived.Test.YtjipleoamlmkfaaGreatPF26

set_option maxRecDepth 100000
set_option maxHeartbeats 8000000
set_option linter.unusedVariables false
set_option linter.unusedSimpArgs false
namespace Go.Proofs.YtjipleoamlmkfaaGreat
open Go.RowKit
def PZ (p pu n ra:Nat) (rows:List Ya) (k:Nat) (f:Nat -> Nat):Nat -> (Nat -> Nat)
 | 0=>f
 | i+1=>cy p pu (ra^(k*n+i)%p) (PZ p pu n ra rows k f i) (Dd (rows.getD i ⟨[],[],[]⟩) k) (Dd (rows.getD i ⟨[],[],[]⟩) k).length
def oV (p pu n ra:Nat) (rows:List Ya):Nat -> (Nat -> Nat)
 | 0=>fun _=>0
 | k+1=>PZ p pu n ra rows k (oV p pu n ra rows k) n
def Uu (L:Va) (pu ra:Nat) (rows:List Ya):List (List Nat) :=
 Io L.block (xe ((List.range L.secret).map (oV L.p pu rows.length ra rows 3)) (Sf L.p rows.length ra 0) (Sf L.p rows.length ra 1) (Sf L.p rows.length ra 2)) (xe L.a L.b L.b L.b)
def NV (g h N:Nat) (w w':World):Prop:=Below 0 w w' /\ ∀ b,b<N -> b≠g -> b≠h -> w'.heap[b]?=w.heap[b]?
theorem zBX (g h N:Nat) (w:World):NV g h N w w:=⟨Below.refl _ _,fun _ _ _ _=>rfl⟩
theorem LX {g h N:Nat} {a b c:World} (x:NV g h N a b) (y:NV g h N b c):NV g h N a c:=⟨x.1.trans y.1,fun k h1 h2 h3=>(y.2 k h1 h2 h3).trans (x.2 k h1 h2 h3)⟩
theorem UZ {g h N B:Nat} {a b:World} (x:Below B a b) (hN:N <= B):NV g h N a b:=⟨x.mono (Nat.zero_le _),fun k h1 _ _=>x.block k (by omega)⟩
theorem R6 {g h N:Nat} {a b:World} {u:Option Nat} (x:a.grownBy b u) (hu:∀ q,u=some q -> q=g \/ q=h \/ N <= q) (hN:N <= a.heap.size):NV g h N a b :=
 ⟨Fo x 0 (Nat.zero_le _) (fun _ _=>Nat.zero_le _),fun k h1 h2 h3=>x.block k (by omega) (fun e=>by
  rcases hu k e.symm with e1 | e1 | e1 <;> omega)⟩
theorem pY {g h N b:Nat} {w w':World} {t:TypeId} {cs:Array Value} (k:Blk w b t cs) (x:NV g h N w w') (hb:b<N) (h1:b≠g) (h2:b≠h):Blk w' b t cs:=by
 unfold Blk at *;rw [x.2 b hb h1 h2];exact k
theorem Q3 {g h N B:Nat} {a b c:World} (QW:Below B a b) (x:NV g h N b c) (hN:B <= N) (h1:B <= g) (h2:B <= h):Below B a c :=
 QW.trans ⟨x.1.os,x.1.tape,x.1.output,x.1.size,fun k hk=>x.2 k (by omega) (by omega) (by omega)⟩
theorem zCO (L:Va) (pu ra:Nat) (vars:Int) (A:Option Addr) (R c:Nat) (rows:List Ya) (w:World) (hL:Vc L) (hF:ux L pu vars rows) (hr:RSl 3 Md w [.slice A R c] rows) (hV:pA vars rows) :
  Calls Tryz.prog 197 #[.agg (Ua L),Ib L.p (pu:Int) vars (.slice A R c), .int .u64 ra] w fun e w'=>∃ v,e= .returned v /\ Qd w' [v] (Uu L pu ra rows) /\ Below w.heap.size w w':=by
 obtain ⟨A',n',c',he,Bf,Sc,kh,za⟩:=hr;simp at he
 obtain ⟨rfl,rfl,rfl⟩:=he;have hs:=hL.s;have Ol:=hL.r;have RU:=hF.nr;have Vt:=hF.sec;have tn:=hF.small;have hR:R=rows.length:=Bf.symm;have gR:R <= 16384:=by omega
 have CW:=zH (fun x y z w hx hy hz=>zAG x y z w hx hy hz)
 have HM:=zH (fun a b w=>PB L.p a b w hL.p)
 have HS:=zH (fun a b w=>zAH L.p a b w hL.p)
 have P5:=zH (fun v0 v1 v2 v3 l0 l1 l2 l3 w h=>zCS L v0 v1 v2 v3 l0 l1 l2 l3 w hL h)
 obtain ⟨pw,rp⟩:∃ pw:Nat -> Nat,pw=fun i=>ra^i%L.p:=⟨_,rfl⟩
 have oR:=zH (show ∀ i,pw i<18446744073709551616 from fun i=>by rw [rp];exact Nat.lt_trans (Nat.mod_lt _ (by have:=nc hL.p;omega)) (nc hL.p).2)
 have mq:=zH (show pw 0=1 by rw [rp];show ra^0%L.p=1;rw [Nat.pow_zero];exact Nat.mod_eq_of_lt (by have:=nc hL.p;omega))
 have so:=zH (show ∀ i,pw i*ra%L.p=pw (i+1) from fun i=>by rw [rp];show ra^i%L.p*ra%L.p=ra^(i+1)%L.p;rw [Nat.mod_mul_mod,Nat.pow_succ])
 obtain ⟨fK,VW⟩:=zEX (oV L.p pu rows.length ra rows);obtain ⟨fI,UW⟩:=zEX (fun k=>PZ L.p pu rows.length ra rows k (fK k))
 have HK0:=zH (show fK 0=fun _=>0 by rw [VW];rfl)
 have HKS:=zH (show ∀ k,fK (k+1)=fI k R from fun k=>by rw [UW,VW,hR];rfl)
 have HI0:=zH (show ∀ k,fI k 0=fK k from fun k=>by rw [UW];rfl)
 have HIS:=zH (show ∀ k i (hi:i<rows.length),fI k (i+1)=cy L.p pu (pw (k*R+i)) (fI k i) (Dd rows[i] k) (Dd rows[i] k).length from fun k i hi=>by
  have e:rows.getD i ⟨[],[],[]⟩=rows[i]:=by rw [List.getD_eq_getElem?_getD,List.getElem?_eq_getElem hi];rfl
  rw [UW,hR,rp];show cy L.p pu (ra^(k*rows.length+i)%L.p) _ (Dd (rows.getD i ⟨[],[],[]⟩) k) (Dd (rows.getD i ⟨[],[],[]⟩) k).length=_
  rw [e])
 have Lb:=(nc hL.p).2;have HT:=zH (show ∀ (x:Nat) (f:Nat -> Nat) ts t,(∀ k,f k<L.p) -> ∀ k,cy L.p pu x f ts t k<L.p from fun x f ts t hf=>by
  induction t with
  | zero=>exact hf
  | succ t ih =>
   intro k;show YB L.p pu x (cy L.p pu x f ts t) _ k<_
   unfold YB;split
   ·unfold Pe
    split
    ·exact Nat.mod_lt _ (by have:=nc hL.p;omega)
    ·exact ih k
   ·exact ih k)
 have HI:=zH (show ∀ k,(∀ s,fK k s<L.p) -> ∀ i,i <= rows.length -> ∀ s,fI k i s<L.p from fun k hk i=>by
  induction i with
  | zero=>intro _;rw [HI0.out];exact hk
  | succ i ih=>intro hi;rw [HIS.out k i (by omega)];exact HT.out _ _ _ _ (ih (by omega)))
 have HKX:=zH (show ∀ k s,fK k s<18446744073709551616 from fun k=>by
  have:∀ k s,fK k s<L.p:=fun k=>by
   induction k with
   | zero=>intro s;rw [HK0.out];have:=nc hL.p;show 0<_;omega
   | succ k ih=>rw [HKS.out];exact HI.out k ih R (by omega)
  exact fun s=>Nat.lt_trans (this k s) Lb)
 have Wp:=zH (show Uu L pu ra rows=Io L.block (xe ((List.range L.secret).map (fK 3)) (Sf L.p R ra 0) (Sf L.p R ra 1) (Sf L.p R ra 2)) (xe L.a L.b L.b L.b) by rw [VW,hR];rfl)
 have Ri:=zH (show ∀ k,(List.range R).map (fun i=>pw (k*R+i))=Sf L.p R ra k from fun k=>by rw [rp];rfl)
 have EW:=zH (show ∀ i (hi:i<rows.length) k,k<3 -> ∀ t (ht:t<(Dd rows[i] k).length),0 <= ((Dd rows[i] k).getD t (0,0)).1 /\ ((Dd rows[i] k).getD t (0,0)).1<vars from fun i hi k hk t ht=>by
  rw [List.getD_eq_getElem?_getD,List.getElem?_eq_getElem ht];exact hV _ (List.getElem_mem hi) k hk _ (List.getElem_mem ht))
 have R5:=zH (And.intro Vt tn);have HRR:=zH hR;have mk:=Fp L.secret (by omega)
 have gs1:(L.secret:Int) <= 65536:=by omega
 have gs0:(0:Int) <= (L.secret:Int):=by omega
 have gRi:(R:Int) <= 16384:=by omega
 rw [Wp.out];clear hV rp VW UW hF hs Ol RU Vt tn Lb Wp HT HI Sc kh Bf hR hL;unfold Ua Ib at *;obtain ⟨kl,kt,aa,-⟩:=ah w 35 25 #[.int .u64 L.p, .int .i64 L.block, .int .i64 L.queries, .int .i64 L.k, .int .i64 L.n, .int .i64 L.secret, .int .i64 L.rows, .int .i64 L.a, .int .i64 L.b, .int .i64 L.b, .int .i64 L.b] #[.int .u64 L.p, .int .i64 pu, .int .i64 vars, .slice A R c];go_enter Tryz.func197,Tryz.ntmps197
 go_upto_region 1 with fail
 generalize (w.alloc _).alloc _=w1 at kl kt aa |-;have o0:=kt.lt;go_upto_region 2 with fail
 have kv:=Blk.new w1 166 #[.slice none 0 0, .slice none 0 0, .slice none 0 0, .slice none 0 0];have ia:=(Below.refl w1.heap.size w1).alloc zR (.cells #[.slice none 0 0, .slice none 0 0, .slice none 0 0, .slice none 0 0] 166);replace kl:=ea kl ia;replace kt:=ea kt ia;replace aa:=ja aa ia;clear ia;obtain ⟨gv,XW⟩:=zEX (w1.heap.size);have eW:(w1.alloc (.cells #[.slice none 0 0, .slice none 0 0, .slice none 0 0, .slice none 0 0] 166)).heap.size=gv+1:=by rw [XW];simp
 rw [<- XW] at kv o0 |-;clear XW;generalize w1.alloc _=w2 at kl kt kv aa eW |-;have cl:=kl.cell;have cv:=kv.cell;have fv1:=kv.frozen;have lv:=kv.lt;have BW:=zH eW;clear eW;go_upto_region 3 with fail
 have eW:=BW.out;clear BW;clear cl cv fv1 lv;obtain ⟨gs,hgs⟩:=zEX (w2.heap.size);rw [<- hgs] at eW |-;have hg:=Pg (w:=w2) gv 0 (.slice (some ⟨gs,0,none⟩) L.secret L.secret);have bX:(w2.setCell ⟨gv,0,none⟩ (.slice (some ⟨gs,0,none⟩) L.secret L.secret)).heap.size=gs:=by rw [hgs];simp
 replace kv:=kv.set_ 0 (.slice (some ⟨gs,0,none⟩) L.secret L.secret);replace kv:Blk (w2.setCell ⟨gv,0,none⟩ (.slice (some ⟨gs,0,none⟩) L.secret L.secret)) gv 166 #[.slice (some ⟨gs,0,none⟩) L.secret L.secret, .slice none 0 0, .slice none 0 0, .slice none 0 0]:=by simpa using kv
 replace kl:=kl.grown hg (fun e=>by have:=Option.some.inj e;omega)
 replace kt:=kt.grown hg (fun e=>by have:=Option.some.inj e;omega)
 replace aa:=yc aa hg;clear hg hgs;generalize w2.setCell _ _=w3 at kl kt kv aa bX |-;have kg:=Blk.new w3 22 (Fa L.secret fun _=>0)
 have ia:=(Below.refl w3.heap.size w3).alloc zR (.cells (Fa L.secret fun _=>0) 22)
 replace kl:=ea kl ia;replace kt:=ea kt ia;replace kv:=ea kv ia;replace aa:=ja aa ia;have ff:gs+1 <= (w3.alloc (.cells (Fa L.secret fun _=>0) 22)).heap.size:=by simp;omega
 rw [bX] at kg;clear ia mk bX;generalize w3.alloc _=w4 at kl kt kv kg aa ff |-;have n1:w.heap.size<gv:=by omega
 have n2:w.heap.size+1<gv:=by omega
 have n3:gv<gs:=by omega
 clear eW o0;have H1:=zH (show (1:Int)=((pw (0*R):Nat):Int) by rw [Nat.zero_mul,mq.out];rfl)
 obtain ⟨V0,Wm⟩:∃ V0:Value,V0= .slice (some ⟨gs,0,none⟩) L.secret L.secret:=⟨_,rfl⟩;have kV:=zH Wm;rw [<- Wm] at kv;clear Wm;go_wp2_with fail
 go_loopw [8,9] (fun xv y wr=>∃ (k:Nat) (xs:Nat -> Value),k <= 3 /\ y= .int .i64 k /\ xv= .int .u64 (pw (k*R):Int) /\ Blk wr w.heap.size 35 #[.int .u64 L.p, .int .i64 L.block, .int .i64 L.queries, .int .i64 L.k, .int .i64 L.n, .int .i64 L.secret, .int .i64 L.rows, .int .i64 L.a, .int .i64 L.b, .int .i64 L.b, .int .i64 L.b] /\ Blk wr (w.heap.size+1) 25 #[.int .u64 L.p, .int .i64 pu, .int .i64 vars, .slice A R c] /\ Blk wr gv 166 #[V0,xs 0,xs 1,xs 2] /\ Blk wr gs 22 (Fa L.secret (fK k)) /\ (∀ j,j<k -> df (gs+1) none wr (xs j) (Sf L.p R ra j)) /\ (∀ j,k <= j -> xs j= .slice none 0 0) /\ Below w.heap.size w wr /\ gs+1 <= wr.heap.size) (fun _ y _=>3-(intOf y).toNat)
 case atStart=>exact ⟨0,fun _=>.slice none 0 0,by omega,rfl,by rw [<- H1.out],kl,kt,kv,by rw [HK0.out];exact kg,fun j h=>by omega,fun j _=>rfl,aa,ff⟩
 case round =>
  clear kl kt kv kg aa ff;obtain ⟨k,xs,hk,rfl,rfl,kl,kt,kv,kg,nZ,o4,aa,ff⟩:=hrel;by_cases oa:k<3
  ·have q1:(k:Int)<3:=by omega
   obtain ⟨wo,MY⟩:=zEX (wr);subst MY;have Sl:=o4 k zR;have ko:=zH nZ;have HTD:=zH o4;obtain ⟨kr,DN⟩:=zEX (k*R);have HKR:=zH DN;have FZ:=zH (show ∀ i (hi:i<rows.length),fI k (i+1)=cy L.p pu (pw (kr+i)) (fI k i) (Dd rows[i] k) (Dd rows[i] k).length from fun i hi=>by rw [DN];exact HIS.out k i hi)
   obtain ⟨fi,kU⟩:=zEX (fI k);have Y0:=zH (show fi 0=fK k by rw [kU];exact HI0.out k)
   have Z0:=zH (show fK (k+1)=fi R by rw [kU];exact HKS.out k)
   rw [<- kU] at FZ;obtain ⟨FP,yU⟩:∃ FP:Nat -> Nat,FP=fun i=>pw (kr+i):=⟨_,rfl⟩
   have HFP:=zH (show ∀ i,pw (kr+i)=FP i from fun i=>by rw [yU])
   have eY:=zH (show ∀ i,FP i<18446744073709551616 from fun i=>by rw [yU];exact oR.out _)
   have HFS:=zH (show ∀ i,FP i*ra%L.p=FP (i+1) from fun i=>by rw [yU];exact so.out _)
   have Ju:=zH (show (List.range R).map FP=Sf L.p R ra k by rw [yU,DN];exact Ri.out k)
   have HFE:=zH (show FP R=pw ((k+1)*R) by rw [yU,DN,Nat.succ_mul])
   have fG:=zH (show pw (k*R)=FP 0 by rw [yU,DN];rfl)
   rw [fG.out];have P9:Wk xs k (.slice none 0 0)=xs:=by rw [<- Sl,zDH]
   have kv1:Blk wo gv 166 #[V0,Wk xs k (.slice none 0 0) 0,Wk xs k (.slice none 0 0) 1,Wk xs k (.slice none 0 0) 2]:=by rw [P9];exact kv
   have ix:=fun (w:World) (x y z:Value)=>mE (w:=w) (x:=x) (y:=y) (z:=z) oa
   obtain ⟨k1,Lg⟩:=zEX (k+1);have ek:(k:Int)+1=(k1:Int):=by omega
   have Cv:=zd k1;have lS:=zH Lg;have qk:k1<4:=by omega
   have qk2:(k1:Int)<4:=by omega
   have y1:w.heap.size<wo.heap.size:=by omega
   have y2:w.heap.size+1<wo.heap.size:=by omega
   have y3:gv<wo.heap.size:=by omega
   have y4:gs<wo.heap.size:=by omega
   clear Sl P9 nZ o4 kv Lg DN kU yU;have ct0:=kt.cell;go_wp2_with fail
   clear ct0;go_loopw [8,10] (fun xv y wr=>∃ (i:Nat) (x:Value),i <= R /\ y= .int .i64 i /\ xv= .int .u64 (FP i:Int) /\ Blk wr gv 166 #[V0,Wk xs k x 0,Wk xs k x 1,Wk xs k x 2] /\ Blk wr gs 22 (Fa L.secret (fi i)) /\ wr.ownsRow wo.heap.size 22 1 x i (Ca ((List.range i).map FP)) /\ NV gv gs wo.heap.size wo wr) (fun _ y _=>R-(intOf y).toNat)
   case atStart=>exact ⟨0, .slice none 0 0,by omega,rfl,rfl,kv1,by rw [Y0.out];exact kg,⟨rfl, .inl ⟨rfl,rfl⟩⟩,zBX _ _ _ _⟩
   case round =>
    clear kv1 kg;obtain ⟨i,x,hi,rfl,rfl,kv,kg,ma,tb⟩:=hrel;have hsw:wo.heap.size <= wr.heap.size:=tb.1.size;have NA:=pY kt tb y2 (by omega) (by omega)
    have ct:=NA.cell;have lt:=NA.lt;by_cases ar:i<R
    ·have q2:(i:Int)<(R:Int):=by omega
     have q3:(0:Int) <= (i:Int):=by omega
     have q4:(0:Int) <= (k1:Int):=by omega
     have Mk:i<rows.length:=by have:=HRR.out;omega
     obtain ⟨b,q,rfl⟩:=za.base (by omega) (by omega)
     obtain ⟨cs,-,hc,u0,u1,u2,rfl,SU,ER,Xt⟩:=za.get Mk;have Na:=World.block_lt_of_cell? _ _ ((hc 0 (by omega)).trans (show [u0,u1,u2][0]?=some u0 from rfl))
     have HUC:=zH hc;have HU:=zH (show ∀ w',Below w.heap.size w w' -> RLin w' [if k=0 then u0 else if k=1 then u1 else u2] (Dd rows[i] k) from fun w' hb=>by
      unfold Dd;rcases (show k=0 \/ k=1 \/ k=2 by omega) with h | h | h <;> subst h
      ·exact se _ _ _ _ hb SU
      ·exact se _ _ _ _ hb ER
      ·exact se _ _ _ _ hb Xt)
     have ix1:=fun (w:World)=>ix w u0 u1 u2
     obtain ⟨sel,Kd⟩:=zEX ((if k=0 then u0 else if k=1 then u1 else u2))
     rw [<- Kd] at HU ix1;have Ff:=RSl.slc SU;have Zb:=RSl.slc ER;have td:=RSl.slc Xt;have fV:=zH (FZ.out i Mk);have HVi:=zH (EW.out i Mk k oa);obtain ⟨ts,CV⟩:=zEX (Dd rows[i] k);rw [<- CV] at HU fV HVi;rw [HFP.out] at fV;have HSn:=zH (iF FP i);have fZ:=zH (HFS.out i);obtain ⟨xm,EU⟩:=zEX (FP i);obtain ⟨xn,NY⟩:=zEX (FP (i+1));rw [<- EU,<- NY] at fZ;rw [<- EU] at HSn fV |-;have HXN:=zH NY;have HMx:=zH (fun w=>by have:=HM.out xm ra w;rw [fZ.out] at this;exact this)
     clear SU ER Xt Kd CV EU NY hc ix;obtain ⟨Ax,cx,rfl,-⟩:=Tb ma;have cv:wr.cell? ⟨gv,k1,none⟩=some (.slice Ax i cx):=by
      rw [kv.cell,lS.out,BG oa];simp [Wk]
     have lv:=kv.lt;have Vb:∀ q,(Value.slice Ax i cx).ownBlock=some q -> wo.heap.size <= q:=fun q e=>(ma.lt q e).1
     have ia:=(Below.refl wr.heap.size wr).alloc zR (.cells #[.int .u64 xm] 22);go_wp2_with (at_builtin;refine If rfl _ _ rfl Vi rfl (ma.alloc _) rfl (Uk _ _ _) (yg [xm]) (by omega) (by simp;omega) ?_)
     intro v' wn Ta Ha Ab;have hsA:wo.heap.size <= (wr.alloc (.cells #[.int .u64 xm] 22)).heap.size:=by simp;omega
     replace kv:=ea kv ia;replace kg:=ea kg ia;replace kv:=kv.grown Ha (fun e=>by first | (have:=Vb _ e;omega) | (have:=Vb _ e.symm;omega))
     replace kg:=kg.grown Ha (fun e=>by first | (have:=Vb _ e;omega) | (have:=Vb _ e.symm;omega))
     replace tb:=LX (LX tb (UZ ia hsw)) (R6 Ha (fun q e=>.inr (.inr (Vb q e))) hsA)
     replace Ta:wn.ownsRow wo.heap.size 22 1 v' (i+1) (Ca ((List.range (i+1)).map FP)):=Kr (b:=[xm]) Ta HSn.out;obtain ⟨Aw,cw,rfl,-⟩:=Tb Ta;have eX:wo.heap.size <= wn.heap.size:=tb.1.size;clear ma Ha Ab ia hsA cv lv ct lt NA;have cv:wn.cell? ⟨gv,k1,none⟩=some (.slice Ax i cx):=by
      rw [kv.cell,lS.out,BG oa];simp [Wk]
     have fv2:=kv.frozen;have NA:=pY kt tb y2 (by omega) (by omega)
     have ct:=NA.cell;go_upto_region 11 with fail
     have Oa:=Pg (w:=wn) gv k1 (.slice Aw (i+1) cw);replace kv:=kv.set_ k1 (.slice Aw (i+1) cw);rw [lS.out,wL oa,zDI,<- lS.out] at kv;replace kg:=kg.grown Oa (fun e=>by have:=Option.some.inj e;omega)
     have Wj:=Ze Ta Oa y3;replace tb:=LX tb (R6 Oa (fun q e=>.inl (Option.some.inj e).symm) eX)
     clear Ta Oa cv fv2 ct NA;generalize wn.setCell _ _=w5 at kv kg Wj tb |-;have Ma:=Q3 aa tb (by omega) (by omega) (by omega)
     have hcu:=HUC.out;have h0:=(Ma.cell (p:=⟨b,q+i*3+0,none⟩) Na).trans (hcu 0 (by omega))
     have h1:=(Ma.cell (p:=⟨b,q+i*3+1,none⟩) Na).trans (hcu 1 (by omega))
     have h2:=(Ma.cell (p:=⟨b,q+i*3+2,none⟩) Na).trans (hcu 2 (by omega))
     rw [Nat.add_zero] at h0;simp only [List.getElem?_cons_zero,List.getElem?_cons_succ] at h0 h1 h2;have NA:=pY kt tb y2 (by omega) (by omega)
     have ct:=NA.cell;have hs5:wo.heap.size <= w5.heap.size:=tb.1.size;clear hcu;go_wp2_with fail
     refine (CW.out u0 u1 u2 _ Ff Zb td).mono ?_;rintro e w6 ⟨rfl,Aa⟩;replace kv:=ea kv Aa;replace kg:=ea kg Aa;replace Wj:=db Wj Aa zR;replace tb:=LX tb (UZ Aa hs5);clear h0 h1 h2 ct NA Aa Ma hs5;have Cc:=Q3 aa tb (by omega) (by omega) (by omega)
     obtain ⟨As,ns,Bc,rfl⟩:=RSl.slc (HU.out _ Cc);have yp:=HU.out _ (Below.refl _ _);obtain ⟨A',n',c',he,Bf,Sc,kh,pj⟩:=yp;simp at he
     obtain ⟨rfl,rfl,rfl⟩:=he;have gns:=uj Sc kh;have Is:=zH Bf;obtain ⟨fT,WW⟩:=zEX (cy L.p pu xm (fi i) ts);have HT0:=zH (show fT 0=fi i by rw [WW];rfl)
     have HTS:=zH (show ∀ t,fT (t+1)=YB L.p pu xm (fT t) (ts.getD t (0,0)) from fun t=>by rw [WW];rfl)
     have HFN:=zH (show fi (i+1)=fT ns by rw [WW,<- Bf];exact fV.out)
     clear WW Bf Sc kh Cc fV;go_wp2_with fail
     go_loopw [12] (fun y wr=>∃ t:Nat,t <= ns /\ y= .int .i64 t /\ Blk wr gv 166 #[V0,Wk xs k (.slice Aw (i+1) cw) 0,Wk xs k (.slice Aw (i+1) cw) 1,Wk xs k (.slice Aw (i+1) cw) 2] /\ Blk wr gs 22 (Fa L.secret (fT t)) /\ wr.ownsRow wo.heap.size 22 1 (.slice Aw (i+1) cw) (i+1) (Ca ((List.range (i+1)).map FP)) /\ NV gv gs wo.heap.size wo wr) (fun y _=>ns-(intOf y).toNat)
     case atStart=>exact ⟨0,Nat.zero_le _,rfl,kv,by rw [HT0.out];exact kg,Wj,tb⟩
     case round =>
      clear kv kg Wj tb;obtain ⟨t,ht,rfl,kv,kg,Wj,tb⟩:=hrel;have hswr:wo.heap.size <= wr.heap.size:=tb.1.size;have gh:=Q3 aa tb (by omega) (by omega) (by omega)
      by_cases Ql:t<ns
      ·have q5:(t:Int)<(ns:Int):=by omega
       have q6:(0:Int) <= (t:Int):=by omega
       have Wt:t<ts.length:=by rw [Is.out];exact Ql
       obtain ⟨b',q',rfl⟩:=pj.base (by omega) (by omega)
       obtain ⟨Ph,Pm⟩:=RLin.at_ (pj.below yw gh) Wt;have hv:=HVi.out t Wt;have vo:=zH (HTS.out t);revert Ph Pm hv vo
       generalize ts.getD t (0,0)=tm;obtain ⟨v,co⟩:=tm;intro Ph Pm hv vo;simp only at Ph Pm hv;have Rj:=World.block_lt_of_cell? _ _ Ph;simp only at Rj;obtain ⟨v1,mf⟩:=zEX (v-1);obtain ⟨v2,Js⟩:=zEX (v1-(pu:Int));have Vt:=R5.out;have y1':v-1=v1:=mf.symm;have y2':IntKind.i64.wrap v1=v1:=Jf _ (by omega) (by omega)
       have y3':v1-(pu:Int)=v2:=Js.symm;have y4':IntKind.i64.wrap v2=v2:=Jf _ (by omega) (by omega)
       have EX:=zH (show fT (t+1)=if 0 <= v2 then Pe (fT t) v2.toNat ((fT t v2.toNat+xg L.p (xm*co%L.p))%L.p) else fT t by rw [vo.out,Js,mf];rfl)
       have Br:v2<(L.secret:Int):=by omega
       have NA:=pY kt tb y2 (by omega) (by omega)
       have ct:=NA.cell;have lt:=NA.lt;clear mf Js Vt hv vo;go_upto_region 15 with fail
       refine Pc (Bb) [] [0,1,2,3,4,5,6,7,8,9] (by kernel_rfl) (by kernel_rfl) ?_
       refine di (pa) ?_;intro Wc Ba da;have Ja:=Sg Ba;refine Kb ?_;refine pc ?_;have c2w:=(Ja.cell (p:=⟨b',q'+t*2+1,none⟩) Rj).trans Pm;replace Rj:=Nat.lt_of_lt_of_le Rj Ja.size;replace kv:=ea kv Ja;replace kg:=ea kg Ja;replace Wj:=db Wj Ja zR;replace tb:=LX tb (UZ Ja hswr);clear ct lt NA da Ph Pm;have hs7:wo.heap.size <= Wc.heap.size:=tb.1.size;generalize Wc=w7 at kv kg Wj tb c2w Rj hs7 |-;by_cases hz:0 <= v2
       ·have d1:decide ((0:Int) <= v2)=true:=decide_eq_true hz
        obtain ⟨s,rfl⟩:=Int.eq_ofNat_of_zero_le hz;have RD:s<L.secret:=by omega
        obtain ⟨a,ha⟩:=zEX (fT t s);obtain ⟨u,hu⟩:=zEX (xm*co%L.p);obtain ⟨r,hr⟩:=zEX ((a+xg L.p u)%L.p);have Xf:=zH (show (Fa L.secret (fT t)).setIfInBounds s (.int .u64 r)=Fa L.secret (fT (t+1)) by
         rw [Tm,EX.out,if_pos hz,Int.toNat_natCast,hr,hu,ha])
        have ke:Hid (∀ w:World,Calls Tryz.prog 150 #[.int .u64 L.p, .int .u64 xm, .int .u64 co] w fun e w'=>e= .returned (.int .u64 u) /\ Below w.heap.size w w'):=zH (fun w=>by rw [hu];exact HM.out xm co w)
        have Eg:Hid (∀ w:World,Calls Tryz.prog 151 #[.int .u64 L.p, .int .u64 a, .int .u64 u] w fun e w'=>e= .returned (.int .u64 r) /\ Below w.heap.size w w'):=zH (fun w=>by rw [hr];exact HS.out a u w)
        have HA:=zH ha;clear hu hr ha;go_upto_region 17 with fail
        have NA:=pY kt tb y2 (by omega) (by omega)
        have ct:=NA.cell;have lt:=NA.lt;have cv:=kv.cell 0;have lv:=kv.lt;rw [show (#[V0,Wk xs k (.slice Aw (i+1) cw) 0,Wk xs k (.slice Aw (i+1) cw) 1,Wk xs k (.slice Aw (i+1) cw) 2]:Array Value)[0]?=some V0 from rfl,kV.out] at cv
        have cg:=kg.cell s;rw [Fe _ RD,<- HA.out] at cg;have lg:=kg.lt;refine xd (Bb) (pa) [21] [21] [0,1,2,3,4,5,6,7,8,9,10,11,12,13,14,15,16,17,18,19,20,21] (by kernel_rfl) (by kernel_rfl) ?_
        refine yd (pa) ?_;intro Wc da;refine Qb ?_;refine Jb (pa) rfl rfl rfl rfl (fun _ _ _ h=>h) (fun _=>by go_simp <;> rfl) (fun w' hR=>ke.out _) ?_
        simp only [Act.put,zLa,zLb,zLc];refine Qb ?_;refine Jb (pa) rfl rfl rfl rfl (fun _ _ _ h=>h) (fun _=>by go_simp <;> rfl) (fun w' hR=>Eg.out _) ?_
        simp only [Act.put,zLa,zLb,zLc];refine Qb ?_;refine Hf rfl rfl rfl rfl ?_;intro wh xb;replace da:=(pa).trans _ _ _ da xb;have rb:=ja (Below.refl w7.heap.size w7).drew da;replace kv:=ea kv rb;replace kg:=ea kg rb;replace Wj:=db Wj rb zR;replace tb:=LX tb (UZ rb hs7);clear rb da xb ct lt NA cv lv cg lg;have c3:=kg.cell s;rw [Fe _ RD] at c3;have f3:=kg.frozen;have hs8:wo.heap.size <= wh.heap.size:=tb.1.size;go_simp;refine ⟨fun h=>Bool.noConfusion h,?_⟩
        have hg:=Pg (w:=wh) gs s (.int .u64 r);replace kg:=kg.set_ s (.int .u64 r);rw [Xf.out] at kg;replace kv:=kv.grown hg (fun e=>by have:=Option.some.inj e;omega)
        have O9:=Ze Wj hg y4;replace tb:=LX tb (R6 hg (fun q e=>.inr (.inl (Option.some.inj e).symm)) hs8)
        clear hg f3 c3 Wj;generalize wh.setCell _ _=we at kg kv O9 tb |-;refine Uf rfl ?_;go_wp2_with fail
        go_roundw
        case rel=>exact ⟨t+1,by omega,by go_num,kv,kg,O9,tb⟩
        case measure=>simp [intOf];omega
       ·have d1:decide ((0:Int) <= v2)=false:=decide_eq_false hz
        have U5:=zH (show fT (t+1)=fT t by rw [EX.out,if_neg hz])
        go_wp2_with fail
        go_roundw
        case rel=>exact ⟨t+1,by omega,by go_num,kv,by rw [U5.out];exact kg,Wj,tb⟩
        case measure=>simp [intOf];omega
      ·obtain rfl:t=ns:=by omega
       have q5:¬((t:Int)<(t:Int)):=by omega
       rw [<- HFN.out] at kg;have NA:=pY kt tb y2 (by omega) (by omega)
       have ct:=NA.cell;go_wp2_with fail
       refine (HMx.out _).mono ?_;rintro e w8 ⟨rfl,Aa⟩;replace kv:=ea kv Aa;replace kg:=ea kg Aa;replace Wj:=db Wj Aa zR;replace tb:=LX tb (UZ Aa hswr);go_wp2_with fail
       go_roundw
       case rel=>exact ⟨i+1,_,by omega,by go_num,by rw [<- HXN.out],kv,kg,Wj,tb⟩
       case measure=>simp [intOf];omega
    ·obtain rfl:i=R:=by omega
     have q2:¬((i:Int)<(i:Int)):=by omega
     rw [<- Z0.out] at kg;have klr:=pY kl tb y1 (by omega) (by omega)
     have Qa:=Q3 aa tb (by omega) (by omega) (by omega)
     have hx:=TB (N:=gs+1) (gb:=none) ma (fun x hx=>by obtain ⟨m,-,rfl⟩:=List.mem_map.1 hx;exact eY.out m) (by omega) (fun q e=>by cases e)
     rw [Ju.out] at hx;have HD2:=zH (show ∀ j,j<k+1 -> df (gs+1) none wr (Wk xs k x j) (Sf L.p i ra j) from fun j hj=>by
      unfold Wk;split
      ·rename_i h;rw [h];exact hx
      ·rename_i h
       refine Lp (ko.out j (by omega)) hsw fun b h1 h2 _=>tb.2 b h2 (by omega) (by omega))
     have DW:=zH (show ∀ j,k+1 <= j -> Wk xs k x j= .slice none 0 0 from fun j hj=>by
      unfold Wk;rw [if_neg (by omega)]
      exact HTD.out j (by omega))
     clear hx ma;go_wp2_with fail
     go_roundw
     case rel=>exact ⟨k+1,Wk xs k x,by omega,by go_num,by rw [HFE.out],klr,NA,kv,kg,HD2.out,DW.out,Qa,by omega⟩
     case measure=>simp [intOf];omega
  ·obtain rfl:k=3:=by omega
   have h0:=U7 (nZ 0 (by omega))
   have h1:=U7 (nZ 1 (by omega))
   have h2:=U7 (nZ 2 (by omega))
   obtain ⟨A1,c1,e1⟩:=pS h0;obtain ⟨A2,c2,e2⟩:=pS h1;obtain ⟨A3,c3,e3⟩:=pS h2;have hS:=Gv kg (fun m _=>HKX.out 3 m) (by simp [maxLen];omega)
   rw [<- kV.out] at hS;have HH:=zH (fun (w':World) (hb:Below wr.heap.size wr w')=>P5.out V0 (xs 0) (xs 1) (xs 2) _ _ _ _ w' (mK (ib hb hS) (ib hb h0) (ib hb h1) (ib hb h2)))
   rw [e1,e2,e3,kV.out] at kv HH;have cl:=kl.cell;have cv:=kv.cell;have ll:=kl.lt;have lv:=kv.lt;clear nZ o4 h0 h1 h2 hS e1 e2 e3;go_wp2_with fail
   refine (HH.out _ (Below.refl _ _)).mono ?_;rintro e w9 ⟨v,rfl,hv,Aa⟩;go_wp2;go_ret
   exact ⟨v,rfl,hv,ja aa Aa⟩
end Go.Proofs.YtjipleoamlmkfaaGreat
namespace Go.Proofs.YtjipleoamlmkfaaGreat
def IV (s pu x:Nat) (t:Int × Nat):Int:=if t.1-1-(pu:Int)=(s:Int) then (x:Int)*(t.2:Int) else 0
theorem zDx {p:Nat} (hp:1<p) (pu x:Nat) (f:Nat -> Nat) (t:Int × Nat) (s:Nat):Cg p (YB p pu x f t s:Int) ((f s:Int)-IV s pu x t):=by
 unfold YB IV;by_cases h:0 <= t.1-1-(pu:Int)
 ·rw [if_pos h]
  by_cases e:t.1-1-(pu:Int)=(s:Int)
  ·rw [if_pos e,e,Int.toNat_natCast]
   unfold Pe;rw [if_pos rfl];refine (Cg.mod _).trans ((Cg.of_eq (Int.natCast_add _ _)).trans ?_);refine (Cg.rfl'.add ((mX p _ (by omega)).trans ?_)).trans (Cg.of_eq (Int.sub_eq_add_neg).symm)
   exact Cg.neg ((Cg.mod _).trans (Cg.of_eq (Int.natCast_mul _ _)))
  ·rw [if_neg e]
   unfold Pe;rw [if_neg (by omega)]
   exact Cg.of_eq (by omega)
 ·rw [if_neg h,if_neg (by omega)]
  exact Cg.of_eq (by omega)
theorem Z7 {p:Nat} {a b t u:Int} (h:Cg p a (b-t)):Cg p (a-u) (b-(t+u)):=by
 obtain ⟨c,hc⟩:=h;exact ⟨c,by omega⟩
theorem zAg {p:Nat} {a t u:Int} (h:Cg p a (-t)):Cg p (a-u) (-(t+u)):=by
 obtain ⟨c,hc⟩:=h;exact ⟨c,by omega⟩
theorem V7 {p:Nat} (hp:1<p) (pu x:Nat) (f:Nat -> Nat) (ts:List (Int × Nat)) (s:Nat):∀ n,Cg p (cy p pu x f ts n s:Int) ((f s:Int)-Sb (fun t=>IV s pu x (ts.getD t (0,0))) n)
 | 0=>Cg.of_eq (by rw [Sb];show (f s:Int)=_;omega)
 | n+1=>by
  rw [Sb];refine (zDx hp pu x _ _ s).trans ?_;exact Z7 (V7 hp pu x f ts s n)
def rW (p pu n ra:Nat) (rows:List Ya) (s j i:Nat):Int:=Sb (fun t=>IV s pu (ra^(j*n+i)%p) ((Dd (rows.getD i ⟨[],[],[]⟩) j).getD t (0,0))) (Dd (rows.getD i ⟨[],[],[]⟩) j).length
theorem zAO {p:Nat} (hp:1<p) (pu n ra:Nat) (rows:List Ya) (i:Nat) (f:Nat -> Nat) (s:Nat):∀ j,Cg p (tu p pu n ra (rows.getD i ⟨[],[],[]⟩) i f j s:Int) ((f s:Int)-Sb (fun j=>rW p pu n ra rows s j i) j)
 | 0=>Cg.of_eq (by rw [Sb];show (f s:Int)=_;omega)
 | j+1=>by
  rw [Sb];refine (V7 hp pu _ _ _ s _).trans ?_;exact Z7 (zAO hp pu n ra rows i f s j)
theorem zAN {p:Nat} (hp:1<p) (pu n ra:Nat) (rows:List Ya) (s:Nat):∀ i,Cg p (tF p pu n ra rows i s:Int) (-(Sb (fun i=>Sb (fun j=>rW p pu n ra rows s j i) 3) i))
 | 0=>Cg.of_eq rfl
 | i+1=>by
  rw [Sb];refine (zAO hp pu n ra rows i _ s 3).trans ?_;exact zAg (zAN hp pu n ra rows s i)
theorem V8 {p:Nat} (hp:1<p) (pu n ra:Nat) (rows:List Ya) (k:Nat) (f:Nat -> Nat) (s:Nat):∀ i,Cg p (PZ p pu n ra rows k f i s:Int) ((f s:Int)-Sb (fun i=>rW p pu n ra rows s k i) i)
 | 0=>Cg.of_eq (by rw [Sb];show (f s:Int)=_;omega)
 | i+1=>by
  rw [Sb];refine (V7 hp pu _ _ _ s _).trans ?_;exact Z7 (V8 hp pu n ra rows k f s i)
theorem u6 {p:Nat} (hp:1<p) (pu n ra:Nat) (rows:List Ya) (s:Nat):∀ k,Cg p (oV p pu n ra rows k s:Int) (-(Sb (fun k=>Sb (fun i=>rW p pu n ra rows s k i) n) k))
 | 0=>Cg.of_eq rfl
 | k+1=>by
  rw [Sb];refine (V8 hp pu n ra rows k _ s n).trans ?_;exact zAg (u6 hp pu n ra rows s k)
theorem zDq {p:Nat} (hp:1<p) (pu n ra:Nat) (rows:List Ya) (s:Nat):∀ i,tF p pu n ra rows i s<p:=by
 have hT:∀ (x:Nat) (f:Nat -> Nat) ts t,(∀ k,f k<p) -> ∀ k,cy p pu x f ts t k<p:=fun x f ts t hf=>by
  induction t with
  | zero=>exact hf
  | succ t ih =>
   intro k;show YB p pu x (cy p pu x f ts t) _ k<_
   unfold YB;split
   ·unfold Pe
    split
    ·exact Nat.mod_lt _ (by omega)
    ·exact ih k
   ·exact ih k
 have hS:∀ r i (f:Nat -> Nat),(∀ k,f k<p) -> ∀ j k,tu p pu n ra r i f j k<p:=fun r i f hf j=>by
  induction j with
  | zero=>exact hf
  | succ j ih=>exact hT _ _ _ _ ih
 have hR:∀ i k,tF p pu n ra rows i k<p:=fun i=>by
  induction i with
  | zero=>intro k;show 0<p;omega
  | succ i ih=>exact hS _ _ _ ih 3
 exact fun i=>hR i s
theorem zBH {p:Nat} (hp:1<p) (pu n ra:Nat) (rows:List Ya) (s:Nat):∀ k,oV p pu n ra rows k s<p:=by
 have hT:∀ (x:Nat) (f:Nat -> Nat) ts t,(∀ k,f k<p) -> ∀ k,cy p pu x f ts t k<p:=fun x f ts t hf=>by
  induction t with
  | zero=>exact hf
  | succ t ih =>
   intro k;show YB p pu x (cy p pu x f ts t) _ k<_
   unfold YB;split
   ·unfold Pe
    split
    ·exact Nat.mod_lt _ (by omega)
    ·exact ih k
   ·exact ih k
 have hI:∀ k (f:Nat -> Nat),(∀ s,f s<p) -> ∀ i s,PZ p pu n ra rows k f i s<p:=fun k f hf i=>by
  induction i with
  | zero=>exact hf
  | succ i ih=>exact hT _ _ _ _ ih
 have hK:∀ k s,oV p pu n ra rows k s<p:=fun k=>by
  induction k with
  | zero=>intro s;show 0<p;omega
  | succ k ih=>exact hI _ _ ih n
 exact fun k=>hK k s
theorem zDp {p:Nat} (hp:1<p) (pu ra:Nat) (rows:List Ya) (n s:Nat):tF p pu n ra rows n s=oV p pu n ra rows 3 s:=by
 refine Cg.eq (p:=p) ((zAN hp pu n ra rows s n).trans (Cg.trans (Cg.of_eq ?_) (u6 hp pu n ra rows s 3).symm)) (zDq hp _ _ _ _ _ _) (zBH hp _ _ _ _ _ _);rw [cY (fun i j=>rW p pu n ra rows s j i) 3 n]
theorem zBC {L:Va} (hp:1<L.p) (pu ra:Nat) (rows:List Ya):dt L pu ra rows=Uu L pu ra rows:=by
 unfold dt Uu;rw [List.map_congr_left fun s _=>zDp hp pu ra rows rows.length s]
end Go.Proofs.YtjipleoamlmkfaaGreat
namespace Go.Proofs.YtjipleoamlmkfaaGreat
theorem CE {p:Nat} {n:Int} {l:List (Int × Nat)} (h:ue p n l=true):∀ t∈l,0 <= t.1 /\ t.1<n:=fun t ht=>by
 obtain ⟨i,hi,rfl⟩:=List.getElem_of_mem ht;unfold ue at h;have h1:=List.all_eq_true.1 h i (List.mem_range.2 hi);have e:l.getD i (0,0)=l[i]:=by rw [List.getD_eq_getElem?_getD,List.getElem?_eq_getElem hi];rfl
 unfold tj at h1;rw [e] at h1;simp only [Bool.not_eq_true',Bool.or_eq_false_iff,decide_eq_false_iff_not] at h1;omega
theorem qT {p:Nat} {pub vars:Int} {rows:List Ya} (h:Gb p pub vars rows=true):pA vars rows:=fun r hr k hk t ht=>by
 unfold Gb at h;rw [Bool.and_eq_true] at h;have h1:=List.all_eq_true.1 h.2 r hr;unfold qh at h1;rw [Bool.and_eq_true,Bool.and_eq_true] at h1;unfold Dd at ht;rcases (show k=0 \/ k=1 \/ k=2 by omega) with e | e | e <;> subst e
 ·exact CE h1.1.1 t ht
 ·exact CE h1.1.2 t ht
 ·exact CE h1.2 t ht
theorem YS {L:Va} {p pu:Nat} {vars bl bw qs:Int} {rows:List Ya} (h:Gb p (pu:Int) vars rows=true) (hF:Lm L ⟨p,(pu:Int),vars,rows.length,bl,bw,qs⟩):ux L pu vars rows:=by
 simp only [Gb,Bool.and_eq_true,Bool.not_eq_true',decide_eq_false_iff_not] at h;have h1:L.rows=rows.length:=by rw [hF.eq];rfl
 have h2:L.secret=(vars-1-(pu:Int)).toNat:=by rw [hF.eq];rfl
 have h3:=hF.vars;simp only at h3;exact ⟨h1,by omega,by omega⟩
end Go.Proofs.YtjipleoamlmkfaaGreat
namespace Go.Proofs.YtjipleoamlmkfaaGreat
open Go.RowKit
theorem JF (p s:Nat) (r:List Nat) (m:Nat) (hp:0<p):Yf (af p s r m) m p=true:=by
 unfold Yf af;rw [Bool.and_eq_true];refine ⟨by simp,List.all_eq_true.2 fun x hx=>?_⟩
 obtain ⟨k,-,rfl⟩:=List.mem_map.1 hx;exact decide_eq_true (Nat.mod_lt _ hp)
theorem UG (L:Va) (s:Nat) (hp:0<L.p):Qm L (Tn L s (L.a+L.b+L.b+L.b)) (af L.p s [1] L.k) (af L.p s [2] (L.k+L.block-2)) (af L.p s [3] (L.block+2*L.queries-1)) (af Xa s [4] L.n)=true:=by
 unfold Qm;simp only [JF _ _ _ _ hp,JF Xa _ _ _ (show 0<Xa by decide)]
 have:(Tn L s (L.a+L.b+L.b+L.b)).all (fun l=>Yf l L.queries L.p)=true:=List.all_eq_true.2 fun l hl=>by
  obtain ⟨k,-,rfl⟩:=List.mem_map.1 hl;exact JF _ _ _ _ hp
 simp [Tn] at this |-
 exact this
end Go.Proofs.YtjipleoamlmkfaaGreat
namespace Go.Proofs.YtjipleoamlmkfaaGreat
def tgI (p n ra:Nat) (ws:List Nat) (rows:List Ya) (k s:Nat):Nat -> Nat
 | 0=>s
 | i+1=>(tgI p n ra ws rows k s i+ra^(k*n+i)%p*ud p (Dd (rows.getD i ⟨[],[],[]⟩) k) ws%p)%p
def JV (p n ra:Nat) (ws:List Nat) (rows:List Ya):Nat -> Nat
 | 0=>0
 | k+1=>tgI p n ra ws rows k (JV p n ra ws rows k) n
def tgT (p n ra:Nat) (ws:List Nat) (rows:List Ya) (k i:Nat):Int:=((ra^(k*n+i)%p:Nat):Int)*((ud p (Dd (rows.getD i ⟨[],[],[]⟩) k) ws:Nat):Int)
theorem D8 {p:Nat} {a:Nat} {s:Int} (h:Cg p (a:Int) s) (x y:Nat):Cg p (((a+x*y%p)%p:Nat):Int) (s+(x:Int)*(y:Int)):=by
 refine (Cg.mod _).trans ((Cg.of_eq (Int.natCast_add _ _)).trans ?_);exact h.add ((Cg.mod _).trans (Cg.of_eq (Int.natCast_mul _ _)))
theorem zAZ {p:Nat} (n ra:Nat) (ws:List Nat) (rows:List Ya) (k s:Nat):∀ i,Cg p (tgI p n ra ws rows k s i:Int) ((s:Int)+Sb (fun i=>tgT p n ra ws rows k i) i)
 | 0=>Cg.of_eq (by rw [Sb];show (s:Int)=_;omega)
 | i+1=>by
  rw [Sb];refine (D8 (zAZ n ra ws rows k s i) _ _).trans (Cg.of_eq ?_);unfold tgT;omega
theorem zA0 {p:Nat} (n ra:Nat) (ws:List Nat) (rows:List Ya):∀ k,Cg p (JV p n ra ws rows k:Int) (Sb (fun k=>Sb (fun i=>tgT p n ra ws rows k i) n) k)
 | 0=>Cg.rfl'
 | k+1=>by
  rw [Sb];exact (zAZ n ra ws rows k _ n).trans ((zA0 n ra ws rows k).add Cg.rfl')
theorem tgI_lt {p:Nat} (hp:0<p) (n ra:Nat) (ws:List Nat) (rows:List Ya) (k:Nat) {s:Nat} (hs:s<p):∀ i,tgI p n ra ws rows k s i<p
 | 0=>hs
 | _+1=>Nat.mod_lt _ hp
theorem zA1 {p:Nat} (hp:0<p) (n ra:Nat) (ws:List Nat) (rows:List Ya):∀ k,JV p n ra ws rows k<p
 | 0=>hp
 | k+1=>tgI_lt hp _ _ _ _ _ (zA1 hp n ra ws rows k) n
end Go.Proofs.YtjipleoamlmkfaaGreat
namespace Go.Proofs.YtjipleoamlmkfaaGreat
open Go.RowKit
theorem zC4 (L:Va) (pu ra:Nat) (vars:Int) (A B:Option Addr) (R c d:Nat) (rows:List Ya) (pub:List Nat) (w:World) (hL:Vc L) (hF:ux L pu vars rows) (hr:RSl 3 Md w [.slice A R c] rows) (pH:RWd w [.slice B pu d] pub) :
  Calls Tryz.prog 71 #[.agg (Ua L),Ib L.p (pu:Int) vars (.slice A R c), .slice B pu d, .int .u64 ra] w fun e w'=>e= .returned (.int .u64 (JV L.p rows.length ra (1 :: pub) rows 3:Int)) /\ Below w.heap.size w w':=by
 obtain ⟨A',n',c',he,Bf,Sc,kh,za⟩:=hr;simp at he
 obtain ⟨rfl,rfl,rfl⟩:=he;have Ol:=hL.r;have RU:=hF.nr;have tn:=hF.small;have hR:R=rows.length:=Bf.symm;have gR:R <= 16384:=by omega
 have HM:=zH (fun a b w=>PB L.p a b w hL.p)
 have HA:=zH (fun a b w=>Yx L.p a b w hL.p)
 have CW:=zH (fun x y z w hx hy hz=>zAG x y z w hx hy hz)
 have HVl:=zH (fun A len c l B n d ws w hl hw=>eF L.p A B len c n d l ws w hl hw hL.p)
 obtain ⟨pw,rp⟩:∃ pw:Nat -> Nat,pw=fun i=>ra^i%L.p:=⟨_,rfl⟩
 have mq:=zH (show pw 0=1 by rw [rp];show ra^0%L.p=1;rw [Nat.pow_zero];exact Nat.mod_eq_of_lt (by have:=nc hL.p;omega))
 have so:=zH (show ∀ i,pw (i+1)=pw i*ra%L.p from fun i=>by rw [rp];show ra^(i+1)%L.p=ra^i%L.p*ra%L.p;rw [Nat.mod_mul_mod,Nat.pow_succ])
 obtain ⟨MV,p4⟩:=zEX (1 :: pub);obtain ⟨fK,VW⟩:=zEX (JV L.p rows.length ra MV rows);obtain ⟨fI,UW⟩:=zEX (fun k=>tgI L.p rows.length ra MV rows k (fK k))
 have HK0:=zH (show fK 0=0 by rw [VW];rfl)
 have HKS:=zH (show ∀ k,fK (k+1)=fI k R from fun k=>by rw [UW,VW,hR];rfl)
 have HI0:=zH (show ∀ k,fK k=fI k 0 from fun k=>by rw [UW];rfl)
 have HIS:=zH (show ∀ k i (hi:i<rows.length),fI k (i+1)=(fI k i+pw (k*R+i)*ud L.p (Dd rows[i] k) MV%L.p)%L.p from fun k i hi=>by
  have e:rows.getD i ⟨[],[],[]⟩=rows[i]:=by rw [List.getD_eq_getElem?_getD,List.getElem?_eq_getElem hi];rfl
  rw [UW,hR,rp];show (tgI L.p rows.length ra MV rows k (fK k) i+ra^(k*rows.length+i)%L.p*ud L.p (Dd (rows.getD i ⟨[],[],[]⟩) k) MV%L.p)%L.p=_
  rw [e])
 have EZ:=zH (show JV L.p rows.length ra (1 :: pub) rows 3=fK 3 by rw [VW,p4])
 rw [EZ.out];have qq:=zH (show [1]++pub=MV from p4.symm)
 have Fb:=zH (show ∀ x∈MV,x<18446744073709551616 from fun x hx=>by
  rw [p4] at hx;rcases List.mem_cons.1 hx with h | h
  ·rw [h];decide
  ·exact (zb pH).2.2.2.1 x h)
 have hrp:=(zb pH).2.2.2.2;have HRR:=zH hR;have HSM:=zH (show pu <= 4294967296 by omega)
 have gRi:(R:Int) <= 16384:=by omega
 clear rp VW UW hL hF Ol RU tn Sc kh Bf hR EZ p4;unfold Ua Ib at *;obtain ⟨kl,kt,aa,-⟩:=ah w 35 25 #[.int .u64 L.p, .int .i64 L.block, .int .i64 L.queries, .int .i64 L.k, .int .i64 L.n, .int .i64 L.secret, .int .i64 L.rows, .int .i64 L.a, .int .i64 L.b, .int .i64 L.b, .int .i64 L.b] #[.int .u64 L.p, .int .i64 pu, .int .i64 vars, .slice A R c];go_enter Tryz.func71,Tryz.ntmps71
 go_upto_region 1 with fail
 generalize (w.alloc _).alloc _=w4 at kl kt aa |-;have ph:=World.ownsRow_lit (base:=w4.heap.size) (e:=22) (size:=1) w4 #[.int .u64 1] 1 zR (by simp [maxLen]) rfl
 have ia:=(Below.refl w4.heap.size w4).alloc zR (.cells #[.int .u64 1] 22);go_wp2_with (at_builtin;refine If rfl _ _ rfl Vi rfl ph rfl ((hrp.below aa).alloc _) (yg pub) (by have:=HSM.out;omega) (by simp) ?_)
 intro vk w5 ma Ha Ab;have uv:=mh ph Ha (by simp)
 replace uv:=ia.trans uv;have Wj:w5.ownsRow w4.heap.size 22 1 vk (1+pu) (Ca MV):=Kr (a:=[1]) ma qq.out;obtain ⟨Ak,ck,rfl,-⟩:=Tb Wj;have hk:=Fh Wj Fb.out;obtain ⟨nk,EN⟩:=zEX (1+pu);rw [<- EN] at hk |-;replace kl:=ea kl uv;replace kt:=ea kt uv;replace aa:=ja aa uv;clear uv ph ia ma Ha Ab Wj EN kl;have H1:=zH (show (1:Int)=((pw (0*R):Nat):Int) by rw [Nat.zero_mul,mq.out];rfl)
 go_wp2_with fail
 go_loopw [10,11,12] (fun s xv y wr=>∃ k:Nat,k <= 3 /\ y= .int .i64 k /\ s= .int .u64 (fK k:Int) /\ xv= .int .u64 (pw (k*R):Int) /\ Below w5.heap.size w5 wr) (fun _ _ y _=>3-(intOf y).toNat)
 case atStart=>exact ⟨0,by omega,rfl,by rw [HK0.out];rfl,by rw [<- H1.out],Below.refl _ _⟩
 case round =>
  obtain ⟨k,hk3,rfl,rfl,rfl,hb⟩:=hrel;by_cases oa:k<3
  ·have q1:(k:Int)<3:=by omega
   obtain ⟨kr,DN⟩:=zEX (k*R);have FZ:=zH (show ∀ i (hi:i<rows.length),fI k (i+1)=(fI k i+pw (kr+i)*ud L.p (Dd rows[i] k) MV%L.p)%L.p from fun i hi=>by rw [DN];exact HIS.out k i hi)
   obtain ⟨FP,yU⟩:∃ FP:Nat -> Nat,FP=fun i=>pw (kr+i):=⟨_,rfl⟩
   have HFP:=zH (show ∀ i,pw (kr+i)=FP i from fun i=>by rw [yU])
   have HFS:=zH (show ∀ i,FP (i+1)=FP i*ra%L.p from fun i=>by rw [yU];exact so.out _)
   have HFE:=zH (show FP R=pw ((k+1)*R) by rw [yU,DN,Nat.succ_mul])
   have fG:=zH (show pw (k*R)=FP 0 by rw [yU,DN];rfl)
   have Y0:=zH (HI0.out k);have Z0:=zH (HKS.out k);obtain ⟨fi,kU⟩:=zEX (fI k);rw [<- kU] at FZ Y0 Z0;rw [fG.out,Y0.out];have ix:=fun (w:World) (x y z:Value)=>mE (w:=w) (x:=x) (y:=y) (z:=z) oa
   have q4:(0:Int) <= (k:Int):=by omega
   clear DN yU kU;go_wp2_with fail
   go_loopw [10,11,13] (fun s xv y wr=>∃ i:Nat,i <= R /\ y= .int .i64 i /\ s= .int .u64 (fi i:Int) /\ xv= .int .u64 (FP i:Int) /\ Below w5.heap.size w5 wr) (fun _ _ y _=>R-(intOf y).toNat)
   case atStart=>exact ⟨0,Nat.zero_le _,rfl,rfl,rfl,hb⟩
   case round =>
    clear hb;obtain ⟨i,hi,rfl,rfl,rfl,hb⟩:=hrel;have fJ:=ea kt hb;have ct:=fJ.cell;have lt:=fJ.lt;by_cases ar:i<R
    ·have q2:(i:Int)<(R:Int):=by omega
     have q3:(0:Int) <= (i:Int):=by omega
     have Mk:i<rows.length:=by have:=HRR.out;omega
     obtain ⟨b,q,rfl⟩:=za.base (by omega) (by omega)
     obtain ⟨cs,-,hc,u0,u1,u2,rfl,SU,ER,Xt⟩:=za.get Mk;have gh:=ja aa hb;have Na:=World.block_lt_of_cell? _ _ ((hc 0 (by omega)).trans (show [u0,u1,u2][0]?=some u0 from rfl))
     have h0:=(gh.cell (p:=⟨b,q+i*3+0,none⟩) Na).trans (hc 0 (by omega))
     have h1:=(gh.cell (p:=⟨b,q+i*3+1,none⟩) Na).trans (hc 1 (by omega))
     have h2:=(gh.cell (p:=⟨b,q+i*3+2,none⟩) Na).trans (hc 2 (by omega))
     rw [Nat.add_zero] at h0;simp only [List.getElem?_cons_zero,List.getElem?_cons_succ] at h0 h1 h2;have Za:=World.block_lt_of_cell? _ _ h0;obtain ⟨sel,Kd⟩:=zEX ((if k=0 then u0 else if k=1 then u1 else u2))
     have qj:RLin w [sel] (Dd rows[i] k):=by
      rw [Kd];unfold Dd;rcases (show k=0 \/ k=1 \/ k=2 by omega) with h | h | h <;> subst h
      ·exact SU
      ·exact ER
      ·exact Xt
     have ix1:=fun (w:World)=>by have:=ix w u0 u1 u2;rw [<- Kd] at this;exact this
     have Ff:=RSl.slc SU;have Zb:=RSl.slc ER;have td:=RSl.slc Xt;obtain ⟨As,ns,Bc,rfl⟩:=RSl.slc qj;have fV:=zH (FZ.out i Mk);rw [HFP.out] at fV;have fZ:=zH (HFS.out i);obtain ⟨ts,CV⟩:=zEX (Dd rows[i] k);rw [<- CV] at qj fV;obtain ⟨xm,EU⟩:=zEX (FP i);obtain ⟨xn,NY⟩:=zEX (FP (i+1));obtain ⟨s0,GY⟩:=zEX (fi i);obtain ⟨s1,Gc⟩:=zEX (fi (i+1));obtain ⟨u,hu⟩:=zEX (ud L.p ts MV);obtain ⟨v,hv⟩:=zEX (xm*u%L.p);rw [<- EU,<- NY] at fZ;rw [<- EU,<- GY,<- Gc,<- hu,<- hv] at fV;rw [<- EU,<- GY];have HXN:=zH NY;have Eg:=zH Gc;have Gm:Hid (∀ w':World,Below w5.heap.size w5 w' -> Calls Tryz.prog 120 #[.int .u64 L.p, .slice As ns Bc, .slice Ak nk ck] w' fun e w2=>e= .returned (.int .u64 u) /\ Below w'.heap.size w' w2):=zH (fun w' Qo=>by rw [hu];exact HVl.out As ns Bc ts Ak nk ck MV w' (se _ _ _ _ (ja aa Qo) qj) (ib Qo hk))
     have ke:Hid (∀ w:World,Calls Tryz.prog 150 #[.int .u64 L.p, .int .u64 xm, .int .u64 u] w fun e w'=>e= .returned (.int .u64 v) /\ Below w.heap.size w w'):=zH (fun w=>by rw [hv];exact HM.out xm u w)
     have Zc:Hid (∀ w:World,Calls Tryz.prog 69 #[.int .u64 L.p, .int .u64 s0, .int .u64 v] w fun e w'=>e= .returned (.int .u64 s1) /\ Below w.heap.size w w'):=zH (fun w=>by rw [fV.out];exact HA.out s0 v w)
     have rq:Hid (∀ w:World,Calls Tryz.prog 150 #[.int .u64 L.p, .int .u64 xm, .int .u64 ra] w fun e w'=>e= .returned (.int .u64 xn) /\ Below w.heap.size w w'):=zH (fun w=>by rw [fZ.out];exact HM.out xm ra w)
     clear SU ER Xt Kd CV EU NY hc ix GY Gc hu hv qj fV fZ gh;go_upto_region 9 with fail
     refine Pc (Bb) [13,17,18,19] [0,1,2,3,4,5,6,7,8,9,10,11,12,14,16,13,15,17,18,19,20] (by kernel_rfl) (by kernel_rfl) ?_
     refine di (pa) ?_;intro Wc Ba da;have Ja:=Sg Ba;replace fJ:=ea fJ Ja;replace hb:=ja hb Ja;refine Kb ?_;refine oc (pa) rfl rfl rfl (fun _=>by go_simp <;> rfl) ((CW.out u0 u1 u2 _ Ff Zb td).mono ?_)
     rintro e w6 ⟨rfl,Cc⟩;refine ⟨_,rfl,Cc,?_⟩;replace da:=(pa).trans _ _ _ da (Cc);simp only [Act.put,zLa,zLb,zLc];replace fJ:=ea fJ Cc;replace hb:=ja hb Cc;refine Kb ?_;refine oc (pa) rfl rfl rfl (fun _=>by go_simp <;> rfl) ((Gm.out _ hb).mono ?_)
     rintro e w7 ⟨rfl,mc⟩;refine ⟨_,rfl,mc,?_⟩;replace da:=(pa).trans _ _ _ da (mc);simp only [Act.put,zLa,zLb,zLc];replace fJ:=ea fJ mc;replace hb:=ja hb mc;refine Kb ?_;refine oc (pa) rfl rfl rfl (fun _=>by go_simp <;> rfl) ((ke.out _).mono ?_)
     rintro e w8 ⟨rfl,Jm⟩;refine ⟨_,rfl,Jm,?_⟩;replace da:=(pa).trans _ _ _ da (Jm);simp only [Act.put,zLa,zLb,zLc];replace fJ:=ea fJ Jm;replace hb:=ja hb Jm;refine Kb ?_;refine oc (pa) rfl rfl rfl (fun _=>by go_simp <;> rfl) ((Zc.out _).mono ?_)
     rintro e w9 ⟨rfl,Zi⟩;refine ⟨_,rfl,Zi,?_⟩;replace da:=(pa).trans _ _ _ da (Zi);simp only [Act.put,zLa,zLb,zLc];replace fJ:=ea fJ Zi;replace hb:=ja hb Zi;refine Kb ?_;refine pc ?_;clear Ja Cc mc Jm Zi da Ba ct lt h0 h1 h2 Za;have ct:=fJ.cell;go_wp2_with fail
     refine (rq.out _).mono ?_;rintro e ss ⟨rfl,Aa⟩;replace hb:=ja hb Aa;go_wp2_with fail
     go_roundw
     case rel=>exact ⟨i+1,by omega,by go_num,by rw [Eg.out],by rw [HXN.out],hb⟩
     case measure=>simp [intOf];omega
    ·obtain rfl:i=R:=by omega
     have q2:¬((i:Int)<(i:Int)):=by omega
     go_wp2_with fail
     go_roundw
     case rel=>exact ⟨k+1,by omega,by go_num,by rw [Z0.out],by rw [<- HFE.out],hb⟩
     case measure=>simp [intOf];omega
  ·obtain rfl:k=3:=by omega
   go_wp2;go_ret
   exact ⟨rfl,ja aa hb⟩
end Go.Proofs.YtjipleoamlmkfaaGreat
