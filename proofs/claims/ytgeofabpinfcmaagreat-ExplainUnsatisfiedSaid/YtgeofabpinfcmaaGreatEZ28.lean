/- A part of the proof. No condition. -/
import Derived.Test.YtgeofabpinfcmaaGreatProg
import Derived.Test.YtgeofabpinfcmaaGreatEZ20
import Derived.Test.YtgeofabpinfcmaaGreatEZ24
import Derived.Test.YtgeofabpinfcmaaGreatEZ27

set_option maxRecDepth 100000
set_option maxHeartbeats 8000000
set_option linter.unusedVariables false
set_option linter.unusedSimpArgs false
namespace Go.Proofs.YtgeofabpinfcmaaGreat
open Go.RowKit
def ZE (p pu n rho:Nat) (rows:List Cb) (k:Nat) (f:Nat -> Nat):Nat -> (Nat -> Nat)
 | 0=>f
 | i+1=>Yk p pu (rho^(k*n+i)%p) (ZE p pu n rho rows k f i) (Mc (rows.getD i ⟨[],[],[]⟩) k) (Mc (rows.getD i ⟨[],[],[]⟩) k).length
def Hs (p pu n rho:Nat) (rows:List Cb):Nat -> (Nat -> Nat)
 | 0=>fun _=>0
 | k+1=>ZE p pu n rho rows k (Hs p pu n rho rows k) n
def Tc (L:Ja) (pu rho:Nat) (rows:List Cb):List (List Nat) :=
 sj L.block (Zc ((List.range L.secret).map (Hs L.p pu rows.length rho rows 3)) (Cf L.p rows.length rho 0) (Cf L.p rows.length rho 1) (Cf L.p rows.length rho 2)) (Zc L.a L.b L.b L.b)
def Wt (g h N:Nat) (w w':World):Prop:=Below 0 w w' /\ ∀ b,b<N -> b≠g -> b≠h -> w'.heap[b]?=w.heap[b]?
theorem MW (g h N:Nat) (w:World):Wt g h N w w:=⟨Below.refl _ _,fun _ _ _ _=>rfl⟩
theorem Iy {g h N:Nat} {a b c:World} (x:Wt g h N a b) (y:Wt g h N b c):Wt g h N a c:=⟨x.1.trans y.1,fun k h1 h2 h3=>(y.2 k h1 h2 h3).trans (x.2 k h1 h2 h3)⟩
theorem lF {g h N B:Nat} {a b:World} (x:Below B a b) (hN:N <= B):Wt g h N a b:=⟨x.mono (Nat.zero_le _),fun k h1 _ _=>x.block k (by omega)⟩
theorem tK {g h N:Nat} {a b:World} {u:Option Nat} (x:a.grownBy b u) (hu:∀ q,u=some q -> q=g \/ q=h \/ N <= q) (hN:N <= a.heap.size):Wt g h N a b :=
 ⟨TE x 0 (Nat.zero_le _) (fun _ _=>Nat.zero_le _),fun k h1 h2 h3=>x.block k (by omega) (fun e=>by
  rcases hu k e.symm with e1 | e1 | e1 <;> omega)⟩
theorem nB {g h N b:Nat} {w w':World} {t:TypeId} {cs:Array Value} (k:Blk w b t cs) (x:Wt g h N w w') (hb:b<N) (h1:b≠g) (h2:b≠h):Blk w' b t cs:=by
 unfold Blk at *;rw [x.2 b hb h1 h2];exact k
theorem mH {g h N B:Nat} {a b c:World} (Wq:Below B a b) (x:Wt g h N b c) (hN:B <= N) (h1:B <= g) (h2:B <= h):Below B a c :=
 Wq.trans ⟨x.1.os,x.1.tape,x.1.output,x.1.size,fun k hk=>x.2 k (by omega) (by omega) (by omega)⟩
theorem rZ (L:Ja) (pu rho:Nat) (vars:Int) (A:Option Addr) (R c:Nat) (rows:List Cb) (w:World) (hL:Db L) (hF:xl L pu vars rows) (hr:RSl 3 te w [.slice A R c] rows) (hV:mn vars rows) :
  Calls Tryz.prog 209 #[.agg (Ya L),pc L.p (pu:Int) vars (.slice A R c), .int .u64 rho] w fun e w'=>∃ v,e= .returned v /\ Sb w' [v] (Tc L pu rho rows) /\ Below w.heap.size w w':=by
 obtain ⟨A',n',c',he,Eg,Td,Li,La⟩:=hr;simp at he
 obtain ⟨rfl,rfl,rfl⟩:=he;have hs:=hL.s;have Mi:=hL.r;have Ku:=hF.nr;have Ro:=hF.sec;have Hm:=hF.small;have hR:R=rows.length:=Eg.symm;have gR:R <= 16384:=by omega
 have HSd:=zH (fun x y z w hx hy hz=>zS x y z w hx hy hz)
 have HM:=zH (fun a b w=>Rn L.p a b w hL.p)
 have HS:=zH (fun a b w=>BM L.p a b w hL.p)
 have BE:=zH (fun v0 v1 v2 v3 l0 l1 l2 l3 w h=>vZ L v0 v1 v2 v3 l0 l1 l2 l3 w hL h)
 obtain ⟨pw,Ll⟩:∃ pw:Nat -> Nat,pw=fun i=>rho^i%L.p:=⟨_,rfl⟩
 have mo:=zH (show ∀ i,pw i<18446744073709551616 from fun i=>by rw [Ll];exact Nat.lt_trans (Nat.mod_lt _ (by have:=Va hL.p;omega)) (Va hL.p).2)
 have Xi:=zH (show pw 0=1 by rw [Ll];show rho^0%L.p=1;rw [Nat.pow_zero];exact Nat.mod_eq_of_lt (by have:=Va hL.p;omega))
 have Xj:=zH (show ∀ i,pw i*rho%L.p=pw (i+1) from fun i=>by rw [Ll];show rho^i%L.p*rho%L.p=rho^(i+1)%L.p;rw [Nat.mod_mul_mod,Nat.pow_succ])
 obtain ⟨fK,hfK⟩:=zEX (Hs L.p pu rows.length rho rows);obtain ⟨fI,hfI⟩:=zEX (fun k=>ZE L.p pu rows.length rho rows k (fK k))
 have HK0:=zH (show fK 0=fun _=>0 by rw [hfK];rfl)
 have HKS:=zH (show ∀ k,fK (k+1)=fI k R from fun k=>by rw [hfI,hfK,hR];rfl)
 have HI0:=zH (show ∀ k,fI k 0=fK k from fun k=>by rw [hfI];rfl)
 have HIS:=zH (show ∀ k i (hi:i<rows.length),fI k (i+1)=Yk L.p pu (pw (k*R+i)) (fI k i) (Mc rows[i] k) (Mc rows[i] k).length from fun k i hi=>by
  have e:rows.getD i ⟨[],[],[]⟩=rows[i]:=by rw [List.getD_eq_getElem?_getD,List.getElem?_eq_getElem hi];rfl
  rw [hfI,hR,Ll];show Yk L.p pu (rho^(k*rows.length+i)%L.p) _ (Mc (rows.getD i ⟨[],[],[]⟩) k) (Mc (rows.getD i ⟨[],[],[]⟩) k).length=_
  rw [e])
 have Kb:=(Va hL.p).2;have HT:=zH (show ∀ (x:Nat) (f:Nat -> Nat) ts t,(∀ k,f k<L.p) -> ∀ k,Yk L.p pu x f ts t k<L.p from fun x f ts t hf=>by
  induction t with
  | zero=>exact hf
  | succ t ih =>
   intro k;show zq L.p pu x (Yk L.p pu x f ts t) _ k<_
   unfold zq;split
   ·unfold ef
    split
    ·exact Nat.mod_lt _ (by have:=Va hL.p;omega)
    ·exact ih k
   ·exact ih k)
 have HI:=zH (show ∀ k,(∀ s,fK k s<L.p) -> ∀ i,i <= rows.length -> ∀ s,fI k i s<L.p from fun k hk i=>by
  induction i with
  | zero=>intro _;rw [HI0.out];exact hk
  | succ i ih=>intro hi;rw [HIS.out k i (by omega)];exact HT.out _ _ _ _ (ih (by omega)))
 have HKX:=zH (show ∀ k s,fK k s<18446744073709551616 from fun k=>by
  have:∀ k s,fK k s<L.p:=fun k=>by
   induction k with
   | zero=>intro s;rw [HK0.out];have:=Va hL.p;show 0<_;omega
   | succ k ih=>rw [HKS.out];exact HI.out k ih R (by omega)
  exact fun s=>Nat.lt_trans (this k s) Kb)
 have HCD:=zH (show Tc L pu rho rows=sj L.block (Zc ((List.range L.secret).map (fK 3)) (Cf L.p R rho 0) (Cf L.p R rho 1) (Cf L.p R rho 2)) (Zc L.a L.b L.b L.b) by rw [hfK,hR];rfl)
 have ni:=zH (show ∀ k,(List.range R).map (fun i=>pw (k*R+i))=Cf L.p R rho k from fun k=>by rw [Ll];rfl)
 have Yj:=zH (show ∀ i (hi:i<rows.length) k,k<3 -> ∀ t (ht:t<(Mc rows[i] k).length),0 <= ((Mc rows[i] k).getD t (0,0)).1 /\ ((Mc rows[i] k).getD t (0,0)).1<vars from fun i hi k hk t ht=>by
  rw [List.getD_eq_getElem?_getD,List.getElem?_eq_getElem ht];exact hV _ (List.getElem_mem hi) k hk _ (List.getElem_mem ht))
 have yJ:=zH (And.intro Ro Hm);have HRR:=zH hR;have mk:=mj L.secret (by omega)
 have gs1:(L.secret:Int) <= 65536:=by omega
 have gs0:(0:Int) <= (L.secret:Int):=by omega
 have gRi:(R:Int) <= 16384:=by omega
 rw [HCD.out];clear hV Ll hfK hfI hF hs Mi Ku Ro Hm Kb HCD HT HI Td Li Eg hR hL;unfold Ya pc at *;obtain ⟨kl,kt,da,-⟩:=Ue w 39 25 #[.int .u64 L.p, .int .i64 L.block, .int .i64 L.queries, .int .i64 L.k, .int .i64 L.n, .int .i64 L.secret, .int .i64 L.rows, .int .i64 L.a, .int .i64 L.b, .int .i64 L.b, .int .i64 L.b] #[.int .u64 L.p, .int .i64 pu, .int .i64 vars, .slice A R c];go_enter Tryz.func209,Tryz.ntmps209
 go_upto_region 1 with fail
 generalize (w.alloc _).alloc _=w1 at kl kt da |-;have yF:=kt.lt;go_upto_region 2 with fail
 have kv:=Blk.new w1 201 #[.slice none 0 0, .slice none 0 0, .slice none 0 0, .slice none 0 0];have ma:=(Below.refl w1.heap.size w1).alloc zR (.cells #[.slice none 0 0, .slice none 0 0, .slice none 0 0, .slice none 0 0] 201);replace kl:=ia kl ma;replace kt:=ia kt ma;replace da:=oa da ma;clear ma;obtain ⟨gv,Em⟩:=zEX (w1.heap.size);have Mu:(w1.alloc (.cells #[.slice none 0 0, .slice none 0 0, .slice none 0 0, .slice none 0 0] 201)).heap.size=gv+1:=by rw [Em];simp
 rw [<- Em] at kv yF |-;clear Em;generalize w1.alloc _=w2 at kl kt kv da Mu |-;have cl:=kl.cell;have cv:=kv.cell;have fv1:=kv.frozen;have lv:=kv.lt;have HSV:=zH Mu;clear Mu;go_upto_region 3 with fail
 have Mu:=HSV.out;clear HSV;clear cl cv fv1 lv;obtain ⟨gs,hgs⟩:=zEX (w2.heap.size);rw [<- hgs] at Mu |-;have hg:=Me (w:=w2) gv 0 (.slice (some ⟨gs,0,none⟩) L.secret L.secret);have Lu:(w2.setCell ⟨gv,0,none⟩ (.slice (some ⟨gs,0,none⟩) L.secret L.secret)).heap.size=gs:=by rw [hgs];simp
 replace kv:=kv.set_ 0 (.slice (some ⟨gs,0,none⟩) L.secret L.secret);replace kv:Blk (w2.setCell ⟨gv,0,none⟩ (.slice (some ⟨gs,0,none⟩) L.secret L.secret)) gv 201 #[.slice (some ⟨gs,0,none⟩) L.secret L.secret, .slice none 0 0, .slice none 0 0, .slice none 0 0]:=by simpa using kv
 replace kl:=kl.grown hg (fun e=>by have:=Option.some.inj e;omega)
 replace kt:=kt.grown hg (fun e=>by have:=Option.some.inj e;omega)
 replace da:=Pb da hg;clear hg hgs;generalize w2.setCell _ _=w3 at kl kt kv da Lu |-;have kg:=Blk.new w3 22 (Ha L.secret fun _=>0)
 have ma:=(Below.refl w3.heap.size w3).alloc zR (.cells (Ha L.secret fun _=>0) 22)
 replace kl:=ia kl ma;replace kt:=ia kt ma;replace kv:=ia kv ma;replace da:=oa da ma;have qg:gs+1 <= (w3.alloc (.cells (Ha L.secret fun _=>0) 22)).heap.size:=by simp;omega
 rw [Lu] at kg;clear ma mk Lu;generalize w3.alloc _=w4 at kl kt kv kg da qg |-;have n1:w.heap.size<gv:=by omega
 have n2:w.heap.size+1<gv:=by omega
 have n3:gv<gs:=by omega
 clear Mu yF;have H1:=zH (show (1:Int)=((pw (0*R):Nat):Int) by rw [Nat.zero_mul,Xi.out];rfl)
 obtain ⟨V0,Eo⟩:∃ V0:Value,V0= .slice (some ⟨gs,0,none⟩) L.secret L.secret:=⟨_,rfl⟩;have Zm:=zH Eo;rw [<- Eo] at kv;clear Eo;go_wp2_with fail
 go_loopw [8,9] (fun xv y wr=>∃ (k:Nat) (xs:Nat -> Value),k <= 3 /\ y= .int .i64 k /\ xv= .int .u64 (pw (k*R):Int) /\ Blk wr w.heap.size 39 #[.int .u64 L.p, .int .i64 L.block, .int .i64 L.queries, .int .i64 L.k, .int .i64 L.n, .int .i64 L.secret, .int .i64 L.rows, .int .i64 L.a, .int .i64 L.b, .int .i64 L.b, .int .i64 L.b] /\ Blk wr (w.heap.size+1) 25 #[.int .u64 L.p, .int .i64 pu, .int .i64 vars, .slice A R c] /\ Blk wr gv 201 #[V0,xs 0,xs 1,xs 2] /\ Blk wr gs 22 (Ha L.secret (fK k)) /\ (∀ j,j<k -> Jc (gs+1) none wr (xs j) (Cf L.p R rho j)) /\ (∀ j,k <= j -> xs j= .slice none 0 0) /\ Below w.heap.size w wr /\ gs+1 <= wr.heap.size) (fun _ y _=>3-(intOf y).toNat)
 case atStart=>exact ⟨0,fun _=>.slice none 0 0,by omega,rfl,by rw [<- H1.out],kl,kt,kv,by rw [HK0.out];exact kg,fun j h=>by omega,fun j _=>rfl,da,qg⟩
 case round =>
  clear kl kt kv kg da qg;obtain ⟨k,xs,hk,rfl,rfl,kl,kt,kv,kg,Np,Zw,da,qg⟩:=hrel;by_cases za:k<3
  ·have q1:(k:Int)<3:=by omega
   obtain ⟨wo,Ln⟩:=zEX (wr);subst Ln;have jq:=Zw k zR;have Hv:=zH Np;have HTD:=zH Zw;obtain ⟨kr,hkr⟩:=zEX (k*R);have HKR:=zH hkr;have HISk:=zH (show ∀ i (hi:i<rows.length),fI k (i+1)=Yk L.p pu (pw (kr+i)) (fI k i) (Mc rows[i] k) (Mc rows[i] k).length from fun i hi=>by rw [hkr];exact HIS.out k i hi)
   obtain ⟨fi,Hj⟩:=zEX (fI k);have HI0k:=zH (show fi 0=fK k by rw [Hj];exact HI0.out k)
   have HKSk:=zH (show fK (k+1)=fi R by rw [Hj];exact HKS.out k)
   rw [<- Hj] at HISk;obtain ⟨FP,uB⟩:∃ FP:Nat -> Nat,FP=fun i=>pw (kr+i):=⟨_,rfl⟩
   have HFP:=zH (show ∀ i,pw (kr+i)=FP i from fun i=>by rw [uB])
   have bA:=zH (show ∀ i,FP i<18446744073709551616 from fun i=>by rw [uB];exact mo.out _)
   have Zk:=zH (show ∀ i,FP i*rho%L.p=FP (i+1) from fun i=>by rw [uB];exact Xj.out _)
   have Wx:=zH (show (List.range R).map FP=Cf L.p R rho k by rw [uB,hkr];exact ni.out k)
   have Zz:=zH (show FP R=pw ((k+1)*R) by rw [uB,hkr,Nat.succ_mul])
   have ic:=zH (show pw (k*R)=FP 0 by rw [uB,hkr];rfl)
   rw [ic.out];have JF:Od xs k (.slice none 0 0)=xs:=by rw [<- jq,TT]
   have kv1:Blk wo gv 201 #[V0,Od xs k (.slice none 0 0) 0,Od xs k (.slice none 0 0) 1,Od xs k (.slice none 0 0) 2]:=by rw [JF];exact kv
   have ix:=fun (w:World) (x y z:Value)=>EH (w:=w) (x:=x) (y:=y) (z:=z) za
   obtain ⟨k1,Ld⟩:=zEX (k+1);have ek:(k:Int)+1=(k1:Int):=by omega
   have VA:=Yb k1;have Wj:=zH Ld;have qk:k1<4:=by omega
   have qk2:(k1:Int)<4:=by omega
   have y1:w.heap.size<wo.heap.size:=by omega
   have y2:w.heap.size+1<wo.heap.size:=by omega
   have y3:gv<wo.heap.size:=by omega
   have y4:gs<wo.heap.size:=by omega
   clear jq JF Np Zw kv Ld hkr Hj uB;have ct0:=kt.cell;go_wp2_with fail
   clear ct0;go_loopw [8,10] (fun xv y wr=>∃ (i:Nat) (x:Value),i <= R /\ y= .int .i64 i /\ xv= .int .u64 (FP i:Int) /\ Blk wr gv 201 #[V0,Od xs k x 0,Od xs k x 1,Od xs k x 2] /\ Blk wr gs 22 (Ha L.secret (fi i)) /\ wr.ownsRow wo.heap.size 22 1 x i (Fa ((List.range i).map FP)) /\ Wt gv gs wo.heap.size wo wr) (fun _ y _=>R-(intOf y).toNat)
   case atStart=>exact ⟨0, .slice none 0 0,by omega,rfl,rfl,kv1,by rw [HI0k.out];exact kg,⟨rfl, .inl ⟨rfl,rfl⟩⟩,MW _ _ _ _⟩
   case round =>
    clear kv1 kg;obtain ⟨i,x,hi,rfl,rfl,kv,kg,ra,Ua⟩:=hrel;have mC:wo.heap.size <= wr.heap.size:=Ua.1.size;have Ad:=nB kt Ua y2 (by omega) (by omega)
    have ct:=Ad.cell;have lt:=Ad.lt;by_cases Lo:i<R
    ·have q2:(i:Int)<(R:Int):=by omega
     have q3:(0:Int) <= (i:Int):=by omega
     have q4:(0:Int) <= (k1:Int):=by omega
     have Ko:i<rows.length:=by have:=HRR.out;omega
     obtain ⟨b,q,rfl⟩:=La.base (by omega) (by omega)
     obtain ⟨cs,-,hc,u0,u1,u2,rfl,ur,vr,Im⟩:=La.get Ko;have uc:=World.block_lt_of_cell? _ _ ((hc 0 (by omega)).trans (show [u0,u1,u2][0]?=some u0 from rfl))
     have HUC:=zH hc;have HU:=zH (show ∀ w',Below w.heap.size w w' -> RLin w' [if k=0 then u0 else if k=1 then u1 else u2] (Mc rows[i] k) from fun w' hb=>by
      unfold Mc;rcases (show k=0 \/ k=1 \/ k=2 by omega) with h | h | h <;> subst h
      ·exact jg _ _ _ _ hb ur
      ·exact jg _ _ _ _ hb vr
      ·exact jg _ _ _ _ hb Im)
     have ix1:=fun (w:World)=>ix w u0 u1 u2
     obtain ⟨sel,Jf⟩:=zEX ((if k=0 then u0 else if k=1 then u1 else u2))
     rw [<- Jf] at HU ix1;have Tg:=RSl.slc ur;have fe:=RSl.slc vr;have sh:=RSl.slc Im;have DE:=zH (HISk.out i Ko);have HVi:=zH (Yj.out i Ko k za);obtain ⟨ts,hts⟩:=zEX (Mc rows[i] k);rw [<- hts] at HU DE HVi;rw [HFP.out] at DE;have HSn:=zH (It FP i);have HFSi:=zH (Zk.out i);obtain ⟨xm,hxm⟩:=zEX (FP i);obtain ⟨xn,hxn⟩:=zEX (FP (i+1));rw [<- hxm,<- hxn] at HFSi;rw [<- hxm] at HSn DE |-;have HXN:=zH hxn;have HMx:=zH (fun w=>by have:=HM.out xm rho w;rw [HFSi.out] at this;exact this)
     clear ur vr Im Jf hts hxm hxn hc ix;obtain ⟨Ax,cx,rfl,-⟩:=Ob ra;have cv:wr.cell? ⟨gv,k1,none⟩=some (.slice Ax i cx):=by
      rw [kv.cell,Wj.out,yD za];simp [Od]
     have lv:=kv.lt;have Rb:∀ q,(Value.slice Ax i cx).ownBlock=some q -> wo.heap.size <= q:=fun q e=>(ra.lt q e).1
     have ma:=(Below.refl wr.heap.size wr).alloc zR (.cells #[.int .u64 xm] 22);go_wp2_with (at_builtin;refine Mf rfl _ _ rfl xf rfl (ra.alloc _) rfl (Lf _ _ _) (mg [xm]) (by omega) (by simp;omega) ?_)
     intro v' wn db Ma Lb;have hsA:wo.heap.size <= (wr.alloc (.cells #[.int .u64 xm] 22)).heap.size:=by simp;omega
     replace kv:=ia kv ma;replace kg:=ia kg ma;replace kv:=kv.grown Ma (fun e=>by first | (have:=Rb _ e;omega) | (have:=Rb _ e.symm;omega))
     replace kg:=kg.grown Ma (fun e=>by first | (have:=Rb _ e;omega) | (have:=Rb _ e.symm;omega))
     replace Ua:=Iy (Iy Ua (lF ma mC)) (tK Ma (fun q e=>.inr (.inr (Rb q e))) hsA)
     replace db:wn.ownsRow wo.heap.size 22 1 v' (i+1) (Fa ((List.range (i+1)).map FP)):=Qi (b:=[xm]) db HSn.out;obtain ⟨Aw,cw,rfl,-⟩:=Ob db;have hsn:wo.heap.size <= wn.heap.size:=Ua.1.size;clear ra Ma Lb ma hsA cv lv ct lt Ad;have cv:wn.cell? ⟨gv,k1,none⟩=some (.slice Ax i cx):=by
      rw [kv.cell,Wj.out,yD za];simp [Od]
     have fv2:=kv.frozen;have Ad:=nB kt Ua y2 (by omega) (by omega)
     have ct:=Ad.cell;go_upto_region 11 with fail
     have Ba:=Me (w:=wn) gv k1 (.slice Aw (i+1) cw);replace kv:=kv.set_ k1 (.slice Aw (i+1) cw);rw [Wj.out,NJ za,UT,<- Wj.out] at kv;replace kg:=kg.grown Ba (fun e=>by have:=Option.some.inj e;omega)
     have sc:=Hc db Ba y3;replace Ua:=Iy Ua (tK Ba (fun q e=>.inl (Option.some.inj e).symm) hsn)
     clear db Ba cv fv2 ct Ad;generalize wn.setCell _ _=w5 at kv kg sc Ua |-;have jb:=mH da Ua (by omega) (by omega) (by omega)
     have hcu:=HUC.out;have h0:=(jb.cell (p:=⟨b,q+i*3+0,none⟩) uc).trans (hcu 0 (by omega))
     have h1:=(jb.cell (p:=⟨b,q+i*3+1,none⟩) uc).trans (hcu 1 (by omega))
     have h2:=(jb.cell (p:=⟨b,q+i*3+2,none⟩) uc).trans (hcu 2 (by omega))
     rw [Nat.add_zero] at h0;simp only [List.getElem?_cons_zero,List.getElem?_cons_succ] at h0 h1 h2;have Ad:=nB kt Ua y2 (by omega) (by omega)
     have ct:=Ad.cell;have iC:wo.heap.size <= w5.heap.size:=Ua.1.size;clear hcu;go_wp2_with fail
     refine (HSd.out u0 u1 u2 _ Tg fe sh).mono ?_;rintro e w6 ⟨rfl,ea⟩;replace kv:=ia kv ea;replace kg:=ia kg ea;replace sc:=Oa sc ea zR;replace Ua:=Iy Ua (lF ea iC);clear h0 h1 h2 ct Ad ea jb iC;have Zb:=mH da Ua (by omega) (by omega) (by omega)
     obtain ⟨As,ns,ed,rfl⟩:=RSl.slc (HU.out _ Zb);have Mg:=HU.out _ (Below.refl _ _);obtain ⟨A',n',c',he,Eg,Td,Li,Ww⟩:=Mg;simp at he
     obtain ⟨rfl,rfl,rfl⟩:=he;have gns:=Kf Td Li;have HNS:=zH Eg;obtain ⟨fT,Fw⟩:=zEX (Yk L.p pu xm (fi i) ts);have HT0:=zH (show fT 0=fi i by rw [Fw];rfl)
     have HTS:=zH (show ∀ t,fT (t+1)=zq L.p pu xm (fT t) (ts.getD t (0,0)) from fun t=>by rw [Fw];rfl)
     have pa:=zH (show fi (i+1)=fT ns by rw [Fw,<- Eg];exact DE.out)
     clear Fw Eg Td Li Zb DE;go_wp2_with fail
     go_loopw [12] (fun y wr=>∃ t:Nat,t <= ns /\ y= .int .i64 t /\ Blk wr gv 201 #[V0,Od xs k (.slice Aw (i+1) cw) 0,Od xs k (.slice Aw (i+1) cw) 1,Od xs k (.slice Aw (i+1) cw) 2] /\ Blk wr gs 22 (Ha L.secret (fT t)) /\ wr.ownsRow wo.heap.size 22 1 (.slice Aw (i+1) cw) (i+1) (Fa ((List.range (i+1)).map FP)) /\ Wt gv gs wo.heap.size wo wr) (fun y _=>ns-(intOf y).toNat)
     case atStart=>exact ⟨0,Nat.zero_le _,rfl,kv,by rw [HT0.out];exact kg,sc,Ua⟩
     case round =>
      clear kv kg sc Ua;obtain ⟨t,ht,rfl,kv,kg,sc,Ua⟩:=hrel;have hswr:wo.heap.size <= wr.heap.size:=Ua.1.size;have We:=mH da Ua (by omega) (by omega) (by omega)
      by_cases Yw:t<ns
      ·have q5:(t:Int)<(ns:Int):=by omega
       have q6:(0:Int) <= (t:Int):=by omega
       have htl:t<ts.length:=by rw [HNS.out];exact Yw
       obtain ⟨b',q',rfl⟩:=Ww.base (by omega) (by omega)
       obtain ⟨um,yo⟩:=RLin.at_ (Ww.below BC We) htl;have hv:=HVi.out t htl;have Uv:=zH (HTS.out t);revert um yo hv Uv
       generalize ts.getD t (0,0)=tm;obtain ⟨v,co⟩:=tm;intro um yo hv Uv;simp only at um yo hv;have Nk:=World.block_lt_of_cell? _ _ um;simp only at Nk;obtain ⟨v1,Ng⟩:=zEX (v-1);obtain ⟨v2,Zh⟩:=zEX (v1-(pu:Int));have Ro:=yJ.out;have y1':v-1=v1:=Ng.symm;have y2':IntKind.i64.wrap v1=v1:=Df _ (by omega) (by omega)
       have y3':v1-(pu:Int)=v2:=Zh.symm;have y4':IntKind.i64.wrap v2=v2:=Df _ (by omega) (by omega)
       have uA:=zH (show fT (t+1)=if 0 <= v2 then ef (fT t) v2.toNat ((fT t v2.toNat+oc L.p (xm*co%L.p))%L.p) else fT t by rw [Uv.out,Zh,Ng];rfl)
       have hv3:v2<(L.secret:Int):=by omega
       have Ad:=nB kt Ua y2 (by omega) (by omega)
       have ct:=Ad.cell;have lt:=Ad.lt;clear Ng Zh Ro hv Uv;go_upto_region 15 with fail
       refine Rc (Ib) [] [0,1,2,3,4,5,6,7,8,9] (by kernel_rfl) (by kernel_rfl) ?_
       refine vd (xa) ?_;intro Wc Na ja;have ya:=Cc Na;refine pb ?_;refine Fc ?_;have c2w:=(ya.cell (p:=⟨b',q'+t*2+1,none⟩) Nk).trans yo;replace Nk:=Nat.lt_of_lt_of_le Nk ya.size;replace kv:=ia kv ya;replace kg:=ia kg ya;replace sc:=Oa sc ya zR;replace Ua:=Iy Ua (lF ya hswr);clear ct lt Ad ja um yo;have hs7:wo.heap.size <= Wc.heap.size:=Ua.1.size;generalize Wc=w7 at kv kg sc Ua c2w Nk hs7 |-;by_cases hz:0 <= v2
       ·have d1:decide ((0:Int) <= v2)=true:=decide_eq_true hz
        obtain ⟨s,rfl⟩:=Int.eq_ofNat_of_zero_le hz;have aq:s<L.secret:=by omega
        obtain ⟨a,ha⟩:=zEX (fT t s);obtain ⟨u,hu⟩:=zEX (xm*co%L.p);obtain ⟨r,hr⟩:=zEX ((a+oc L.p u)%L.p);have Xc:=zH (show (Ha L.secret (fT t)).setIfInBounds s (.int .u64 r)=Ha L.secret (fT (t+1)) by
         rw [zo,uA.out,if_pos hz,Int.toNat_natCast,hr,hu,ha])
        have yd:Hid (∀ w:World,Calls Tryz.prog 184 #[.int .u64 L.p, .int .u64 xm, .int .u64 co] w fun e w'=>e= .returned (.int .u64 u) /\ Below w.heap.size w w'):=zH (fun w=>by rw [hu];exact HM.out xm co w)
        have Ef:Hid (∀ w:World,Calls Tryz.prog 185 #[.int .u64 L.p, .int .u64 a, .int .u64 u] w fun e w'=>e= .returned (.int .u64 r) /\ Below w.heap.size w w'):=zH (fun w=>by rw [hr];exact HS.out a u w)
        have HA:=zH ha;clear hu hr ha;go_upto_region 17 with fail
        have Ad:=nB kt Ua y2 (by omega) (by omega)
        have ct:=Ad.cell;have lt:=Ad.lt;have cv:=kv.cell 0;have lv:=kv.lt;rw [show (#[V0,Od xs k (.slice Aw (i+1) cw) 0,Od xs k (.slice Aw (i+1) cw) 1,Od xs k (.slice Aw (i+1) cw) 2]:Array Value)[0]?=some V0 from rfl,Zm.out] at cv
        have cg:=kg.cell s;rw [dg _ aq,<- HA.out] at cg;have lg:=kg.lt;refine Hd (Ib) (xa) [21] [21] [0,1,2,3,4,5,6,7,8,9,10,11,12,13,14,15,16,17,18,19,20,21] (by kernel_rfl) (by kernel_rfl) ?_
        refine Jd (xa) ?_;intro Wc ja;refine Sc ?_;refine vc (xa) rfl rfl rfl rfl (fun _ _ _ h=>h) (fun _=>by go_simp <;> rfl) (fun w' hR=>yd.out _) ?_
        simp only [Act.put,zLa,zLb,zLc];refine Sc ?_;refine vc (xa) rfl rfl rfl rfl (fun _ _ _ h=>h) (fun _=>by go_simp <;> rfl) (fun w' hR=>Ef.out _) ?_
        simp only [Act.put,zLa,zLb,zLc];refine Sc ?_;refine Ph rfl rfl rfl rfl ?_;intro wh tc;replace ja:=(xa).trans _ _ _ ja tc;have Za:=oa (Below.refl w7.heap.size w7).drew ja;replace kv:=ia kv Za;replace kg:=ia kg Za;replace sc:=Oa sc Za zR;replace Ua:=Iy Ua (lF Za hs7);clear Za ja tc ct lt Ad cv lv cg lg;have c3:=kg.cell s;rw [dg _ aq] at c3;have f3:=kg.frozen;have hs8:wo.heap.size <= wh.heap.size:=Ua.1.size;go_simp;refine ⟨fun h=>Bool.noConfusion h,?_⟩
        have hg:=Me (w:=wh) gs s (.int .u64 r);replace kg:=kg.set_ s (.int .u64 r);rw [Xc.out] at kg;replace kv:=kv.grown hg (fun e=>by have:=Option.some.inj e;omega)
        have VP:=Hc sc hg y4;replace Ua:=Iy Ua (tK hg (fun q e=>.inr (.inl (Option.some.inj e).symm)) hs8)
        clear hg f3 c3 sc;generalize wh.setCell _ _=we at kg kv VP Ua |-;refine Oh rfl ?_;go_wp2_with fail
        go_roundw
        case rel=>exact ⟨t+1,by omega,by go_num,kv,kg,VP,Ua⟩
        case measure=>simp [intOf];omega
       ·have d1:decide ((0:Int) <= v2)=false:=decide_eq_false hz
        have DJ:=zH (show fT (t+1)=fT t by rw [uA.out,if_neg hz])
        go_wp2_with fail
        go_roundw
        case rel=>exact ⟨t+1,by omega,by go_num,kv,by rw [DJ.out];exact kg,sc,Ua⟩
        case measure=>simp [intOf];omega
      ·obtain rfl:t=ns:=by omega
       have q5:¬((t:Int)<(t:Int)):=by omega
       rw [<- pa.out] at kg;have Ad:=nB kt Ua y2 (by omega) (by omega)
       have ct:=Ad.cell;go_wp2_with fail
       refine (HMx.out _).mono ?_;rintro e w8 ⟨rfl,ea⟩;replace kv:=ia kv ea;replace kg:=ia kg ea;replace sc:=Oa sc ea zR;replace Ua:=Iy Ua (lF ea hswr);go_wp2_with fail
       go_roundw
       case rel=>exact ⟨i+1,_,by omega,by go_num,by rw [<- HXN.out],kv,kg,sc,Ua⟩
       case measure=>simp [intOf];omega
    ·obtain rfl:i=R:=by omega
     have q2:¬((i:Int)<(i:Int)):=by omega
     rw [<- HKSk.out] at kg;have Lc:=nB kl Ua y1 (by omega) (by omega)
     have Qa:=mH da Ua (by omega) (by omega) (by omega)
     have hx:=Xl (N:=gs+1) (gb:=none) ra (fun x hx=>by obtain ⟨m,-,rfl⟩:=List.mem_map.1 hx;exact bA.out m) (by omega) (fun q e=>by cases e)
     rw [Wx.out] at hx;have Vz:=zH (show ∀ j,j<k+1 -> Jc (gs+1) none wr (Od xs k x j) (Cf L.p i rho j) from fun j hj=>by
      unfold Od;split
      ·rename_i h;rw [h];exact hx
      ·rename_i h
       refine Mh (Hv.out j (by omega)) mC fun b h1 h2 _=>Ua.2 b h2 (by omega) (by omega))
     have Dh:=zH (show ∀ j,k+1 <= j -> Od xs k x j= .slice none 0 0 from fun j hj=>by
      unfold Od;rw [if_neg (by omega)]
      exact HTD.out j (by omega))
     clear hx ra;go_wp2_with fail
     go_roundw
     case rel=>exact ⟨k+1,Od xs k x,by omega,by go_num,by rw [Zz.out],Lc,Ad,kv,kg,Vz.out,Dh.out,Qa,by omega⟩
     case measure=>simp [intOf];omega
  ·obtain rfl:k=3:=by omega
   have h0:=ff (Np 0 (by omega))
   have h1:=ff (Np 1 (by omega))
   have h2:=ff (Np 2 (by omega))
   obtain ⟨A1,c1,e1⟩:=Le h0;obtain ⟨A2,c2,e2⟩:=Le h1;obtain ⟨A3,c3,e3⟩:=Le h2;have hS:=jk kg (fun m _=>HKX.out 3 m) (by simp [maxLen];omega)
   rw [<- Zm.out] at hS;have HH:=zH (fun (w':World) (hb:Below wr.heap.size wr w')=>BE.out V0 (xs 0) (xs 1) (xs 2) _ _ _ _ w' (UM (ta hb hS) (ta hb h0) (ta hb h1) (ta hb h2)))
   rw [e1,e2,e3,Zm.out] at kv HH;have cl:=kl.cell;have cv:=kv.cell;have ll:=kl.lt;have lv:=kv.lt;clear Np Zw h0 h1 h2 hS e1 e2 e3;go_wp2_with fail
   refine (HH.out _ (Below.refl _ _)).mono ?_;rintro e w9 ⟨v,rfl,hv,ea⟩;go_wp2;go_ret
   exact ⟨v,rfl,hv,oa da ea⟩
def Px (p:Nat) (cs:List (List Nat)) (i:Nat):List Nat:=(List.range (cs.getD i []).length).map (Lm p (cs.getD i []) 1)
def Ig (p:Nat) (cs:List (List Nat)):List (List Nat):=(List.range cs.length).map (Px p cs)
theorem zy (L:Ja) (pu rho:Nat) (rows:List Cb):(Tc L pu rho rows).length=L.a+L.b+L.b+L.b:=by
 unfold Tc sj;rw [Qq,Qq,Qq,Qq];simp [Vh,Zc]
theorem fw {L:Ja} {pu rho:Nat} {rows:List Cb}:∀ r∈Tc L pu rho rows,r.length=L.block:=fun r h=>by
 unfold Tc at h;obtain ⟨i,k,-,-,rfl⟩:=YG h;simp [Al]
theorem DS (L:Ja) (pu rho:Nat) (vars:Int) (A:Option Addr) (R c:Nat) (rows:List Cb) (w:World) (hL:Db L) (hF:xl L pu vars rows) (hr:RSl 3 te w [.slice A R c] rows) (hV:mn vars rows) :
  Calls Tryz.prog 131 #[.agg (Ya L),pc L.p (pu:Int) vars (.slice A R c), .int .u64 rho] w fun e w'=>∃ v,e= .returned v /\ Sb w' [v] (Ig L.p (Tc L pu rho rows)) /\ Below w.heap.size w w':=by
 obtain ⟨jc,Kb⟩:=Va hL.p;have Jl:=hL.a;have Lw:=hL.b;have Ka:=hL.b2;obtain ⟨hlen,-⟩:=Uk hL;have HC:=zH (fun w' (hb:Below w.heap.size w w')=>rZ L pu rho vars A R c rows w' hL hF (Kc Gc _ _ _ _ hb hr) hV)
 have HI:=zH (fun A c l w hl=>xM L.p 1 L.block A c l w hL.p hl hlen (by rw [Nat.mod_eq_of_lt (by omega)];decide))
 have HIL:=zH (show ∀ l,∀ x∈(List.range L.block).map (Lm L.p l 1),x<18446744073709551616 from fun l x hx=>by
  obtain ⟨i,-,rfl⟩:=List.mem_map.1 hx;exact Nat.lt_trans (lL (by omega) _ _ _) Kb)
 obtain ⟨ze,zu⟩:=zEX (Tc L pu rho rows);have Yn:=zH (show ze.length <= 400000 by rw [zu,zy];omega)
 have Gv:=zH (show ∀ r∈ze,r.length=L.block by rw [zu];exact fw)
 rw [<- zu] at HC |-;obtain ⟨f,hf⟩:=zEX (Px L.p ze);have aA:=zH (show ∀ i (h:i<ze.length),f i=(List.range L.block).map (Lm L.p ze[i] 1) from fun i h=>by
  rw [hf];unfold Px;rw [Sq h,Gv.out _ (List.getElem_mem h)])
 have fu:=zH (cG f);have HEnd:=zH (show Ig L.p ze=(List.range ze.length).map f by rw [hf];rfl)
 rw [HEnd.out];clear zu hf hL hF hr hV Jl Lw hlen jc Kb HEnd;unfold Ya pc at *;obtain ⟨kl,kt,da,-⟩:=Ue w 39 25 #[.int .u64 L.p, .int .i64 L.block, .int .i64 L.queries, .int .i64 L.k, .int .i64 L.n, .int .i64 L.secret, .int .i64 L.rows, .int .i64 L.a, .int .i64 L.b, .int .i64 L.b, .int .i64 L.b] #[.int .u64 L.p, .int .i64 pu, .int .i64 vars, .slice A R c];go_enter Tryz.func131,Tryz.ntmps131
 go_upto_region 1 with fail
 generalize (w.alloc _).alloc _=w1 at kl kt da |-;have cl:=kl.cell;have ct:=kt.cell;go_wp2_with fail
 refine (HC.out _ da).mono ?_;rintro e w2 ⟨vC,rfl,hC,ea⟩;replace kl:=ia kl ea;replace da:=oa da ea;clear ea cl ct kt HC;obtain ⟨AC,nC,cC,rfl⟩:=RSl.slc hC;obtain ⟨hCn,-,-,hCd⟩:=Ve hC;have gC:(nC:Int) <= 400000:=by have:=Yn.out;omega
 have Sx:=zH hCn;clear hCn hC;go_wp2_with fail
 go_loopw [7,9] (fun u y wr=>∃ (i:Nat) (v:Value) (cs:List Value),v=u /\ i <= nC /\ y= .int .i64 i /\ wr.ownsRow w2.heap.size 28 1 v i cs /\ Rf 0 wr v cs ((List.range i).map f) /\ Below w2.heap.size w2 wr) (fun _ y _=>nC-(intOf y).toNat)
 case atStart=>exact ⟨0,_,[],rfl,Nat.zero_le _,rfl,⟨rfl, .inl ⟨rfl,rfl⟩⟩,Ns _ _ _,Below.refl _ _⟩
 case round =>
  obtain ⟨i,v,cs,rfl,hi,rfl,ra,Da,hb⟩:=hrel;by_cases za:i<nC
  ·have q1:(i:Int)<(nC:Int):=by omega
   have q2:(0:Int) <= (i:Int):=by omega
   have Dn:i<ze.length:=by rw [Sx.out];exact za
   obtain ⟨b1,Tl,A1,n1,c1,rfl,Hh,Lg,ud⟩:=vh hCd Dn;have z1:=(Ra ud).1;have Md:n1=L.block:=by rw [z1];exact Gv.out _ (List.getElem_mem Dn)
   subst Md;have Qc:=ta hb ud;have Ds:=(hb.cell (p:=⟨b1,Tl+i,none⟩) Hh).trans Lg;have Mn:b1<wr.heap.size:=Nat.lt_of_lt_of_le Hh hb.size;have fl:=zH (aA.out i Dn);have HRi:=zH (fu.out i);obtain ⟨x,hx⟩:=zEX (ze[i]);rw [<- hx] at Qc fl;have HLx:=zH (HIL.out x);rw [<- fl.out] at HLx;have Di:Hid (∀ w':World,RWd w' [.slice A1 L.block c1] x -> Calls Tryz.prog 204 #[.int .u64 L.p, .slice A1 L.block c1, .int .u64 1] w' fun e w2=>∃ v,e= .returned (.tuple #[v, .int .i64 0]) /\ w2.ownsRow w'.heap.size 22 1 v L.block (Fa (f i)) /\ Below w'.heap.size w' w2):=zH (fun w' h=>by rw [fl.out];exact HI.out A1 c1 x w' h)
   obtain ⟨fi,Hj⟩:=zEX (f i);rw [<- Hj] at HLx Di HRi;clear hx z1 Lg ud Hj fl;have Fe:=ia kl hb;have cl:=Fe.cell;have ll:=Fe.lt;go_upto_region 6 with fail
   refine Rc (Ib) [6] [0,1,2,3,4,5,6,7,8,9,10,11] (by kernel_rfl) (by kernel_rfl) ?_
   refine vd (xa) ?_;intro Wc Na ja;have ya:=Cc Na;replace ra:=Oa ra ya zR;replace Da:=Uc Da ya;replace hb:=oa hb ya;replace Qc:=ta ya Qc;refine pb ?_;refine Mb (xa) rfl rfl rfl (fun _=>by go_simp <;> rfl) ((Di.out _ Qc).mono ?_)
   rintro e w7 ⟨v7,rfl,o7,Wa⟩;refine ⟨_,rfl,Wa,?_⟩;replace ja:=(xa).trans _ _ _ ja (Wa);simp only [Act.put,zLa,zLb,zLc];obtain ⟨A7,c7,rfl,-⟩:=Ob o7;have hx:=Xl (N:=0) (gb:=v.ownBlock) o7 HLx.out (Nat.zero_le _) (fun q e=>(ra.lt q e).2)
   replace ra:=Oa ra Wa zR;replace Da:=Uc Da Wa;replace hb:=oa hb Wa;refine pb ?_;refine Fc ?_;clear ya Wa ja Na Ds Mn cl ll Qc o7;go_wp2_with (at_builtin;refine Mf rfl _ _ rfl Cj rfl (ra.alloc _) rfl (Lf _ _ _) (by intro u hu;simp at hu;subst hu;rfl) (by omega) (by simp;have:=hb.size;omega) ?_)
   intro v' wn db Ma Lb;have ma:=(Below.refl w7.heap.size w7).alloc zR (.cells #[.slice A7 L.block c7] 28);have Ej:=Ae (ra.alloc _) Ma (by simp;have:=hb.size;omega)
   replace Da:=Uc Da ma;replace hx:=Mh hx ma.size (fun b _ h2 _=>ma.block b h2)
   have ee:=Tq Da hx Ma (by simpa using Lb)
   rw [HRi.out] at ee;replace hb:=(oa hb ma).trans Ej;clear ma Ma Lb Ej Da hx ra;go_wp2
   go_roundw
   case rel=>exact ⟨i+1,v',_,rfl,by omega,by go_num,db,ee,hb⟩
   case measure=>simp [intOf];omega
  ·obtain rfl:i=nC:=by omega
   have q1:¬((i:Int)<(i:Int)):=by omega
   have Au:=qw Da ra;go_wp2;go_ret
   exact ⟨_,rfl,by rw [Sx.out];exact Au,da.trans (hb.mono da.size)⟩
theorem sS (L:Ja) (D0 D1 D2 D3 D4 AM:Option Addr) (n0 n1 n2 n3 n4 nM k0 k1 k2 k3 k4 cM:Nat) (m r:List (List Nat)) (w:World) (hL:Db L)
  (hm:Sb w [.slice AM nM cM] m) (hr:Sb w [.slice D0 n0 k0] r)
  (hlen:m.length=r.length) (Ud:∀ x∈m,x.length=L.block) (Mg:∀ x∈r,x.length <= 2000) (hT:m.length <= 400000) :
  Calls Tryz.prog 126 #[.agg (Ya L), .slice AM nM cM, .agg #[.slice D0 n0 k0, .slice D1 n1 k1, .slice D2 n2 k2, .slice D3 n3 k3, .slice D4 n4 k4]] w fun e w'=>∃ v,e= .returned v /\ Sb w' [v] ((List.range m.length).map (Vl L m r)) /\ Below w.heap.size w w':=by
 have Ed:=Va hL.p;obtain ⟨sr,-,-,zB⟩:=Ve hm;obtain ⟨tj,-,-,Tb⟩:=Ve hr;subst sr;subst tj;have Kq:=zH (fun A B n c m d msg masks w hl hk hn hm=>qS L A B n c m d msg masks w hL hl hk hn hm)
 have HRT:=zH (show ∀ a b,∀ x∈tq L a b,x<18446744073709551616 from fun a b=>VH (by omega) fun x hx=>Nat.lt_trans (nG (by omega) hx) Ed.2)
 have Gq:=zH hlen;have zj:=zH Ud;have lh:=zH Mg;have fu:=zH (cG (Vl L m r));have HRG:=zH (show ∀ i (h1:i<m.length) (h2:i<r.length),tq L m[i] r[i]=Vl L m r i from fun i h1 h2=>by
  unfold Vl;rw [List.getD_eq_getElem?_getD,List.getD_eq_getElem?_getD,List.getElem?_eq_getElem h1,List.getElem?_eq_getElem h2]
  rfl)
 obtain ⟨rf,hrf⟩:=zEX (Vl L m r);rw [<- hrf] at fu HRG |-;clear hL hlen Ud Mg Ed hrf hm hr;unfold Ya at *;obtain ⟨kl,kc,da,Nb⟩:=Ue w 39 42 #[.int .u64 L.p, .int .i64 L.block, .int .i64 L.queries, .int .i64 L.k, .int .i64 L.n, .int .i64 L.secret, .int .i64 L.rows, .int .i64 L.a, .int .i64 L.b, .int .i64 L.b, .int .i64 L.b] #[.slice D0 r.length k0, .slice D1 n1 k1, .slice D2 n2 k2, .slice D3 n3 k3, .slice D4 n4 k4];go_enter Tryz.func126,Tryz.ntmps126
 go_upto_region 1 with fail
 generalize (w.alloc _).alloc _=w1 at kl kc da Nb |-;obtain ⟨N,hN⟩:=zEX (w1.heap.size);have x1:w.heap.size<N:=by omega
 have x2:w.heap.size+1<N:=by omega
 have x3:w.heap.size≠N:=by omega
 have x4:w.heap.size+1≠N:=by omega
 have Pa:N <= w1.heap.size:=by omega
 clear Nb hN;go_wp2_with fail
 go_loopw [7,8] (fun u y wr=>∃ (i:Nat) (v:Value) (cs:List Value),v=u /\ i <= m.length /\ y= .int .i64 i /\ Blk wr w.heap.size 39 #[.int .u64 L.p, .int .i64 L.block, .int .i64 L.queries, .int .i64 L.k, .int .i64 L.n, .int .i64 L.secret, .int .i64 L.rows, .int .i64 L.a, .int .i64 L.b, .int .i64 L.b, .int .i64 L.b] /\ Blk wr (w.heap.size+1) 42 #[.slice D0 r.length k0, .slice D1 n1 k1, .slice D2 n2 k2, .slice D3 n3 k3, .slice D4 n4 k4] /\ wr.ownsRow N 28 1 v i cs /\ Rf 0 wr v cs ((List.range i).map rf) /\ Below w.heap.size w wr /\ N <= wr.heap.size) (fun _ y _=>m.length-(intOf y).toNat)
 case atStart=>exact ⟨0,_,[],rfl,Nat.zero_le _,rfl,kl,kc,⟨rfl, .inl ⟨rfl,rfl⟩⟩,Ns _ _ _,da,Pa⟩
 case round =>
  clear kl kc da Pa;obtain ⟨i,v,cs,rfl,hi,rfl,kl,kc,ra,Da,da,Pa⟩:=hrel;by_cases za:i<m.length
  ·have q1:(0:Int) <= (i:Int):=by omega
   have q2:(i:Int)<(m.length:Int):=by omega
   have Sp:i<r.length:=by have:=Gq.out;omega
   have q3:(i:Int)<(r.length:Int):=by omega
   obtain ⟨bm,qm,Am,lm,cm,rfl,qF,Xy,oz⟩:=vh zB za;have hcm:=(da.cell (p:=⟨bm,qm+i,none⟩) qF).trans Xy;have Hn:=ta da oz;obtain ⟨br,qr,Ar,lr,cr,rfl,rF,Yy,pz⟩:=vh Tb Sp;have Cn:=(da.cell (p:=⟨br,qr+i,none⟩) rF).trans Yy;have Mi:=ta da pz;have x5:bm<N:=by omega
   have x6:br<N:=by omega
   have x7:bm≠N:=by omega
   have x8:br≠N:=by omega
   have z1:=(Ra Hn).1;have z2:=(Ra Mi).1;have z3:lm=L.block:=by have:=zj.out _ (List.getElem_mem za);omega
   have z4:lr <= 2000:=by have:=lh.out _ (List.getElem_mem Sp);omega
   have HC:=zH (fun w' (hb:Below wr.heap.size wr w')=>Kq.out Am Ar lm cm lr cr m[i] r[i] w' (ta hb Hn) (ta hb Mi) z3 (by omega))
   have HRI:=zH (HRG.out i za Sp);have aA:=zH (fu.out i);have xA:=zH (HRT.out m[i] r[i]);rw [HRI.out] at HC xA;clear z1 z2 z3 z4 oz pz Xy Yy Hn Mi Sp HRI;have cl:=kl.cell;have ll:=kl.lt;have cc:=kc.cell;have lc:=kc.lt;have lbm:bm<wr.heap.size:=by omega
   have lbr:br<wr.heap.size:=by omega
   obtain ⟨fi,Hj⟩:=zEX (rf i);rw [<- Hj] at HC xA aA;clear Hj;go_upto_region 5 with fail
   refine Rc (qj N N) [11,12,13] [0,1,2,3,4,5,6,7,8,9,10,11,12,13,14] (by kernel_rfl) (by kernel_rfl) ?_
   refine vd (xb N N) ?_;intro Wc Na ja;have ya:=Cc Na;have Dc:N <= Wc.heap.size:=by have:=ya.size;omega
   replace kl:=ia kl ya;replace kc:=ia kc ya;replace ra:=Oa ra ya zR;replace Da:=Uc Da ya;replace da:=oa da ya;refine Vn ?_;refine Mb (xb N N) rfl rfl rfl (fun _=>by go_simp <;> rfl) ((HC.out _ ya).mono ?_)
   rintro e w7 ⟨va,rfl,uj,Wa⟩;refine ⟨_,rfl,ue Wa Dc,?_⟩;replace ja:=(xb N N).trans _ _ _ ja (ue Wa Dc);simp only [Act.put,zLa,zLb,zLc];obtain ⟨Av,cv,rfl,-⟩:=Ob uj;have df:∀ q,v.ownBlock=some q -> q<Wc.heap.size:=fun q e=>(ra.lt q e).2
   have de:N <= w7.heap.size:=by have:=Wa.size;omega
   have hx:=Xl (N:=0) (gb:=v.ownBlock) uj xA.out (Nat.zero_le _) df;replace kl:=ia kl Wa;replace kc:=ia kc Wa;replace ra:=Oa ra Wa zR;replace Da:=Uc Da Wa;replace da:=oa da Wa;clear uj df Wa ja HC ya Na Dc cl ll cc lc;refine Vn ?_;refine Ug (xb N N) rfl rfl rfl ?_;go_simp;have ma:=(Below.refl w7.heap.size w7).alloc zR (.cells #[.slice Av fi.length cv] 28);have La:=Lf w7 (.slice Av fi.length cv) 28;refine ⟨ue ma de,?_⟩;replace kl:=ia kl ma;replace kc:=ia kc ma;replace ra:=Oa ra ma zR;replace Da:=Uc Da ma;replace da:=oa da ma;replace hx:=Mh hx ma.size (fun b _ h2 _=>ma.block b h2)
   have Of:=Nat.le_trans de ma.size
   try simp only [Act.put,zLa,zLb,zLc]
   generalize w7.alloc _=w8 at kl kc ra Da hx da La Of |-;generalize w7.heap.size=g7 at La |-;clear ma de;have ja:=(xb N N).refl w8;refine Vn ?_;refine Ug (xb N N) rfl rfl rfl ?_;refine Tn _ _ rfl Cj rfl ra rfl La (by intro u hu;simp at hu;subst hu;rfl) (by omega) Of ?_
   intro v' wn db Ma Lb;have Rb:∀ q,v.ownBlock=some q -> N <= q:=fun q e=>(ra.lt q e).1
   refine ⟨Ao Ma Of Rb,?_⟩;have ee:=Tq Da hx Ma Lb;rw [aA.out] at ee;replace kl:=kl.grown Ma (fun e=>by first | (have:=Rb _ e;omega) | (have:=Rb _ e.symm;omega))
   replace kc:=kc.grown Ma (fun e=>by first | (have:=Rb _ e;omega) | (have:=Rb _ e.symm;omega))
   replace da:=da.trans ((Ae ra Ma Of).mono (by omega))
   have af:N <= wn.heap.size:=by have:=Ma.size;omega
   clear ra Da hx Ma Lb Rb Of La ja;have ja:=(xb N N).refl wn
   try simp only [Act.put,zLa,zLb,zLc]
   refine Vn ?_;refine Fc ?_;go_wp2
   go_roundw
   case rel=>exact ⟨i+1,v',_,rfl,by omega,by go_num,kl,kc,db,ee,da,af⟩
   case measure=>simp [intOf];omega
  ·obtain rfl:i=m.length:=by omega
   have q2:¬((m.length:Int)<(m.length:Int)):=by omega
   have Au:=qw Da ra;go_wp2;go_ret
   exact ⟨_,rfl,Au,da⟩
end Go.Proofs.YtgeofabpinfcmaaGreat
namespace Go.Proofs.YtgeofabpinfcmaaGreat
def Ot (s pu x:Nat) (t:Int × Nat):Int:=if t.1-1-(pu:Int)=(s:Int) then (x:Int)*(t.2:Int) else 0
theorem Q5 {p:Nat} (hp:1<p) (pu x:Nat) (f:Nat -> Nat) (t:Int × Nat) (s:Nat):Cg p (zq p pu x f t s:Int) ((f s:Int)-Ot s pu x t):=by
 unfold zq Ot;by_cases h:0 <= t.1-1-(pu:Int)
 ·rw [if_pos h]
  by_cases e:t.1-1-(pu:Int)=(s:Int)
  ·rw [if_pos e,e,Int.toNat_natCast]
   unfold ef;rw [if_pos rfl];refine (Cg.mod _).trans ((Cg.of_eq (Int.natCast_add _ _)).trans ?_);refine (Cg.rfl'.add ((Nn p _ (by omega)).trans ?_)).trans (Cg.of_eq (Int.sub_eq_add_neg).symm)
   exact Cg.neg ((Cg.mod _).trans (Cg.of_eq (Int.natCast_mul _ _)))
  ·rw [if_neg e]
   unfold ef;rw [if_neg (by omega)]
   exact Cg.of_eq (by omega)
 ·rw [if_neg h,if_neg (by omega)]
  exact Cg.of_eq (by omega)
theorem aN {p:Nat} {a b t u:Int} (h:Cg p a (b-t)):Cg p (a-u) (b-(t+u)):=by
 obtain ⟨c,hc⟩:=h;exact ⟨c,by omega⟩
theorem PQ {p:Nat} {a t u:Int} (h:Cg p a (-t)):Cg p (a-u) (-(t+u)):=by
 obtain ⟨c,hc⟩:=h;exact ⟨c,by omega⟩
theorem QM {p:Nat} (hp:1<p) (pu x:Nat) (f:Nat -> Nat) (ts:List (Int × Nat)) (s:Nat):∀ n,Cg p (Yk p pu x f ts n s:Int) ((f s:Int)-Sa (fun t=>Ot s pu x (ts.getD t (0,0))) n)
 | 0=>Cg.of_eq (by rw [Sa];show (f s:Int)=_;omega)
 | n+1=>by
  rw [Sa];refine (Q5 hp pu x _ _ s).trans ?_;exact aN (QM hp pu x f ts s n)
def rv (p pu n rho:Nat) (rows:List Cb) (s j i:Nat):Int:=Sa (fun t=>Ot s pu (rho^(j*n+i)%p) ((Mc (rows.getD i ⟨[],[],[]⟩) j).getD t (0,0))) (Mc (rows.getD i ⟨[],[],[]⟩) j).length
theorem cT {p:Nat} (hp:1<p) (pu n rho:Nat) (rows:List Cb) (i:Nat) (f:Nat -> Nat) (s:Nat):∀ j,Cg p (Zu p pu n rho (rows.getD i ⟨[],[],[]⟩) i f j s:Int) ((f s:Int)-Sa (fun j=>rv p pu n rho rows s j i) j)
 | 0=>Cg.of_eq (by rw [Sa];show (f s:Int)=_;omega)
 | j+1=>by
  rw [Sa];refine (QM hp pu _ _ _ s _).trans ?_;exact aN (cT hp pu n rho rows i f s j)
theorem bT {p:Nat} (hp:1<p) (pu n rho:Nat) (rows:List Cb) (s:Nat):∀ i,Cg p (gD p pu n rho rows i s:Int) (-(Sa (fun i=>Sa (fun j=>rv p pu n rho rows s j i) 3) i))
 | 0=>Cg.of_eq rfl
 | i+1=>by
  rw [Sa];refine (cT hp pu n rho rows i _ s 3).trans ?_;exact PQ (bT hp pu n rho rows s i)
theorem RO {p:Nat} (hp:1<p) (pu n rho:Nat) (rows:List Cb) (k:Nat) (f:Nat -> Nat) (s:Nat):∀ i,Cg p (ZE p pu n rho rows k f i s:Int) ((f s:Int)-Sa (fun i=>rv p pu n rho rows s k i) i)
 | 0=>Cg.of_eq (by rw [Sa];show (f s:Int)=_;omega)
 | i+1=>by
  rw [Sa];refine (QM hp pu _ _ _ s _).trans ?_;exact aN (RO hp pu n rho rows k f s i)
theorem YJ {p:Nat} (hp:1<p) (pu n rho:Nat) (rows:List Cb) (s:Nat):∀ k,Cg p (Hs p pu n rho rows k s:Int) (-(Sa (fun k=>Sa (fun i=>rv p pu n rho rows s k i) n) k))
 | 0=>Cg.of_eq rfl
 | k+1=>by
  rw [Sa];refine (RO hp pu n rho rows k _ s n).trans ?_;exact PQ (YJ hp pu n rho rows s k)
theorem Q4 {p:Nat} (hp:1<p) (pu n rho:Nat) (rows:List Cb) (s:Nat):∀ i,gD p pu n rho rows i s<p:=by
 have hT:∀ (x:Nat) (f:Nat -> Nat) ts t,(∀ k,f k<p) -> ∀ k,Yk p pu x f ts t k<p:=fun x f ts t hf=>by
  induction t with
  | zero=>exact hf
  | succ t ih =>
   intro k;show zq p pu x (Yk p pu x f ts t) _ k<_
   unfold zq;split
   ·unfold ef
    split
    ·exact Nat.mod_lt _ (by omega)
    ·exact ih k
   ·exact ih k
 have hS:∀ r i (f:Nat -> Nat),(∀ k,f k<p) -> ∀ j k,Zu p pu n rho r i f j k<p:=fun r i f hf j=>by
  induction j with
  | zero=>exact hf
  | succ j ih=>exact hT _ _ _ _ ih
 have hR:∀ i k,gD p pu n rho rows i k<p:=fun i=>by
  induction i with
  | zero=>intro k;show 0<p;omega
  | succ i ih=>exact hS _ _ _ ih 3
 exact fun i=>hR i s
theorem DV {p:Nat} (hp:1<p) (pu n rho:Nat) (rows:List Cb) (s:Nat):∀ k,Hs p pu n rho rows k s<p:=by
 have hT:∀ (x:Nat) (f:Nat -> Nat) ts t,(∀ k,f k<p) -> ∀ k,Yk p pu x f ts t k<p:=fun x f ts t hf=>by
  induction t with
  | zero=>exact hf
  | succ t ih =>
   intro k;show zq p pu x (Yk p pu x f ts t) _ k<_
   unfold zq;split
   ·unfold ef
    split
    ·exact Nat.mod_lt _ (by omega)
    ·exact ih k
   ·exact ih k
 have hI:∀ k (f:Nat -> Nat),(∀ s,f s<p) -> ∀ i s,ZE p pu n rho rows k f i s<p:=fun k f hf i=>by
  induction i with
  | zero=>exact hf
  | succ i ih=>exact hT _ _ _ _ ih
 have hK:∀ k s,Hs p pu n rho rows k s<p:=fun k=>by
  induction k with
  | zero=>intro s;show 0<p;omega
  | succ k ih=>exact hI _ _ ih n
 exact fun k=>hK k s
theorem P4 {p:Nat} (hp:1<p) (pu rho:Nat) (rows:List Cb) (n s:Nat):gD p pu n rho rows n s=Hs p pu n rho rows 3 s:=by
 refine Cg.eq (p:=p) ((bT hp pu n rho rows s n).trans (Cg.trans (Cg.of_eq ?_) (YJ hp pu n rho rows s 3).symm)) (Q4 hp _ _ _ _ _ _) (DV hp _ _ _ _ _ _);rw [Lz (fun i j=>rv p pu n rho rows s j i) 3 n]
theorem nV {L:Ja} (hp:1<L.p) (pu rho:Nat) (rows:List Cb):iw L pu rho rows=Tc L pu rho rows:=by
 unfold iw Tc;rw [List.map_congr_left fun s _=>P4 hp pu rho rows rows.length s]
end Go.Proofs.YtgeofabpinfcmaaGreat
namespace Go.Proofs.YtgeofabpinfcmaaGreat
theorem tL {p:Nat} {n:Int} {l:List (Int × Nat)} (h:Pj p n l=true):∀ t∈l,0 <= t.1 /\ t.1<n:=fun t ht=>by
 obtain ⟨i,hi,rfl⟩:=List.getElem_of_mem ht;unfold Pj at h;have h1:=List.all_eq_true.1 h i (List.mem_range.2 hi);have e:l.getD i (0,0)=l[i]:=by rw [List.getD_eq_getElem?_getD,List.getElem?_eq_getElem hi];rfl
 unfold xr at h1;rw [e] at h1;simp only [Bool.not_eq_true',Bool.or_eq_false_iff,decide_eq_false_iff_not] at h1;omega
theorem UI {p:Nat} {pub vars:Int} {rows:List Cb} (h:dd p pub vars rows=true):mn vars rows:=fun r hr k hk t ht=>by
 unfold dd at h;rw [Bool.and_eq_true] at h;have h1:=List.all_eq_true.1 h.2 r hr;unfold Xk at h1;rw [Bool.and_eq_true,Bool.and_eq_true] at h1;unfold Mc at ht;rcases (show k=0 \/ k=1 \/ k=2 by omega) with e | e | e <;> subst e
 ·exact tL h1.1.1 t ht
 ·exact tL h1.1.2 t ht
 ·exact tL h1.2 t ht
theorem PI {L:Ja} {p pu:Nat} {vars bl bw qs:Int} {rows:List Cb} (h:dd p (pu:Int) vars rows=true) (hF:tl L ⟨p,(pu:Int),vars,rows.length,bl,bw,qs⟩):xl L pu vars rows:=by
 simp only [dd,Bool.and_eq_true,Bool.not_eq_true',decide_eq_false_iff_not] at h;have h1:L.rows=rows.length:=by rw [hF.eq];rfl
 have h2:L.secret=(vars-1-(pu:Int)).toNat:=by rw [hF.eq];rfl
 have h3:=hF.vars;simp only at h3;exact ⟨h1,by omega,by omega⟩
end Go.Proofs.YtgeofabpinfcmaaGreat
namespace Go.Proofs.YtgeofabpinfcmaaGreat
def tgI (p n rho:Nat) (ws:List Nat) (rows:List Cb) (k s:Nat):Nat -> Nat
 | 0=>s
 | i+1=>(tgI p n rho ws rows k s i+rho^(k*n+i)%p*Yc p (Mc (rows.getD i ⟨[],[],[]⟩) k) ws%p)%p
def tgK (p n rho:Nat) (ws:List Nat) (rows:List Cb):Nat -> Nat
 | 0=>0
 | k+1=>tgI p n rho ws rows k (tgK p n rho ws rows k) n
def tgT (p n rho:Nat) (ws:List Nat) (rows:List Cb) (k i:Nat):Int:=((rho^(k*n+i)%p:Nat):Int)*((Yc p (Mc (rows.getD i ⟨[],[],[]⟩) k) ws:Nat):Int)
theorem aO {p:Nat} {a:Nat} {s:Int} (h:Cg p (a:Int) s) (x y:Nat):Cg p (((a+x*y%p)%p:Nat):Int) (s+(x:Int)*(y:Int)):=by
 refine (Cg.mod _).trans ((Cg.of_eq (Int.natCast_add _ _)).trans ?_);exact h.add ((Cg.mod _).trans (Cg.of_eq (Int.natCast_mul _ _)))
theorem CT {p:Nat} (n rho:Nat) (ws:List Nat) (rows:List Cb) (k s:Nat):∀ i,Cg p (tgI p n rho ws rows k s i:Int) ((s:Int)+Sa (fun i=>tgT p n rho ws rows k i) i)
 | 0=>Cg.of_eq (by rw [Sa];show (s:Int)=_;omega)
 | i+1=>by
  rw [Sa];refine (aO (CT n rho ws rows k s i) _ _).trans (Cg.of_eq ?_);unfold tgT;omega
theorem DT {p:Nat} (n rho:Nat) (ws:List Nat) (rows:List Cb):∀ k,Cg p (tgK p n rho ws rows k:Int) (Sa (fun k=>Sa (fun i=>tgT p n rho ws rows k i) n) k)
 | 0=>Cg.rfl'
 | k+1=>by
  rw [Sa];exact (CT n rho ws rows k _ n).trans ((DT n rho ws rows k).add Cg.rfl')
theorem T5 {p:Nat} (hp:0<p) (n rho:Nat) (ws:List Nat) (rows:List Cb) (k:Nat) {s:Nat} (hs:s<p):∀ i,tgI p n rho ws rows k s i<p
 | 0=>hs
 | _+1=>Nat.mod_lt _ hp
theorem ET {p:Nat} (hp:0<p) (n rho:Nat) (ws:List Nat) (rows:List Cb):∀ k,tgK p n rho ws rows k<p
 | 0=>hp
 | k+1=>T5 hp _ _ _ _ _ (ET hp n rho ws rows k) n
end Go.Proofs.YtgeofabpinfcmaaGreat
