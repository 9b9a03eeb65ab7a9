/- A part of the proof. No condition. -/
import Derived.Test.YteoghgbnielkpaaGreatPP9
import Derived.Test.YteoghgbnielkpaaGreatPP10
import Derived.Test.YteoghgbnielkpaaGreatPP6
import Derived.ChangeKeysEq

set_option maxRecDepth 100000
set_option maxHeartbeats 8000000
set_option linter.unusedVariables false
set_option linter.unusedSimpArgs false
namespace Go.Proofs.YteoghgbnielkpaaGreat
open Go.RowKit
open Tryz
open Go renaming World->vu, Value->vw, Addr->vx, TypeId->vy, Calls->vA
open Go.Value renaming int->vd, slice->ve, agg->vf
open Go.IntKind renaming u64->vo, i64->vq
open Go.Ending renaming returned->vn
open Go.RowKit renaming Below->vz
open Go.Act renaming put->vF
open Option renaming none->vB, some->vD
theorem zES (n:Nat):madeCells (ve vB 0 0).cells (n*1)=Array.replicate n (ve vB 0 0):=by
 apply Array.toList_inj.1
 rw [show (ve vB 0 0).cells=#[ve vB 0 0] from rfl,toList_madeCells_one]
 simp
structure FBs (NF:Nat) (w:vu) (cs:Array vw) (q i:Nat) (r:Nat -> List Nat) (f:Nat -> Nat):Prop where
 at_:∀ k,k<i -> cs[k]?=vD (ve (vD ⟨f k,0,vB⟩) q q) /\ Blk w (f k) 22 (Qa (r k)).toArray /\ NF <= f k
 lt:∀ k m,k<m -> m<i -> f k<f m
theorem FBs.keep {NF:Nat} {w u:vu} {cs:Array vw} {q i:Nat} {r:Nat -> List Nat} {f:Nat -> Nat} (h:FBs NF w cs q i r f) (hw:∀ b,NF <= b -> b<w.1.size -> u.1[b]?=w.1[b]?):FBs NF u cs q i r f :=
 ⟨fun k hk=>⟨(h.at_ k hk).1,(hw _ (h.at_ k hk).2.2 (h.at_ k hk).2.1.lt).trans (h.at_ k hk).2.1,(h.at_ k hk).2.2⟩,h.lt⟩
theorem FBs.rows {NF:Nat} {w:vu} {cs:Array vw} {q n g:Nat} {t:vy} {r:Nat -> List Nat} {f:Nat -> Nat} (h:FBs NF w cs q n r f) (hk:Blk w g t cs) (hr:∀ k,k<n -> (r k).length=q /\ ∀ x∈r k,x<18446744073709551616) (hq:q <= maxLen) (hm:n <= maxLen):Kd w [ve (vD ⟨g,0,vB⟩) n n] ((List.range n).map r) :=
 Z3 (N:=0) (gb:=vB) (fun k hk=>⟨_,(h.at_ k hk).1,zAE (h.at_ k hk).2.1 (hr k hk).1 (hr k hk).2 hq (Qb _) (fun e=>by cases e)⟩) hk hm
structure CoB (N:Nat) (w:vu) (q:Nat) (cs:Array vw) (n:Nat) (r:Nat -> List Nat) (l1 l2 l3 l4:List Nat) (g0 g1 g2 g3 g4 NF:Nat) (f:Nat -> Nat):Prop where
 k0:Blk w g0 28 cs
 k1:Blk w g1 22 (Qa l1).toArray
 k2:Blk w g2 22 (Qa l2).toArray
 k3:Blk w g3 22 (Qa l3).toArray
 k4:Blk w g4 22 (Qa l4).toArray
 kr:FBs NF w cs q n r f
 ge:N <= g0 /\ N <= g1 /\ N <= g2 /\ N <= g3 /\ N <= g4
 lt:g0<NF /\ g1<NF /\ g2<NF /\ g3<NF /\ g4<NF
 nd:[g0,g1,g2,g3,g4].Nodup
theorem zD4:(prog.info? 3).map (fun i=>(i.zero,i.size,i.bytes))=vD (vD (vd vq 0),1,8):=by kernel_rfl
theorem zCW (a b c d:Int) (w:vu):(Op.equalIn 10000 33 (vf #[vd vq a,vd vq b,vd vq c,vd vq d]) (vf #[vd vq a,vd vq b,vd vq c,vd vq d])).run prog w= .ok true w:=by
 obtain ⟨i,hi,hz,hs,jF⟩:=info_parts zD4;rw [run_equalIn_array w 9999 _ _ underlying33 hi];have hu:=underlying3;have hr:List.range 4=[0,1,2,3]:=rfl;rw [hr,PJ];simp [Op.eqItems,part,run_equalIn_int _ _ _ _ _ _ _ hu,sizeOf]
structure GC (L:Tb) (pu:Nat) (vars:Int) (rows:List sc):Prop where
 nr:L.rows=rows.length
 sec:vars=(L.secret:Int)+1+(pu:Int)
 small:(pu:Int) <= 4294967296
theorem uZ (L:Tb) (pu:Nat) (vars:Int) (A:Option vx) (n c:Nat) (rows:List sc) (w:vu) (hL:Ad L) (hF:GC L pu vars rows) (hn:rows.length=n) :
  vA prog 123 #[vf (Ub L),Xc L.p (pu:Int) vars (ve A n c)] w fun e w'=>e=vn (.bool true) /\ vz w.1.size w w':=by
 have Oa:=hL.b1;have Fa:=hL.b2;have hs:=hL.s;have hr:=hL.r;have kD:=hF.nr;have Jx:=hF.sec;have Nv:=hF.small;have HV:=zH (fun w=>qv L.p w hL.p)
 have jE:=zH (fun w=>by have:=iT L.rows L.block w zO zO zO;rw [<- hL.be] at this;exact this)
 have my:=zH (fun w=>by have:=iT L.secret L.block w zO zO zO;rw [<- hL.ae] at this;exact this)
 have i1:((L.p:Int)!=L.p)=false:=by simp
 have i2:decide ((L.block:Int)<1)=false:=Xb zO;have i3:((L.rows:Int)!=n)=false:=by rw [Qw];omega
 have i4:decide ((16384:Int)<L.rows)=false:=Xb zO;have i5:decide ((pu:Int)<0)=false:=Xb zO;have i6:decide ((L.secret:Int)<0)=false:=Xb zO;have x1:vars-1=(L.secret:Int)+pu:=by omega
 obtain ⟨t,ht⟩:=zEX (L.secret+pu);have x2:(L.secret:Int)+pu=(t:Int):=by omega
 have x3:=Xd t;have x4:(t:Int)-pu=(L.secret:Int):=by omega
 have x5:vq.wrap (L.secret:Int)=L.secret:=uo _ zO zO;have i7:((L.secret:Int)!=L.secret)=false:=by simp
 rw [x2] at x1;clear ht hL hF Oa Fa hs hr kD Jx Nv hn x2;unfold Ub Xc fv at *;obtain ⟨kl,kt,da,-⟩:=Xf w 101 25 #[vd vo L.p,vd vq L.block,vd vq L.queries,vd vq L.k,vd vq L.n,vd vq L.secret,vd vq L.rows,vd vq L.a,vd vq L.b,vd vq L.b,vd vq L.b] #[vd vo L.p,vd vq pu,vd vq vars,ve A n c];go_enter func123,ntmps123
 go_upto_region 1 with fail
 generalize (w.alloc _).alloc _=w1 at kl kt da |-;have cl:=kl.cell;have ct:=kt.cell;go_wp2_with fail
 refine (HV.out _).mono ?_;rintro e w2 ⟨rfl,Ca⟩;replace kl:=pa kl Ca;replace kt:=pa kt Ca;replace da:=ta da Ca;clear Ca cl ct;have cl:=kl.cell;have ct:=kt.cell;go_wp2_with fail
 refine (jE.out _).mono ?_;rintro e w3 ⟨rfl,rfl⟩;have ll:=kl.lt;go_upto_region 6 with fail
 refine Pd (Rc) [6] [0,1,2,3,4,5,7,8,9,6,10,11,12] zK zK ?_;refine oe (Da) ?_;intro Wc Ga ja;have Pa:=Uf Ga;refine Mc ?_;refine ud Da rfl rfl rfl ((my.out _).mono ?_);rintro e w4 ⟨rfl,rfl⟩;refine ⟨_,rfl,(Da).refl _,?_⟩;replace ja:=zM Da ja ((Da).refl _);refine zPU ?_;have hq:=zCW (L.a:Int) (L.b:Int) (L.b:Int) (L.b:Int);refine Mc ?_;refine Vc ?_;replace da:=ta da Pa;go_wp2;go_ret
 exact ⟨zS,da⟩
theorem zE0 (n:Nat) (hn:n <= 1000000) (w:vu) :
  (Instr.makeSlice 39 (vd vq 0) (vd vq n)).run prog w= .ok (ve (vD ⟨w.1.size,0,vB⟩) 0 n) (w.alloc (.cells (Array.replicate n (ve vB 0 0)) 28)):=by
 obtain ⟨ht,⟨i,hi,hz,hs,jF⟩,vL,Db⟩:=So;have:=run_make (P:=prog) w 39 28 i _ ht hi hz vq vq 0 (n:Int) zO zO (by rw [jF];omega) zO
 rw [En,hs,zES] at this;exact this
theorem zCN {l:List Nat} {k B:Nat}:(l.drop k).drop (min (l.drop k).length B)=l.drop (k+B):=by
 rw [List.drop_drop];by_cases h:(l.drop k).length <= B
 ·rw [Nat.min_eq_left h]
  rw [DC] at h |-;rw [List.drop_eq_nil_of_le zO,List.drop_eq_nil_of_le zO]
 ·rw [Nat.min_eq_right zO]
theorem idx_4 {w:vu} {a b c d:vw} {i:Nat} (h:i<4):(Instr.index 219 (vf #[a,b,c,d]) (vd vq i)).run prog w= .ok (ye a b c d i) w :=
 wQ underlying219 (by simp [isAgg,run_underlying underlying28]) (by
  obtain ⟨-,⟨i0,hi,-,hs,-⟩,-,-⟩:=So;simp [sizeOf,typeInfo,hi,hs]) h (bY a b c d h)
def lenV:vw -> Nat
 | ve _ n _=>n
 | _=>0
theorem zCv {B:Nat} {l:List Nat} {k t:Nat} (ht:t=min (l.drop k).length B):((Ya B fun _=>0).toList.take 0++Qa ((l.drop k).take t)++(Ya B fun _=>0).toList.drop (0+(Qa ((l.drop k).take t)).length)).toArray=Ya B fun j=>l.getD (k+j) 0:=by
 rw [TE,TE]
 congr 1
 have hl:(Qa ((l.drop k).take t)).length=t:=by simp [Qa];rw [ht];simp;try omega
 apply List.ext_getElem
 ·simp only [List.take_zero,List.nil_append,qh,DC,hl]
  simp [Qa]
  omega
 ·intro i h1 h2
  simp [Qa] at h2
  by_cases h:i<t
  ·rw [EA (by simp only [List.take_zero,List.nil_append,hl];exact h)]
   simp only [List.take_zero,List.nil_append];have h3:i<(l.drop k).length:=by omega
   have h4:k+i<l.length:=by rw [DC] at h3;omega
   simp [Qa,h4]
  ·rw [JJ (by simp only [List.take_zero,List.nil_append,hl];omega)]
   have h3:¬k+i<l.length:=by
    intro h5;have:(l.drop k).length=l.length-k:=DC;omega
   simp [Qa,h3]
theorem zCw {B k t g:Nat} {l:List Nat} {A:Option vx} {n c:Nat} (w:vu) (hl:RWd w [ve A n c] (l.drop k)) (ht:t=min (l.drop k).length B) (h1:0<t) (kg:Blk w g 22 (Ya B fun _=>0)) (ty:vy) :
  (Builtin.copy_ #[28,28] ty #[ve (vD ⟨g,0,vB⟩) B B,ve A n c]).run prog w= .ok (goInt t) (w.setRow g (Ya B fun j=>l.getD (k+j) 0)):=by
 obtain ⟨hn,-,-,-,hr⟩:=Pb hl;have hlen:(Qa ((l.drop k).take t)).length=t:=by
  have h1:(l.drop k).length=l.length-k:=DC;simp [Qa]
  omega
 have Db:(prog.info? 22).map (·.size)=vD 1:=by
  obtain ⟨-,⟨i,hi,-,hs,-⟩,-,-⟩:=jg;rw [hi];simp [hs]
 obtain ⟨ad,rfl,hc⟩:=hr.2 zO;have h:=run_copy_row (P:=prog) w 28 28 ty 22 g 0 B B ad n c (Ya B fun _=>0) 22 (Qa ((l.drop k).take t)) underlying28 Db kg (by rw [hlen,ht,hn]) (fun j v hj=>by
  have Zo:j<t:=by
   have:=(List.getElem?_eq_some_iff.1 hj).1;rw [hlen] at this;exact this
  refine hc j v ?_;simp only [Qa,List.map_take,List.getElem?_take,Lb Zo] at hj;exact hj) (by rw [hlen];simp [Ya];omega) (fun v hv=>by
  obtain ⟨x,-,rfl⟩:=ee.1 hv
  rfl)
 rw [h,zCv ht,hlen]
theorem xQ {w:vu} {A:Option vx} {n c t:Nat} {l:List Nat} (h:RWd w [ve A n c] l) (ht:t <= n):RWd w [ve (if c=t then A else A.map (·.add t)) (n-t) (c-t)] (l.drop t):=by
 obtain ⟨hn,hc,hm,ya,hr⟩:=Pb h;have h2:=hr.cut (k:=t) ht hc;rw [Ns] at h2;refine ⟨_,_,_,rfl,zO,zO,?_,fun x hx=>ya x (List.mem_of_mem_drop hx)⟩
 rw [show Qa (l.drop t)=(Qa l).drop t by simp [Qa]]
 exact h2
def RRx (B:Nat) (w:vu) (v:vw) (l:List (List Nat)):Prop:=(∀ q,v.ownBlock=vD q -> B <= q) /\ ∀ u:vu,(∀ b,B <= b -> b<w.1.size -> u.1[b]?=w.1[b]?) -> Kd u [v] l
theorem RRx.here {B:Nat} {w:vu} {v:vw} {l:List (List Nat)} (h:RRx B w v l):Kd w [v] l:=h.2 w fun _ _ _=>rfl
theorem RRx.mono {B C:Nat} {w:vu} {v:vw} {l:List (List Nat)} (h:RRx B w v l) (hC:C <= B):RRx C w v l:=⟨fun q e=>jb hC (h.1 q e),fun u hu=>h.2 u fun b h1 h2=>hu b zO h2⟩
theorem vQ {N base n B:Nat} {w:vu} {e:vy} {v:vw} {cs:List vw} {l:List (List Nat)} (h:gh N w v cs l) (ho:w.ownsRow base e 1 v n cs) (h1:B <= N) (h2:B <= base):RRx B w v l:=⟨fun q e=>jb h2 (ho.lt q e).1,fun u hu=>by
 refine sH (N:=N) (w:=u) ⟨h.1,fun i k1 k2=>?_⟩ (Dz.own_agree' ho fun b b1 b2=>hu b zO b2)
 intro u' hu';refine h.2 i k1 k2 u' fun b b1 b2 b3=>?_
 have e1:=hu b zO b2;have hb:b<u.1.size:=by
  rcases Zj b u.1.size with q | q
  ·exact q
  ·rw [Array.getElem?_eq_none q,Array.getElem?_eq_getElem b2] at e1
   cases e1
 exact (hu' b b1 hb b3).trans e1⟩
theorem ov {w u:vu} {b o:Nat} (h:u.1[b]?=w.1[b]?):u.cell? ⟨b,o,vB⟩=w.cell? ⟨b,o,vB⟩:=by
 simp [World.cell?,h]
theorem VX {B n c:Nat} {w:vu} {A:Option vx} {l:List (List Nat)} (h:RRx B w (ve A n c) l) {i:Nat} (hi:i<l.length) :
  ∃ b q A1 n1 c1,A=vD ⟨b,q,vB⟩ /\ B <= b /\ b<w.1.size /\ w.cell? ⟨b,q+i,vB⟩=vD (ve A1 n1 c1) /\ ∀ u:vu,(∀ b,B <= b -> b<w.1.size -> u.1[b]?=w.1[b]?) -> RWd u [ve A1 n1 c1] l[i]:=by
 obtain ⟨b,q,A1,n1,c1,rfl,hb,hc,-⟩:=Dl (Ig h.here).2.2.2 hi;have hB:=h.1 b rfl;refine ⟨b,q,A1,n1,c1,rfl,hB,hb,hc,fun u hu=>?_⟩
 obtain ⟨b',q',A2,n2,c2,he,-,Un,hr⟩:=Dl (Ig (h.2 u hu)).2.2.2 hi
 injection he with he
 injection he with h1 h2 h3
 subst h1 h2;rw [ov (hu b hB hb),hc] at Un
 injection Un with Un
 rw [Un];exact hr
theorem R8 (L:Tb) (v0 v1 v2 v3:vw) (l0 l1 l2 l3:List Nat) (w:vu) (hL:Ad L) (hv:∀ i,i<4 -> RWd w [ye v0 v1 v2 v3 i] (ye l0 l1 l2 l3 i)) (hq:∀ i,i<4 -> ye L.a L.b L.b L.b i=((ye l0 l1 l2 l3 i).length+L.block-1) / L.block) :
  vA prog 125 #[vf (Ub L),vf #[v0,v1,v2,v3]] w fun e w'=>∃ v,e=vn v /\ RRx w.1.size w' v (ar L.block (ye l0 l1 l2 l3) (ye L.a L.b L.b L.b)) /\ vz w.1.size w w':=by
 have Oa:=hL.b1;have Fa:=hL.b2;have hT4:L.a+L.b+L.b+L.b <= 400000:=by have:=hL.a;have:=hL.b;omega
 have tA:=zH (fun w=>bT L.p L.block L.queries L.k L.n L.secret L.rows L.a L.b L.b L.b w hL.a hL.b hL.b hL.b)
 have im:=zH (show ∀ i,ye L.a L.b L.b L.b i <= 100000 from fun i=>by
  have:=hL.a;have:=hL.b;unfold ye
  repeat' split
  all_goals omega)
 have HV:=zH hv;have HG:=zH (fun i (h:i<4)=>bY v0 v1 v2 v3 h)
 obtain ⟨l,hl⟩:=zEX (ye l0 l1 l2 l3);obtain ⟨ps,Rk⟩:=zEX (ye L.a L.b L.b L.b);have ey:=zH (show ar L.block (ye l0 l1 l2 l3) (ye L.a L.b L.b L.b)=Yp L.block l ps 4 by rw [hl,Rk];rfl)
 rw [ey.out];rw [<- hl] at HV hq;rw [<- Rk] at im hq;have Io:=zH (show Yp L.block l ps 0=[] from rfl)
 have fA:=zH (eV L.block l ps);have HQ:=zH hq;have mk:=Rv L.block zO;obtain ⟨T,hT⟩:=zEX (L.a+L.b+L.b+L.b);rw [<- hT] at hT4 tA;have mk0:=zE0 T zO;have gT:(T:Int) <= 400000:=by omega
 have gT0:(0:Int)<=T:=by omega
 clear hv hl Rk ey hL hq hT;unfold Ub at *;obtain ⟨kl,kv,da,-⟩:=Xf w 101 219 #[vd vo L.p,vd vq L.block,vd vq L.queries,vd vq L.k,vd vq L.n,vd vq L.secret,vd vq L.rows,vd vq L.a,vd vq L.b,vd vq L.b,vd vq L.b] #[v0,v1,v2,v3];go_enter func125,ntmps125
 go_upto_region 1 with fail
 generalize (w.alloc _).alloc _=w0 at kl kv da |-;have cl:=kl.cell;go_wp2_with fail
 refine (tA.out _).mono ?_;rintro e w1 ⟨rfl,Ca⟩;replace kl:=pa kl Ca;replace kv:=pa kv Ca;replace da:=ta da Ca;clear Ca cl;go_upto_region 2 with fail
 have oa:=World.ownsRow_made (e:=28) (size:=1) w1 (Array.replicate T (ve vB 0 0)) T (base:=w1.1.size) zR (by simp [maxLen];omega) zS
 have ma:=zA w1 (.cells (Array.replicate T (ve vB 0 0)) 28);have xq:w.1.size+1<w1.1.size:=kv.lt;have Db:w1.1.size <= (w1.alloc (.cells (Array.replicate T (ve vB 0 0)) 28)).1.size:=ma.size;replace kl:=pa kl ma;replace kv:=pa kv ma;replace da:=ta da ma;clear ma mk0;generalize w1.alloc _=w2 at kl kv da oa Db |-;generalize w1.1.size=N at oa xq Db |-;have HWN:=zH (show w.1.size <= N by omega)
 have cv:=kv.cell;go_wp2_with fail
 generalize hBL:L.block=B at *;have HBL:=zH hBL;clear hBL cv kv tA;have g1:(0:Int)<B:=by omega
 have g2:(B:Int) <= 256:=by omega
 obtain ⟨LC,vH⟩:∃ LC:Array vw,LC=#[vd vo L.p,vd vq B,vd vq L.queries,vd vq L.k,vd vq L.n,vd vq L.secret,vd vq L.rows,vd vq L.a,vd vq L.b,vd vq L.b,vd vq L.b]:=⟨_,rfl⟩;have dj:=zH (show LC[1]?=vD (vd vq B) by rw [vH];rfl)
 rw [<- vH] at kl;clear vH;go_loopw [5,13] (fun u y wr=>∃ (i n:Nat) (v:vw) (cs:List vw),v=u /\ i <= 4 /\ y=vd vq i /\ n <= i*100000 /\ Blk wr w.1.size 101 LC /\ wr.ownsRow N 28 1 v n cs /\ gh N wr v cs (Yp B l ps i) /\ vz w.1.size w wr /\ N <= wr.1.size) (fun _ y _=>4-(intOf y).toNat)
 case atStart=>exact ⟨0,0,_,[],rfl,zO,rfl,zO,kl,oa,by rw [Io.out];exact tH _ _ _,da,Db⟩
 case round =>
  clear kl da Db oa;obtain ⟨i,n0,v,cs,rfl,hi,rfl,gu,kl,oa,Ta,da,uf⟩:=hrel;by_cases ya:i<4
  ·have q1:(i:Int)<4:=by omega
   have q0:(0:Int)<=i:=by omega
   have Kx:=HV.out i ya;have Rk:=im.out i;obtain ⟨p,hp⟩:=zEX (ps i);have Iv:=fun w=>idx_4 (w:=w) (a:=v0) (b:=v1) (c:=v2) (d:=v3) ya
   have Ew:=zH (fA.out i);obtain ⟨li,yk⟩:=zEX (l i);obtain ⟨si,DF⟩:=zEX (ye v0 v1 v2 v3 i);have HQi:=zH (show p=(li.length+B-1) / B by rw [hp,yk];exact HQ.out i ya)
   rw [<- DF] at Kx Iv;rw [<- yk] at Kx Ew;rw [<- hp] at Rk Ew;clear hp yk DF;obtain ⟨Ai,ci,rfl⟩:=eh Kx;obtain ⟨P0,hP0⟩:=zEX (Yp B l ps i);rw [<- hP0] at Ta Ew;have uA:=zH (show P0++ir B li 0=P0 by simp [ir])
   have Qq:=zH (show ∀ k,(P0++ir B li k)++[QC B li k]=P0++ir B li (k+1) from fun k=>by rw [GZ,zy])
   have mU:=zH (Pb Kx).2.2.2.1;have HVI:=zH (show RWd w [ve Ai li.length ci] (li.drop (0*B)) by rw [Nat.zero_mul,List.drop_zero];exact Kx)
   clear hP0 Kx;go_wp2_with fail
   go_loopw [5,7] (fun u sv wr=>∃ (k n ns c':Nat) (As:Option vx) (v:vw) (cs:List vw),v=u /\ sv=ve As ns c' /\ Hid (RWd w [ve As ns c'] (li.drop (k*B))) /\ k <= p /\ n <= i*100000+k /\ Blk wr w.1.size 101 LC /\ wr.ownsRow N 28 1 v n cs /\ gh N wr v cs (P0++ir B li k) /\ vz w.1.size w wr /\ N <= wr.1.size) (fun _ sv _=>lenV sv)
   case atStart=>exact ⟨0,n0,_,_,_,_,cs,rfl,rfl,HVI,Qb _,by rw [Oo];exact gu,kl,oa,by rw [uA.out];exact Ta,da,uf⟩
   case round =>
    clear kl da uf oa Ta gu HVI Iv;obtain ⟨k,n1,ns,c',As,v,cs,rfl,rfl,HR,hk,Ue,kl,oa,Ta,da,uf⟩:=hrel;obtain ⟨xf,Fm,ft,-,-⟩:=Pb HR.out;have grm:=ti Fm ft;have Oq:=zH xf;have HR2:=zH (And.intro Fm ft);clear xf Fm ft;have c1:=kl.cell 1;rw [dj.out] at c1;by_cases ao:0<ns
    ·have q2:(0:Int)<ns:=by omega
     obtain ⟨wo,xB⟩:=zEX (wr);subst xB;have bR:=zH (Qq.out k);go_upto_region 7 with fail
     have kg:=Blk.new wo 22 (Ya B fun _=>0)
     have te:=zA wo (.cells (Ya B fun _=>0) 22)
     have uc:∀ q,v.ownBlock=vD q -> q<wo.1.size:=fun q e=>(oa.lt q e).2
     have hgN:N <= wo.1.size:=uf;clear c1;generalize wo.alloc _=w2 at kg te |-;obtain ⟨t,ht⟩:=zEX (min (li.drop (k*B)).length B);have ht1:0<t:=by rw [ht,<- Oq.out];omega
     have ht2:t <= ns:=by rw [ht,<- Oq.out];exact Nat.min_le_left _ _
     have hcp:=zCw w2 (Wa (ta da te) HR.out) ht ht1 kg;have ZE:=xQ HR.out ht2;rw [ht,zCN,<- ht,show k*B+B=(k+1)*B by rw [Nat.succ_mul]] at ZE
     have HRn:=zH ZE;obtain ⟨F,hF⟩:∃ F:Nat -> Nat,F=fun j=>li.getD (k*B+j) 0:=⟨_,rfl⟩
     have Sz:=zH (show (List.range B).map F=QC B li k by rw [hF];rfl)
     have Ho:=zH (show ∀ j,F j<18446744073709551616 from fun j=>by
      rw [hF];show li.getD (k*B+j) 0<_
      rw [Hc];cases h:li[k*B+j]? with
      | none=>decide
      | some x=>exact mU.out x (List.mem_of_getElem? h))
     have hkp:k+1 <= p:=by
      have h1:k*B<li.length:=by
       have h2:(li.drop (k*B)).length=li.length-k*B:=DC;have:=Oq.out;omega
      rw [HQi.out];refine (Nat.le_div_iff_mul_le zO).2 ?_;rw [Nat.succ_mul];omega
     rw [<- hF] at hcp;have q3:(0:Int)<=t:=by omega
     have q4:(t:Int)<=ns:=by omega
     have Nd:ns <= c':=HR2.out.1;have q5:(ns:Int)<=c':=by omega
     have kg2:=setRow_heap w2 wo.1.size _ (Ya B F) _ _ kg;have BK:=below_setRow te zR (Ya B F);clear ZE hF kg te ht;by_cases gB:c'=t
     all_goals
      first | (obtain rfl:=gB;have FG:=zH HRn.out;rw [Lb rfl,show ns-c'=0 by omega,show c'-c'=0 by omega] at FG) | (have FG:=zH HRn.out;rw [Gb gB] at FG)
      clear HRn;go_upto_region 8 with fail
      clear hcp;generalize w2.setRow _ _=w3 at kg2 BK |-;replace kl:=pa kl BK;replace da:=ta da BK;replace uf:=jb uf BK.size;replace oa:=Za oa BK zR;replace Ta:=Ef Ta BK;have hx:=PN (N:=N) (gb:=v.ownBlock) kg2 (fun j _=>Ho.out j) (by simp [maxLen];omega) hgN (fun e=>by have:=uc _ e.symm;omega)
      rw [Sz.out] at hx;clear kg2;go_wp2_with (at_builtin;refine Wd rfl _ _ rfl So rfl (oa.alloc _) rfl (gg _ _ _) (by intro u hu;simp at hu;subst hu;rfl) zO zT ?_)
      intro v' wn Ua Ma Cb;have ma:=zA w3 (.cells #[ve (vD ⟨wo.1.size,0,vB⟩) B B] 28);replace Ta:=Ef Ta ma;replace hx:=Lm hx ma.size (fun b _ h2 _=>ma.block b h2)
      have Ag:=YC Ta hx Ma (by simpa using Cb)
      rw [bR.out] at Ag;have yv:=ie (oa.alloc _) Ma zT;have Jc:w.1.size <= N:=by omega
      have Qr:∀ q,v.ownBlock=vD q -> N <= q:=fun q e=>(oa.lt q e).1
      replace kl:=pa kl ma;replace da:=ta da ma;replace uf:=jb uf ma.size;replace kl:=kl.grown Ma (fun e=>by first | (have:=Qr _ e;omega) | (have:=Qr _ e.symm;omega))
      replace da:=da.trans (yv.mono Jc);replace uf:=jb uf Ma.size;clear Ma Cb yv ma oa Ta hx BK;go_wp2
      go_roundw
      case rel=>exact ⟨k+1,n1+1,_,_,_,_,_,rfl,rfl,FG,hkp,zO,kl,Ua,Ag,da,uf⟩
      case measure=>simp [lenV];omega
    ·have q2:¬((0:Int)<ns):=by omega
     have hkp:k=p:=by
      have h2:(li.drop (k*B)).length=li.length-k*B:=DC;have h3:=Oq.out;have h4:=HQi.out;have h5:(li.length+B-1) / B <= k:=by
       have:li.length+B-1<(k+1)*B:=by rw [Nat.succ_mul];omega
       have:=(Nat.div_lt_iff_lt_mul zO).2 this;omega
      omega
     subst hkp;rw [<- Ew.out] at Ta;go_wp2_with fail
     go_roundw
     case rel=>exact ⟨i+1,n1,_,cs,rfl,zO,by go_num,zO,kl,oa,Ta,da,uf⟩
     case measure=>simp [intOf];omega
  ·obtain rfl:i=4:=by omega
   rw [<- HBL.out] at Ta;go_wp2;go_ret
   exact ⟨_,rfl,vQ Ta oa HWN.out HWN.out,da⟩
def Vx (p pu x:Nat) (f:Nat -> Nat) (t:Int × Nat):Nat -> Nat :=
 if 0 <= t.1-1-(pu:Int) then sg f (t.1-1-(pu:Int)).toNat ((f (t.1-1-(pu:Int)).toNat+qg p (x*t.2%p))%p) else f
def Gq (p pu x:Nat) (f:Nat -> Nat) (ts:List (Int × Nat)):Nat -> (Nat -> Nat)
 | 0=>f
 | t+1=>Vx p pu x (Gq p pu x f ts t) (ts.getD t (0,0))
def KD (p pu n Mb:Nat) (r:sc) (i:Nat) (f:Nat -> Nat):Nat -> (Nat -> Nat)
 | 0=>f
 | j+1=>Gq p pu (Mb^(j*n+i)%p) (KD p pu n Mb r i f j) (Od r j) (Od r j).length
def fM (p pu n Mb:Nat) (rows:List sc):Nat -> (Nat -> Nat)
 | 0=>fun _=>0
 | i+1=>KD p pu n Mb (rows.getD i ⟨[],[],[]⟩) i (fM p pu n Mb rows i) 3
def Sh (p n Mb k:Nat):List Nat:=(List.range n).map fun i=>Mb^(k*n+i)%p
def QA (L:Tb) (pu Mb:Nat) (rows:List sc):List (List Nat) :=
 ar L.block (ye ((List.range L.secret).map (fM L.p pu rows.length Mb rows rows.length)) (Sh L.p rows.length Mb 0) (Sh L.p rows.length Mb 1) (Sh L.p rows.length Mb 2)) (ye L.a L.b L.b L.b)
theorem DT {w:vu} {A:Option vx} {n c k:Nat} {l:List Nat} (h:RWd w [ve A n c] l) (hk:k <= n):RWd w [ve A k c] (l.take k):=by
 obtain ⟨hn,hc,hm,ya,hr⟩:=Pb h;exact ⟨_,_,_,rfl,zO,hm,zAk hr hk,fun x hx=>ya x (List.mem_of_mem_take hx)⟩
theorem cY {w:vu} {v0 v1 v2 v3:vw} {l0 l1 l2 l3:List Nat} (h0:RWd w [v0] l0) (h1:RWd w [v1] l1) (h2:RWd w [v2] l2) (h3:RWd w [v3] l3):∀ i,i<4 -> RWd w [ye v0 v1 v2 v3 i] (ye l0 l1 l2 l3 i):=fun i h=>by
 rcases (show i=0 \/ i=1 \/ i=2 \/ i=3 by omega) with rfl | rfl | rfl | rfl
 ·exact h0
 ·exact h1
 ·exact h2
 ·exact h3
def VG (vars:Int) (rows:List sc):Prop:=∀ r∈rows,∀ k,k<3 -> ∀ t∈Od r k,0 <= t.1 /\ t.1<vars
theorem zFO (L:Tb) (pu Mb:Nat) (vars:Int) (A:Option vx) (R c:Nat) (rows:List sc) (w:vu) (hL:Ad L) (hF:GC L pu vars rows) (hr:RSl 3 yg w [ve A R c] rows) (hV:VG vars rows) :
  vA prog 141 #[vf (Ub L),Xc L.p (pu:Int) vars (ve A R c),vd vo Mb] w fun e w'=>∃ v,e=vn v /\ RRx w.1.size w' v (QA L pu Mb rows) /\ vz w.1.size w w':=by
 obtain ⟨A',n',c',he,Me,Nd,ki,Na⟩:=hr;simp at he
 obtain ⟨rfl,rfl,rfl⟩:=he;have Oa:=hL.b1;have hs:=hL.s;have Gm:=hL.r;have kD:=hF.nr;have Jx:=hF.sec;have Nv:=hF.small;have hR:R=rows.length:=Me.symm;have hLR:L.rows=R:=by omega
 have YD:=zH (fun w=>uZ L pu vars A R c rows w hL hF Me)
 have HPw:=zH (fun n w hn=>zC4 L.p Mb n w hL.p hn)
 have HM:=zH (fun a b w=>UC L.p a b w hL.p)
 have HS:=zH (fun a b w=>OR L.p a b w hL.p)
 have HC:=zH (fun v0 v1 v2 v3 l0 l1 l2 l3 w hv hq=>R8 L v0 v1 v2 v3 l0 l1 l2 l3 w hL hv hq)
 have HAE:=zH hL.ae;have HBE:=zH (show L.b=(R+L.block-1) / L.block by rw [<- hLR];exact hL.be)
 obtain ⟨pw,Nr⟩:∃ pw:Nat -> Nat,pw=fun i=>Mb^i%L.p:=⟨_,rfl⟩
 have HPWE:=zH (show (fun i=>Mb^i%L.p)=pw from Nr.symm)
 have HPX:=zH (show ∀ i,pw i<18446744073709551616 from fun i=>by rw [Nr];exact Je (Sc _ (zQ (Cc hL.p))) (Cc hL.p).2)
 obtain ⟨fR,IK⟩:=zEX (fM L.p pu rows.length Mb rows);have oE:=zH (show fR 0=fun _=>0 by rw [IK];rfl)
 have Pq:=zH (show ∀ i (hi:i<rows.length),fR (i+1)=KD L.p pu R Mb rows[i] i (fR i) 3 from fun i hi=>by
  rw [IK,hR];show KD L.p pu rows.length Mb (rows.getD i ⟨[],[],[]⟩) i _ 3=_
  rw [Hc,Ec hi]
  rfl)
 have HSS:=zH (show ∀ (r:sc) i (f:Nat -> Nat) j,KD L.p pu R Mb r i f (j+1)=Gq L.p pu (pw (j*R+i)) (KD L.p pu R Mb r i f j) (Od r j) (Od r j).length from fun r i f j=>by rw [Nr];rfl)
 have HFX0:=zH (show ∀ (x:Nat) (f:Nat -> Nat) ts t,(∀ k,f k<L.p) -> ∀ k,Gq L.p pu x f ts t k<L.p from fun x f ts t hf=>by
  induction t with
  | zero=>exact hf
  | succ t ih =>
   intro k;show Vx L.p pu x (Gq L.p pu x f ts t) _ k<_
   unfold Vx;split
   ·unfold sg
    split
    ·exact Sc _ (zQ (Cc hL.p))
    ·exact ih k
   ·exact ih k)
 have cJ:=zH (show ∀ i,i <= rows.length -> ∀ k,fR i k<L.p from fun i=>by
  induction i with
  | zero=>intro _ k;rw [oE.out];have:=Cc hL.p;show 0<_;omega
  | succ i ih =>
   intro hi;rw [Pq.out i zO];have h0:=ih zO;have h1:∀ j k,KD L.p pu R Mb rows[i] i (fR i) j k<L.p:=fun j=>by
    induction j with
    | zero=>exact h0
    | succ j jh=>exact HFX0.out _ _ _ _ jh
   exact h1 3)
 have Vb:=(Cc hL.p).2;have my:=zH Vb;have HCP:=zH (show QA L pu Mb rows=ar L.block (ye ((List.range L.secret).map (fR R)) (Sh L.p R Mb 0) (Sh L.p R Mb 1) (Sh L.p R Mb 2)) (ye L.a L.b L.b L.b) by rw [IK,hR];rfl)
 have Cw:=zH (show ((List.range (3*R)).map pw).take R=Sh L.p R Mb 0 by
  rw [<- List.map_take,List.take_range,Nat.min_eq_left zO,Nr];unfold Sh;refine Nw fun i _=>?_
  simp)
 have dj:=zH (show (((List.range (3*R)).map pw).take (2*R)).drop R=Sh L.p R Mb 1 by
  refine BI (by simp [Sh];omega) fun i hi=>?_
  simp at hi
  unfold Sh;rw [wt,Lb zO,Hc,List.getElem?_drop,List.getElem?_take,Lb zO,List.getElem?_map,List.getElem?_range zO];rw [Nr];simp)
 have Cn:=zH (show ((List.range (3*R)).map pw).drop (2*R)=Sh L.p R Mb 2 by
  refine BI (by simp [Sh];omega) fun i hi=>?_
  simp at hi
  unfold Sh;rw [wt,Lb zO,Hc,List.getElem?_drop,List.getElem?_map,List.getElem?_range zO];rw [Nr];simp)
 have HVa:=zH (show ∀ i (hi:i<rows.length) k,k<3 -> ∀ t (ht:t<(Od rows[i] k).length),0 <= ((Od rows[i] k).getD t (0,0)).1 /\ ((Od rows[i] k).getD t (0,0)).1<vars from fun i hi k hk t ht=>by
  rw [Hc,Ec ht];exact hV _ (Qe hi) k hk _ (Qe ht))
 obtain ⟨R3,hR3⟩:=zEX (3*R);obtain ⟨R2,hR2⟩:=zEX (2*R);have e1:(3:Int)*R=(R3:Int):=by omega
 have e2:=Xd R3;have e3:(2:Int)*R=(R2:Int):=by omega
 have e4:=Xd R2;have mk:=Rv L.secret zO;have gs:(L.secret:Int) <= 65536:=by omega
 have gs0:(0:Int)<=L.secret:=by omega
 have gR:R <= 16384:=by omega
 have gR3:R3 <= 65536:=by omega
 rw [<- hR3] at Cw dj Cn;rw [<- hR2] at dj Cn;rw [HCP.out];have EM:=zH hR3;have XQ:=zH hR2;have HRR:=zH hR;have rU:=zH (And.intro Jx Nv);clear hV Nr IK hL hF Oa hs Gm kD Jx Nv hR3 hR2 Vb HCP HFX0 Nd ki Me hR;unfold Ub Xc fv at *;rw [hLR] at YD HC |-;clear hLR;obtain ⟨kl,kt,da,-⟩:=Xf w 101 25 #[vd vo L.p,vd vq L.block,vd vq L.queries,vd vq L.k,vd vq L.n,vd vq L.secret,vd vq R,vd vq L.a,vd vq L.b,vd vq L.b,vd vq L.b] #[vd vo L.p,vd vq pu,vd vq vars,ve A R c];go_enter func141,ntmps141
 go_upto_region 1 with fail
 generalize (w.alloc _).alloc _=w1 at kl kt da |-;have cl:=kl.cell;have ct:=kt.cell;go_wp2_with fail
 refine (YD.out _).mono ?_;rintro e w2 ⟨rfl,Ca⟩;replace kl:=pa kl Ca;replace kt:=pa kt Ca;replace da:=ta da Ca;clear Ca cl ct YD;have cl:=kl.cell;go_upto_region 4 with fail
 obtain ⟨kf,ma⟩:=zN w2 224 #[vd vo L.p];replace kl:=pa kl ma;replace kt:=pa kt ma;replace da:=ta da ma;generalize w2.alloc _=w3 at kl kt kf da |-;generalize w2.1.size=gf at kf |-;clear ma cl;have cl:=kl.cell;have cf:=kf.cell;go_wp2_with fail
 refine (HPw.out R3 _ zO).mono ?_;rintro e w4 ⟨gp,rfl,-,kp,Ca⟩;rw [HPWE.out] at kp;replace kl:=pa kl Ca;replace kt:=pa kt Ca;replace kf:=pa kf Ca;replace da:=ta da Ca;clear Ca cl cf HPw;have cl:=kl.cell;go_upto_region 7 with fail
 have kg:=Blk.new w4 22 (Ya L.secret fun _=>0)
 have mq:=zA w4 (.cells (Ya L.secret fun _=>0) 22)
 have ct:=(pa kt mq).cell;clear cl mk;generalize w4.alloc _=w5 at kg mq ct |-;have gRi:(R:Int) <= 16384:=by omega
 go_wp2_with fail
 clear ct;go_loopw [38] (fun y wr=>∃ i:Nat,i <= R /\ y=vd vq i /\ Blk wr w4.1.size 22 (Ya L.secret (fR i)) /\ vz w4.1.size w4 wr) (fun y _=>R-(intOf y).toNat)
 case atStart=>exact ⟨0,Qb _,rfl,by rw [oE.out];exact kg,mq⟩
 case round =>
  clear kg mq;obtain ⟨i,hi,rfl,kg,hb⟩:=hrel;by_cases ya:i<R
  ·have q1:(i:Int)<R:=by omega
   have q2:(0:Int)<=i:=by omega
   have yk:i<rows.length:=by have:=HRR.out;omega
   obtain ⟨b,q,rfl⟩:=Na.base zO zO;obtain ⟨cs,-,hc,x,y,z,rfl,ld,qf,Vd⟩:=Na.get yk;have ng:=ta da hb;have Rb:=Bg _ _ ((hc 0 zO).trans (show [x,y,z][0]?=vD x from rfl))
   have h0:=(ng.cell (p:=⟨b,q+i*3+0,vB⟩) Rb).trans (hc 0 zO);have h1:=(ng.cell (p:=⟨b,q+i*3+1,vB⟩) Rb).trans (hc 1 zO);have h2:=(ng.cell (p:=⟨b,q+i*3+2,vB⟩) Rb).trans (hc 2 zO);rw [Oo] at h0;simp only [List.getElem?_cons_zero,List.getElem?_cons_succ] at h0 h1 h2;have HRSi:=zH (Pq.out i yk);have HVi:=zH (HVa.out i yk);have sU:=zH (HSS.out rows[i] i (fR i));obtain ⟨fS,hfS⟩:=zEX (KD L.p pu R Mb rows[i] i (fR i));have qE:=zH (show fS 0=fR i by rw [hfS];rfl)
   rw [<- hfS] at HRSi sU;have py:=zH (show ∀ k,k<3 -> RLin w [if k=0 then x else if k=1 then y else z] (Od rows[i] k) from fun k hk=>by
    unfold Od;rcases (show k=0 \/ k=1 \/ k=2 by omega) with h | h | h <;> subst h
    ·exact ld
    ·exact qf
    ·exact Vd)
   obtain ⟨sd,lD⟩:=zEX (Od rows[i]);rw [<- lD] at HVi sU py;obtain ⟨A1,n1,c1,rfl⟩:=RSl.slc ld;obtain ⟨A2,n2,c2,rfl⟩:=RSl.slc qf;obtain ⟨A3,n3,c3,rfl⟩:=RSl.slc Vd;have ma:=zA wr (.cells #[ve A1 n1 c1,ve A2 n2 c2,ve A3 n3 c3] 211);clear hc ld qf Vd hfS lD ng;have dc:=Bg _ _ h0;go_wp2_with fail
   go_loopw [50] (fun y wq=>∃ j:Nat,j <= 3 /\ y=vd vq j /\ Blk wq w4.1.size 22 (Ya L.secret (fS j)) /\ vz w4.1.size w4 wq) (fun y _=>3-(intOf y).toNat)
   case atStart=>exact ⟨0,zO,rfl,by rw [qE.out];exact pa kg ma,ta hb ma⟩
   case round =>
    clear kg hb h0 h1 h2 ma dc;obtain ⟨j,hj,rfl,kg,hb⟩:=hrel;by_cases xk:j<3
    ·have q3:(j:Int)<3:=by omega
     have q4:(0:Int)<=j:=by omega
     have yj:=py.out j xk;have ix:=fun w=>SP (w:=w) (x:=ve A1 n1 c1) (y:=ve A2 n2 c2) (z:=ve A3 n3 c3) xk
     obtain ⟨II,Ve⟩:=zEX ((if j=0 then ve A1 n1 c1 else if j=1 then ve A2 n2 c2 else ve A3 n3 c3))
     rw [<- Ve] at yj ix;have ZQ:=zH (sU.out j);have HVj:=zH (HVi.out j xk);obtain ⟨ts,tB⟩:=zEX (sd j);rw [<- tB] at yj ZQ HVj;obtain ⟨jr,hjr⟩:=zEX (j*R);obtain ⟨m,hm⟩:=zEX (jr+i);rw [<- hjr,<- hm] at ZQ;have hjr2:jr <= 2*R:=by rw [hjr];exact zE _ zO
     have z1:(j:Int)*R=(jr:Int):=by rw [hjr];exact (Vh _ _).symm
     have z2:=Xd jr;have z3:(jr:Int)+i=(m:Int):=by omega
     have z4:=Xd m;have Em:m<R3:=by have:=EM.out;omega
     have z5:(m:Int)<R3:=by omega
     have z6:(0:Int)<=m:=by omega
     clear Ve tB hjr hm hjr2;obtain ⟨As,ns,Qc,rfl⟩:=RSl.slc yj;obtain ⟨A',n',c',he,Me,Nd,ki,Mi⟩:=yj;simp at he
     obtain ⟨rfl,rfl,rfl⟩:=he;have gns:=ti Nd ki;have Qp:=zH Me;obtain ⟨fT,qF⟩:=zEX (Gq L.p pu (pw m) (fS j) ts);have pC:=zH (show fT 0=fS j by rw [qF];rfl)
     have HTS:=zH (show ∀ t,fT (t+1)=Vx L.p pu (pw m) (fT t) (ts.getD t (0,0)) from fun t=>by rw [qF];rfl)
     rw [<- qF] at ZQ;clear qF Me Nd ki;go_wp2_with fail
     go_loopw [56] (fun y wq=>∃ t:Nat,t <= ns /\ y=vd vq t /\ Blk wq w4.1.size 22 (Ya L.secret (fT t)) /\ vz w4.1.size w4 wq) (fun y _=>ns-(intOf y).toNat)
     case atStart=>exact ⟨0,Qb _,rfl,by rw [pC.out];exact kg,hb⟩
     case round =>
      clear kg hb;obtain ⟨t,ht,rfl,kg,hb⟩:=hrel;by_cases xp:t<ns
      ·have q5:(t:Int)<ns:=by omega
       have q6:(0:Int)<=t:=by omega
       have pn:t<ts.length:=by rw [Qp.out];exact xp
       obtain ⟨b',q',rfl⟩:=Mi.base zO zO;have ng:=ta da hb;obtain ⟨Lh,ai⟩:=RLin.at_ (Mi.below JF ng) pn;have il:=Bg _ _ Lh;simp only at il;have hv:=HVj.out t pn;have Sm:=zH (HTS.out t);revert Lh ai hv Sm
       generalize ts.getD t (0,0)=tm;obtain ⟨v,co⟩:=tm;intro Lh ai hv Sm;simp only at Lh ai hv;obtain ⟨v1,bh⟩:=zEX (v-1);obtain ⟨v2,Gf⟩:=zEX (v1-(pu:Int));have Jx:=rU.out;have y1:v-1=v1:=bh.symm;have y2:vq.wrap v1=v1:=uo _ zO zO;have y3:v1-(pu:Int)=v2:=Gf.symm;have y4:vq.wrap v2=v2:=uo _ zO zO;have sA:=zH (show fT (t+1)=if 0 <= v2 then sg (fT t) v2.toNat ((fT t v2.toNat+qg L.p (pw m*co%L.p))%L.p) else fT t by rw [Sm.out,Gf,bh];rfl)
       have yp:v2<(L.secret:Int):=by omega
       have kt1:=pa kt hb;have Sr:=pa kl hb;have ct:=kt1.cell;have cl:=Sr.cell;clear bh Gf Jx hv Sm;by_cases hz:0 <= v2
       ·have d1:decide ((0:Int) <= v2)=true:=xc hz
        have d2:decide (v2<(L.secret:Int))=true:=xc yp;obtain ⟨s,rfl⟩:=jm hz;have nu:s<L.secret:=by omega
        obtain ⟨a,ha⟩:=zEX (fT t s);obtain ⟨px,hpx⟩:=zEX (pw m);obtain ⟨u,hu⟩:=zEX (px*co%L.p);obtain ⟨r,hr⟩:=zEX ((a+qg L.p u)%L.p);have Mf:=zH (show (Ya L.secret (fT t)).setIfInBounds s (vd vo r)=Ya L.secret (fT (t+1)) by
         rw [Tt,sA.out,Lb hz,En,hr,hu,hpx,ha])
        have Kf:=zH (fun w=>by have:=HM.out px co w;rw [<- hu] at this;exact this)
        have zi:=zH (fun w=>by have:=HS.out a u w;rw [<- hr] at this;exact this)
        have HA:=zH ha;obtain ⟨ma,kx⟩:=(zN wr 208 #[vd vq v,vd vo co]).symm;have cpp:=(pa kp hb).cell m;have hpx2:=hpx;rw [Ei _ Em] at cpp;clear hu hr ha;have lt1:=kt1.lt;have ll1:=Sr.lt;go_upto_region 18 with fail
        replace kg:=pa kg ma;replace hb:=ta hb ma;clear ct cl kt1 Sr cpp ma lt1 ll1;generalize wr.alloc _=w6 at kg kx hb |-;generalize wr.1.size=gx at kx |-;have Rg:=pa kf hb;have kp1:=pa kp hb;have cf:=Rg.cell;have lf:=Rg.lt;have cpp:=kp1.cell m;rw [Ei _ Em] at cpp;have lp:=kp1.lt;have cx:=kx.cell;have lx:=kx.lt;have cg:=kg.cell s;rw [Ei _ nu,<- HA.out] at cg;have lg:=kg.lt;have Nr:pw m=px:=hpx2.symm;rw [Nr] at cpp;clear hpx hpx2 Nr;refine tg (Rc) (Da) [21] [21] [0,1,2,3,4,5,6,7,8,9,10,11,12,13,14,15,16,17,18,19,20,21] zK zK ?_;refine ug (Da) ?_;intro Wc ja;refine Cd ?_;refine yd Da rfl rfl rfl rfl (fun w' hR=>Kf.out _) ?_
        refine zPU ?_;refine Cd ?_;refine yd Da rfl rfl rfl rfl (fun w' hR=>zi.out _) ?_
        refine zPU ?_;refine Cd ?_;refine Xj rfl rfl rfl rfl ?_;intro wh Tc;replace ja:=zM Da ja Tc;have Ic:=ta (Kb w6.1.size w6).drew ja;replace kg:=pa kg Ic;replace hb:=ta hb Ic;clear Ic ja Tc cf lf cpp lp cx lx cg lg Rg kp1;have c3:=kg.cell s;rw [Ei _ nu] at c3;have f3:=kg.frozen;go_simp;refine ⟨fun h=>Bool.noConfusion h,?_⟩
        have hg:=Hh (w:=wh) w4.1.size s (vd vo r);replace kg:=kg.set_ s (vd vo r);rw [Mf.out] at kg;replace hb:=hb.trans (om hg hb.size zR);clear hg f3 c3;generalize wh.setCell _ _=we at kg hb |-;refine Fk rfl ?_;go_wp2_with fail
        go_roundw
        case rel=>exact ⟨t+1,zO,by go_num,kg,hb⟩
        case measure=>simp [intOf];omega
       ·have d1:decide ((0:Int) <= v2)=false:=Xb hz
        have uU:=zH (show fT (t+1)=fT t by rw [sA.out,Gb hz])
        have ma:=zA wr (.cells #[vd vq v,vd vo co] 208);have lt1:=kt1.lt;have ll1:=Sr.lt;go_wp2_with fail
        replace kg:=pa kg ma;replace hb:=ta hb ma
        go_roundw
        case rel=>exact ⟨t+1,zO,by go_num,by rw [uU.out];exact kg,hb⟩
        case measure=>simp [intOf];omega
      ·obtain rfl:t=ns:=by omega
       have q5:¬((t:Int)<t):=by omega
       rw [<- Qp.out,<- ZQ.out] at kg;go_wp2_with fail
       go_roundw
       case rel=>exact ⟨j+1,zO,by go_num,kg,hb⟩
       case measure=>simp [intOf];omega
    ·obtain rfl:j=3:=by omega
     rw [<- HRSi.out] at kg;go_wp2_with fail
     go_roundw
     case rel=>exact ⟨i+1,zO,by go_num,kg,hb⟩
     case measure=>simp [intOf];omega
  ·obtain rfl:i=R:=by omega
   have q1:¬((i:Int)<i):=by omega
   have hS:=UE kg (fun k _=>Je (cJ.out i (by rw [<- HRR.out];omega) k) my.out) (by simp [maxLen];omega)
   have hP:=UE (pa kp hb) (fun k _=>HPX.out k) (by simp [maxLen];omega)
   obtain ⟨PL,hPL⟩:=zEX ((List.range R3).map pw);rw [<- hPL] at hP Cw dj Cn;have Sr:=pa kl hb;have cl:=Sr.cell;have ll:=Sr.lt;have x1:i <= R3:=by have:=EM.out;omega
   have x2:R2 <= R3:=by have:=EM.out;have:=XQ.out;omega
   have x3:i <= R2:=by have:=XQ.out;omega
   have x4:(i:Int)<=R3:=by omega
   have x5:(R2:Int)<=R3:=by omega
   have x6:(i:Int)<=R2:=by omega
   have x7:(0:Int)<=i:=by omega
   have x8:(0:Int)<=R2:=by omega
   have h1:=DT hP x1;have h2:=xQ (DT hP x2) x3;have h3:=xQ hP x2;rw [Cw.out] at h1;rw [dj.out] at h2;rw [Cn.out] at h3;have HQ4:=zH (show ∀ k,k<4 -> ye L.a L.b L.b L.b k=((ye ((List.range L.secret).map (fR i)) (Sh L.p i Mb 0) (Sh L.p i Mb 1) (Sh L.p i Mb 2) k).length+L.block-1) / L.block from fun k hk=>by
    rcases (show k=0 \/ k=1 \/ k=2 \/ k=3 by omega) with rfl | rfl | rfl | rfl
    ·show L.a=(((List.range L.secret).map (fR i)).length+L.block-1) / L.block
     rw [Tm,Sp];exact HAE.out
    ·show L.b=((Sh L.p i Mb 0).length+L.block-1) / L.block
     rw [Sh,Tm,Sp];exact HBE.out
    ·show L.b=((Sh L.p i Mb 1).length+L.block-1) / L.block
     rw [Sh,Tm,Sp];exact HBE.out
    ·show L.b=((Sh L.p i Mb 2).length+L.block-1) / L.block
     rw [Sh,Tm,Sp];exact HBE.out)
   clear hPL hP kg Cw dj Cn Sr;go_upto_region 22 with fail
   generalize (vD (⟨gp,0,vB⟩:vx))=PA at h1 h2 h3 |-;generalize (vD (⟨w4.1.size,0,vB⟩:vx))=SA at hS |-;refine Pd (Rc) [15] [0,1,2,3,4,5,6,7,8,9,10,11,12,13,14,15,16] zK zK ?_;refine oe (Da) ?_;intro Wc Ga ja;have Pa:=Uf Ga;replace hS:=Wa Pa hS;replace h1:=Wa Pa h1;replace h2:=Wa Pa h2;replace h3:=Wa Pa h3;rcases Jn i with RK | RK
   ·have hr30:R3=0:=by have:=EM.out;omega
    have hr20:R2=0:=by have:=XQ.out;omega
    subst hr30 hr20 RK;have w0:vq.wrap 0=0:=by decide
    rw [Lb rfl] at h2 h3;have hv:=zH (cY hS h1 h2 h3);refine Mc ?_;refine ud Da rfl rfl rfl ((HC.out _ _ _ _ _ _ _ _ _ hv.out HQ4.out).mono ?_);rintro e w7 ⟨v,rfl,hv7,Ca⟩;refine ⟨_,rfl,Ca,?_⟩;replace ja:=zM Da ja (Ca);refine zPU ?_;refine Mc ?_;refine Vc ?_;go_wp2;go_ret
    exact ⟨v,rfl,hv7.mono (ta (ta da hb) Pa).size,ta (ta (ta da hb) Pa) Ca⟩
   ·have tS:¬R3=i:=by have:=EM.out;omega
    have hne2:¬R3=R2:=by have:=EM.out;have:=XQ.out;omega
    rw [Gb tS] at h2;rw [Gb hne2] at h3;have hv:=zH (cY hS h1 h2 h3);refine Mc ?_;refine ud Da rfl rfl rfl ((HC.out _ _ _ _ _ _ _ _ _ hv.out HQ4.out).mono ?_);rintro e w7 ⟨v,rfl,hv7,Ca⟩;refine ⟨_,rfl,Ca,?_⟩;replace ja:=zM Da ja (Ca);refine zPU ?_;refine Mc ?_;refine Vc ?_;go_wp2;go_ret
    exact ⟨v,rfl,hv7.mono (ta (ta da hb) Pa).size,ta (ta (ta da hb) Pa) Ca⟩
end Go.Proofs.YteoghgbnielkpaaGreat
