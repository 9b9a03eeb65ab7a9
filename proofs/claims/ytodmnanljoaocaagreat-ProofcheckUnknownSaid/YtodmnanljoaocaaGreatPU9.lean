/- A part of the proof. No condition. -/
import Derived.Test.YtodmnanljoaocaaGreatPU6
import Derived.Test.YtodmnanljoaocaaGreatPU4
import Derived.ChangeKeysEq

set_option maxRecDepth 100000
set_option maxHeartbeats 8000000
set_option linter.unusedVariables false
set_option linter.unusedSimpArgs false
namespace Go.Proofs.YtodmnanljoaocaaGreat
open Go.RowKit
open Tryz
open Go renaming World->vv, Value->vw, Addr->vx, TypeId->vy, Calls->vA
open Go.Value renaming int->vd, slice->ve, agg->vf
open Go.IntKind renaming u64->vq, i64->vt
open Go.Ending renaming returned->vn
open Go.RowKit renaming Below->vz
open Go.Act renaming put->vF
open Option renaming none->vB, some->vD
theorem zD6 (n:Nat):madeCells (ve vB 0 0).cells (n*1)=Array.replicate n (ve vB 0 0):=by
 apply Array.toList_inj.1
 rw [show (ve vB 0 0).cells=#[ve vB 0 0] from rfl,toList_madeCells_one]
 simp
structure FBs (NF:Nat) (w:vv) (cs:Array vw) (q i:Nat) (r:Nat -> List Nat) (f:Nat -> Nat):Prop where
 at_:∀ k,k<i -> cs[k]?=vD (ve (vD ⟨f k,0,vB⟩) q q) /\ Blk w (f k) 22 (Qa (r k)).toArray /\ NF <= f k
 lt:∀ k m,k<m -> m<i -> f k<f m
theorem FBs.keep {NF:Nat} {w u:vv} {cs:Array vw} {q i:Nat} {r:Nat -> List Nat} {f:Nat -> Nat} (h:FBs NF w cs q i r f) (hw:∀ b,NF <= b -> b<w.1.size -> u.1[b]?=w.1[b]?):FBs NF u cs q i r f :=
 ⟨fun k hk=>⟨(h.at_ k hk).1,(hw _ (h.at_ k hk).2.2 (h.at_ k hk).2.1.lt).trans (h.at_ k hk).2.1,(h.at_ k hk).2.2⟩,h.lt⟩
theorem FBs.rows {NF:Nat} {w:vv} {cs:Array vw} {q n g:Nat} {t:vy} {r:Nat -> List Nat} {f:Nat -> Nat} (h:FBs NF w cs q n r f) (hk:Blk w g t cs) (hr:∀ k,k<n -> (r k).length=q /\ ∀ x∈r k,x<18446744073709551616) (hq:q <= maxLen) (hm:n <= maxLen):Ye w [ve (vD ⟨g,0,vB⟩) n n] ((List.range n).map r) :=
 zC1 (N:=0) (gb:=vB) (fun k hk=>⟨_,(h.at_ k hk).1,V9 (h.at_ k hk).2.1 (hr k hk).1 (hr k hk).2 hq (Rb _) (fun e=>by cases e)⟩) hk hm
structure CoB (N:Nat) (w:vv) (q:Nat) (cs:Array vw) (n:Nat) (r:Nat -> List Nat) (l1 l2 l3 l4:List Nat) (g0 g1 g2 g3 g4 NF:Nat) (f:Nat -> Nat):Prop where
 k0:Blk w g0 28 cs
 k1:Blk w g1 22 (Qa l1).toArray
 k2:Blk w g2 22 (Qa l2).toArray
 k3:Blk w g3 22 (Qa l3).toArray
 k4:Blk w g4 22 (Qa l4).toArray
 kr:FBs NF w cs q n r f
 ge:N <= g0 /\ N <= g1 /\ N <= g2 /\ N <= g3 /\ N <= g4
 lt:g0<NF /\ g1<NF /\ g2<NF /\ g3<NF /\ g4<NF
 nd:[g0,g1,g2,g3,g4].Nodup
theorem zDu:(prog.info? 3).map (fun i=>(i.zero,i.size,i.bytes))=vD (vD (vd vt 0),1,8):=by kernel_rfl
theorem zCl (a b c d:Int) (w:vv):(Op.equalIn 10000 36 (vf #[vd vt a,vd vt b,vd vt c,vd vt d]) (vf #[vd vt a,vd vt b,vd vt c,vd vt d])).run prog w= .ok true w:=by
 obtain ⟨i,hi,hz,hs,ey⟩:=info_parts zDu;rw [run_equalIn_array w 9999 _ _ underlying36 hi];have hu:=Cz;have hr:List.range 4=[0,1,2,3]:=rfl;rw [hr,hJ];simp [Op.eqItems,part,run_equalIn_int _ _ _ _ _ _ _ hu,sizeOf]
structure Px (L:Xa) (pu:Nat) (vars:Int) (rows:List Ya):Prop where
 nr:L.rows=rows.length
 sec:vars=(L.secret:Int)+1+(pu:Int)
 small:(pu:Int) <= 4294967296
theorem AY (L:Xa) (pu:Nat) (vars:Int) (A:Option vx) (n c:Nat) (rows:List Ya) (w:vv) (hL:ed L) (hF:Px L pu vars rows) (hn:rows.length=n) :
  vA prog 149 #[vf (Eb L),Kc L.p (pu:Int) vars (ve A n c)] w fun e w'=>e=vn (.bool true) /\ vz w.1.size w w':=by
 have La:=hL.b1;have Da:=hL.b2;have hs:=hL.s;have hr:=hL.r;have OE:=hF.nr;have pA:=hF.sec;have VE:=hF.small;have HV:=zH (fun w=>Tu L.p w hL.p)
 have oD:=zH (fun w=>by have:=aS L.rows L.block w zO zO zO;rw [<- hL.be] at this;exact this)
 have uB:=zH (fun w=>by have:=aS L.secret L.block w zO zO zO;rw [<- hL.ae] at this;exact this)
 have i1:((L.p:Int)!=L.p)=false:=by simp
 have i2:decide ((L.block:Int)<1)=false:=Ib zO;have i3:((L.rows:Int)!=n)=false:=by rw [fw];omega
 have i4:decide ((16384:Int)<L.rows)=false:=Ib zO;have i5:decide ((pu:Int)<0)=false:=Ib zO;have i6:decide ((L.secret:Int)<0)=false:=Ib zO;have x1:vars-1=(L.secret:Int)+pu:=by omega
 obtain ⟨t,ht⟩:=zEX (L.secret+pu);have x2:(L.secret:Int)+pu=(t:Int):=by omega
 have x3:=Ud t;have x4:(t:Int)-pu=(L.secret:Int):=by omega
 have x5:vt.wrap (L.secret:Int)=L.secret:=Sl _ zO zO;have i7:((L.secret:Int)!=L.secret)=false:=by simp
 rw [x2] at x1;clear ht hL hF La Da hs hr OE pA VE hn x2;unfold Eb Kc fv at *;obtain ⟨kl,kt,ba,-⟩:=ig w 121 25 #[vd vq L.p,vd vt L.block,vd vt L.queries,vd vt L.k,vd vt L.n,vd vt L.secret,vd vt L.rows,vd vt L.a,vd vt L.b,vd vt L.b,vd vt L.b] #[vd vq L.p,vd vt pu,vd vt vars,ve A n c];go_enter func149,ntmps149
 go_upto_region 1 with fail
 generalize (w.alloc _).alloc _=w1 at kl kt ba |-;have cl:=kl.cell;have ct:=kt.cell;go_wp2_with fail
 refine (HV.out _).mono ?_;rintro e w2 ⟨rfl,ra⟩;replace kl:=ma kl ra;replace kt:=ma kt ra;replace ba:=pa ba ra;clear ra cl ct;have cl:=kl.cell;have ct:=kt.cell;go_wp2_with fail
 refine (oD.out _).mono ?_;rintro e w3 ⟨rfl,rfl⟩;have ll:=kl.lt;go_upto_region 6 with fail
 refine Yc (yc) [6] [0,1,2,3,4,5,7,8,9,6,10,11,12] zK zK ?_;refine Td (ya) ?_;intro Wc Ca da;have Ma:=Lf Ca;refine dc ?_;refine pd ya rfl rfl rfl ((uB.out _).mono ?_);rintro e w4 ⟨rfl,rfl⟩;refine ⟨_,rfl,(ya).refl _,?_⟩;replace da:=zM ya da ((ya).refl _);refine zPU ?_;have hq:=zCl (L.a:Int) (L.b:Int) (L.b:Int) (L.b:Int);refine dc ?_;refine Ec ?_;replace ba:=pa ba Ma;go_wp2;go_ret
 exact ⟨zS,ba⟩
theorem zEd (n:Nat) (hn:n <= 1000000) (w:vv) :
  (Instr.makeSlice 39 (vd vt 0) (vd vt n)).run prog w= .ok (ve (vD ⟨w.1.size,0,vB⟩) 0 n) (w.alloc (.cells (Array.replicate n (ve vB 0 0)) 28)):=by
 obtain ⟨ht,⟨i,hi,hz,hs,ey⟩,hzs,db⟩:=jw;have:=run_make (P:=prog) w 39 28 i _ ht hi hz vt vt 0 (n:Int) zO zO (by rw [ey];omega) zO
 rw [Dn,hs,zD6] at this;exact this
theorem zCe {l:List Nat} {k B:Nat}:(l.drop k).drop (min (l.drop k).length B)=l.drop (k+B):=by
 rw [List.drop_drop];by_cases h:(l.drop k).length <= B
 ·rw [Nat.min_eq_left h]
  rw [JB] at h |-;rw [List.drop_eq_nil_of_le zO,List.drop_eq_nil_of_le zO]
 ·rw [Nat.min_eq_right zO]
theorem idx_4 {w:vv} {a b c d:vw} {i:Nat} (h:i<4):(Instr.index 179 (vf #[a,b,c,d]) (vd vt i)).run prog w= .ok (Le a b c d i) w :=
 fP underlying179 (by simp [isAgg,run_underlying Bz]) (by
  obtain ⟨-,⟨i0,hi,-,hs,-⟩,-,-⟩:=jw;simp [sizeOf,typeInfo,hi,hs]) h (fX a b c d h)
def lenV:vw -> Nat
 | ve _ n _=>n
 | _=>0
theorem zBV {B:Nat} {l:List Nat} {k t:Nat} (ht:t=min (l.drop k).length B):((Fb B fun _=>0).toList.take 0++Qa ((l.drop k).take t)++(Fb B fun _=>0).toList.drop (0+(Qa ((l.drop k).take t)).length)).toArray=Fb B fun j=>l.getD (k+j) 0:=by
 rw [NG,NG]
 congr 1
 have hl:(Qa ((l.drop k).take t)).length=t:=by simp [Qa];rw [ht];simp;try omega
 apply List.ext_getElem
 ·simp only [List.take_zero,List.nil_append,Pp,JB,hl]
  simp [Qa]
  omega
 ·intro i h1 h2
  simp [Qa] at h2
  by_cases h:i<t
  ·rw [yz (by simp only [List.take_zero,List.nil_append,hl];exact h)]
   simp only [List.take_zero,List.nil_append];have h3:i<(l.drop k).length:=by omega
   have h4:k+i<l.length:=by rw [JB] at h3;omega
   simp [Qa,h4]
  ·rw [FD (by simp only [List.take_zero,List.nil_append,hl];omega)]
   have h3:¬k+i<l.length:=by
    intro h5;have:(l.drop k).length=l.length-k:=JB;omega
   simp [Qa,h3]
theorem zBW {B k t g:Nat} {l:List Nat} {A:Option vx} {n c:Nat} (w:vv) (hl:RWd w [ve A n c] (l.drop k)) (ht:t=min (l.drop k).length B) (h1:0<t) (kg:Blk w g 22 (Fb B fun _=>0)) (ty:vy) :
  (Builtin.copy_ #[28,28] ty #[ve (vD ⟨g,0,vB⟩) B B,ve A n c]).run prog w= .ok (goInt t) (w.setRow g (Fb B fun j=>l.getD (k+j) 0)):=by
 obtain ⟨hn,-,-,-,hr⟩:=Mb hl;have hlen:(Qa ((l.drop k).take t)).length=t:=by
  have h1:(l.drop k).length=l.length-k:=JB;simp [Qa]
  omega
 have db:(prog.info? 22).map (·.size)=vD 1:=by
  obtain ⟨-,⟨i,hi,-,hs,-⟩,-,-⟩:=Ag;rw [hi];simp [hs]
 obtain ⟨ad,rfl,hc⟩:=hr.2 zO;have h:=run_copy_row (P:=prog) w 28 28 ty 22 g 0 B B ad n c (Fb B fun _=>0) 22 (Qa ((l.drop k).take t)) Bz db kg (by rw [hlen,ht,hn]) (fun j v hj=>by
  have Zn:j<t:=by
   have:=(List.getElem?_eq_some_iff.1 hj).1;rw [hlen] at this;exact this
  refine hc j v ?_;simp only [Qa,List.map_take,List.getElem?_take,Gb Zn] at hj;exact hj) (by rw [hlen];simp [Fb];omega) (fun v hv=>by
  obtain ⟨x,-,rfl⟩:=Ie.1 hv
  rfl)
 rw [h,zBV ht,hlen]
theorem iP {w:vv} {A:Option vx} {n c t:Nat} {l:List Nat} (h:RWd w [ve A n c] l) (ht:t <= n):RWd w [ve (if c=t then A else A.map (·.add t)) (n-t) (c-t)] (l.drop t):=by
 obtain ⟨hn,hc,hm,ta,hr⟩:=Mb h;have h2:=hr.cut (k:=t) ht hc;rw [Nat.mul_one] at h2;refine ⟨_,_,_,rfl,zO,zO,?_,fun x hx=>ta x (List.mem_of_mem_drop hx)⟩
 rw [show Qa (l.drop t)=(Qa l).drop t by simp [Qa]]
 exact h2
def RRx (B:Nat) (w:vv) (v:vw) (l:List (List Nat)):Prop:=(∀ q,v.ownBlock=vD q -> B <= q) /\ ∀ u:vv,(∀ b,B <= b -> b<w.1.size -> u.1[b]?=w.1[b]?) -> Ye u [v] l
theorem RRx.here {B:Nat} {w:vv} {v:vw} {l:List (List Nat)} (h:RRx B w v l):Ye w [v] l:=h.2 w fun _ _ _=>rfl
theorem RRx.mono {B C:Nat} {w:vv} {v:vw} {l:List (List Nat)} (h:RRx B w v l) (hC:C <= B):RRx C w v l:=⟨fun q e=>Cb hC (h.1 q e),fun u hu=>h.2 u fun b h1 h2=>hu b zO h2⟩
theorem aP {N base n B:Nat} {w:vv} {e:vy} {v:vw} {cs:List vw} {l:List (List Nat)} (h:qh N w v cs l) (ho:w.ownsRow base e 1 v n cs) (h1:B <= N) (h2:B <= base):RRx B w v l:=⟨fun q e=>Cb h2 (ho.lt q e).1,fun u hu=>by
 refine vJ (N:=N) (w:=u) ⟨h.1,fun i k1 k2=>?_⟩ (OC.own_agree' ho fun b b1 b2=>hu b zO b2)
 intro u' hu';refine h.2 i k1 k2 u' fun b b1 b2 b3=>?_
 have e1:=hu b zO b2;have hb:b<u.1.size:=by
  rcases Mm b u.1.size with q | q
  ·exact q
  ·rw [Array.getElem?_eq_none q,Array.getElem?_eq_getElem b2] at e1
   cases e1
 exact (hu' b b1 hb b3).trans e1⟩
theorem gJ {w u:vv} {b o:Nat} (h:u.1[b]?=w.1[b]?):u.cell? ⟨b,o,vB⟩=w.cell? ⟨b,o,vB⟩:=by
 simp [World.cell?,h]
theorem zG6 {B n c:Nat} {w:vv} {A:Option vx} {l:List (List Nat)} (h:RRx B w (ve A n c) l) {i:Nat} (hi:i<l.length) :
  ∃ b q A1 n1 c1,A=vD ⟨b,q,vB⟩ /\ B <= b /\ b<w.1.size /\ w.cell? ⟨b,q+i,vB⟩=vD (ve A1 n1 c1) /\ ∀ u:vv,(∀ b,B <= b -> b<w.1.size -> u.1[b]?=w.1[b]?) -> RWd u [ve A1 n1 c1] l[i]:=by
 obtain ⟨b,q,A1,n1,c1,rfl,hb,hc,-⟩:=yp (Ki h.here).2.2.2 hi;have hB:=h.1 b rfl;refine ⟨b,q,A1,n1,c1,rfl,hB,hb,hc,fun u hu=>?_⟩
 obtain ⟨b',q',A2,n2,c2,he,-,So,hr⟩:=yp (Ki (h.2 u hu)).2.2.2 hi
 injection he with he
 injection he with h1 h2 h3
 subst h1 h2;rw [gJ (hu b hB hb),hc] at So
 injection So with So
 rw [So];exact hr
theorem zFa (L:Xa) (v0 v1 v2 v3:vw) (l0 l1 l2 l3:List Nat) (w:vv) (hL:ed L) (hv:∀ i,i<4 -> RWd w [Le v0 v1 v2 v3 i] (Le l0 l1 l2 l3 i)) (hq:∀ i,i<4 -> Le L.a L.b L.b L.b i=((Le l0 l1 l2 l3 i).length+L.block-1) / L.block) :
  vA prog 151 #[vf (Eb L),vf #[v0,v1,v2,v3]] w fun e w'=>∃ v,e=vn v /\ RRx w.1.size w' v (Ct L.block (Le l0 l1 l2 l3) (Le L.a L.b L.b L.b)) /\ vz w.1.size w w':=by
 have La:=hL.b1;have Da:=hL.b2;have hT4:L.a+L.b+L.b+L.b <= 400000:=by have:=hL.a;have:=hL.b;omega
 have BG:=zH (fun w=>UR L.p L.block L.queries L.k L.n L.secret L.rows L.a L.b L.b L.b w hL.a hL.b hL.b hL.b)
 have Xl:=zH (show ∀ i,Le L.a L.b L.b L.b i <= 100000 from fun i=>by
  have:=hL.a;have:=hL.b;unfold Le
  repeat' split
  all_goals omega)
 have HV:=zH hv;have HG:=zH (fun i (h:i<4)=>fX v0 v1 v2 v3 h)
 obtain ⟨l,hl⟩:=zEX (Le l0 l1 l2 l3);obtain ⟨ps,Uj⟩:=zEX (Le L.a L.b L.b L.b);have mB:=zH (show Ct L.block (Le l0 l1 l2 l3) (Le L.a L.b L.b L.b)=Qq L.block l ps 4 by rw [hl,Uj];rfl)
 rw [mB.out];rw [<- hl] at HV hq;rw [<- Uj] at Xl hq;have Wl:=zH (show Qq L.block l ps 0=[] from rfl)
 have gz:=zH (iU L.block l ps);have HQ:=zH hq;have mk:=zC L.block zO;obtain ⟨T,hT⟩:=zEX (L.a+L.b+L.b+L.b);rw [<- hT] at hT4 BG;have mk0:=zEd T zO;have gT:(T:Int) <= 400000:=by omega
 have gT0:(0:Int)<=T:=by omega
 clear hv hl Uj mB hL hq hT;unfold Eb at *;obtain ⟨kl,kv,ba,-⟩:=ig w 121 179 #[vd vq L.p,vd vt L.block,vd vt L.queries,vd vt L.k,vd vt L.n,vd vt L.secret,vd vt L.rows,vd vt L.a,vd vt L.b,vd vt L.b,vd vt L.b] #[v0,v1,v2,v3];go_enter func151,ntmps151
 go_upto_region 1 with fail
 generalize (w.alloc _).alloc _=w0 at kl kv ba |-;have cl:=kl.cell;go_wp2_with fail
 refine (BG.out _).mono ?_;rintro e w1 ⟨rfl,ra⟩;replace kl:=ma kl ra;replace kv:=ma kv ra;replace ba:=pa ba ra;clear ra cl;go_upto_region 2 with fail
 have oa:=World.ownsRow_made (e:=28) (size:=1) w1 (Array.replicate T (ve vB 0 0)) T (base:=w1.1.size) zR (by simp [maxLen];omega) zS
 have ja:=zA w1 (.cells (Array.replicate T (ve vB 0 0)) 28);have fq:w.1.size+1<w1.1.size:=kv.lt;have db:w1.1.size <= (w1.alloc (.cells (Array.replicate T (ve vB 0 0)) 28)).1.size:=ja.size;replace kl:=ma kl ja;replace kv:=ma kv ja;replace ba:=pa ba ja;clear ja mk0;generalize w1.alloc _=w2 at kl kv ba oa db |-;generalize w1.1.size=N at oa fq db |-;have HWN:=zH (show w.1.size <= N by omega)
 have cv:=kv.cell;go_wp2_with fail
 generalize hBL:L.block=B at *;have HBL:=zH hBL;clear hBL cv kv BG;have g1:(0:Int)<B:=by omega
 have g2:(B:Int) <= 256:=by omega
 obtain ⟨LC,VG⟩:∃ LC:Array vw,LC=#[vd vq L.p,vd vt B,vd vt L.queries,vd vt L.k,vd vt L.n,vd vt L.secret,vd vt L.rows,vd vt L.a,vd vt L.b,vd vt L.b,vd vt L.b]:=⟨_,rfl⟩;have ij:=zH (show LC[1]?=vD (vd vt B) by rw [VG];rfl)
 rw [<- VG] at kl;clear VG;go_loopw [5,13] (fun u y wr=>∃ (i n:Nat) (v:vw) (cs:List vw),v=u /\ i <= 4 /\ y=vd vt i /\ n <= i*100000 /\ Blk wr w.1.size 121 LC /\ wr.ownsRow N 28 1 v n cs /\ qh N wr v cs (Qq B l ps i) /\ vz w.1.size w wr /\ N <= wr.1.size) (fun _ y _=>4-(intOf y).toNat)
 case atStart=>exact ⟨0,0,_,[],rfl,zO,rfl,zO,kl,oa,by rw [Wl.out];exact wJ _ _ _,ba,db⟩
 case round =>
  clear kl ba db oa;obtain ⟨i,n0,v,cs,rfl,hi,rfl,sH,kl,oa,Ra,ba,ef⟩:=hrel;by_cases ta:i<4
  ·have q1:(i:Int)<4:=by omega
   have q0:(0:Int)<=i:=by omega
   have Nw:=HV.out i ta;have Uj:=Xl.out i;obtain ⟨p,hp⟩:=zEX (ps i);have hgi:=fun w=>idx_4 (w:=w) (a:=v0) (b:=v1) (c:=v2) (d:=v3) ta
   have Tv:=zH (gz.out i);obtain ⟨li,Fi⟩:=zEX (l i);obtain ⟨si,rA⟩:=zEX (Le v0 v1 v2 v3 i);have HQi:=zH (show p=(li.length+B-1) / B by rw [hp,Fi];exact HQ.out i ta)
   rw [<- rA] at Nw hgi;rw [<- Fi] at Nw Tv;rw [<- hp] at Uj Tv;clear hp Fi rA;obtain ⟨Ai,ci,rfl⟩:=Sg Nw;obtain ⟨P0,hP0⟩:=zEX (Qq B l ps i);rw [<- hP0] at Ra Tv;have pz:=zH (show P0++Rq B li 0=P0 by simp [Rq])
   have CG:=zH (show ∀ k,(P0++Rq B li k)++[RD B li k]=P0++Rq B li (k+1) from fun k=>by rw [bZ,Jx])
   have kT:=zH (Mb Nw).2.2.2.1;have HVI:=zH (show RWd w [ve Ai li.length ci] (li.drop (0*B)) by rw [Nat.zero_mul,List.drop_zero];exact Nw)
   clear hP0 Nw;go_wp2_with fail
   go_loopw [5,7] (fun u sv wr=>∃ (k n ns c':Nat) (As:Option vx) (v:vw) (cs:List vw),v=u /\ sv=ve As ns c' /\ Hid (RWd w [ve As ns c'] (li.drop (k*B))) /\ k <= p /\ n <= i*100000+k /\ Blk wr w.1.size 121 LC /\ wr.ownsRow N 28 1 v n cs /\ qh N wr v cs (P0++Rq B li k) /\ vz w.1.size w wr /\ N <= wr.1.size) (fun _ sv _=>lenV sv)
   case atStart=>exact ⟨0,n0,_,_,_,_,cs,rfl,rfl,HVI,Rb _,by rw [ot];exact sH,kl,oa,by rw [pz.out];exact Ra,ba,ef⟩
   case round =>
    clear kl ba ef oa Ra sH HVI hgi;obtain ⟨k,n1,ns,c',As,v,cs,rfl,rfl,HR,hk,Fg,kl,oa,Ra,ba,ef⟩:=hrel;obtain ⟨Uf,Vi,ss,-,-⟩:=Mb HR.out;have grm:=Mh Vi ss;have sD:=zH Uf;have HR2:=zH (And.intro Vi ss);clear Uf Vi ss;have c1:=kl.cell 1;rw [ij.out] at c1;by_cases bs:0<ns
    ·have q2:(0:Int)<ns:=by omega
     obtain ⟨wo,aF⟩:=zEX (wr);subst aF;have QP:=zH (CG.out k);go_upto_region 7 with fail
     have kg:=Blk.new wo 22 (Fb B fun _=>0)
     have se:=zA wo (.cells (Fb B fun _=>0) 22)
     have Jc:∀ q,v.ownBlock=vD q -> q<wo.1.size:=fun q e=>(oa.lt q e).2
     have hgN:N <= wo.1.size:=ef;clear c1;generalize wo.alloc _=w2 at kg se |-;obtain ⟨t,ht⟩:=zEX (min (li.drop (k*B)).length B);have tA:0<t:=by rw [ht,<- sD.out];omega
     have EH:t <= ns:=by rw [ht,<- sD.out];exact Nat.min_le_left _ _
     have bH:=zBW w2 (Sa (pa ba se) HR.out) ht tA kg;have kE:=iP HR.out EH;rw [ht,zCe,<- ht,show k*B+B=(k+1)*B by rw [Nat.succ_mul]] at kE
     have HRn:=zH kE;obtain ⟨F,hF⟩:∃ F:Nat -> Nat,F=fun j=>li.getD (k*B+j) 0:=⟨_,rfl⟩
     have Qy:=zH (show (List.range B).map F=RD B li k by rw [hF];rfl)
     have Nv:=zH (show ∀ j,F j<18446744073709551616 from fun j=>by
      rw [hF];show li.getD (k*B+j) 0<_
      rw [Gc];cases h:li[k*B+j]? with
      | none=>decide
      | some x=>exact kT.out x (List.mem_of_getElem? h))
     have hkp:k+1 <= p:=by
      have h1:k*B<li.length:=by
       have h2:(li.drop (k*B)).length=li.length-k*B:=JB;have:=sD.out;omega
      rw [HQi.out];refine (Nat.le_div_iff_mul_le zO).2 ?_;rw [Nat.succ_mul];omega
     rw [<- hF] at bH;have q3:(0:Int)<=t:=by omega
     have q4:(t:Int)<=ns:=by omega
     have Ce:ns <= c':=HR2.out.1;have q5:(ns:Int)<=c':=by omega
     have kg2:=setRow_heap w2 wo.1.size _ (Fb B F) _ _ kg;have PJ:=below_setRow se zR (Fb B F);clear kE hF kg se ht;by_cases Rz:c'=t
     all_goals
      first | (obtain rfl:=Rz;have HR3:=zH HRn.out;rw [Gb rfl,show ns-c'=0 by omega,show c'-c'=0 by omega] at HR3) | (have HR3:=zH HRn.out;rw [mb Rz] at HR3)
      clear HRn;go_upto_region 8 with fail
      clear bH;generalize w2.setRow _ _=w3 at kg2 PJ |-;replace kl:=ma kl PJ;replace ba:=pa ba PJ;replace ef:=Cb ef PJ.size;replace oa:=yb oa PJ zR;replace Ra:=Bg Ra PJ;have hx:=dX (N:=N) (gb:=v.ownBlock) kg2 (fun j _=>Nv.out j) (by simp [maxLen];omega) hgN (fun e=>by have:=Jc _ e.symm;omega)
      rw [Qy.out] at hx;clear kg2;go_wp2_with (at_builtin;refine fe rfl _ _ rfl jw rfl (oa.alloc _) rfl (mh _ _ _) (by intro u hu;simp at hu;subst hu;rfl) zO zT ?_)
      intro v' wn Va Ja tb;have ja:=zA w3 (.cells #[ve (vD ⟨wo.1.size,0,vB⟩) B B] 28);replace Ra:=Bg Ra ja;replace hx:=nu hx ja.size (fun b _ h2 _=>ja.block b h2)
      have Xh:=eE Ra hx Ja (by simpa using tb)
      rw [QP.out] at Xh;have Cl:=Ee (oa.alloc _) Ja zT;have Ed:w.1.size <= N:=by omega
      have Br:∀ q,v.ownBlock=vD q -> N <= q:=fun q e=>(oa.lt q e).1
      replace kl:=ma kl ja;replace ba:=pa ba ja;replace ef:=Cb ef ja.size;replace kl:=kl.grown Ja (fun e=>by first | (have:=Br _ e;omega) | (have:=Br _ e.symm;omega))
      replace ba:=ba.trans (Cl.mono Ed);replace ef:=Cb ef Ja.size;clear Ja tb Cl ja oa Ra hx PJ;go_wp2
      go_roundw
      case rel=>exact ⟨k+1,n1+1,_,_,_,_,_,rfl,rfl,HR3,hkp,zO,kl,Va,Xh,ba,ef⟩
      case measure=>simp [lenV];omega
    ·have q2:¬((0:Int)<ns):=by omega
     have hkp:k=p:=by
      have h2:(li.drop (k*B)).length=li.length-k*B:=JB;have h3:=sD.out;have h4:=HQi.out;have h5:(li.length+B-1) / B <= k:=by
       have:li.length+B-1<(k+1)*B:=by rw [Nat.succ_mul];omega
       have:=(Nat.div_lt_iff_lt_mul zO).2 this;omega
      omega
     subst hkp;rw [<- Tv.out] at Ra;go_wp2_with fail
     go_roundw
     case rel=>exact ⟨i+1,n1,_,cs,rfl,zO,by go_num,zO,kl,oa,Ra,ba,ef⟩
     case measure=>simp [intOf];omega
  ·obtain rfl:i=4:=by omega
   rw [<- HBL.out] at Ra;go_wp2;go_ret
   exact ⟨_,rfl,aP Ra oa HWN.out HWN.out,ba⟩
def Zw (p pu x:Nat) (f:Nat -> Nat) (t:Int × Nat):Nat -> Nat :=
 if 0 <= t.1-1-(pu:Int) then ui f (t.1-1-(pu:Int)).toNat ((f (t.1-1-(pu:Int)).toNat+Qf p (x*t.2%p))%p) else f
def uq (p pu x:Nat) (f:Nat -> Nat) (ts:List (Int × Nat)):Nat -> (Nat -> Nat)
 | 0=>f
 | t+1=>Zw p pu x (uq p pu x f ts t) (ts.getD t (0,0))
def QC (p pu n Na:Nat) (r:Ya) (i:Nat) (f:Nat -> Nat):Nat -> (Nat -> Nat)
 | 0=>f
 | j+1=>uq p pu (Na^(j*n+i)%p) (QC p pu n Na r i f j) (Cd r j) (Cd r j).length
def cL (p pu n Na:Nat) (rows:List Ya):Nat -> (Nat -> Nat)
 | 0=>fun _=>0
 | i+1=>QC p pu n Na (rows.getD i ⟨[],[],[]⟩) i (cL p pu n Na rows i) 3
def Ch (p n Na k:Nat):List Nat:=(List.range n).map fun i=>Na^(k*n+i)%p
def ML (L:Xa) (pu Na:Nat) (rows:List Ya):List (List Nat) :=
 Ct L.block (Le ((List.range L.secret).map (cL L.p pu rows.length Na rows rows.length)) (Ch L.p rows.length Na 0) (Ch L.p rows.length Na 1) (Ch L.p rows.length Na 2)) (Le L.a L.b L.b L.b)
theorem uS {w:vv} {A:Option vx} {n c k:Nat} {l:List Nat} (h:RWd w [ve A n c] l) (hk:k <= n):RWd w [ve A k c] (l.take k):=by
 obtain ⟨hn,hc,hm,ta,hr⟩:=Mb h;exact ⟨_,_,_,rfl,zO,hm,zIy hr hk,fun x hx=>ta x (List.mem_of_mem_take hx)⟩
theorem iX {w:vv} {v0 v1 v2 v3:vw} {l0 l1 l2 l3:List Nat} (h0:RWd w [v0] l0) (h1:RWd w [v1] l1) (h2:RWd w [v2] l2) (h3:RWd w [v3] l3):∀ i,i<4 -> RWd w [Le v0 v1 v2 v3 i] (Le l0 l1 l2 l3 i):=fun i h=>by
 rcases (show i=0 \/ i=1 \/ i=2 \/ i=3 by omega) with rfl | rfl | rfl | rfl
 ·exact h0
 ·exact h1
 ·exact h2
 ·exact h3
def LD (vars:Int) (rows:List Ya):Prop:=∀ r∈rows,∀ k,k<3 -> ∀ t∈Cd r k,0 <= t.1 /\ t.1<vars
theorem zE5 (L:Xa) (pu Na:Nat) (vars:Int) (A:Option vx) (R c:Nat) (rows:List Ya) (w:vv) (hL:ed L) (hF:Px L pu vars rows) (hr:RSl 3 Ue w [ve A R c] rows) (hV:LD vars rows) :
  vA prog 167 #[vf (Eb L),Kc L.p (pu:Int) vars (ve A R c),vd vq Na] w fun e w'=>∃ v,e=vn v /\ RRx w.1.size w' v (ML L pu Na rows) /\ vz w.1.size w w':=by
 obtain ⟨A',n',c',he,Of,Ce,Ef,Ka⟩:=hr;simp at he
 obtain ⟨rfl,rfl,rfl⟩:=he;have La:=hL.b1;have hs:=hL.s;have Ym:=hL.r;have OE:=hF.nr;have pA:=hF.sec;have VE:=hF.small;have hR:R=rows.length:=Of.symm;have hLR:L.rows=R:=by omega
 have Oy:=zH (fun w=>AY L pu vars A R c rows w hL hF Of)
 have sG:=zH (fun n w hn=>sU L.p Na n w hL.p hn)
 have HM:=zH (fun a b w=>YD L.p a b w hL.p)
 have HS:=zH (fun a b w=>tU L.p a b w hL.p)
 have HC:=zH (fun v0 v1 v2 v3 l0 l1 l2 l3 w hv hq=>zFa L v0 v1 v2 v3 l0 l1 l2 l3 w hL hv hq)
 have HAE:=zH hL.ae;have HBE:=zH (show L.b=(R+L.block-1) / L.block by rw [<- hLR];exact hL.be)
 obtain ⟨pw,Vj⟩:∃ pw:Nat -> Nat,pw=fun i=>Na^i%L.p:=⟨_,rfl⟩
 have mT:=zH (show (fun i=>Na^i%L.p)=pw from Vj.symm)
 have Gu:=zH (show ∀ i,pw i<18446744073709551616 from fun i=>by rw [Vj];exact gg (Ic _ (zQ (tc hL.p))) (tc hL.p).2)
 obtain ⟨fR,zE⟩:=zEX (cL L.p pu rows.length Na rows);have rD:=zH (show fR 0=fun _=>0 by rw [zE];rfl)
 have Fq:=zH (show ∀ i (hi:i<rows.length),fR (i+1)=QC L.p pu R Na rows[i] i (fR i) 3 from fun i hi=>by
  rw [zE,hR];show QC L.p pu rows.length Na (rows.getD i ⟨[],[],[]⟩) i _ 3=_
  rw [Gc,Dc hi]
  rfl)
 have KI:=zH (show ∀ (r:Ya) i (f:Nat -> Nat) j,QC L.p pu R Na r i f (j+1)=uq L.p pu (pw (j*R+i)) (QC L.p pu R Na r i f j) (Cd r j) (Cd r j).length from fun r i f j=>by rw [Vj];rfl)
 have HFX0:=zH (show ∀ (x:Nat) (f:Nat -> Nat) ts t,(∀ k,f k<L.p) -> ∀ k,uq L.p pu x f ts t k<L.p from fun x f ts t hf=>by
  induction t with
  | zero=>exact hf
  | succ t ih =>
   intro k;show Zw L.p pu x (uq L.p pu x f ts t) _ k<_
   unfold Zw;split
   ·unfold ui
    split
    ·exact Ic _ (zQ (tc hL.p))
    ·exact ih k
   ·exact ih k)
 have HFX:=zH (show ∀ i,i <= rows.length -> ∀ k,fR i k<L.p from fun i=>by
  induction i with
  | zero=>intro _ k;rw [rD.out];have:=tc hL.p;show 0<_;omega
  | succ i ih =>
   intro hi;rw [Fq.out i zO];have h0:=ih zO;have h1:∀ j k,QC L.p pu R Na rows[i] i (fR i) j k<L.p:=fun j=>by
    induction j with
    | zero=>exact h0
    | succ j jh=>exact HFX0.out _ _ _ _ jh
   exact h1 3)
 have Nb:=(tc hL.p).2;have uB:=zH Nb;have HCP:=zH (show ML L pu Na rows=Ct L.block (Le ((List.range L.secret).map (fR R)) (Ch L.p R Na 0) (Ch L.p R Na 1) (Ch L.p R Na 2)) (Le L.a L.b L.b L.b) by rw [zE,hR];rfl)
 have HL0:=zH (show ((List.range (3*R)).map pw).take R=Ch L.p R Na 0 by
  rw [<- List.map_take,List.take_range,Nat.min_eq_left zO,Vj];unfold Ch;refine NB fun i _=>?_
  simp)
 have ij:=zH (show (((List.range (3*R)).map pw).take (2*R)).drop R=Ch L.p R Na 1 by
  refine DO (by simp [Ch];omega) fun i hi=>?_
  simp at hi
  unfold Ch;rw [By,Gb zO,Gc,List.getElem?_drop,List.getElem?_take,Gb zO,List.getElem?_map,List.getElem?_range zO];rw [Vj];simp)
 have Fo:=zH (show ((List.range (3*R)).map pw).drop (2*R)=Ch L.p R Na 2 by
  refine DO (by simp [Ch];omega) fun i hi=>?_
  simp at hi
  unfold Ch;rw [By,Gb zO,Gc,List.getElem?_drop,List.getElem?_map,List.getElem?_range zO];rw [Vj];simp)
 have yD:=zH (show ∀ i (hi:i<rows.length) k,k<3 -> ∀ t (ht:t<(Cd rows[i] k).length),0 <= ((Cd rows[i] k).getD t (0,0)).1 /\ ((Cd rows[i] k).getD t (0,0)).1<vars from fun i hi k hk t ht=>by
  rw [Gc,Dc ht];exact hV _ (pg hi) k hk _ (pg ht))
 obtain ⟨R3,hR3⟩:=zEX (3*R);obtain ⟨R2,hR2⟩:=zEX (2*R);have e1:(3:Int)*R=(R3:Int):=by omega
 have e2:=Ud R3;have e3:(2:Int)*R=(R2:Int):=by omega
 have e4:=Ud R2;have mk:=zC L.secret zO;have gs:(L.secret:Int) <= 65536:=by omega
 have gs0:(0:Int)<=L.secret:=by omega
 have gR:R <= 16384:=by omega
 have gR3:R3 <= 65536:=by omega
 rw [<- hR3] at HL0 ij Fo;rw [<- hR2] at ij Fo;rw [HCP.out];have tG:=zH hR3;have NP:=zH hR2;have tD:=zH hR;have pT:=zH (And.intro pA VE);clear hV Vj zE hL hF La hs Ym OE pA VE hR3 hR2 Nb HCP HFX0 Ce Ef Of hR;unfold Eb Kc fv at *;rw [hLR] at Oy HC |-;clear hLR;obtain ⟨kl,kt,ba,-⟩:=ig w 121 25 #[vd vq L.p,vd vt L.block,vd vt L.queries,vd vt L.k,vd vt L.n,vd vt L.secret,vd vt R,vd vt L.a,vd vt L.b,vd vt L.b,vd vt L.b] #[vd vq L.p,vd vt pu,vd vt vars,ve A R c];go_enter func167,ntmps167
 go_upto_region 1 with fail
 generalize (w.alloc _).alloc _=w1 at kl kt ba |-;have cl:=kl.cell;have ct:=kt.cell;go_wp2_with fail
 refine (Oy.out _).mono ?_;rintro e w2 ⟨rfl,ra⟩;replace kl:=ma kl ra;replace kt:=ma kt ra;replace ba:=pa ba ra;clear ra cl ct Oy;have cl:=kl.cell;go_upto_region 4 with fail
 obtain ⟨kf,ja⟩:=zN w2 250 #[vd vq L.p];replace kl:=ma kl ja;replace kt:=ma kt ja;replace ba:=pa ba ja;generalize w2.alloc _=w3 at kl kt kf ba |-;generalize w2.1.size=gf at kf |-;clear ja cl;have cl:=kl.cell;have cf:=kf.cell;go_wp2_with fail
 refine (sG.out R3 _ zO).mono ?_;rintro e w4 ⟨gp,rfl,-,kp,ra⟩;rw [mT.out] at kp;replace kl:=ma kl ra;replace kt:=ma kt ra;replace kf:=ma kf ra;replace ba:=pa ba ra;clear ra cl cf sG;have cl:=kl.cell;go_upto_region 7 with fail
 have kg:=Blk.new w4 22 (Fb L.secret fun _=>0)
 have hbs:=zA w4 (.cells (Fb L.secret fun _=>0) 22)
 have ct:=(ma kt hbs).cell;clear cl mk;generalize w4.alloc _=w5 at kg hbs ct |-;have gRi:(R:Int) <= 16384:=by omega
 go_wp2_with fail
 clear ct;go_loopw [38] (fun y wr=>∃ i:Nat,i <= R /\ y=vd vt i /\ Blk wr w4.1.size 22 (Fb L.secret (fR i)) /\ vz w4.1.size w4 wr) (fun y _=>R-(intOf y).toNat)
 case atStart=>exact ⟨0,Rb _,rfl,by rw [rD.out];exact kg,hbs⟩
 case round =>
  clear kg hbs;obtain ⟨i,hi,rfl,kg,hb⟩:=hrel;by_cases ta:i<R
  ·have q1:(i:Int)<R:=by omega
   have q2:(0:Int)<=i:=by omega
   have Fi:i<rows.length:=by have:=tD.out;omega
   obtain ⟨b,q,rfl⟩:=Ka.base zO zO;obtain ⟨cs,-,hc,x,y,z,rfl,Zc,ff,Zd⟩:=Ka.get Fi;have Nf:=pa ba hb;have te:=Af _ _ ((hc 0 zO).trans (show [x,y,z][0]?=vD x from rfl))
   have h0:=(Nf.cell (p:=⟨b,q+i*3+0,vB⟩) te).trans (hc 0 zO);have h1:=(Nf.cell (p:=⟨b,q+i*3+1,vB⟩) te).trans (hc 1 zO);have h2:=(Nf.cell (p:=⟨b,q+i*3+2,vB⟩) te).trans (hc 2 zO);rw [ot] at h0;simp only [List.getElem?_cons_zero,List.getElem?_cons_succ] at h0 h1 h2;have nN:=zH (Fq.out i Fi);have HVi:=zH (yD.out i Fi);have LI:=zH (KI.out rows[i] i (fR i));obtain ⟨fS,TJ⟩:=zEX (QC L.p pu R Na rows[i] i (fR i));have Hq:=zH (show fS 0=fR i by rw [TJ];rfl)
   rw [<- TJ] at nN LI;have Mp:=zH (show ∀ k,k<3 -> RLin w [if k=0 then x else if k=1 then y else z] (Cd rows[i] k) from fun k hk=>by
    unfold Cd;rcases (show k=0 \/ k=1 \/ k=2 by omega) with h | h | h <;> subst h
    ·exact Zc
    ·exact ff
    ·exact Zd)
   obtain ⟨sd,Lw⟩:=zEX (Cd rows[i]);rw [<- Lw] at HVi LI Mp;obtain ⟨A1,n1,c1,rfl⟩:=RSl.slc Zc;obtain ⟨A2,n2,c2,rfl⟩:=RSl.slc ff;obtain ⟨A3,n3,c3,rfl⟩:=RSl.slc Zd;have ja:=zA wr (.cells #[ve A1 n1 c1,ve A2 n2 c2,ve A3 n3 c3] 186);clear hc Zc ff Zd TJ Lw Nf;have Zb:=Af _ _ h0;go_wp2_with fail
   go_loopw [50] (fun y wq=>∃ j:Nat,j <= 3 /\ y=vd vt j /\ Blk wq w4.1.size 22 (Fb L.secret (fS j)) /\ vz w4.1.size w4 wq) (fun y _=>3-(intOf y).toNat)
   case atStart=>exact ⟨0,zO,rfl,by rw [Hq.out];exact ma kg ja,pa hb ja⟩
   case round =>
    clear kg hb h0 h1 h2 ja Zb;obtain ⟨j,hj,rfl,kg,hb⟩:=hrel;by_cases Sj:j<3
    ·have q3:(j:Int)<3:=by omega
     have q4:(0:Int)<=j:=by omega
     have Wi:=Mp.out j Sj;have ix:=fun w=>AO (w:=w) (x:=ve A1 n1 c1) (y:=ve A2 n2 c2) (z:=ve A3 n3 c3) Sj
     obtain ⟨dL,Se⟩:=zEX ((if j=0 then ve A1 n1 c1 else if j=1 then ve A2 n2 c2 else ve A3 n3 c3))
     rw [<- Se] at Wi ix;have AB:=zH (LI.out j);have HVj:=zH (HVi.out j Sj);obtain ⟨ts,tv⟩:=zEX (sd j);rw [<- tv] at Wi AB HVj;obtain ⟨jr,FE⟩:=zEX (j*R);obtain ⟨m,hm⟩:=zEX (jr+i);rw [<- FE,<- hm] at AB;have kV:jr <= 2*R:=by rw [FE];exact JD _ zO
     have z1:(j:Int)*R=(jr:Int):=by rw [FE];exact (Th _ _).symm
     have z2:=Ud jr;have z3:(jr:Int)+i=(m:Int):=by omega
     have z4:=Ud m;have eo:m<R3:=by have:=tG.out;omega
     have z5:(m:Int)<R3:=by omega
     have z6:(0:Int)<=m:=by omega
     clear Se tv FE hm kV;obtain ⟨As,ns,pc,rfl⟩:=RSl.slc Wi;obtain ⟨A',n',c',he,Of,Ce,Ef,ni⟩:=Wi;simp at he
     obtain ⟨rfl,rfl,rfl⟩:=he;have gns:=Mh Ce Ef;have Kp:=zH Of;obtain ⟨fT,AE⟩:=zEX (uq L.p pu (pw m) (fS j) ts);have xD:=zH (show fT 0=fS j by rw [AE];rfl)
     have HTS:=zH (show ∀ t,fT (t+1)=Zw L.p pu (pw m) (fT t) (ts.getD t (0,0)) from fun t=>by rw [AE];rfl)
     rw [<- AE] at AB;clear AE Of Ce Ef;go_wp2_with fail
     go_loopw [56] (fun y wq=>∃ t:Nat,t <= ns /\ y=vd vt t /\ Blk wq w4.1.size 22 (Fb L.secret (fT t)) /\ vz w4.1.size w4 wq) (fun y _=>ns-(intOf y).toNat)
     case atStart=>exact ⟨0,Rb _,rfl,by rw [xD.out];exact kg,hb⟩
     case round =>
      clear kg hb;obtain ⟨t,ht,rfl,kg,hb⟩:=hrel;by_cases Mw:t<ns
      ·have q5:(t:Int)<ns:=by omega
       have q6:(0:Int)<=t:=by omega
       have bn:t<ts.length:=by rw [Kp.out];exact Mw
       obtain ⟨b',q',rfl⟩:=ni.base zO zO;have Nf:=pa ba hb;obtain ⟨tk,Nj⟩:=RLin.at_ (ni.below fF Nf) bn;have Un:=Af _ _ tk;simp only at Un;have hv:=HVj.out t bn;have Km:=zH (HTS.out t);revert tk Nj hv Km
       generalize ts.getD t (0,0)=tm;obtain ⟨v,co⟩:=tm;intro tk Nj hv Km;simp only at tk Nj hv;obtain ⟨v1,Xk⟩:=zEX (v-1);obtain ⟨v2,Lh⟩:=zEX (v1-(pu:Int));have pA:=pT.out;have y1:v-1=v1:=Xk.symm;have y2:vt.wrap v1=v1:=Sl _ zO zO;have y3:v1-(pu:Int)=v2:=Lh.symm;have y4:vt.wrap v2=v2:=Sl _ zO zO;have oz:=zH (show fT (t+1)=if 0 <= v2 then ui (fT t) v2.toNat ((fT t v2.toNat+Qf L.p (pw m*co%L.p))%L.p) else fT t by rw [Km.out,Lh,Xk];rfl)
       have Cs:v2<(L.secret:Int):=by omega
       have kt1:=ma kt hb;have rp:=ma kl hb;have ct:=kt1.cell;have cl:=rp.cell;clear Xk Lh pA hv Km;by_cases hz:0 <= v2
       ·have d1:decide ((0:Int) <= v2)=true:=Qb hz
        have d2:decide (v2<(L.secret:Int))=true:=Qb Cs;obtain ⟨s,rfl⟩:=Zl hz;have ny:s<L.secret:=by omega
        obtain ⟨a,ha⟩:=zEX (fT t s);obtain ⟨px,sr⟩:=zEX (pw m);obtain ⟨u,hu⟩:=zEX (px*co%L.p);obtain ⟨r,hr⟩:=zEX ((a+Qf L.p u)%L.p);have zi:=zH (show (Fb L.secret (fT t)).setIfInBounds s (vd vq r)=Fb L.secret (fT (t+1)) by
         rw [bE,oz.out,Gb hz,Dn,hr,hu,sr,ha])
        have og:=zH (fun w=>by have:=HM.out px co w;rw [<- hu] at this;exact this)
        have ai:=zH (fun w=>by have:=HS.out a u w;rw [<- hr] at this;exact this)
        have HA:=zH ha;obtain ⟨ja,kx⟩:=(zN wr 191 #[vd vt v,vd vq co]).symm;have QD:=(ma kp hb).cell m;have hpx2:=sr;rw [Pn _ eo] at QD;clear hu hr ha;have lt1:=kt1.lt;have ll1:=rp.lt;go_upto_region 18 with fail
        replace kg:=ma kg ja;replace hb:=pa hb ja;clear ct cl kt1 rp QD ja lt1 ll1;generalize wr.alloc _=w6 at kg kx hb |-;generalize wr.1.size=gx at kx |-;have Vf:=ma kf hb;have AK:=ma kp hb;have cf:=Vf.cell;have lf:=Vf.lt;have QD:=AK.cell m;rw [Pn _ eo] at QD;have lp:=AK.lt;have cx:=kx.cell;have lx:=kx.lt;have cg:=kg.cell s;rw [Pn _ ny,<- HA.out] at cg;have lg:=kg.lt;have Vj:pw m=px:=hpx2.symm;rw [Vj] at QD;clear sr hpx2 Vj;refine Oh (yc) (ya) [21] [21] [0,1,2,3,4,5,6,7,8,9,10,11,12,13,14,15,16,17,18,19,20,21] zK zK ?_;refine Ph (ya) ?_;intro Wc da;refine Te ?_;refine Fe ya rfl rfl rfl rfl (fun w' hR=>og.out _) ?_
        refine zPU ?_;refine Te ?_;refine Fe ya rfl rfl rfl rfl (fun w' hR=>ai.out _) ?_
        refine zPU ?_;refine Te ?_;refine oo rfl rfl rfl rfl ?_;intro wh Md;replace da:=zM ya da Md;have Kd:=pa (Bb w6.1.size w6).drew da;replace kg:=ma kg Kd;replace hb:=pa hb Kd;clear Kd da Md cf lf QD lp cx lx cg lg Vf AK;have c3:=kg.cell s;rw [Pn _ ny] at c3;have f3:=kg.frozen;go_simp;refine ⟨fun h=>Bool.noConfusion h,?_⟩
        have hg:=dk (w:=wh) w4.1.size s (vd vq r);replace kg:=kg.set_ s (vd vq r);rw [zi.out] at kg;replace hb:=hb.trans (Po hg hb.size zR);clear hg f3 c3;generalize wh.setCell _ _=we at kg hb |-;refine Fp rfl ?_;go_wp2_with fail
        go_roundw
        case rel=>exact ⟨t+1,zO,by go_num,kg,hb⟩
        case measure=>simp [intOf];omega
       ·have d1:decide ((0:Int) <= v2)=false:=Ib hz
        have qT:=zH (show fT (t+1)=fT t by rw [oz.out,mb hz])
        have ja:=zA wr (.cells #[vd vt v,vd vq co] 191);have lt1:=kt1.lt;have ll1:=rp.lt;go_wp2_with fail
        replace kg:=ma kg ja;replace hb:=pa hb ja
        go_roundw
        case rel=>exact ⟨t+1,zO,by go_num,by rw [qT.out];exact kg,hb⟩
        case measure=>simp [intOf];omega
      ·obtain rfl:t=ns:=by omega
       have q5:¬((t:Int)<t):=by omega
       rw [<- Kp.out,<- AB.out] at kg;go_wp2_with fail
       go_roundw
       case rel=>exact ⟨j+1,zO,by go_num,kg,hb⟩
       case measure=>simp [intOf];omega
    ·obtain rfl:j=3:=by omega
     rw [<- nN.out] at kg;go_wp2_with fail
     go_roundw
     case rel=>exact ⟨i+1,zO,by go_num,kg,hb⟩
     case measure=>simp [intOf];omega
  ·obtain rfl:i=R:=by omega
   have q1:¬((i:Int)<i):=by omega
   have hS:=UL kg (fun k _=>gg (HFX.out i (by rw [<- tD.out];omega) k) uB.out) (by simp [maxLen];omega)
   have hP:=UL (ma kp hb) (fun k _=>Gu.out k) (by simp [maxLen];omega)
   obtain ⟨PL,hPL⟩:=zEX ((List.range R3).map pw);rw [<- hPL] at hP HL0 ij Fo;have rp:=ma kl hb;have cl:=rp.cell;have ll:=rp.lt;have x1:i <= R3:=by have:=tG.out;omega
   have x2:R2 <= R3:=by have:=tG.out;have:=NP.out;omega
   have x3:i <= R2:=by have:=NP.out;omega
   have x4:(i:Int)<=R3:=by omega
   have x5:(R2:Int)<=R3:=by omega
   have x6:(i:Int)<=R2:=by omega
   have x7:(0:Int)<=i:=by omega
   have x8:(0:Int)<=R2:=by omega
   have h1:=uS hP x1;have h2:=iP (uS hP x2) x3;have h3:=iP hP x2;rw [HL0.out] at h1;rw [ij.out] at h2;rw [Fo.out] at h3;have HQ4:=zH (show ∀ k,k<4 -> Le L.a L.b L.b L.b k=((Le ((List.range L.secret).map (fR i)) (Ch L.p i Na 0) (Ch L.p i Na 1) (Ch L.p i Na 2) k).length+L.block-1) / L.block from fun k hk=>by
    rcases (show k=0 \/ k=1 \/ k=2 \/ k=3 by omega) with rfl | rfl | rfl | rfl
    ·show L.a=(((List.range L.secret).map (fR i)).length+L.block-1) / L.block
     rw [dw,Lx];exact HAE.out
    ·show L.b=((Ch L.p i Na 0).length+L.block-1) / L.block
     rw [Ch,dw,Lx];exact HBE.out
    ·show L.b=((Ch L.p i Na 1).length+L.block-1) / L.block
     rw [Ch,dw,Lx];exact HBE.out
    ·show L.b=((Ch L.p i Na 2).length+L.block-1) / L.block
     rw [Ch,dw,Lx];exact HBE.out)
   clear hPL hP kg HL0 ij Fo rp;go_upto_region 22 with fail
   generalize (vD (⟨gp,0,vB⟩:vx))=PA at h1 h2 h3 |-;generalize (vD (⟨w4.1.size,0,vB⟩:vx))=SA at hS |-;refine Yc (yc) [15] [0,1,2,3,4,5,6,7,8,9,10,11,12,13,14,15,16] zK zK ?_;refine Td (ya) ?_;intro Wc Ca da;have Ma:=Lf Ca;replace hS:=Sa Ma hS;replace h1:=Sa Ma h1;replace h2:=Sa Ma h2;replace h3:=Sa Ma h3;rcases Nu i with Zz | Zz
   ·have hr30:R3=0:=by have:=tG.out;omega
    have hr20:R2=0:=by have:=NP.out;omega
    subst hr30 hr20 Zz;have w0:vt.wrap 0=0:=by decide
    rw [Gb rfl] at h2 h3;have hv:=zH (iX hS h1 h2 h3);refine dc ?_;refine pd ya rfl rfl rfl ((HC.out _ _ _ _ _ _ _ _ _ hv.out HQ4.out).mono ?_);rintro e w7 ⟨v,rfl,hv7,ra⟩;refine ⟨_,rfl,ra,?_⟩;replace da:=zM ya da (ra);refine zPU ?_;refine dc ?_;refine Ec ?_;go_wp2;go_ret
    exact ⟨v,rfl,hv7.mono (pa (pa ba hb) Ma).size,pa (pa (pa ba hb) Ma) ra⟩
   ·have eK:¬R3=i:=by have:=tG.out;omega
    have hne2:¬R3=R2:=by have:=tG.out;have:=NP.out;omega
    rw [mb eK] at h2;rw [mb hne2] at h3;have hv:=zH (iX hS h1 h2 h3);refine dc ?_;refine pd ya rfl rfl rfl ((HC.out _ _ _ _ _ _ _ _ _ hv.out HQ4.out).mono ?_);rintro e w7 ⟨v,rfl,hv7,ra⟩;refine ⟨_,rfl,ra,?_⟩;replace da:=zM ya da (ra);refine zPU ?_;refine dc ?_;refine Ec ?_;go_wp2;go_ret
    exact ⟨v,rfl,hv7.mono (pa (pa ba hb) Ma).size,pa (pa (pa ba hb) Ma) ra⟩
end Go.Proofs.YtodmnanljoaocaaGreat
