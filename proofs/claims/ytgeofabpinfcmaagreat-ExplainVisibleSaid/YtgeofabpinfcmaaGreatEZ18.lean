/- A part of the proof. No condition. -/
import Derived.ChangeKeysEq
import Derived.Test.YtgeofabpinfcmaaGreatProg
import Derived.Test.YtgeofabpinfcmaaGreatEZ17
import Derived.Test.YtgeofabpinfcmaaGreatEZ15
import Derived.Test.YtgeofabpinfcmaaGreatEZ10

set_option maxRecDepth 100000
set_option maxHeartbeats 8000000
set_option linter.unusedVariables false
set_option linter.unusedSimpArgs false
namespace Go.Proofs.YtgeofabpinfcmaaGreat
open Go.RowKit
theorem cX:(Tryz.prog.info? 3).map (fun i=>(i.zero,i.size,i.bytes))=some (some (.int .i64 0),1,8):=by kernel_rfl
theorem NV (a b c d:Int) (w:World):(Op.equalIn 10000 37 (.agg #[.int .i64 a, .int .i64 b, .int .i64 c, .int .i64 d]) (.agg #[.int .i64 a, .int .i64 b, .int .i64 c, .int .i64 d])).run Tryz.prog w= .ok true w:=by
 obtain ⟨i,hi,hz,hs,Zd⟩:=info_parts cX;rw [run_equalIn_array w 9999 _ _ Tryz.underlying37 hi];have hu:=Tryz.underlying3;have hr:List.range 4=[0,1,2,3]:=rfl;rw [hr,uy];simp [Op.eqItems,part,run_equalIn_int _ _ _ _ _ _ _ hu,sizeOf]
structure xl (L:Ja) (pu:Nat) (vars:Int) (rows:List Cb):Prop where
 nr:L.rows=rows.length
 sec:vars=(L.secret:Int)+1+(pu:Int)
 small:(pu:Int) <= 4294967296
theorem rO (L:Ja) (pu:Nat) (vars:Int) (A:Option Addr) (n c:Nat) (rows:List Cb) (w:World) (hL:Db L) (hF:xl L pu vars rows) (hn:rows.length=n) :
  Calls Tryz.prog 144 #[.agg (Ya L),pc L.p (pu:Int) vars (.slice A n c)] w fun e w'=>e= .returned (.bool true) /\ Below w.heap.size w w':=by
 have Ga:=hL.b1;have Ka:=hL.b2;have hs:=hL.s;have hr:=hL.r;have Ku:=hF.nr;have Ro:=hF.sec;have Hm:=hF.small;have HV:=zH (fun w=>tn L.p w hL.p)
 have jl:=zH (fun w=>by have:=WH L.rows L.block w (by omega) (by omega) (by omega);rw [<- hL.be] at this;exact this)
 have dy:=zH (fun w=>by have:=WH L.secret L.block w (by omega) (by omega) (by omega);rw [<- hL.ae] at this;exact this)
 have i1:((L.p:Int) != (L.p:Int))=false:=by simp
 have i2:decide ((L.block:Int)<1)=false:=decide_eq_false (by omega)
 have i3:((L.rows:Int) != (n:Int))=false:=by rw [bne_eq_false_iff_eq];omega
 have i4:decide ((16384:Int)<(L.rows:Int))=false:=decide_eq_false (by omega)
 have i5:decide ((pu:Int)<0)=false:=decide_eq_false (by omega)
 have i6:decide ((L.secret:Int)<0)=false:=decide_eq_false (by omega)
 have x1:vars-1=(L.secret:Int)+(pu:Int):=by omega
 obtain ⟨t,ht⟩:=zEX (L.secret+pu);have x2:(L.secret:Int)+(pu:Int)=(t:Int):=by omega
 have x3:=Yb t;have x4:(t:Int)-(pu:Int)=(L.secret:Int):=by omega
 have x5:IntKind.i64.wrap (L.secret:Int)=(L.secret:Int):=Df _ (by omega) (by omega)
 have i7:((L.secret:Int) != (L.secret:Int))=false:=by simp
 rw [x2] at x1;clear ht hL hF Ga Ka hs hr Ku Ro Hm hn x2;unfold Ya pc fv at *;obtain ⟨kl,kt,da,-⟩:=Ue w 49 25 #[.int .u64 L.p, .int .i64 L.block, .int .i64 L.queries, .int .i64 L.k, .int .i64 L.n, .int .i64 L.secret, .int .i64 L.rows, .int .i64 L.a, .int .i64 L.b, .int .i64 L.b, .int .i64 L.b] #[.int .u64 L.p, .int .i64 pu, .int .i64 vars, .slice A n c];go_enter Tryz.func144,Tryz.ntmps144
 go_upto_region 1 with fail
 generalize (w.alloc _).alloc _=w1 at kl kt da |-;have cl:=kl.cell;have ct:=kt.cell;go_wp2_with fail
 refine (HV.out _).mono ?_;rintro e w2 ⟨rfl,ea⟩;replace kl:=ia kl ea;replace kt:=ia kt ea;replace da:=oa da ea;clear ea cl ct;have cl:=kl.cell;have ct:=kt.cell;go_wp2_with fail
 refine (jl.out _).mono ?_;rintro e w3 ⟨rfl,rfl⟩;have ll:=kl.lt;go_upto_region 6 with fail
 refine Rc (Ib) [6] [0,1,2,3,4,5,7,8,9,6,10,11,12] (by kernel_rfl) (by kernel_rfl) ?_
 refine vd (xa) ?_;intro Wc Na ja;have ya:=Cc Na;refine pb ?_;refine Mb (xa) rfl rfl rfl (fun _=>by go_simp <;> rfl) ((dy.out _).mono ?_)
 rintro e w4 ⟨rfl,rfl⟩;refine ⟨_,rfl,(xa).refl _,?_⟩;replace ja:=(xa).trans _ _ _ ja ((xa).refl _);simp only [Act.put,zLa,zLb,zLc];have hq:=NV (L.a:Int) (L.b:Int) (L.b:Int) (L.b:Int);refine pb ?_;refine Fc ?_;replace da:=oa da ya;go_wp2;go_ret
 exact ⟨by simp,da⟩
theorem VX (n:Nat) (hn:n <= 1000000) (w:World) :
  (Instr.makeSlice 40 (.int .i64 0) (.int .i64 n)).run Tryz.prog w= .ok (.slice (some ⟨w.heap.size,0,none⟩) 0 n) (w.alloc (.cells (Array.replicate n (.slice none 0 0)) 28)):=by
 obtain ⟨ht,⟨i,hi,hz,hs,Zd⟩,hzs,Nb⟩:=Cj;have:=run_make (P:=Tryz.prog) w 40 28 i _ ht hi hz .i64 .i64 0 (n:Int) (by omega) (by omega) (by rw [Zd];omega) (by omega)
 rw [Int.toNat_natCast,hs,MX] at this;exact this
theorem JV {l:List Nat} {k B:Nat}:(l.drop k).drop (min (l.drop k).length B)=l.drop (k+B):=by
 rw [List.drop_drop];by_cases h:(l.drop k).length <= B
 ·rw [Nat.min_eq_left h]
  rw [List.length_drop] at h |-;rw [List.drop_eq_nil_of_le (by omega),List.drop_eq_nil_of_le (by omega)]
 ·rw [Nat.min_eq_right (by omega)]
theorem idx_4 {w:World} {a b c d:Value} {i:Nat} (h:i<4):(Instr.index 201 (.agg #[a,b,c,d]) (.int .i64 i)).run Tryz.prog w= .ok (Zc a b c d i) w :=
 FI Tryz.underlying201 (by simp [isAgg,run_underlying Tryz.underlying28]) (by
  obtain ⟨-,⟨i0,hi,-,hs,-⟩,-,-⟩:=Cj;simp [sizeOf,typeInfo,hi,hs]) h (SM a b c d h)
def lenV:Value -> Nat
 | .slice _ n _=>n
 | _=>0
theorem tV {B:Nat} {l:List Nat} {k t:Nat} (ht:t=min (l.drop k).length B):((Ha B fun _=>0).toList.take 0++Fa ((l.drop k).take t)++(Ha B fun _=>0).toList.drop (0+(Fa ((l.drop k).take t)).length)).toArray=Ha B fun j=>l.getD (k+j) 0:=by
 rw [Ms,Ms]
 congr 1
 have hl:(Fa ((l.drop k).take t)).length=t:=by simp [Fa];rw [ht];simp;try omega
 apply List.ext_getElem
 ·simp only [List.take_zero,List.nil_append,List.length_append,List.length_drop,hl]
  simp [Fa]
  omega
 ·intro i h1 h2
  simp [Fa] at h2
  by_cases h:i<t
  ·rw [List.getElem_append_left (by simp only [List.take_zero,List.nil_append,hl];exact h)]
   simp only [List.take_zero,List.nil_append];have h3:i<(l.drop k).length:=by omega
   have h4:k+i<l.length:=by rw [List.length_drop] at h3;omega
   simp [Fa,h4]
  ·rw [List.getElem_append_right (by simp only [List.take_zero,List.nil_append,hl];omega)]
   have h3:¬k+i<l.length:=by
    intro h5;have:(l.drop k).length=l.length-k:=List.length_drop;omega
   simp [Fa,h3]
theorem uV {B k t g:Nat} {l:List Nat} {A:Option Addr} {n c:Nat} (w:World) (hl:RWd w [.slice A n c] (l.drop k)) (ht:t=min (l.drop k).length B) (h1:0<t) (kg:Blk w g 22 (Ha B fun _=>0)) (ty:TypeId) :
  (Builtin.copy_ #[28,28] ty #[.slice (some ⟨g,0,none⟩) B B, .slice A n c]).run Tryz.prog w= .ok (goInt t) (w.setRow g (Ha B fun j=>l.getD (k+j) 0)):=by
 obtain ⟨hn,-,-,-,hr⟩:=Ra hl;have hlen:(Fa ((l.drop k).take t)).length=t:=by
  have h1:(l.drop k).length=l.length-k:=List.length_drop;simp [Fa]
  omega
 have Nb:(Tryz.prog.info? 22).map (·.size)=some 1:=by
  obtain ⟨-,⟨i,hi,-,hs,-⟩,-,-⟩:=xf;rw [hi];simp [hs]
 obtain ⟨ad,rfl,hc⟩:=hr.2 (by omega)
 have h:=run_copy_row (P:=Tryz.prog) w 28 28 ty 22 g 0 B B ad n c (Ha B fun _=>0) 22 (Fa ((l.drop k).take t)) Tryz.underlying28 Nb kg (by rw [hlen,ht,hn]) (fun j v hj=>by
  have yk:j<t:=by
   have:=(List.getElem?_eq_some_iff.1 hj).1;rw [hlen] at this;exact this
  refine hc j v ?_;simp only [Fa,List.map_take,List.getElem?_take,if_pos yk] at hj;exact hj) (by rw [hlen];simp [Ha];omega) (fun v hv=>by
  obtain ⟨x,-,rfl⟩:=List.mem_map.1 hv
  rfl)
 rw [h,tV ht,hlen]
theorem LM {w:World} {A:Option Addr} {n c t:Nat} {l:List Nat} (h:RWd w [.slice A n c] l) (ht:t <= n):RWd w [.slice (if c=t then A else A.map (·.add t)) (n-t) (c-t)] (l.drop t):=by
 obtain ⟨hn,hc,hm,za,hr⟩:=Ra h;have h2:=hr.cut (k:=t) ht hc;rw [Nat.mul_one] at h2;refine ⟨_,_,_,rfl,by omega,by omega,?_,fun x hx=>za x (List.mem_of_mem_drop hx)⟩
 rw [show Fa (l.drop t)=(Fa l).drop t by simp [Fa]]
 exact h2
def RRx (B:Nat) (w:World) (v:Value) (l:List (List Nat)):Prop:=(∀ q,v.ownBlock=some q -> B <= q) /\ ∀ u:World,(∀ b,B <= b -> b<w.heap.size -> u.heap[b]?=w.heap[b]?) -> Sb u [v] l
theorem RRx.here {B:Nat} {w:World} {v:Value} {l:List (List Nat)} (h:RRx B w v l):Sb w [v] l:=h.2 w fun _ _ _=>rfl
theorem RRx.mono {B C:Nat} {w:World} {v:Value} {l:List (List Nat)} (h:RRx B w v l) (hC:C <= B):RRx C w v l:=⟨fun q e=>Nat.le_trans hC (h.1 q e),fun u hu=>h.2 u fun b h1 h2=>hu b (by omega) h2⟩
theorem qE {N base n B:Nat} {w:World} {e:TypeId} {v:Value} {cs:List Value} {l:List (List Nat)} (h:Rf N w v cs l) (ho:w.ownsRow base e 1 v n cs) (h1:B <= N) (h2:B <= base):RRx B w v l:=⟨fun q e=>Nat.le_trans h2 (ho.lt q e).1,fun u hu=>by
 refine qw (N:=N) (w:=u) ⟨h.1,fun i k1 k2=>?_⟩ (Xl.own_agree' ho fun b b1 b2=>hu b (by omega) b2)
 intro u' hu';refine h.2 i k1 k2 u' fun b b1 b2 b3=>?_
 have e1:=hu b (by omega) b2
 have hb:b<u.heap.size:=by
  rcases Nat.lt_or_ge b u.heap.size with q | q
  ·exact q
  ·rw [Array.getElem?_eq_none q,Array.getElem?_eq_getElem b2] at e1
   cases e1
 exact (hu' b b1 hb b3).trans e1⟩
theorem WG {w u:World} {b o:Nat} (h:u.heap[b]?=w.heap[b]?):u.cell? ⟨b,o,none⟩=w.cell? ⟨b,o,none⟩:=by
 simp [World.cell?,h]
theorem DI {B n c:Nat} {w:World} {A:Option Addr} {l:List (List Nat)} (h:RRx B w (.slice A n c) l) {i:Nat} (hi:i<l.length) :
  ∃ b q A1 n1 c1,A=some ⟨b,q,none⟩ /\ B <= b /\ b<w.heap.size /\ w.cell? ⟨b,q+i,none⟩=some (.slice A1 n1 c1) /\ ∀ u:World,(∀ b,B <= b -> b<w.heap.size -> u.heap[b]?=w.heap[b]?) -> RWd u [.slice A1 n1 c1] l[i]:=by
 obtain ⟨b,q,A1,n1,c1,rfl,hb,hc,-⟩:=vh (Ve h.here).2.2.2 hi;have hB:=h.1 b rfl;refine ⟨b,q,A1,n1,c1,rfl,hB,hb,hc,fun u hu=>?_⟩
 obtain ⟨b',q',A2,n2,c2,he,-,Gl,hr⟩:=vh (Ve (h.2 u hu)).2.2.2 hi
 injection he with he
 injection he with h1 h2 h3
 subst h1 h2;rw [WG (hu b hB hb),hc] at Gl
 injection Gl with Gl
 rw [Gl];exact hr
theorem rR (L:Ja) (v0 v1 v2 v3:Value) (l0 l1 l2 l3:List Nat) (w:World) (hL:Db L) (hv:∀ i,i<4 -> RWd w [Zc v0 v1 v2 v3 i] (Zc l0 l1 l2 l3 i)) (hq:∀ i,i<4 -> Zc L.a L.b L.b L.b i=((Zc l0 l1 l2 l3 i).length+L.block-1) / L.block) :
  Calls Tryz.prog 146 #[.agg (Ya L), .agg #[v0,v1,v2,v3]] w fun e w'=>∃ v,e= .returned v /\ RRx w.heap.size w' v (sj L.block (Zc l0 l1 l2 l3) (Zc L.a L.b L.b L.b)) /\ Below w.heap.size w w':=by
 have Ga:=hL.b1;have Ka:=hL.b2;have yn:L.a+L.b+L.b+L.b <= 400000:=by have:=hL.a;have:=hL.b;omega
 have HTo:=zH (fun w=>WL L.p L.block L.queries L.k L.n L.secret L.rows L.a L.b L.b L.b w hL.a hL.b hL.b hL.b)
 have Xj:=zH (show ∀ i,Zc L.a L.b L.b L.b i <= 100000 from fun i=>by
  have:=hL.a;have:=hL.b;unfold Zc
  repeat' split
  all_goals omega)
 have HV:=zH hv;have HG:=zH (fun i (h:i<4)=>SM v0 v1 v2 v3 h)
 obtain ⟨l,hl⟩:=zEX (Zc l0 l1 l2 l3);obtain ⟨ps,Kj⟩:=zEX (Zc L.a L.b L.b L.b);have Yn:=zH (show sj L.block (Zc l0 l1 l2 l3) (Zc L.a L.b L.b L.b)=Vh L.block l ps 4 by rw [hl,Kj];rfl)
 rw [Yn.out];rw [<- hl] at HV hq;rw [<- Kj] at Xj hq;have Xi:=zH (show Vh L.block l ps 0=[] from rfl)
 have ey:=zH (DD L.block l ps);have HQ:=zH hq;have mk:=mj L.block (by omega)
 obtain ⟨T,hT⟩:=zEX (L.a+L.b+L.b+L.b);rw [<- hT] at yn HTo;have mk0:=VX T (by omega)
 have gT:(T:Int) <= 400000:=by omega
 have gT0:(0:Int) <= (T:Int):=by omega
 clear hv hl Kj Yn hL hq hT;unfold Ya at *;obtain ⟨kl,kv,da,-⟩:=Ue w 49 201 #[.int .u64 L.p, .int .i64 L.block, .int .i64 L.queries, .int .i64 L.k, .int .i64 L.n, .int .i64 L.secret, .int .i64 L.rows, .int .i64 L.a, .int .i64 L.b, .int .i64 L.b, .int .i64 L.b] #[v0,v1,v2,v3];go_enter Tryz.func146,Tryz.ntmps146
 go_upto_region 1 with fail
 generalize (w.alloc _).alloc _=w0 at kl kv da |-;have cl:=kl.cell;go_wp2_with fail
 refine (HTo.out _).mono ?_;rintro e w1 ⟨rfl,ea⟩;replace kl:=ia kl ea;replace kv:=ia kv ea;replace da:=oa da ea;clear ea cl;go_upto_region 2 with fail
 have ra:=World.ownsRow_made (e:=28) (size:=1) w1 (Array.replicate T (.slice none 0 0)) T (base:=w1.heap.size) zR (by simp [maxLen];omega) (by simp)
 have ma:=(Below.refl w1.heap.size w1).alloc zR (.cells (Array.replicate T (.slice none 0 0)) 28);have df:w.heap.size+1<w1.heap.size:=kv.lt;have Nb:w1.heap.size <= (w1.alloc (.cells (Array.replicate T (.slice none 0 0)) 28)).heap.size:=ma.size;replace kl:=ia kl ma;replace kv:=ia kv ma;replace da:=oa da ma;clear ma mk0;generalize w1.alloc _=w2 at kl kv da ra Nb |-;generalize w1.heap.size=N at ra df Nb |-;have HWN:=zH (show w.heap.size <= N by omega)
 have cv:=kv.cell;go_wp2_with fail
 generalize hBL:L.block=B at *;have Xt:=zH hBL;clear hBL cv kv HTo;have g1:(0:Int)<(B:Int):=by omega
 have g2:(B:Int) <= 256:=by omega
 obtain ⟨LC,Ly⟩:∃ LC:Array Value,LC=#[.int .u64 L.p, .int .i64 B, .int .i64 L.queries, .int .i64 L.k, .int .i64 L.n, .int .i64 L.secret, .int .i64 L.rows, .int .i64 L.a, .int .i64 L.b, .int .i64 L.b, .int .i64 L.b]:=⟨_,rfl⟩;have Bh:=zH (show LC[1]?=some (.int .i64 B) by rw [Ly];rfl)
 rw [<- Ly] at kl;clear Ly;go_loopw [5,13] (fun u y wr=>∃ (i n:Nat) (v:Value) (cs:List Value),v=u /\ i <= 4 /\ y= .int .i64 i /\ n <= i*100000 /\ Blk wr w.heap.size 49 LC /\ wr.ownsRow N 28 1 v n cs /\ Rf N wr v cs (Vh B l ps i) /\ Below w.heap.size w wr /\ N <= wr.heap.size) (fun _ y _=>4-(intOf y).toNat)
 case atStart=>exact ⟨0,0,_,[],rfl,by omega,rfl,by omega,kl,ra,by rw [Xi.out];exact Ns _ _ _,da,Nb⟩
 case round =>
  clear kl da Nb ra;obtain ⟨i,n0,v,cs,rfl,hi,rfl,Gn,kl,ra,Da,da,ve⟩:=hrel;by_cases za:i<4
  ·have q1:(i:Int)<4:=by omega
   have q0:(0:Int) <= (i:Int):=by omega
   have dq:=HV.out i za;have Kj:=Xj.out i;obtain ⟨p,hp⟩:=zEX (ps i);have Ho:=fun w=>idx_4 (w:=w) (a:=v0) (b:=v1) (c:=v2) (d:=v3) za
   have Ov:=zH (ey.out i);obtain ⟨li,Ko⟩:=zEX (l i);obtain ⟨si,Xw⟩:=zEX (Zc v0 v1 v2 v3 i);have HQi:=zH (show p=(li.length+B-1) / B by rw [hp,Ko];exact HQ.out i za)
   rw [<- Xw] at dq Ho;rw [<- Ko] at dq Ov;rw [<- hp] at Kj Ov;clear hp Ko Xw;obtain ⟨Ai,ci,rfl⟩:=Le dq;obtain ⟨P0,hP0⟩:=zEX (Vh B l ps i);rw [<- hP0] at Da Ov;have Zm:=zH (show P0++ak B li 0=P0 by simp [ak])
   have Yr:=zH (show ∀ k,(P0++ak B li k)++[Al B li k]=P0++ak B li (k+1) from fun k=>by rw [MO,List.append_assoc])
   have uJ:=zH (Ra dq).2.2.2.1;have HVI:=zH (show RWd w [.slice Ai li.length ci] (li.drop (0*B)) by rw [Nat.zero_mul,List.drop_zero];exact dq)
   clear hP0 dq;go_wp2_with fail
   go_loopw [5,7] (fun u sv wr=>∃ (k n ns c':Nat) (As:Option Addr) (v:Value) (cs:List Value),v=u /\ sv= .slice As ns c' /\ Hid (RWd w [.slice As ns c'] (li.drop (k*B))) /\ k <= p /\ n <= i*100000+k /\ Blk wr w.heap.size 49 LC /\ wr.ownsRow N 28 1 v n cs /\ Rf N wr v cs (P0++ak B li k) /\ Below w.heap.size w wr /\ N <= wr.heap.size) (fun _ sv _=>lenV sv)
   case atStart=>exact ⟨0,n0,_,_,_,_,cs,rfl,rfl,HVI,Nat.zero_le _,by rw [Nat.add_zero];exact Gn,kl,ra,by rw [Zm.out];exact Da,da,ve⟩
   case round =>
    clear kl da ve ra Da Gn HVI Ho;obtain ⟨k,n1,ns,c',As,v,cs,rfl,rfl,HR,hk,Md,kl,ra,Da,da,ve⟩:=hrel;obtain ⟨ij,Po,hr3,-,-⟩:=Ra HR.out;have grm:=Kf Po hr3;have oo:=zH ij;have HR2:=zH (And.intro Po hr3);clear ij Po hr3;have c1:=kl.cell 1;rw [Bh.out] at c1;by_cases hpos:0<ns
    ·have q2:(0:Int)<(ns:Int):=by omega
     obtain ⟨wo,Ln⟩:=zEX (wr);subst Ln;have FG:=zH (Yr.out k);go_upto_region 7 with fail
     have kg:=Blk.new wo 22 (Ha B fun _=>0)
     have Sd:=(Below.refl wo.heap.size wo).alloc zR (.cells (Ha B fun _=>0) 22)
     have Rb:∀ q,v.ownBlock=some q -> q<wo.heap.size:=fun q e=>(ra.lt q e).2
     have Dm:N <= wo.heap.size:=ve;clear c1;generalize wo.alloc _=w2 at kg Sd |-;obtain ⟨t,ht⟩:=zEX (min (li.drop (k*B)).length B);have ht1:0<t:=by rw [ht,<- oo.out];omega
     have ht2:t <= ns:=by rw [ht,<- oo.out];exact Nat.min_le_left _ _
     have hcp:=uV w2 (ta (oa da Sd) HR.out) ht ht1 kg;have hRn:=LM HR.out ht2;rw [ht,JV,<- ht,show k*B+B=(k+1)*B by rw [Nat.succ_mul]] at hRn
     have oA:=zH hRn;obtain ⟨F,hF⟩:∃ F:Nat -> Nat,F=fun j=>li.getD (k*B+j) 0:=⟨_,rfl⟩
     have Gv:=zH (show (List.range B).map F=Al B li k by rw [hF];rfl)
     have Wx:=zH (show ∀ j,F j<18446744073709551616 from fun j=>by
      rw [hF];show li.getD (k*B+j) 0<_
      rw [List.getD_eq_getElem?_getD];cases h:li[k*B+j]? with
      | none=>decide
      | some x=>exact uJ.out x (List.mem_of_getElem? h))
     have hkp:k+1 <= p:=by
      have h1:k*B<li.length:=by
       have h2:(li.drop (k*B)).length=li.length-k*B:=List.length_drop;have:=oo.out;omega
      rw [HQi.out];refine (Nat.le_div_iff_mul_le (by omega)).2 ?_
      rw [Nat.succ_mul];omega
     rw [<- hF] at hcp;have q3:(0:Int) <= (t:Int):=by omega
     have q4:(t:Int) <= (ns:Int):=by omega
     have Td:ns <= c':=HR2.out.1;have q5:(ns:Int) <= (c':Int):=by omega
     have dx:=setRow_heap w2 wo.heap.size _ (Ha B F) _ _ kg;have KB:=below_setRow Sd zR (Ha B F);clear hRn hF kg Sd ht;by_cases hct:c'=t
     all_goals
      first | (obtain rfl:=hct;have HR3:=zH oA.out;rw [if_pos rfl,show ns-c'=0 by omega,show c'-c'=0 by omega] at HR3) | (have HR3:=zH oA.out;rw [if_neg hct] at HR3)
      clear oA;go_upto_region 8 with fail
      clear hcp;generalize w2.setRow _ _=w3 at dx KB |-;replace kl:=ia kl KB;replace da:=oa da KB;replace ve:=Nat.le_trans ve KB.size;replace ra:=Oa ra KB zR;replace Da:=Uc Da KB;have hx:=aD (N:=N) (gb:=v.ownBlock) dx (fun j _=>Wx.out j) (by simp [maxLen];omega) Dm (fun e=>by have:=Rb _ e.symm;omega)
      rw [Gv.out] at hx;clear dx;go_wp2_with (at_builtin;refine Mf rfl _ _ rfl Cj rfl (ra.alloc _) rfl (Lf _ _ _) (by intro u hu;simp at hu;subst hu;rfl) (by omega) (by simp;omega) ?_)
      intro v' wn db Ma Lb;have ma:=(Below.refl w3.heap.size w3).alloc zR (.cells #[.slice (some ⟨wo.heap.size,0,none⟩) B B] 28);replace Da:=Uc Da ma;replace hx:=Mh hx ma.size (fun b _ h2 _=>ma.block b h2)
      have ee:=Tq Da hx Ma (by simpa using Lb)
      rw [FG.out] at ee;have Ej:=Ae (ra.alloc _) Ma (by simp;omega)
      have Pa:w.heap.size <= N:=by omega
      have yi:∀ q,v.ownBlock=some q -> N <= q:=fun q e=>(ra.lt q e).1
      replace kl:=ia kl ma;replace da:=oa da ma;replace ve:=Nat.le_trans ve ma.size;replace kl:=kl.grown Ma (fun e=>by first | (have:=yi _ e;omega) | (have:=yi _ e.symm;omega))
      replace da:=da.trans (Ej.mono Pa);replace ve:=Nat.le_trans ve Ma.size;clear Ma Lb Ej ma ra Da hx KB;go_wp2
      go_roundw
      case rel=>exact ⟨k+1,n1+1,_,_,_,_,_,rfl,rfl,HR3,hkp,by omega,kl,db,ee,da,ve⟩
      case measure=>simp [lenV];omega
    ·have q2:¬((0:Int)<(ns:Int)):=by omega
     have hkp:k=p:=by
      have h2:(li.drop (k*B)).length=li.length-k*B:=List.length_drop;have h3:=oo.out;have h4:=HQi.out;have h5:(li.length+B-1) / B <= k:=by
       have:li.length+B-1<(k+1)*B:=by rw [Nat.succ_mul];omega
       have:=(Nat.div_lt_iff_lt_mul (by omega)).2 this
       omega
      omega
     subst hkp;rw [<- Ov.out] at Da;go_wp2_with fail
     go_roundw
     case rel=>exact ⟨i+1,n1,_,cs,rfl,by omega,by go_num,by omega,kl,ra,Da,da,ve⟩
     case measure=>simp [intOf];omega
  ·obtain rfl:i=4:=by omega
   rw [<- Xt.out] at Da;go_wp2;go_ret
   exact ⟨_,rfl,qE Da ra HWN.out HWN.out,da⟩
end Go.Proofs.YtgeofabpinfcmaaGreat
