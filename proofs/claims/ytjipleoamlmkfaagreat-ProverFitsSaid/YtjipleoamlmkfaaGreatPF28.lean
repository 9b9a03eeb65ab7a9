/- A part of the proof. No condition. -/
import Derived.Test.YtjipleoamlmkfaaGreatProg
import Derived.Test.YtjipleoamlmkfaaGreatPF27

set_option maxRecDepth 100000
set_option maxHeartbeats 8000000
set_option linter.unusedVariables false
set_option linter.unusedSimpArgs false
namespace Go.Proofs.YtjipleoamlmkfaaGreat
open Go.RowKit
theorem UO (n:Nat) (hn:n <= 1000000) (w:World) :
  (Instr.makeSlice 41 (.int .i64 0) (.int .i64 n)).run Tryz.prog w= .ok (.slice (some ⟨w.heap.size,0,none⟩) 0 n) (w.alloc (.cells (Array.replicate n (.slice none 0 0)) 28)):=by
 obtain ⟨ht,⟨i,hi,hz,hs,Sq⟩,hzs,Ra⟩:=Jo;have:=run_make (P:=Tryz.prog) w 41 28 i _ ht hi hz .i64 .i64 0 (n:Int) (by omega) (by omega) (by rw [Sq];omega) (by omega)
 rw [Int.toNat_natCast,hs,KO] at this;exact this
theorem xM {l:List Nat} {k B:Nat}:(l.drop k).drop (min (l.drop k).length B)=l.drop (k+B):=by
 rw [List.drop_drop];by_cases h:(l.drop k).length <= B
 ·rw [Nat.min_eq_left h]
  rw [List.length_drop] at h |-;rw [List.drop_eq_nil_of_le (by omega),List.drop_eq_nil_of_le (by omega)]
 ·rw [Nat.min_eq_right (by omega)]
theorem idx_4 {w:World} {a b c d:Value} {i:Nat} (h:i<4):(Instr.index 166 (.agg #[a,b,c,d]) (.int .i64 i)).run Tryz.prog w= .ok (xe a b c d i) w :=
 Iz Tryz.underlying166 (by simp [isAgg,run_underlying Tryz.underlying28]) (by
  obtain ⟨-,⟨i0,hi,-,hs,-⟩,-,-⟩:=Jo;simp [sizeOf,typeInfo,hi,hs]) h (lK a b c d h)
def lenV:Value -> Nat
 | .slice _ n _=>n
 | _=>0
theorem ZL {B:Nat} {l:List Nat} {k t:Nat} (ht:t=min (l.drop k).length B):((Fa B fun _=>0).toList.take 0++Ca ((l.drop k).take t)++(Fa B fun _=>0).toList.drop (0+(Ca ((l.drop k).take t)).length)).toArray=Fa B fun j=>l.getD (k+j) 0:=by
 rw [Dq,Dq]
 congr 1
 have hl:(Ca ((l.drop k).take t)).length=t:=by simp [Ca];rw [ht];simp;try omega
 apply List.ext_getElem
 ·simp only [List.take_zero,List.nil_append,List.length_append,List.length_drop,hl]
  simp [Ca]
  omega
 ·intro i h1 h2
  simp [Ca] at h2
  by_cases h:i<t
  ·rw [List.getElem_append_left (by simp only [List.take_zero,List.nil_append,hl];exact h)]
   simp only [List.take_zero,List.nil_append];have h3:i<(l.drop k).length:=by omega
   have h4:k+i<l.length:=by rw [List.length_drop] at h3;omega
   simp [Ca,h4]
  ·rw [List.getElem_append_right (by simp only [List.take_zero,List.nil_append,hl];omega)]
   have h3:¬k+i<l.length:=by
    intro h5;have:(l.drop k).length=l.length-k:=List.length_drop;omega
   simp [Ca,h3]
theorem aM {B k t g:Nat} {l:List Nat} {A:Option Addr} {n c:Nat} (w:World) (hl:RWd w [.slice A n c] (l.drop k)) (ht:t=min (l.drop k).length B) (h1:0<t) (kg:Blk w g 22 (Fa B fun _=>0)) (ty:TypeId) :
  (Builtin.copy_ #[28,28] ty #[.slice (some ⟨g,0,none⟩) B B, .slice A n c]).run Tryz.prog w= .ok (goInt t) (w.setRow g (Fa B fun j=>l.getD (k+j) 0)):=by
 obtain ⟨hn,-,-,-,hr⟩:=zb hl;have hlen:(Ca ((l.drop k).take t)).length=t:=by
  have h1:(l.drop k).length=l.length-k:=List.length_drop;simp [Ca]
  omega
 have Ra:(Tryz.prog.info? 22).map (·.size)=some 1:=by
  obtain ⟨-,⟨i,hi,-,hs,-⟩,-,-⟩:=Vi;rw [hi];simp [hs]
 obtain ⟨ad,rfl,hc⟩:=hr.2 (by omega)
 have h:=run_copy_row (P:=Tryz.prog) w 28 28 ty 22 g 0 B B ad n c (Fa B fun _=>0) 22 (Ca ((l.drop k).take t)) Tryz.underlying28 Ra kg (by rw [hlen,ht,hn]) (fun j v hj=>by
  have DP:j<t:=by
   have:=(List.getElem?_eq_some_iff.1 hj).1;rw [hlen] at this;exact this
  refine hc j v ?_;simp only [Ca,List.map_take,List.getElem?_take,if_pos DP] at hj;exact hj) (by rw [hlen];simp [Fa];omega) (fun v hv=>by
  obtain ⟨x,-,rfl⟩:=List.mem_map.1 hv
  rfl)
 rw [h,ZL ht,hlen]
theorem Jz {w:World} {A:Option Addr} {n c t:Nat} {l:List Nat} (h:RWd w [.slice A n c] l) (ht:t <= n):RWd w [.slice (if c=t then A else A.map (·.add t)) (n-t) (c-t)] (l.drop t):=by
 obtain ⟨hn,hc,hm,oa,hr⟩:=zb h;have h2:=hr.cut (k:=t) ht hc;rw [Nat.mul_one] at h2;refine ⟨_,_,_,rfl,by omega,by omega,?_,fun x hx=>oa x (List.mem_of_mem_drop hx)⟩
 rw [show Ca (l.drop t)=(Ca l).drop t by simp [Ca]]
 exact h2
def RRx (B:Nat) (w:World) (v:Value) (l:List (List Nat)):Prop:=(∀ q,v.ownBlock=some q -> B <= q) /\ ∀ u:World,(∀ b,B <= b -> b<w.heap.size -> u.heap[b]?=w.heap[b]?) -> Qd u [v] l
theorem RRx.here {B:Nat} {w:World} {v:Value} {l:List (List Nat)} (h:RRx B w v l):Qd w [v] l:=h.2 w fun _ _ _=>rfl
theorem RRx.mono {B C:Nat} {w:World} {v:Value} {l:List (List Nat)} (h:RRx B w v l) (hC:C <= B):RRx C w v l:=⟨fun q e=>Nat.le_trans hC (h.1 q e),fun u hu=>h.2 u fun b h1 h2=>hu b (by omega) h2⟩
theorem rF {N base n B:Nat} {w:World} {e:TypeId} {v:Value} {cs:List Value} {l:List (List Nat)} (h:Ag N w v cs l) (ho:w.ownsRow base e 1 v n cs) (h1:B <= N) (h2:B <= base):RRx B w v l:=⟨fun q e=>Nat.le_trans h2 (ho.lt q e).1,fun u hu=>by
 refine DD (N:=N) (w:=u) ⟨h.1,fun i k1 k2=>?_⟩ (TB.own_agree' ho fun b b1 b2=>hu b (by omega) b2)
 intro u' hu';refine h.2 i k1 k2 u' fun b b1 b2 b3=>?_
 have e1:=hu b (by omega) b2
 have hb:b<u.heap.size:=by
  rcases Nat.lt_or_ge b u.heap.size with q | q
  ·exact q
  ·rw [Array.getElem?_eq_none q,Array.getElem?_eq_getElem b2] at e1
   cases e1
 exact (hu' b b1 hb b3).trans e1⟩
theorem Ys {w u:World} {b o:Nat} (h:u.heap[b]?=w.heap[b]?):u.cell? ⟨b,o,none⟩=w.cell? ⟨b,o,none⟩:=by
 simp [World.cell?,h]
theorem zAM {B n c:Nat} {w:World} {A:Option Addr} {l:List (List Nat)} (h:RRx B w (.slice A n c) l) {i:Nat} (hi:i<l.length) :
  ∃ b q A1 n1 c1,A=some ⟨b,q,none⟩ /\ B <= b /\ b<w.heap.size /\ w.cell? ⟨b,q+i,none⟩=some (.slice A1 n1 c1) /\ ∀ u:World,(∀ b,B <= b -> b<w.heap.size -> u.heap[b]?=w.heap[b]?) -> RWd u [.slice A1 n1 c1] l[i]:=by
 obtain ⟨b,q,A1,n1,c1,rfl,hb,hc,-⟩:=Zl (sh h.here).2.2.2 hi;have hB:=h.1 b rfl;refine ⟨b,q,A1,n1,c1,rfl,hB,hb,hc,fun u hu=>?_⟩
 obtain ⟨b',q',A2,n2,c2,he,-,Jk,hr⟩:=Zl (sh (h.2 u hu)).2.2.2 hi
 injection he with he
 injection he with h1 h2 h3
 subst h1 h2;rw [Ys (hu b hB hb),hc] at Jk
 injection Jk with Jk
 rw [Jk];exact hr
theorem wJ (L:Va) (v0 v1 v2 v3:Value) (l0 l1 l2 l3:List Nat) (w:World) (hL:Vc L) (hv:∀ i,i<4 -> RWd w [xe v0 v1 v2 v3 i] (xe l0 l1 l2 l3 i)) (hq:∀ i,i<4 -> xe L.a L.b L.b L.b i=((xe l0 l1 l2 l3 i).length+L.block-1) / L.block) :
  Calls Tryz.prog 97 #[.agg (Ua L), .agg #[v0,v1,v2,v3]] w fun e w'=>∃ v,e= .returned v /\ RRx w.heap.size w' v (Io L.block (xe l0 l1 l2 l3) (xe L.a L.b L.b L.b)) /\ Below w.heap.size w w':=by
 have ya:=hL.b1;have xa:=hL.b2;have hT4:L.a+L.b+L.b+L.b <= 400000:=by have:=hL.a;have:=hL.b;omega
 have Fm:=zH (fun w=>Bz L.p L.block L.queries L.k L.n L.secret L.rows L.a L.b L.b L.b w hL.a hL.b hL.b hL.b)
 have so:=zH (show ∀ i,xe L.a L.b L.b L.b i <= 100000 from fun i=>by
  have:=hL.a;have:=hL.b;unfold xe
  repeat' split
  all_goals omega)
 have HV:=zH hv;have HG:=zH (fun i (h:i<4)=>lK v0 v1 v2 v3 h)
 obtain ⟨l,hl⟩:=zEX (xe l0 l1 l2 l3);obtain ⟨ps,Xj⟩:=zEX (xe L.a L.b L.b L.b);have Gu:=zH (show Io L.block (xe l0 l1 l2 l3) (xe L.a L.b L.b L.b)=Ek L.block l ps 4 by rw [hl,Xj];rfl)
 rw [Gu.out];rw [<- hl] at HV hq;rw [<- Xj] at so hq;have mq:=zH (show Ek L.block l ps 0=[] from rfl)
 have HPN:=zH (XG L.block l ps);have HQ:=zH hq;have mk:=Fp L.block (by omega)
 obtain ⟨T,hT⟩:=zEX (L.a+L.b+L.b+L.b);rw [<- hT] at hT4 Fm;have mk0:=UO T (by omega)
 have gT:(T:Int) <= 400000:=by omega
 have gT0:(0:Int) <= (T:Int):=by omega
 clear hv hl Xj Gu hL hq hT;unfold Ua at *;obtain ⟨kl,kv,aa,-⟩:=ah w 68 166 #[.int .u64 L.p, .int .i64 L.block, .int .i64 L.queries, .int .i64 L.k, .int .i64 L.n, .int .i64 L.secret, .int .i64 L.rows, .int .i64 L.a, .int .i64 L.b, .int .i64 L.b, .int .i64 L.b] #[v0,v1,v2,v3];go_enter Tryz.func97,Tryz.ntmps97
 go_upto_region 1 with fail
 generalize (w.alloc _).alloc _=w0 at kl kv aa |-;have cl:=kl.cell;go_wp2_with fail
 refine (Fm.out _).mono ?_;rintro e w1 ⟨rfl,Aa⟩;replace kl:=ea kl Aa;replace kv:=ea kv Aa;replace aa:=ja aa Aa;clear Aa cl;go_upto_region 2 with fail
 have ma:=World.ownsRow_made (e:=28) (size:=1) w1 (Array.replicate T (.slice none 0 0)) T (base:=w1.heap.size) zR (by simp [maxLen];omega) (by simp)
 have ia:=(Below.refl w1.heap.size w1).alloc zR (.cells (Array.replicate T (.slice none 0 0)) 28);have hlv:w.heap.size+1<w1.heap.size:=kv.lt;have Ra:w1.heap.size <= (w1.alloc (.cells (Array.replicate T (.slice none 0 0)) 28)).heap.size:=ia.size;replace kl:=ea kl ia;replace kv:=ea kv ia;replace aa:=ja aa ia;clear ia mk0;generalize w1.alloc _=w2 at kl kv aa ma Ra |-;generalize w1.heap.size=N at ma hlv Ra |-;have HWN:=zH (show w.heap.size <= N by omega)
 have cv:=kv.cell;go_wp2_with fail
 generalize hBL:L.block=B at *;have HBL:=zH hBL;clear hBL cv kv Fm;have g1:(0:Int)<(B:Int):=by omega
 have g2:(B:Int) <= 256:=by omega
 obtain ⟨LC,RX⟩:∃ LC:Array Value,LC=#[.int .u64 L.p, .int .i64 B, .int .i64 L.queries, .int .i64 L.k, .int .i64 L.n, .int .i64 L.secret, .int .i64 L.rows, .int .i64 L.a, .int .i64 L.b, .int .i64 L.b, .int .i64 L.b]:=⟨_,rfl⟩;have ql:=zH (show LC[1]?=some (.int .i64 B) by rw [RX];rfl)
 rw [<- RX] at kl;clear RX;go_loopw [5,13] (fun u y wr=>∃ (i n:Nat) (v:Value) (cs:List Value),v=u /\ i <= 4 /\ y= .int .i64 i /\ n <= i*100000 /\ Blk wr w.heap.size 68 LC /\ wr.ownsRow N 28 1 v n cs /\ Ag N wr v cs (Ek B l ps i) /\ Below w.heap.size w wr /\ N <= wr.heap.size) (fun _ y _=>4-(intOf y).toNat)
 case atStart=>exact ⟨0,0,_,[],rfl,by omega,rfl,by omega,kl,ma,by rw [mq.out];exact ED _ _ _,aa,Ra⟩
 case round =>
  clear kl aa Ra ma;obtain ⟨i,n0,v,cs,rfl,hi,rfl,dp,kl,ma,Da,aa,wg⟩:=hrel;by_cases oa:i<4
  ·have q1:(i:Int)<4:=by omega
   have q0:(0:Int) <= (i:Int):=by omega
   have DU:=HV.out i oa;have Xj:=so.out i;obtain ⟨p,hp⟩:=zEX (ps i);have Uj:=fun w=>idx_4 (w:=w) (a:=v0) (b:=v1) (c:=v2) (d:=v3) oa
   have nx:=zH (HPN.out i);obtain ⟨li,Mk⟩:=zEX (l i);obtain ⟨si,dX⟩:=zEX (xe v0 v1 v2 v3 i);have HQi:=zH (show p=(li.length+B-1) / B by rw [hp,Mk];exact HQ.out i oa)
   rw [<- dX] at DU Uj;rw [<- Mk] at DU nx;rw [<- hp] at Xj nx;clear hp Mk dX;obtain ⟨Ai,ci,rfl⟩:=pS DU;obtain ⟨P0,hP0⟩:=zEX (Ek B l ps i);rw [<- hP0] at Da nx;have kV:=zH (show P0++Dl B li 0=P0 by simp [Dl])
   have vl:=zH (show ∀ k,(P0++Dl B li k)++[wv B li k]=P0++Dl B li (k+1) from fun k=>by rw [eM,List.append_assoc])
   have Q5:=zH (zb DU).2.2.2.1;have HVI:=zH (show RWd w [.slice Ai li.length ci] (li.drop (0*B)) by rw [Nat.zero_mul,List.drop_zero];exact DU)
   clear hP0 DU;go_wp2_with fail
   go_loopw [5,7] (fun u sv wr=>∃ (k n ns c':Nat) (As:Option Addr) (v:Value) (cs:List Value),v=u /\ sv= .slice As ns c' /\ Hid (RWd w [.slice As ns c'] (li.drop (k*B))) /\ k <= p /\ n <= i*100000+k /\ Blk wr w.heap.size 68 LC /\ wr.ownsRow N 28 1 v n cs /\ Ag N wr v cs (P0++Dl B li k) /\ Below w.heap.size w wr /\ N <= wr.heap.size) (fun _ sv _=>lenV sv)
   case atStart=>exact ⟨0,n0,_,_,_,_,cs,rfl,rfl,HVI,Nat.zero_le _,by rw [Nat.add_zero];exact dp,kl,ma,by rw [kV.out];exact Da,aa,wg⟩
   case round =>
    clear kl aa wg ma Da dp HVI Uj;obtain ⟨k,n1,ns,c',As,v,cs,rfl,rfl,HR,hk,Ve,kl,ma,Da,aa,wg⟩:=hrel;obtain ⟨Jd,Ch,hr3,-,-⟩:=zb HR.out;have grm:=uj Ch hr3;have Ij:=zH Jd;have Jj:=zH (And.intro Ch hr3);clear Jd Ch hr3;have c1:=kl.cell 1;rw [ql.out] at c1;by_cases ur:0<ns
    ·have q2:(0:Int)<(ns:Int):=by omega
     obtain ⟨wo,MY⟩:=zEX (wr);subst MY;have E1:=zH (vl.out k);go_upto_region 7 with fail
     have kg:=Blk.new wo 22 (Fa B fun _=>0)
     have Ct:=(Below.refl wo.heap.size wo).alloc zR (.cells (Fa B fun _=>0) 22)
     have Vb:∀ q,v.ownBlock=some q -> q<wo.heap.size:=fun q e=>(ma.lt q e).2
     have hgN:N <= wo.heap.size:=wg;clear c1;generalize wo.alloc _=w2 at kg Ct |-;obtain ⟨t,ht⟩:=zEX (min (li.drop (k*B)).length B);have ht1:0<t:=by rw [ht,<- Ij.out];omega
     have ht2:t <= ns:=by rw [ht,<- Ij.out];exact Nat.min_le_left _ _
     have XV:=aM w2 (ib (ja aa Ct) HR.out) ht ht1 kg;have hRn:=Jz HR.out ht2;rw [ht,xM,<- ht,show k*B+B=(k+1)*B by rw [Nat.succ_mul]] at hRn
     have HRn:=zH hRn;obtain ⟨F,hF⟩:∃ F:Nat -> Nat,F=fun j=>li.getD (k*B+j) 0:=⟨_,rfl⟩
     have xW:=zH (show (List.range B).map F=wv B li k by rw [hF];rfl)
     have Ju:=zH (show ∀ j,F j<18446744073709551616 from fun j=>by
      rw [hF];show li.getD (k*B+j) 0<_
      rw [List.getD_eq_getElem?_getD];cases h:li[k*B+j]? with
      | none=>decide
      | some x=>exact Q5.out x (List.mem_of_getElem? h))
     have hkp:k+1 <= p:=by
      have h1:k*B<li.length:=by
       have h2:(li.drop (k*B)).length=li.length-k*B:=List.length_drop;have:=Ij.out;omega
      rw [HQi.out];refine (Nat.le_div_iff_mul_le (by omega)).2 ?_
      rw [Nat.succ_mul];omega
     rw [<- hF] at XV;have q3:(0:Int) <= (t:Int):=by omega
     have q4:(t:Int) <= (ns:Int):=by omega
     have Sc:ns <= c':=Jj.out.1;have q5:(ns:Int) <= (c':Int):=by omega
     have iW:=setRow_heap w2 wo.heap.size _ (Fa B F) _ _ kg;have Nv:=below_setRow Ct zR (Fa B F);clear hRn hF kg Ct ht;by_cases Rv:c'=t
     all_goals
      first | (obtain rfl:=Rv;have Ks:=zH HRn.out;rw [if_pos rfl,show ns-c'=0 by omega,show c'-c'=0 by omega] at Ks) | (have Ks:=zH HRn.out;rw [if_neg Rv] at Ks)
      clear HRn;go_upto_region 8 with fail
      clear XV;generalize w2.setRow _ _=w3 at iW Nv |-;replace kl:=ea kl Nv;replace aa:=ja aa Nv;replace wg:=Nat.le_trans wg Nv.size;replace ma:=db ma Nv zR;replace Da:=Nf Da Nv;have hx:=SB (N:=N) (gb:=v.ownBlock) iW (fun j _=>Ju.out j) (by simp [maxLen];omega) hgN (fun e=>by have:=Vb _ e.symm;omega)
      rw [xW.out] at hx;clear iW;go_wp2_with (at_builtin;refine If rfl _ _ rfl Jo rfl (ma.alloc _) rfl (Uk _ _ _) (by intro u hu;simp at hu;subst hu;rfl) (by omega) (by simp;omega) ?_)
      intro v' wn Ta Ha Ab;have ia:=(Below.refl w3.heap.size w3).alloc zR (.cells #[.slice (some ⟨wo.heap.size,0,none⟩) B B] 28);replace Da:=Nf Da ia;replace hx:=Lp hx ia.size (fun b _ h2 _=>ia.block b h2)
      have Vh:=WZ Da hx Ha (by simpa using Ab)
      rw [E1.out] at Vh;have uv:=mh (ma.alloc _) Ha (by simp;omega)
      have jb:w.heap.size <= N:=by omega
      have lU:∀ q,v.ownBlock=some q -> N <= q:=fun q e=>(ma.lt q e).1
      replace kl:=ea kl ia;replace aa:=ja aa ia;replace wg:=Nat.le_trans wg ia.size;replace kl:=kl.grown Ha (fun e=>by first | (have:=lU _ e;omega) | (have:=lU _ e.symm;omega))
      replace aa:=aa.trans (uv.mono jb);replace wg:=Nat.le_trans wg Ha.size;clear Ha Ab uv ia ma Da hx Nv;go_wp2
      go_roundw
      case rel=>exact ⟨k+1,n1+1,_,_,_,_,_,rfl,rfl,Ks,hkp,by omega,kl,Ta,Vh,aa,wg⟩
      case measure=>simp [lenV];omega
    ·have q2:¬((0:Int)<(ns:Int)):=by omega
     have hkp:k=p:=by
      have h2:(li.drop (k*B)).length=li.length-k*B:=List.length_drop;have h3:=Ij.out;have h4:=HQi.out;have h5:(li.length+B-1) / B <= k:=by
       have:li.length+B-1<(k+1)*B:=by rw [Nat.succ_mul];omega
       have:=(Nat.div_lt_iff_lt_mul (by omega)).2 this
       omega
      omega
     subst hkp;rw [<- nx.out] at Da;go_wp2_with fail
     go_roundw
     case rel=>exact ⟨i+1,n1,_,cs,rfl,by omega,by go_num,by omega,kl,ma,Da,aa,wg⟩
     case measure=>simp [intOf];omega
  ·obtain rfl:i=4:=by omega
   rw [<- HBL.out] at Da;go_wp2;go_ret
   exact ⟨_,rfl,rF Da ma HWN.out HWN.out,aa⟩
end Go.Proofs.YtjipleoamlmkfaaGreat
