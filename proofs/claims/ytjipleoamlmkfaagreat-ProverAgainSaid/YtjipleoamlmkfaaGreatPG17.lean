/- A part of the proof. No condition. -/
import Derived.Test.YtjipleoamlmkfaaGreatProg
import Derived.Test.YtjipleoamlmkfaaGreatPG13
import Derived.Test.YtjipleoamlmkfaaGreatPG12
import Derived.Deep.AppendLies
import Derived.Laws.OwnMore
import Derived.Test.YtjipleoamlmkfaaGreatPG15

set_option maxRecDepth 100000
set_option maxHeartbeats 8000000
set_option linter.unusedVariables false
set_option linter.unusedSimpArgs false
namespace Go.Proofs.YtjipleoamlmkfaaGreat
open Go.RowKit
theorem JR {w:World} {A:Option Addr} {n k:Nat} {l:List Nat} (h:Rd w 1 A n (Ca l)) (hk:k <= n):Rd w 1 A k (Ca (l.take k)):=by
 have hl:(Ca l).length=n*1:=h.1;refine ⟨by rw [Gi] at hl |-;simp;omega,fun h0=>?_⟩
 obtain ⟨ad,e,hc⟩:=h.2 (by omega)
 refine ⟨ad,e,fun j u hj=>hc j u ?_⟩
 have:Ca (l.take k)=(Ca l).take k:=by simp [Ca,List.map_take]
 rw [this,List.getElem?_take] at hj;split at hj
 ·exact hj
 ·cases hj
theorem pS {w:World} {v:Value} {l:List Nat} (h:RWd w [v] l):∃ A c,v= .slice A l.length c:=by
 obtain ⟨A,n,c,he,-,-,h3,-⟩:=id h;simp at he
 subst he;have:=h3.len1;rw [Gi] at this;subst this;exact ⟨A,c,rfl⟩
theorem lT {n i v:Nat} {F G:Nat -> Nat} (h:v=F i):(Ca ((List.range n).map (uf F G i))).set i (.int .u64 v)=Ca ((List.range n).map (uf F G (i+1))):=by
 have:=zu (n:=n) (G:=G) h;rw [Dq,Dq] at this;have h2:=congrArg Array.toList this
 simpa using h2
theorem mT (n:Nat) (F G:Nat -> Nat):(List.range n).map (uf F G 0)=(List.range n).map G:=List.map_congr_left fun i _=>by simp [uf]
theorem jT {n i:Nat} (F G:Nat -> Nat) (h:i<n):(Ca ((List.range n).map (uf F G i)))[i]?=some (.int .u64 (G i:Int)):=by simp [Ca,uf,h]
def drawP (p x:Nat) (r:List Nat) (k:Nat):Nat:=rM x r k%p
def St.lt (p:Nat) (s:St):Prop:=s.a<p /\ s.b<p /\ s.c<p
theorem WE {p:Nat} (hp:0<p) (s:St):(zj p s).lt p:=⟨Nat.mod_lt _ hp,Nat.mod_lt _ hp,Nat.mod_lt _ hp⟩
theorem SC {p:Nat} (hp:0<p):∀ (l:List Nat) (s:St),s.lt p -> (Yg p l s).lt p
 | [],_,h=>h
 | [_],_,_=>WE hp _
 | _ :: _ :: r,_,_=>SC hp r _ (WE hp _)
theorem GQ {p:Nat} (hp:0<p) (s:St) (h:s.lt p):∀ m,(Rr p s m).lt p
 | 0=>h
 | _+1=>WE hp _
theorem RS (p label:Nat) (l:List Nat) (k:Nat) (hp:0<p):Wn p (Si p label l) k<p:=by
 have h:=GQ hp _ (SC hp l ⟨0,0,(label*65536%p+l.length)%p⟩ ⟨hp,hp,Nat.mod_lt _ hp⟩) (k / 2);show St.at_ _ (k%2)<p
 unfold St.at_;split
 ·exact h.1
 ·split
  ·exact h.2.1
  ·exact h.2.2
theorem UL (L:Va) (w:World) (hL:Vc L) :
  Calls Tryz.prog 59 #[.agg (Ua L)] w fun e w'=>e= .returned (.agg #[.int .i64 L.k, .int .i64 ((L.k+L.block-2:Nat):Int), .int .i64 ((L.block+2*L.queries-1:Nat):Int)]) /\ Below w.heap.size w w':=by
 have h1:=hL.b1;have h2:=hL.b2;have h3:=hL.q1;have h4:=hL.q2;have h5:=hL.k;obtain ⟨x,hx⟩:=zEX (L.k+L.block-2);obtain ⟨y,hy⟩:=zEX (L.block+2*L.queries-1);rw [<- hx,<- hy];have e1:IntKind.i64.wrap ((L.k:Int)+(L.block:Int))=(L.k:Int)+(L.block:Int):=Jf _ (by omega) (by omega)
 have e2:IntKind.i64.wrap ((L.k:Int)+(L.block:Int)-2)=(x:Int):=by rw [Jf _ (by omega) (by omega)];omega
 have e3:IntKind.i64.wrap (2*(L.queries:Int))=2*(L.queries:Int):=Jf _ (by omega) (by omega)
 have e4:IntKind.i64.wrap ((L.block:Int)+2*(L.queries:Int))=(L.block:Int)+2*(L.queries:Int):=Jf _ (by omega) (by omega)
 have e5:IntKind.i64.wrap ((L.block:Int)+2*(L.queries:Int)-1)=(y:Int):=by rw [Jf _ (by omega) (by omega)];omega
 clear h1 h2 h3 h4 h5 hx hy hL;unfold Ua at *;go_enter Tryz.func59,Tryz.ntmps59
 go_wp2_with fail
 exact bodyPost_ret (v:=.agg #[.int .i64 L.k, .int .i64 x, .int .i64 y]) (by simp [results,Tryz.results59,go_sem]) rfl ⟨rfl,((Below.refl _ w).alloc zR _).alloc (by simp) _⟩
theorem lS (p:Nat) (A:Option Addr) (n c m:Nat) (l:List Nat) (w:World) (hp:0<p) (Lb:p<18446744073709551616) (hl:RWd w [.slice A n c] l) (Ka:0<l.length) (hlen:l.length <= 1000000) (hm:m <= 65536) :
  Calls Tryz.prog 30 #[.int .u64 p, .int .i64 m, .slice A n c] w fun e w'=>∃ v,e= .returned v /\ w'.ownsRow w.heap.size 22 1 v m (Ca ((List.range m).map fun k=>Wn Xa (Si Xa 22 l) k%p)) /\ Below w.heap.size w w':=by
 have HS:=zH (ER Xa 22 A n c m l w JE hl Ka hlen hm);have HB:=zH (fun k=>Nat.lt_trans (RS Xa 22 l k (by decide)) (show Xa<18446744073709551616 by decide))
 clear hl Ka hlen;generalize Wn Xa (Si Xa 22 l)=fs at *;unfold Xa at HS;go_enter Tryz.func30,Tryz.ntmps30
 go_wp2_with fail
 refine HS.out.mono ?_;rintro e w1 ⟨v,rfl,hv,aa⟩;obtain ⟨A1,c1,rfl,Nc,jf,za,-⟩:=Tb hv;have hlw:RWd w1 [.slice A1 m c1] ((List.range m).map fs):=Fh hv (fun x hx=>by
  obtain ⟨k,_,rfl⟩:=List.mem_map.1 hx;exact HB.out k)
 clear hv za;go_wp2_with fail
 go_loopw [8,9] (fun v y wr=>∃ i:Nat,i <= m /\ y= .int .i64 i /\ wr.ownsRow w1.heap.size 22 1 v i (Ca ((List.range i).map fun k=>fs k%p)) /\ Below w1.heap.size w1 wr) (fun _ y _=>m-(intOf y).toNat)
 case atStart=>exact ⟨0,Nat.zero_le _,rfl,Tx _ _ zR,(Below.refl _ _).alloc zR _⟩
 case round =>
  obtain ⟨i,hi,rfl,ma,ya⟩:=hrel;by_cases oa:i<m
  ·have g2:(i:Int)<(m:Int):=by omega
   have g3:(0:Int) <= (i:Int):=by omega
   obtain ⟨-,-,-,-,za⟩:=zb (ib ya hlw);have hlen:((List.range m).map fs).length=m:=by simp
   have za:Rd wr 1 A1 ((List.range m).map fs).length (Ca ((List.range m).map fs)):=by rw [hlen];exact za
   obtain ⟨b,q,rfl,Za,hc⟩:=Ye za (j:=i) (by rw [hlen];exact oa)
   have Uj:((List.range m).map fs).getD i 0=fs i:=by simp [oa]
   rw [Uj] at hc;obtain ⟨fi,hfi⟩:=zEX (fs i);obtain ⟨z,hz⟩:=zEX (fi%p);have Ns:=zH (show ((List.range i).map fun k=>fs k%p)++[z]=(List.range (i+1)).map fun k=>fs k%p by rw [hz,hfi];exact iF (fun k=>fs k%p) _)
   rw [<- hfi] at hc;have hp0:(p:Int)≠0:=by omega
   have Pd:((p:Int) == 0)=false:=by rw [beq_eq_false_iff_ne];omega
   have e1:(fi:Int)%(p:Int)=(z:Int):=by rw [hz];exact (Int.natCast_emod _ _).symm
   have e2:(fi:Int).tmod (p:Int)=(z:Int):=by rw [Int.tmod_eq_emod_of_nonneg (by omega)];exact e1
   clear hfi hz Uj hlen za;have Gc:=ya.size;go_wp2_with (at_builtin;refine If rfl _ _ rfl Vi rfl (ma.alloc _) rfl (Uk _ _ _) (yg [z]) (by omega) (by simp;omega) ?_)
   intro v' wn Ta Ha Ab;have ia:=(Below.refl wr.heap.size wr).alloc zR (.cells #[.int .u64 z] 22);have hB:=mh (ma.alloc _) Ha (by simp;have:=ya.size;omega)
   replace ya:=(Om ya ia ya.size).trans hB;replace Ta:wn.ownsRow w1.heap.size 22 1 v' (i+1) (Ca ((List.range (i+1)).map fun k=>fs k%p)):=Kr (a:=(List.range i).map fun k=>fs k%p) (b:=[z]) Ta Ns.out
   clear ma Ha Ab ia hB hc Za Gc;go_wp2
   go_roundw
   case rel=>exact ⟨i+1,by omega,by go_num,Ta,ya⟩
   case measure=>simp [intOf];omega
  ·obtain rfl:i=m:=by omega
   go_wp2;go_ret
   exact ⟨_,rfl,mg ma aa.size,ja aa ya⟩
def af (p s:Nat) (r:List Nat) (m:Nat):List Nat:=(List.range m).map (drawP p s r)
def Tn (L:Va) (s n:Nat):List (List Nat):=(List.range n).map fun k=>af L.p s [0,k] L.queries
theorem rT (p s:Nat) (r:List Nat) (m:Nat) (hp:0<p) (Lb:p<18446744073709551616):∀ x∈af p s r m,x<18446744073709551616:=fun x hx=>by
 obtain ⟨k,_,rfl⟩:=List.mem_map.1 hx;exact Nat.lt_trans (Nat.mod_lt _ hp) Lb
theorem iS (L:Va) (s k:Nat):Tn L s k++[af L.p s [0,k] L.queries]=Tn L s (k+1):=by simp [Tn,List.range_succ]
theorem YN:(Tryz.prog.info? 28).map (fun i=>(i.zero,i.size,i.bytes))=some (some (.slice none 0 0),1,24):=by kernel_rfl
theorem Jo:Gj Tryz.prog 41 28 1 24 (.slice none 0 0):=by
 obtain ⟨i0,hi,Ff,Zb,td⟩:=info_parts YN;exact ⟨Tryz.underlying41,⟨i0,hi,Ff,Zb,td⟩,rfl,by omega⟩
theorem gK (p s:Nat) (r:List Nat) (m g:Nat) (w:World) (hp:0<p) (Lb:p<18446744073709551616) (kg:Blk w g 22 (Ca (s%Xa :: r)).toArray) (hr:∀ x∈r,x<18446744073709551616) (hlen:r.length <= 1000) (hm:m <= 65536) :
  Calls Tryz.prog 30 #[.int .u64 p, .int .i64 m, .slice (some ⟨g,0,none⟩) (r.length+1) (r.length+1)] w fun e w'=>∃ v,e= .returned v /\ w'.ownsRow w.heap.size 22 1 v m (Ca (af p s r m)) /\ Below w.heap.size w w':=by
 have:=lS p (some ⟨g,0,none⟩) (s%Xa :: r).length (s%Xa :: r).length m (s%Xa :: r) w hp Lb (Ix kg (fun z hz=>by
  rcases List.mem_cons.1 hz with rfl | h
  ·exact Nat.lt_trans (Nat.mod_lt _ (by decide)) (show Xa<18446744073709551616 by decide)
  ·exact hr z h) (by simp [maxLen];omega)) (by simp) (by simp;omega) hm
 exact this
theorem ES {w:World} {g:Nat} {t:TypeId} {y0 y1 y2 y3 y4:Value} (k:Blk w g t #[y0,y1,y2,y3,y4]) (x0 x1 x2 x3 x4:Value):Blk (((((w.setCell ⟨g,0,none⟩ x0).setCell ⟨g,1,none⟩ x1).setCell ⟨g,2,none⟩ x2).setCell ⟨g,3,none⟩ x3).setCell ⟨g,4,none⟩ x4) g t #[x0,x1,x2,x3,x4]:=by
 have h:=(((((k.set_ 0 x0).set_ 1 x1).set_ 2 x2).set_ 3 x3).set_ 4 x4)
 simpa using h
theorem IS {w:World} {g:Nat} (x0 x1 x2 x3 x4:Value):w.grownBy (((((w.setCell ⟨g,0,none⟩ x0).setCell ⟨g,1,none⟩ x1).setCell ⟨g,2,none⟩ x2).setCell ⟨g,3,none⟩ x3).setCell ⟨g,4,none⟩ x4) (some g):=by
 iterate 5 refine Yd ?_ (.inl rfl) _
 exact Lc w _
theorem KM (p a n:Nat) (w:World) (hp:Db p=true) (hn:n <= 65536) :
  Calls Tryz.prog 177 #[fv p, .int .u64 a, .int .i64 n] w fun e w'=>∃ g,e= .returned (.slice (some ⟨g,0,none⟩) n n) /\ w.heap.size <= g /\ Blk w' g 22 (Fa n fun i=>a^i%p) /\ Below w.heap.size w w':=by
 obtain ⟨Pd,Lb⟩:=nc hp;have HV:=zH (fun w=>Pj p w hp)
 have HR:=zH (fun w=>ot p a w (by omega))
 obtain ⟨F,hF⟩:∃ F:Nat -> Nat,F=fun i=>a^i%p:=⟨_,rfl⟩
 obtain ⟨r,hr⟩:=zEX (a%p);have HM:=zH (show ∀ i (w:World),Calls Tryz.prog 178 #[fv p, .int .u64 (F i:Int), .int .u64 r] w fun e w'=>e= .returned (.int .u64 (F (i+1):Int)) /\ Below w.heap.size w w' from fun i w=>by
  have:=vD p (a^i%p) (a%p) w hp (Nat.mod_lt _ (by omega)) (Nat.mod_lt _ (by omega))
  rw [<- Nat.mul_mod,<- Nat.pow_succ] at this;rw [hF,hr];exact this)
 have H0:=zH (show F 0=1 by rw [hF];show a^0%p=1;rw [Nat.pow_zero];exact Nat.mod_eq_of_lt (by omega))
 rw [<- hr] at HR;rw [<- hF];have mk:=Fp n (by omega)
 have g0:(0:Int) <= (n:Int):=by omega
 have g1:(n:Int) <= 65536:=by omega
 unfold fv at *;have kf:=Blk.new w 175 #[.int .u64 p];have aa:Below w.heap.size w (w.alloc (.cells #[.int .u64 p] 175)):=(Below.refl _ _).alloc zR _;clear hp hF hr;go_enter Tryz.func177,Tryz.ntmps177
 go_wp2_with fail
 generalize w.alloc _=w1 at kf aa |-;refine (HV.out _).mono ?_;rintro e w2 ⟨rfl,Aa⟩;replace kf:=ea kf Aa;replace aa:=ja aa Aa;clear Aa;have cf:=kf.cell;go_wp2_with fail
 refine (HR.out _).mono ?_;rintro e w3 ⟨rfl,Aa⟩;replace kf:=ea kf Aa;replace aa:=ja aa Aa;clear Aa cf;go_wp2_with fail
 have kr:=Blk.new w3 22 (Fa n fun _=>0)
 have Pq:=(Below.refl w3.heap.size w3).alloc zR (.cells (Fa n fun _=>0) 22)
 generalize w3.alloc _=w5 at kr Pq |-;have HZ:=zH (gy n F fun _=>0)
 clear mk HR HV;go_loopw [8,28] (fun pw y wr=>∃ i:Nat,i <= n /\ y= .int .i64 i /\ pw= .int .u64 (F i:Int) /\ Blk wr w3.heap.size 22 (Fa n (uf F (fun _=>0) i)) /\ Below w3.heap.size w3 wr) (fun _ y _=>n-(intOf y).toNat)
 case atStart=>exact ⟨0,Nat.zero_le _,rfl,by rw [H0.out];rfl,by rw [HZ.out];exact kr,Pq⟩
 case round =>
  clear kr Pq;obtain ⟨i,hi,rfl,rfl,kr,Pq⟩:=hrel;by_cases oa:i<n
  ·have q1:(i:Int)<(n:Int):=by omega
   have q2:(0:Int) <= (i:Int):=by omega
   have cr:=kr.cell i;rw [yu _ _ oa] at cr;have fr:=kr.frozen;obtain ⟨x,hx⟩:=zEX (F i);obtain ⟨z,hz⟩:=zEX (F (i+1));have HS:=zH (zu (n:=n) (G:=fun _=>0) hx)
   have ke:=zH (fun w=>by have:=HM.out i w;rw [<- hx,<- hz] at this;exact this)
   have HZ1:=zH hz;rw [<- hx];clear hx hz;have kd:=ea kf Pq;have hlf:=kf.lt;have hg:=Pg (w:=wr) w3.heap.size i (.int .u64 x);have Oc:=kr.set_ i (.int .u64 x);rw [HS.out] at Oc;have Eh:=kd.grown hg (fun e=>by have:=Option.some.inj e;omega)
   have xa:=Pq.trans (Nh hg Pq.size zR);have cf:=Eh.cell;go_wp2_with fail
   clear cf hg cr fr kd;generalize wr.setCell _ _=w6 at Oc Eh xa |-;refine (ke.out _).mono ?_;rintro e w7 ⟨rfl,Aa⟩;replace Oc:=ea Oc Aa;replace xa:=ja xa Aa;go_wp2
   go_roundw
   case rel=>exact ⟨i+1,by omega,by go_num,by rw [<- HZ1.out],Oc,xa⟩
   case measure=>simp [intOf];omega
  ·obtain rfl:i=n:=by omega
   have q1:¬((i:Int)<(i:Int)):=by omega
   rw [Mz] at kr;go_wp2;go_ret
   exact ⟨_,rfl,aa.size,kr,ja aa Pq⟩
theorem KO (n:Nat):madeCells (Value.slice none 0 0).cells (n*1)=Array.replicate n (.slice none 0 0):=by
 apply Array.toList_inj.1
 rw [show (Value.slice none 0 0).cells=#[.slice none 0 0] from rfl,toList_madeCells_one]
 simp
end Go.Proofs.YtjipleoamlmkfaaGreat
