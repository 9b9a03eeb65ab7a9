/- A part of the proof. No condition. -/
import Derived.Test.YtgeofabpinfcmaaGreatProg
import Derived.Test.YtgeofabpinfcmaaGreatEZ13
import Derived.Test.YtgeofabpinfcmaaGreatEZ23
import Derived.Test.YtgeofabpinfcmaaGreatEZ9
import Derived.Test.YtgeofabpinfcmaaGreatEZ22
import Derived.BigQuiet
import Derived.Deep.QuietTactic
import Derived.Test.YtgeofabpinfcmaaGreatEZ7
import Derived.Test.YtgeofabpinfcmaaGreatEZ8
import Derived.Maps.OwnOps
import Derived.Maps.OwnSet
import Derived.Test.YtgeofabpinfcmaaGreatEZ15
import Derived.Test.YtgeofabpinfcmaaGreatEZ10
import Derived.Test.YtgeofabpinfcmaaGreatEZ5

set_option maxRecDepth 100000
set_option maxHeartbeats 8000000
set_option linter.unusedVariables false
set_option linter.unusedSimpArgs false
namespace Go.Proofs.YtgeofabpinfcmaaGreat
open Go.RowKit
def mw (p:Nat) (a b:List Nat) (k:Nat):Nat:=(a.getD k 0+oc p (b.getD k 0))%p
theorem XJ (L:Ja) (A B:Option Addr) (n c m d:Nat) (a b:List Nat) (w:World) (hL:Db L) (ha:RWd w [.slice A n c] a) (hb:RWd w [.slice B m d] b) (hnm:n <= m) (hn:n <= 100000) :
  Calls Tryz.prog 195 #[.agg (Ya L), .slice A n c, .slice B m d] w fun e w'=>∃ g,e= .returned (.slice (some ⟨g,0,none⟩) n n) /\ w.heap.size <= g /\ Blk w' g 22 (Ha n (mw L.p a b)) /\ Below w.heap.size w w':=by
 have HA:=zH (fun a b w=>bB L.p a b w hL.p)
 obtain ⟨rfl,h1,h2,za,La⟩:=Ra ha;obtain ⟨rfl,k1,k2,klt,krd⟩:=Ra hb;clear ha hb;have mk:=mj a.length (by omega)
 have gm:(a.length:Int) <= 100000:=by omega
 obtain ⟨F,hF⟩:=zEX (mw L.p a b);have HF:=zH (show ∀ k,(a.getD k 0+oc L.p (b.getD k 0))%L.p=F k from fun k=>by rw [hF];rfl)
 rw [<- hF];clear hF;clear hL h2 k2 za klt;unfold Ya fv at *;go_enter Tryz.func195,Tryz.ntmps195
 go_wp2_with fail
 obtain ⟨kl,kf,ka,da,-⟩:=Oq w 49 223 22 #[.int .u64 L.p, .int .i64 L.block, .int .i64 L.queries, .int .i64 L.k, .int .i64 L.n, .int .i64 L.secret, .int .i64 L.rows, .int .i64 L.a, .int .i64 L.b, .int .i64 L.b, .int .i64 L.b] #[.int .u64 L.p] (Ha a.length fun _=>0)
 have Af:w.heap.size+1<w.heap.size+1+1:=by omega
 clear mk kl;generalize ((w.alloc _).alloc _).alloc _=w2 at kf ka da |-;generalize w.heap.size+1+1=ga at ka Af |-;obtain ⟨gf,Fu⟩:=zEX (w.heap.size+1);have HGF:=zH (show w.heap.size <= gf by omega)
 rw [<- Fu] at kf Af |-;clear Fu;have Bb:gf≠ga:=by omega
 rw [<- Cq _ F] at ka;go_wp2_with fail
 go_loopw [18] (fun y wr=>∃ i:Nat,i <= a.length /\ y= .int .i64 i /\ Blk wr gf 223 #[.int .u64 L.p] /\ Blk wr ga 22 (Ha a.length (He F (fun _=>0) i)) /\ Below w.heap.size w wr) (fun y _=>a.length-(intOf y).toNat)
 case atStart=>exact ⟨0,Nat.zero_le _,rfl,kf,ka,da⟩
 case round =>
  clear kf ka da;obtain ⟨i,hi,rfl,kf,ka,da⟩:=hrel;by_cases Tp:i<a.length
  ·have q1:(0:Int) <= (i:Int):=by omega
   have q2:(i:Int)<(a.length:Int):=by omega
   have q3:(i:Int)<(b.length:Int):=by omega
   obtain ⟨ba,qa,rfl,El,hca⟩:=Vd (La.below da) Tp;obtain ⟨bb,qb,rfl,xu,Cw⟩:=Vd (krd.below da) (show i<b.length by omega)
   have fl:=zH (HF.out i);obtain ⟨x,hx⟩:=zEX (a.getD i 0);obtain ⟨y,hy⟩:=zEX (b.getD i 0);obtain ⟨z,hz⟩:=zEX (F i);have HZ:=zH hz;rw [<- hx,<- hy,<- hz] at fl;have HC:Hid (∀ w:World,Calls Tryz.prog 220 #[.agg #[.int .u64 L.p], .int .u64 x, .int .u64 y] w fun e w'=>e= .returned (.int .u64 z) /\ Below w.heap.size w w'):=zH (fun w=>by rw [<- fl.out];exact HA.out x y w)
   rw [<- hx] at hca;rw [<- hy] at Cw;clear hx hy hz;have HGE:=zH da.size;have cf:=kf.cell;have lf:=kf.lt;have la:=ka.lt;go_upto_region 6 with fail
   refine Hd (Ib) (xa) [13] [13] [0,1,2,3,4,5,6,7,8,9,10,11,12,13] (by kernel_rfl) (by kernel_rfl) ?_
   refine Jd (xa) ?_;intro Wc ja;refine Sc ?_;refine vc (xa) rfl rfl rfl rfl (fun _ _ _ h=>h) (fun _=>by go_simp <;> rfl) (fun w' hR=>HC.out _) ?_
   simp only [Act.put,zLa,zLb,zLc];refine Sc ?_;refine Ph rfl rfl rfl rfl ?_;intro wh tc;replace ja:=(xa).trans _ _ _ ja tc;have Za:=oa (Below.refl wr.heap.size wr).drew ja;replace kf:=ia kf Za;replace ka:=ia ka Za;replace da:=oa da Za;clear Za ja tc cf lf la hca Cw;have f2:=ka.frozen;have c2:=ka.cell i;rw [Zl _ _ Tp] at c2;go_simp;refine ⟨fun h=>Bool.noConfusion h,?_⟩
   have sg:=Me (w:=wh) ga i (.int .u64 z);have Zq:=Nat.le_trans HGF.out (Nat.le_of_lt Af);replace kf:=xc kf sg;replace da:=Pb da sg;replace ka:=ka.set_ i (.int .u64 z);rw [Sn (F:=F) HZ.out] at ka;clear sg f2 c2 Zq;generalize wh.setCell _ _=we at kf ka da |-;refine Oh rfl ?_;go_wp2
   go_roundw
   case rel=>exact ⟨i+1,by omega,by go_num,kf,ka,da⟩
   case measure=>simp [intOf];omega
  ·obtain rfl:i=a.length:=by omega
   rw [Kx] at ka;have HG:=zH (Nat.le_trans HGF.out (Nat.le_of_lt Af));go_wp2;go_ret
   exact ⟨ga,rfl,HG.out,ka,da⟩
structure Tab27 (p:Nat) (pub vars:Int) (rows:List Cb) (ws:List Nat) (s:Bool):Prop where
 tab:dd p pub vars rows=true
 asg:Dd p vars ws=true
 small:JJ rows
 few:rows.length <= 12
 sat:Sj p rows ws=s
def Wu (l:List Nat) (n:Int) (p:Nat):Bool:=l.all (fun x=>decide (x<p))&&((l.length:Int) == n)
theorem eU {w:World} {A:Option Addr} {n c:Nat} {l:List Nat} (h:RWd w [.slice A n c] l):n=l.length /\ n <= c /\ c <= maxLen /\ (∀ x∈l,x<18446744073709551616) /\ Rd w 1 A n (Fa l):=by
 obtain ⟨A',n',c',he,h1,h2,h3,h4⟩:=h;simp at he
 obtain ⟨rfl,rfl,rfl⟩:=he;have:=h3.len1;rw [Ou] at this;exact ⟨this.symm,h1,h2,h4,h3⟩
structure yU where
 root:Nat
 code:List Nat
 linear:List Nat
 quad:List Nat
 cols:List (List Nat)
 salts:List Nat
 paths:List (List Nat)
structure PS where
 A1:Option Addr
 n1:Nat
 c1:Nat
 A2:Option Addr
 n2:Nat
 c2:Nat
 A3:Option Addr
 n3:Nat
 c3:Nat
 A4:Option Addr
 n4:Nat
 c4:Nat
 A5:Option Addr
 n5:Nat
 c5:Nat
 A6:Option Addr
 n6:Nat
 c6:Nat
structure PrIn (w:World) (P:yU) (S:PS):Prop where
 root:P.root<18446744073709551616
 code:RWd w [.slice S.A1 S.n1 S.c1] P.code
 linear:RWd w [.slice S.A2 S.n2 S.c2] P.linear
 quad:RWd w [.slice S.A3 S.n3 S.c3] P.quad
 cols:RSl 1 RWd w [.slice S.A4 S.n4 S.c4] P.cols
 salts:RWd w [.slice S.A5 S.n5 S.c5] P.salts
 paths:RSl 1 RWd w [.slice S.A6 S.n6 S.c6] P.paths
structure PartR where
 ptr:Addr
 size:Nat
 Xo:Nat
theorem RWd.slc {w:World} {v:Value} {l:List Nat} (h:RWd w [v] l):slc v:=by
 obtain ⟨A,n,c,e,-⟩:=h;simp at e
 exact ⟨A,n,c,e⟩
theorem EN {w:World} {A:Option Addr} {n c:Nat} {x:List Nat} (h:RWd w [.slice A n c] x) (l k:Nat) (hlk:l+k <= x.length) :
  ∃ A',sliced A l (l+k) c 1= .slice A' k (c-l) /\ RWd w [.slice A' k (c-l)] ((x.drop l).take k):=by
 obtain ⟨rfl,h1,h2,h3,La⟩:=eU h;refine ⟨if c=l then A else A.map (·.add (l*1)),by simp [sliced],_,_,_,rfl,by omega,by omega,?_,fun y hy=>h3 y (List.mem_of_mem_drop (List.mem_of_mem_take hy))⟩
 have hc:=(La.cut (k:=l) (by omega) h1).take (k:=k) (by omega)
 have e:Fa ((x.drop l).take k)=((Fa x).drop (l*1)).take (k*1):=by simp [Fa]
 rw [e];exact hc
theorem fU {w:World} {A:Option Addr} {n c:Nat} {x:List Nat} (h:RWd w [.slice A n c] x) (l:Nat) (hl:l <= x.length) :
  ∃ A',sliced A l n c 1= .slice A' (n-l) (c-l) /\ RWd w [.slice A' (n-l) (c-l)] (x.drop l):=by
 have hn:=(eU h).1;obtain ⟨A',h1,h2⟩:=EN h l (n-l) (by omega)
 refine ⟨A',?_,?_⟩
 ·rw [show l+(n-l)=n by omega] at h1
  exact h1
 ·rwa [List.take_of_length_le (by rw [List.length_drop];omega)] at h2
section
variable {P:Program} {l:List Oper} {hs:List Nat} {Q:Exit -> Act -> World -> Prop} {R:World -> World -> Prop} {rest:List Nat} {Ca:Array Bool} {a:Act} {w w1:World}
end
theorem MM {w:World} {base n:Nat} {v:Value} {l:List Nat} (h:w.ownsRow base 22 1 v n (Fa l)) (hl:∀ x∈l,x<18446744073709551616):∃ A c,v= .slice A n c /\ RWd w [.slice A n c] l:=by
 obtain ⟨A,c,rfl,-⟩:=Ob h;exact ⟨A,c,rfl,qf h hl⟩
theorem qI (A0 A1 A2 A3 A4 B0 B1 B2 B3 B4:Option Addr) (n0 c0 n1 c1 n2 c2 n3 c3 n4 c4 m0 d0 m1 d1 m2 d2 m3 d3 m4 d4:Nat) (r s:List (List Nat)) (x1 x2 x3 x4 y1 y2 y3 y4:List Nat) (w:World)
  (h0:Sb w [.slice A0 n0 c0] r) (h1:RWd w [.slice A1 n1 c1] x1) (h2:RWd w [.slice A2 n2 c2] x2) (h3:RWd w [.slice A3 n3 c3] x3) (h4:RWd w [.slice A4 n4 c4] x4)
  (k0:Sb w [.slice B0 m0 d0] s) (k1:RWd w [.slice B1 m1 d1] y1) (k2:RWd w [.slice B2 m2 d2] y2) (k3:RWd w [.slice B3 m3 d3] y3) (k4:RWd w [.slice B4 m4 d4] y4) :
  Calls Tryz.prog 18 #[.agg #[.slice A0 n0 c0, .slice A1 n1 c1, .slice A2 n2 c2, .slice A3 n3 c3, .slice A4 n4 c4], .agg #[.slice B0 m0 d0, .slice B1 m1 d1, .slice B2 m2 d2, .slice B3 m3 d3, .slice B4 m4 d4]] w fun e w'=>e= .returned (.bool (decide (r=s)&&(decide (x1=y1)&&(decide (x2=y2)&&(decide (x3=y3)&&decide (x4=y4)))))) /\ Below w.heap.size w w':=by
 have qo:=zH (fun w' (hb:Below w.heap.size w w')=>tS A0 B0 n0 c0 m0 d0 r s w' (Gb hb h0) (Gb hb k0))
 have Ef:=zH (fun w' (hb:Below w.heap.size w w')=>Fx A1 B1 n1 c1 m1 d1 x1 y1 w' (ta hb h1) (ta hb k1))
 have Th:=zH (fun w' (hb:Below w.heap.size w w')=>Fx A2 B2 n2 c2 m2 d2 x2 y2 w' (ta hb h2) (ta hb k2))
 have gy:=zH (fun w' (hb:Below w.heap.size w w')=>Fx A3 B3 n3 c3 m3 d3 x3 y3 w' (ta hb h3) (ta hb k3))
 have Tv:=zH (fun w' (hb:Below w.heap.size w w')=>Fx A4 B4 n4 c4 m4 d4 x4 y4 w' (ta hb h4) (ta hb k4))
 obtain ⟨ka,kb,da,Nb⟩:=Ue w 42 42 #[.slice A0 n0 c0, .slice A1 n1 c1, .slice A2 n2 c2, .slice A3 n3 c3, .slice A4 n4 c4] #[.slice B0 m0 d0, .slice B1 m1 d1, .slice B2 m2 d2, .slice B3 m3 d3, .slice B4 m4 d4];clear h0 h1 h2 h3 h4 k0 k1 k2 k3 k4;obtain ⟨ans,ha⟩:=zEX ((decide (r=s)&&(decide (x1=y1)&&(decide (x2=y2)&&(decide (x3=y3)&&decide (x4=y4))))));rw [<- ha];generalize decide (r=s)=b0 at *;generalize decide (x1=y1)=b1 at *;generalize decide (x2=y2)=b2 at *;generalize decide (x3=y3)=b3 at *;generalize decide (x4=y4)=b4 at *;have HA:=zH ha;clear ha;go_enter Tryz.func18,Tryz.ntmps18
 go_upto_region 1 with fail
 generalize (w.alloc _).alloc _=w3 at ka kb da Nb |-;clear Nb;have ca:=ka.cell;have cb:=kb.cell;have pA:=zH (qo.out _ da);cases b0
 ·have HF:=zH (show ans=false by rw [HA.out];rfl)
  go_wp2_with fail
  refine pA.out.mono ?_;rintro e v ⟨rfl,hb⟩;go_wp2;go_ret
  exact ⟨by rw [HF.out];rfl,oa da hb⟩
 go_wp2_with fail
 refine pA.out.mono ?_;rintro e v0 ⟨rfl,hb⟩;replace ka:=ia ka hb;replace kb:=ia kb hb;replace da:=oa da hb;clear ca cb hb pA qo;have ca:=ka.cell;have cb:=kb.cell;have qA:=zH (Ef.out _ da);cases b1
 ·have HF:=zH (show ans=false by rw [HA.out];rfl)
  go_wp2_with fail
  refine qA.out.mono ?_;rintro e v ⟨rfl,hb⟩;go_wp2;go_ret
  exact ⟨by rw [HF.out];rfl,oa da hb⟩
 go_wp2_with fail
 refine qA.out.mono ?_;rintro e v1 ⟨rfl,hb⟩;replace ka:=ia ka hb;replace kb:=ia kb hb;replace da:=oa da hb;clear ca cb hb qA Ef;have ca:=ka.cell;have cb:=kb.cell;have rA:=zH (Th.out _ da);cases b2
 ·have HF:=zH (show ans=false by rw [HA.out];rfl)
  go_wp2_with fail
  refine rA.out.mono ?_;rintro e v ⟨rfl,hb⟩;go_wp2;go_ret
  exact ⟨by rw [HF.out];rfl,oa da hb⟩
 go_wp2_with fail
 refine rA.out.mono ?_;rintro e v2 ⟨rfl,hb⟩;replace ka:=ia ka hb;replace kb:=ia kb hb;replace da:=oa da hb;clear ca cb hb rA Th;have ca:=ka.cell;have cb:=kb.cell;have FE:=zH (gy.out _ da);cases b3
 ·have HF:=zH (show ans=false by rw [HA.out];rfl)
  go_wp2_with fail
  refine FE.out.mono ?_;rintro e v ⟨rfl,hb⟩;go_wp2;go_ret
  exact ⟨by rw [HF.out];rfl,oa da hb⟩
 go_wp2_with fail
 refine FE.out.mono ?_;rintro e v3 ⟨rfl,hb⟩;replace ka:=ia ka hb;replace kb:=ia kb hb;replace da:=oa da hb;clear ca cb hb FE gy;have ca:=ka.cell;have cb:=kb.cell;have HSa4:=zH (Tv.out _ da);have HF:=zH (show ans=b4 by rw [HA.out];rfl)
 go_wp2_with fail
 refine HSa4.out.mono ?_;rintro e v ⟨rfl,hb⟩;go_wp2;go_ret
 exact ⟨by rw [HF.out];rfl,oa da hb⟩
end Go.Proofs.YtgeofabpinfcmaaGreat
namespace Go.Proofs.YtgeofabpinfcmaaGreat
open Go.RowKit Go.Maps
structure Qn where
 lab:Nat
 el:List Nat
 ans:Nat
structure Orc where
 ideal:Bool
 st:Nat
 dr:Nat
 qs:List Qn
def elsQ (l:List Nat):Bool:=l.all fun x=>decide (x<Kd)
def spH (lab:Nat) (l:List Nat):Nat:=(nu Kd lab l).a
structure QnOk (q:Qn):Prop where
 lab:q.lab<18446744073709551616
 el:elsQ q.el=true
 ans:q.ans<Kd
 len:q.el.length <= 1000000
structure OrcOk (O:Orc):Prop where
 st:O.st<18446744073709551616
 qs:∀ q∈O.qs,QnOk q
 apart:O.qs.Pairwise fun a b=>¬(a.lab=b.lab /\ a.el=b.el)
 real:O.ideal=false -> ∀ q∈O.qs,q.ans=spH q.lab q.el
end Go.Proofs.YtgeofabpinfcmaaGreat
namespace Go.Proofs.YtgeofabpinfcmaaGreat
open Go.RowKit Go.Maps
section
variable {K K' F F' F'':Nat -> Prop} {w w' dh u:World} {v:Value} {l:List Nat}
theorem fE {base n size:Nat} {e:TypeId} {xs:List Value} (h:w.ownsRow base e size v n xs) (ha:∀ b,v.ownBlock=some b -> u.heap[b]?=w.heap[b]?):u.ownsRow base e size v n xs:=by
 obtain ⟨h1,h2⟩:=h;refine ⟨h1,?_⟩;rcases h2 with h2 | ⟨g,cap,cur,hv,dj,hh,r⟩
 ·exact Or.inl h2
 ·exact Or.inr ⟨g,cap,cur,hv,dj,by rw [ha g (by rw [hv];rfl)];exact hh,r⟩
structure Moved (F F':Nat -> Prop) (w w':World):Prop where
 os:w'.os=w.os
 tape:w'.tape=w.tape
 output:w'.output=w.output
 size:w.heap.size <= w'.heap.size
 block:∀ b,b<w.heap.size -> ¬F b -> w'.heap[b]?=w.heap[b]?
 foot:∀ b,F' b -> F b \/ w.heap.size <= b
theorem Moved.refl:Moved F F w w:=⟨rfl,rfl,rfl,zR,fun _ _ _=>rfl,fun _ h=>.inl h⟩
theorem Moved.trans (h:Moved F F' w w') (k:Moved F' F'' w' dh):Moved F F'' w dh :=
 ⟨k.os.trans h.os,k.tape.trans h.tape,k.output.trans h.output,Nat.le_trans h.size k.size,fun b hb hn=>(k.block b (by have:=h.size;omega) (fun hf=>by rcases h.foot b hf with e | e;exact hn e;omega)).trans (h.block b hb hn),
  fun b hb=>by
   rcases k.foot b hb with e | e
   ·exact h.foot b e
   ·exact .inr (Nat.le_trans h.size e)⟩
end
end Go.Proofs.YtgeofabpinfcmaaGreat
namespace Go.Proofs.YtgeofabpinfcmaaGreat
open Go.RowKit
theorem uT:∀ (l:List Nat) (j:Nat),(l.take j).sum <= l.sum
 | [],j=>by simp
 | a :: l,0=>by simp
 | a :: l,j+1=>by
  simp only [List.take_succ_cons,List.sum_cons];exact Nat.add_le_add_left (uT l j) a
theorem S5 (rows:List Cb) (j:Nat):Bq (rows.take j) <= Bq rows:=by
 unfold Bq;rw [List.map_take];exact uT _ _
theorem XZ (p:Nat) (pub vars:Int) (A:Option Addr) (n c:Nat) (rows:List Cb) (w:World) (hr:RSl 3 te w [.slice A n c] rows) (Gm:jG rows) (Hm:rows.length+Bq rows <= 400) :
  Calls Tryz.prog 105 #[pc p pub vars (.slice A n c)] w fun e w'=>e= .returned (.bool true) /\ Below w.heap.size w w':=by
 obtain ⟨A',n',c',he,hlen,Td,xe,La⟩:=hr;simp at he
 obtain ⟨rfl,rfl,rfl⟩:=he;subst hlen;unfold pc;have gm:(rows.length:Int) <= 9223372036854775807:=by
  have h3:=Td;have h4:=xe;simp [maxLen] at h4
  omega
 have iy:=zH Hm;have HSD:=zH Gm;clear Hm Gm;obtain ⟨w0,vj⟩:=zEX (w.alloc (.cells #[.int .u64 p, .int .i64 pub, .int .i64 vars, .slice A rows.length c] 25));have da:Below w.heap.size w w0:=by rw [vj];exact (Below.refl _ w).alloc zR _
 have hB:Blk w0 w.heap.size 25 #[.int .u64 p, .int .i64 pub, .int .i64 vars, .slice A rows.length c]:=by rw [vj];exact Blk.new w _ _
 go_enter Tryz.func105,Tryz.ntmps105
 go_wp2_with fail
 rw [<- vj];have HW:=zH vj;clear vj;go_loopw [3,4] (fun s i wr=>∃ (j kk:Nat) (t:Int),j <= rows.length /\ i= .int .i64 j /\ s= .int .i64 t /\ wr=w0.drewN kk /\ Hid (t=(rows.length:Int)+(Bq (rows.take j):Int)))
  (fun _ i _=>rows.length-(intOf i).toNat)
 case atStart=>exact ⟨0,0,rows.length,Nat.zero_le _,rfl,rfl,rfl,zH (by simp [Bq])⟩
 case round =>
  obtain ⟨j,kk,t,hj,rfl,rfl,rfl,HT⟩:=hrel;have s3:(w0.drewN kk).cell? ⟨w.heap.size,3,none⟩=some (.slice A rows.length c):=(hB.drewN kk).cell 3;have z1:t <= 400:=by
   have h1:=HT.out;have h2:=iy.out;have h3:=S5 rows j;omega
  have d1:=decide_eq_true z1;by_cases za:j<rows.length
  ·obtain ⟨b,q,rfl⟩:=La.base (by omega) (by omega)
   obtain ⟨cs,-,hc,x,y,z,rfl,Oc,Ee,fe⟩:=(La.below Gc (below_drewN da kk)).get za;obtain ⟨A1,n1,c1,rfl,m1,u1⟩:=RLin.open_ Oc;obtain ⟨A2,n2,c2,rfl,m2,u2⟩:=RLin.open_ Ee;obtain ⟨A3,n3,c3,rfl,m3,u3⟩:=RLin.open_ fe;have HU:=zH (And.intro za (And.intro u1 (And.intro u2 u3)));clear u1 u2 u3;have h0:(w0.drewN kk).cell? ⟨b,q+j*3,none⟩=some _:=hc 0 (by omega)
   have h1:(w0.drewN kk).cell? ⟨b,q+j*3+1,none⟩=some _:=hc 1 (by omega)
   have h2:(w0.drewN kk).cell? ⟨b,q+j*3+2,none⟩=some _:=hc 2 (by omega)
   have i1:(0:Int) <= (j:Int):=by omega
   have i2:(j:Int)<(rows.length:Int):=by omega
   simp [maxLen] at m1 m2 m3 h0 h1 h2
   clear hc Oc Ee fe;simp at s3
   go_wp2_with fail
   go_quiet (fail)
   go_wp2
   go_roundw
   case rel =>
    refine ⟨j+1,_,_,by omega,by go_num,rfl,rfl,zH ?_⟩
    obtain ⟨hl,u1,u2,u3⟩:=HU.out;have h1:=HT.out;have h2:=HSD.out rows[j] (List.getElem_mem hl);rw [AT rows hl];unfold wrap64;omega
   case measure=>simp [intOf];omega
  ·obtain rfl:j=rows.length:=by omega
   go_wp2;go_ret
   refine ⟨?_,below_drewN da _⟩;simp
theorem UZ (Xo:Int) (p:Nat) (pub vars:Int) (A B:Option Addr) (n c m d:Nat) (rows:List Cb) (ws:List Nat) (bl bw qs:Int) (w:World) (hr:RSl 3 te w [.slice A n c] rows) (hw:RWd w [.slice B m d] ws) (hp:p<18446744073709551616)
  (hlim:(rows.length:Int) <= Xo) (Gm:jG rows) (Hm:rows.length+Bq rows <= 400) (ht:dd p pub vars rows=true) (ha:Dd p vars ws=true) (he:Gr ⟨p,pub,vars,rows.length,bl,bw,qs⟩=0) :
  Calls Tryz.prog 41 #[.agg (Zv p pub vars (.slice A n c) bl bw qs (.slice B m d)), .int .i64 Xo] w fun e w'=>(∃ L,Db L /\ tl L ⟨p,pub,vars,rows.length,bl,bw,qs⟩ /\ e= .returned (.tuple #[.agg (Ya L), .bool true])) /\ Below w.heap.size w w':=by
 have HV:=zH (fun w' (hb:Below w.heap.size w w')=>by have:=oE p pub vars A n c rows w' (Kc Gc _ _ _ _ hb hr) hp;rw [ht] at this;exact this)
 have HA:=zH (fun w' (hb:Below w.heap.size w w')=>by have:=lE p pub vars (.slice A n c) B m d ws w' (ta hb hw) hp;rw [ha] at this;exact this)
 have HS:=zH (fun w' (hb:Below w.heap.size w w')=>XZ p pub vars A n c rows w' (Kc Gc _ _ _ _ hb hr) Gm Hm)
 have HN:=zH (fun w' (hb:Below w.heap.size w w')=>yM p pub vars A n c rows bl bw qs w' (Kc Gc _ _ _ _ hb hr) ht)
 have HE:=zH he;obtain ⟨A',n',c',Ew,hlen,Td,xe,-⟩:=hr;simp at Ew
 obtain ⟨rfl,rfl,rfl⟩:=Ew;subst hlen;have gm:(rows.length:Int) <= 9223372036854775807:=by
  simp [maxLen] at xe
  omega
 clear Gm Hm ht ha he hw hp Td xe;unfold Zv;have da:Below w.heap.size w ((w.alloc (.cells #[.int .u64 p, .int .i64 pub, .int .i64 vars, .slice A rows.length c, .int .i64 bl, .int .i64 bw, .int .i64 qs, .slice B m d] 30)).alloc (.cells #[.int .u64 0, .int .i64 0, .int .i64 0, .int .i64 0, .int .i64 0, .int .i64 0, .int .i64 0, .int .i64 0, .int .i64 0, .int .i64 0, .int .i64 0] 39)):=((Below.refl _ w).alloc zR _).alloc (by simp) _
 have d1:decide (Xo<(rows.length:Int))=false:=decide_eq_false (by omega)
 clear hlim;go_enter Tryz.func41,Tryz.ntmps41
 go_wp2_with fail
 refine (HS.out _ da).mono ?_;rintro e w1 ⟨rfl,hb⟩;obtain ⟨k3,k4,uc⟩:=oG hb;obtain ⟨c3,f3⟩:=k3.cells';clear hb;go_wp2_with fail
 refine (HV.out _ uc).mono ?_;rintro e w2 ⟨rfl,Ka⟩;replace k3:=ia k3 Ka;replace k4:=ia k4 Ka;replace uc:=oa uc Ka;clear c3 f3 Ka;obtain ⟨c3,f3⟩:=k3.cells';go_wp2_with fail
 refine (HA.out _ uc).mono ?_;rintro e w3 ⟨rfl,ib⟩;replace k3:=ia k3 ib;replace k4:=ia k4 ib;replace uc:=oa uc ib;clear c3 f3 ib;obtain ⟨c3,f3⟩:=k3.cells';go_wp2_with fail
 refine (HN.out _ uc).mono ?_;rintro e w4 ⟨Jj,Fb⟩;obtain ⟨lcs,er,rfl,⟨h1,h2,h3⟩ | ⟨rfl,L,hL,hF,rfl⟩⟩:=Jj
 ·rw [HE.out] at h3
  exact absurd h3 h1
 have HL:=zH (show ∃ L',Db L' /\ tl L' ⟨p,pub,vars,rows.length,bl,bw,qs⟩ /\ Ending.returned (.tuple #[.agg (Ya L), .bool true])=Ending.returned (.tuple #[.agg (Ya L'), .bool true]) from ⟨L,hL,hF,rfl⟩)
 unfold Ya at *;replace k4:=ia k4 Fb;replace uc:=oa uc Fb;clear c3 f3 Fb k3 hL hF HE;obtain ⟨c4,f4⟩:=k4.cells';have l4:=k4.lt;go_wp2_with fail
 obtain ⟨wf,jd,kW0,Py⟩:=B5 k4 uc L;rw [jd];clear jd;have kW:=kW0.alloc (.cells #[.int .u64 L.p, .int .i64 L.block, .int .i64 L.queries, .int .i64 L.k, .int .i64 L.n, .int .i64 L.secret, .int .i64 L.rows, .int .i64 L.a, .int .i64 L.b, .int .i64 L.b, .int .i64 L.b] 39);have hW:=Py.alloc Py.size (.cells #[.int .u64 L.p, .int .i64 L.block, .int .i64 L.queries, .int .i64 L.k, .int .i64 L.n, .int .i64 L.secret, .int .i64 L.rows, .int .i64 L.a, .int .i64 L.b, .int .i64 L.b, .int .i64 L.b] 39);have Cs:=kW.cell;exact bodyPost_ret (v:=.tuple #[.agg #[.int .u64 L.p, .int .i64 L.block, .int .i64 L.queries, .int .i64 L.k, .int .i64 L.n, .int .i64 L.secret, .int .i64 L.rows, .int .i64 L.a, .int .i64 L.b, .int .i64 L.b, .int .i64 L.b], .bool true]) (by simp [results,Tryz.results41,go_sem,Cs]) rfl ⟨HL.out,hW⟩
theorem DM (L:Ja) (A0 A1 A2 A3 A4:Option Addr) (n0 c0 n1 c1 n2 c2 n3 c3 n4 c4:Nat) (rows:List (List Nat)) (l1 l2 l3 l4:List Nat) (w:World) (hL:Db L)
  (h0:Sb w [.slice A0 n0 c0] rows) (h1:RWd w [.slice A1 n1 c1] l1) (h2:RWd w [.slice A2 n2 c2] l2) (h3:RWd w [.slice A3 n3 c3] l3) (h4:RWd w [.slice A4 n4 c4] l4) :
  Calls Tryz.prog 14 #[.agg (Ya L), .agg #[.slice A0 n0 c0, .slice A1 n1 c1, .slice A2 n2 c2, .slice A3 n3 c3, .slice A4 n4 c4]] w fun e w'=>e= .returned (.bool (Ze L rows l1 l2 l3 l4)) /\ Below w.heap.size w w':=by
 have HT:=zH (fun w=>CM L.p L.block L.queries L.k L.n L.secret L.rows L.a L.b L.b L.b w hL.a hL.b hL.b hL.b)
 have yc:=zH (fun w' (hb:Below w.heap.size w w')=>dE A1 n1 c1 L.k L.p l1 w' (ta hb h1))
 have Uj:=zH (fun w' (hb:Below w.heap.size w w')=>dE A2 n2 c2 (L.k+L.block-2) L.p l2 w' (ta hb h2))
 have Vm:=zH (fun w' (hb:Below w.heap.size w w')=>dE A3 n3 c3 (L.block+2*L.queries-1) L.p l3 w' (ta hb h3))
 have HE4:=zH (fun w' (hb:Below w.heap.size w w')=>dE A4 n4 c4 L.n Kd l4 w' (ta hb h4))
 obtain ⟨Gn,a1,a2,r0⟩:=Ve h0;have gm:=Kf a1 a2;obtain ⟨ans,ha⟩:=zEX (Ze L rows l1 l2 l3 l4);rw [<- ha];unfold Ze at ha;rw [Gn] at ha;have HN:=zH Gn;obtain ⟨kl,kc,El,Nb⟩:=Ue w 39 42 (Ya L) #[.slice A0 n0 c0, .slice A1 n1 c1, .slice A2 n2 c2, .slice A3 n3 c3, .slice A4 n4 c4];have e1:IntKind.i64.wrap ((L.k:Int)+(L.block:Int))=(L.k:Int)+(L.block:Int):=Df _ (by have:=hL.k;have:=hL.b2;have:=hL.q2;omega) (by have:=hL.k;have:=hL.b2;have:=hL.q2;omega)
 obtain ⟨m2,Qc⟩:=zEX (L.k+L.block-2);obtain ⟨m3,jf⟩:=zEX (L.block+2*L.queries-1);have e2:IntKind.i64.wrap ((L.k:Int)+(L.block:Int)-2)=(m2:Int):=by rw [Df _ (by omega) (by have:=hL.k;have:=hL.b2;have:=hL.q2;omega)];have:=hL.b1;omega
 have e3:IntKind.i64.wrap (2*(L.queries:Int))=2*(L.queries:Int):=Df _ (by omega) (by have:=hL.q2;omega)
 have e4:IntKind.i64.wrap ((L.block:Int)+2*(L.queries:Int))=(L.block:Int)+2*(L.queries:Int):=Df _ (by omega) (by have:=hL.b2;have:=hL.q2;omega)
 have e5:IntKind.i64.wrap ((L.block:Int)+2*(L.queries:Int)-1)=(m3:Int):=by rw [Df _ (by omega) (by have:=hL.b2;have:=hL.q2;omega)];have:=hL.b1;omega
 rw [<- Qc] at Uj ha;rw [<- jf] at Vm ha;clear Qc jf;generalize td l1 L.k L.p=b1 at *;generalize td l2 m2 L.p=b2 at *;generalize td l3 m3 L.p=b3 at *;generalize td l4 L.n Kd=b4 at *;generalize L.a+L.b+L.b+L.b=T at *;have HA:=zH ha;clear ha h0 h1 h2 h3 h4 hL a1 a2 Gn;unfold Ya at *;unfold Kd at HE4;go_enter Tryz.func14,Tryz.ntmps14
 go_upto_region 1 with fail
 generalize (w.alloc _).alloc _=w3 at kl kc El Nb |-;have da:=El;clear El Nb;have cl:=kl.cell;have cc:=kc.cell;have ll:=kl.lt;have lc:=kc.lt;by_cases hT:n0=T
 rotate_left
 ·have HF:=zH (show ans=false by rw [HA.out,decide_eq_false hT];rfl)
  have t1:((n0:Int) != (T:Int))=true:=by rw [bne_iff_ne];omega
  have t2:((n0:Int) == (T:Int))=false:=by rw [beq_eq_false_iff_ne];omega
  clear HA hT;refine Hd (Ib) (xa) [] [] [0,1,2,3,4,5] (by kernel_rfl) (by kernel_rfl) ?_
  refine Jd (xa) ?_;intro Wc ja;refine Ic ?_;refine vc (xa) rfl rfl rfl rfl (fun _ _ _ h=>h) (fun _=>by go_simp <;> rfl) (fun w' hR=>HT.out _) ?_
  simp only [Act.put,zLa,zLb,zLc];refine Ic ?_;refine eh rfl ?_;intro wd Tb;replace ja:=(xa).trans _ _ _ ja Tb;clear Tb;go_wp2_with fail
  go_ret
  exact ⟨by rw [HF.out];rfl,oa da.drew ja⟩
 have t1:((n0:Int) != (T:Int))=false:=by rw [bne_eq_false_iff_eq];omega
 have t2:((n0:Int) == (T:Int))=true:=by rw [beq_iff_eq];omega
 have HB:=zH (show ans=(rows.all (fun r=>td r L.queries L.p)&&(b1&&(b2&&(b3&&b4)))) by rw [HA.out,decide_eq_true hT];rfl)
 clear HA hT;refine Hd (Ib) (xa) [] [] [0,1,2,3,4,5] (by kernel_rfl) (by kernel_rfl) ?_
 refine Jd (xa) ?_;intro Wc ja;refine Ic ?_;refine vc (xa) rfl rfl rfl rfl (fun _ _ _ h=>h) (fun _=>by go_simp <;> rfl) (fun w' hR=>HT.out _) ?_
 simp only [Act.put,zLa,zLb,zLc];refine Ic ?_;refine eh rfl ?_;intro wd Tb;replace ja:=(xa).trans _ _ _ ja Tb;clear Tb;replace kl:=kl.drew.below ja kl.lt;replace kc:=kc.drew.below ja kc.lt;replace da:=oa da.drew ja;clear cl cc ll lc ja HT;go_wp2_with fail
 go_loopw [5] (fun y wr=>∃ i:Nat,i <= n0 /\ y= .int .i64 i /\ Hid ((rows.take i).all (fun r=>td r L.queries L.p)=true) /\ Blk wr w.heap.size 39 #[.int .u64 L.p, .int .i64 L.block, .int .i64 L.queries, .int .i64 L.k, .int .i64 L.n, .int .i64 L.secret, .int .i64 L.rows, .int .i64 L.a, .int .i64 L.b, .int .i64 L.b, .int .i64 L.b] /\ Blk wr (w.heap.size+1) 42 #[.slice A0 n0 c0, .slice A1 n1 c1, .slice A2 n2 c2, .slice A3 n3 c3, .slice A4 n4 c4] /\ Below w.heap.size w wr) (fun y _=>n0-(intOf y).toNat)
 case atStart=>exact ⟨0,Nat.zero_le _,rfl,rfl,kl,kc,da⟩
 case round =>
  clear kl kc da;obtain ⟨i,hi,rfl,gu,kl,kc,da⟩:=hrel;have cl:=kl.cell;have cc:=kc.cell;have ll:=kl.lt;have lc:=kc.lt;by_cases za:i<n0
  ·have g1:(0:Int) <= (i:Int):=by omega
   have g2:(i:Int)<(n0:Int):=by omega
   have i1:i<rows.length:=by rw [HN.out];exact za
   obtain ⟨x1,y1,B1,m1,k1,rfl,v1,d1,s1⟩:=vh (r0.below DC da) i1;have HS:=zH (fun w' (hb:Below wr.heap.size wr w')=>dE B1 m1 k1 L.queries L.p rows[i] w' (ta hb s1))
   clear s1;cases hx:td rows[i] L.queries L.p
   ·have HF:=zH (show ans=false by rw [HB.out,kO (f:=fun r=>td r L.queries L.p) i1 hx];rfl)
    rw [hx] at HS;clear hx gu i1;go_upto_region 6 with fail
    refine Hd (Ib) (xa) [] [] [0,1,2,3,4,5,6,7,8,9,10] (by kernel_rfl) (by kernel_rfl) ?_
    refine Jd (xa) ?_;intro Wc ja;refine Ic ?_;refine vc (xa) rfl rfl rfl rfl (fun _ _ _ h=>h) (fun _=>by go_simp <;> rfl) (fun w' hR=>HS.out _ (oa (Below.refl _ wr).drew (oa ja hR))) ?_
    simp only [Act.put,zLa,zLb,zLc];refine Ic ?_;refine eh rfl ?_;intro wd Tb;replace ja:=(xa).trans _ _ _ ja Tb;clear Tb;go_wp2_with fail
    go_ret
    exact ⟨by rw [HF.out];rfl,oa da.drew ja⟩
   ·have Dh:=zH (lO (f:=fun r=>td r L.queries L.p) gu.out i1 hx)
    rw [hx] at HS;clear hx gu i1;go_upto_region 6 with fail
    refine Hd (Ib) (xa) [] [] [0,1,2,3,4,5,6,7,8,9,10] (by kernel_rfl) (by kernel_rfl) ?_
    refine Jd (xa) ?_;intro Wc ja;refine Ic ?_;refine vc (xa) rfl rfl rfl rfl (fun _ _ _ h=>h) (fun _=>by go_simp <;> rfl) (fun w' hR=>HS.out _ (oa (Below.refl _ wr).drew (oa ja hR))) ?_
    simp only [Act.put,zLa,zLb,zLc];refine Ic ?_;refine eh rfl ?_;intro wd Tb;replace ja:=(xa).trans _ _ _ ja Tb;clear Tb;replace kl:=kl.drew.below ja kl.lt;replace kc:=kc.drew.below ja kc.lt;replace da:=oa da.drew ja;clear cl cc ll lc ja d1 v1;go_wp2
    go_roundw
    case rel=>exact ⟨i+1,by omega,by go_num,Dh.out,kl,kc,da⟩
    case measure=>simp [intOf];omega
  ·obtain rfl:i=n0:=by omega
   have xp:=zH (show ans=(b1&&(b2&&(b3&&b4))) by rw [HB.out];have:=gu.out;rw [<- HN.out,List.take_length] at this;rw [this];rfl)
   clear HB gu;have qJ:=zH (yc.out _ da);cases b1
   ·have HF:=zH (show ans=false by rw [xp.out];rfl)
    go_wp2_with fail
    refine qJ.out.mono ?_;rintro e w5 ⟨rfl,jb⟩;go_wp2;go_ret
    exact ⟨by rw [HF.out];rfl,oa da jb⟩
   go_wp2_with fail
   refine qJ.out.mono ?_;rintro e w5 ⟨rfl,jb⟩;replace kl:=ia kl jb;replace kc:=ia kc jb;replace da:=oa da jb;clear cl cc jb qJ yc;have cl:=kl.cell;have cc:=kc.cell;have rJ:=zH (Uj.out _ da);cases b2
   ·have HF:=zH (show ans=false by rw [xp.out];rfl)
    go_wp2_with fail
    refine rJ.out.mono ?_;rintro e w6 ⟨rfl,Zb⟩;go_wp2;go_ret
    exact ⟨by rw [HF.out];rfl,oa da Zb⟩
   go_wp2_with fail
   refine rJ.out.mono ?_;rintro e w6 ⟨rfl,Zb⟩;replace kl:=ia kl Zb;replace kc:=ia kc Zb;replace da:=oa da Zb;clear cl cc Zb rJ Uj;have cl:=kl.cell;have cc:=kc.cell;have Xz:=zH (Vm.out _ da);cases b3
   ·have HF:=zH (show ans=false by rw [xp.out];rfl)
    go_wp2_with fail
    refine Xz.out.mono ?_;rintro e w7 ⟨rfl,Wa⟩;go_wp2;go_ret
    exact ⟨by rw [HF.out];rfl,oa da Wa⟩
   go_wp2_with fail
   refine Xz.out.mono ?_;rintro e w7 ⟨rfl,Wa⟩;replace kl:=ia kl Wa;replace kc:=ia kc Wa;replace da:=oa da Wa;clear cl cc Wa Xz Vm;have cl:=kl.cell;have cc:=kc.cell;have CE:=zH (HE4.out _ da);have HF:=zH (show ans=b4 by rw [xp.out];rfl)
   go_wp2_with fail
   refine CE.out.mono ?_;rintro e w8 ⟨rfl,je⟩;go_wp2;go_ret
   exact ⟨by rw [HF.out];rfl,oa da je⟩
def RG (l:List Oper) (i j:Nat):Bool:=match l[i]?,l[j]? with
 | some x,some y=>x.apart l.toArray y
 | _,_=>false
def MC (l:List Oper) (hs tail:List Nat) (j:Nat):List Nat -> Array Bool -> Bool
 | [],L=>decide (j<l.length)&&Region.ready .any l.toArray L == [j]&&Su l hs tail (L.setIfInBounds j true)
 | i :: rest,L=>decide (i<l.length)&&decide (j<l.length)&&decide (i≠j)&&RG l i j&&Region.free .any l.toArray L i&&(Region.ready .any l.toArray L).contains i &&
   Region.free .any l.toArray (L.setIfInBounds j true) i&&(Region.ready .any l.toArray (L.setIfInBounds j true)).contains i &&
   (!hs.contains i||((Region.ready .any l.toArray L == [i]||Region.ready .any l.toArray L == [i,j]||Region.ready .any l.toArray L == [j,i])&&Region.ready .any l.toArray (L.setIfInBounds j true) == [i])) &&
   MC l hs tail j rest (L.setIfInBounds i true)
def SN (P:Program) (o:Oper) (t:TypeId) (z:Array Value):Prop:=o.guard=none /\ ∀ a w,(execOp a o).run P w= .ok (.value (.pointer (some ⟨w.heap.size,0,none⟩))) (w.alloc (.cells z t))
def Cv (P:Program) (l:List Oper) (hs tail:List Nat) (Q:Exit -> Act -> World -> Prop) (N j:Nat) (t:TypeId) (z:Array Value) (order:List Nat) (Ca:Array Bool) (a:Act) (w:World):Prop :=
 Region.noSelect l.toArray=true -> MC l hs tail j order Ca=true -> (∃ oj,l[j]?=some oj /\ SN P oj t z) ->
  Ci P l.toArray Q (Yf N) (order.length+1+tail.length) Ca a w /\
  ∀ (oj:Oper) (w1:World) (g:Nat),l[j]?=some oj -> Below w.heap.size w w1 -> Blk w1 g t z -> N <= g -> Ci P l.toArray Q (Yf N) (order.length+tail.length) (Ca.setIfInBounds j true) (a.put oj.dst (.pointer (some ⟨g,0,none⟩))) w1
section
variable {P:Program} {l:List Oper} {hs tail:List Nat} {Q:Exit -> Act -> World -> Prop} {N j:Nat} {t:TypeId} {z:Array Value} {rest:List Nat} {i:Nat} {o:Oper} {Ca:Array Bool} {a:Act} {w:World}
theorem U6 {id:Nat} {oj:Oper} (N:Nat) (hs order:List Nat) (j:Nat) (tail:List Nat) (t:TypeId) (z:Array Value) (hm:P.follows .mixedOrders=true) (Nd:l[j]?=some oj) (Xh:SN P oj t z)
  (Ta:(Region.noSelect l.toArray&&order.length+1+tail.length == l.length&&MC l hs tail j order (List.replicate l.length false).toArray)=true)
  (h:Cv P l hs tail Q N j t z order (List.replicate l.length false).toArray a w.drew):(Code.region id l.toArray true).wp P Q a w:=by
 simp only [Bool.and_eq_true,beq_iff_eq] at Ta;refine AE (Yf N) hm ?_;rw [<- Ta.1.2];have:=(h Ta.1.1 Ta.2 ⟨oj,Nd,Xh⟩).1
 rwa [Ta.1.2] at this |-
theorem Y6 {order:List Nat} (h:∀ W,Hid (W=w) -> Yf N w W -> Cv P l hs tail Q N j t z order Ca a W):Cv P l hs tail Q N j t z order Ca a w:=h w rfl ((zb N).refl w)
theorem NL (h:MC l hs tail j (i :: rest) Ca=true):(i<l.length /\ j<l.length /\ i≠j /\ RG l i j=true) /\ (Region.free .any l.toArray Ca i=true /\ (Region.ready .any l.toArray Ca).contains i=true) /\
  (Region.free .any l.toArray (Ca.setIfInBounds j true) i=true /\ (Region.ready .any l.toArray (Ca.setIfInBounds j true)).contains i=true) /\
  (hs.contains i=true -> (Region.ready .any l.toArray Ca=[i] \/ Region.ready .any l.toArray Ca=[i,j] \/ Region.ready .any l.toArray Ca=[j,i]) /\ Region.ready .any l.toArray (Ca.setIfInBounds j true)=[i]) /\ MC l hs tail j rest (Ca.setIfInBounds i true)=true:=by
 unfold MC at h;simp only [Bool.and_eq_true,Bool.or_eq_true,Bool.not_eq_true',decide_eq_true_eq,beq_iff_eq] at h;obtain ⟨⟨⟨⟨⟨⟨⟨⟨⟨h1,h2⟩,h3⟩,h4⟩,h5⟩,h6⟩,h7⟩,h8⟩,h9⟩,h10⟩:=h;refine ⟨⟨h1,h2,h3,h4⟩,⟨h5,h6⟩,⟨h7,h8⟩,fun h=>?_,h10⟩
 rcases h9 with h9 | h9
 ·rw [h] at h9;cases h9
 ·refine ⟨?_,h9.2⟩
  rcases h9.1 with (x | x) | x
  ·exact .inl x
  ·exact .inr (.inl x)
  ·exact .inr (.inr x)
theorem LJ {oj:Oper} (h:RG l i j=true) (ho:l[i]?=some o) (Nd:l[j]?=some oj):o.apart l.toArray oj=true:=by
 unfold RG at h;rw [ho,Nd] at h;exact h
theorem W6 {v:Value} (ho:l[i]?=some o) (hw:Region.wanted o (yielded l.toArray a.tmps)=true) (hN:N <= w.heap.size) (hQ:∀ c a w,Q (.panic c) (a.put o.dst v) w -> Q (.panic c) a w)
  (Re:∀ w',Yf N w w' -> (execOp a.eval o).run P w'= .ok (.value v) w') (h:Cv P l hs tail Q N j t z rest (Ca.setIfInBounds i true) (a.put o.dst v) w):Cv P l hs tail Q N j t z (i :: rest) Ca a w:=by
 intro hn Ta Xh;obtain ⟨⟨h1,h2,h3,h4⟩,⟨h5,h6⟩,⟨h7,h8⟩,-,h10⟩:=NL Ta;obtain ⟨k1,k2⟩:=h hn h10 Xh;have e:=Dl (h:=h1) ho;subst e;refine ⟨?_,fun oj w1 g Nd hb hg aj=>?_⟩
 ·have:=Qh i (zb N) h1 hn h5 h6 hQ (.inl ⟨hw,Re⟩) k1
  rwa [show (i :: rest).length+1+tail.length=rest.length+1+tail.length+1 by simp;omega]
 ·obtain ⟨a1,a2,a3⟩:=Oper.apart_spec (LJ h4 ho Nd)
  have Jf:∀ cs b,l[i].op≠.select cs b:=fun cs b=>Region.noSelect_spec hn i l[i] cs b (by rw [List.getElem?_toArray];exact ho)
  have k3:=k2 oj w1 g Nd hb hg aj;rw [Array.setIfInBounds_comm _ _ h3,Act.put_comm a v _ a2] at k3;have:=Qh (a:=a.put oj.dst (.pointer (some ⟨g,0,none⟩))) i (zb N) h1 hn h7 h8 hQ (.inl ⟨by rw [wanted_put _ _ _ _ a3];exact hw,fun w' iq=>by rw [execOp_put _ Jf _ _ _ a3];exact Re w' ((zb N).trans _ _ _ (yf hb hN) iq)⟩) k3
  rwa [show (i :: rest).length+tail.length=rest.length+tail.length+1 by simp;omega]
theorem X6 (ho:l[i]?=some o) (hw:Region.wanted o (yielded l.toArray a.tmps)=false) (hQ:∀ c a w,Q (.panic c) (a.put o.dst undef) w -> Q (.panic c) a w)
  (h:Cv P l hs tail Q N j t z rest (Ca.setIfInBounds i true) (a.put o.dst undef) w):Cv P l hs tail Q N j t z (i :: rest) Ca a w:=by
 intro hn Ta Xh;obtain ⟨⟨h1,h2,h3,h4⟩,⟨h5,h6⟩,⟨h7,h8⟩,-,h10⟩:=NL Ta;obtain ⟨k1,k2⟩:=h hn h10 Xh;have e:=Dl (h:=h1) ho;subst e;refine ⟨?_,fun oj w1 g Nd hb hg aj=>?_⟩
 ·have:=Qh i (zb N) h1 hn h5 h6 hQ (.inr ⟨hw,rfl⟩) k1
  rwa [show (i :: rest).length+1+tail.length=rest.length+1+tail.length+1 by simp;omega]
 ·obtain ⟨a1,a2,a3⟩:=Oper.apart_spec (LJ h4 ho Nd)
  have k3:=k2 oj w1 g Nd hb hg aj;rw [Array.setIfInBounds_comm _ _ h3,Act.put_comm a undef _ a2] at k3;have:=Qh (a:=a.put oj.dst (.pointer (some ⟨g,0,none⟩))) i (zb N) h1 hn h7 h8 hQ (.inr ⟨by rw [wanted_put _ _ _ _ a3];exact hw,rfl⟩) k3
  rwa [show (i :: rest).length+tail.length=rest.length+tail.length+1 by simp;omega]
theorem MN {a b:Prop} (h:a) (s:Imp a b:=by
 (repeat ((first | (apply Imp.via (X6 rfl rfl (fun _ _ _ h=>h))) | (apply Imp.via (W6 (v:=?_) rfl rfl Pa (fun _ _ _ h=>h) ?hr);case hr=>(intro w' hR;(first | have Bn:=lH ((zb _).trans _ _ _ ja hR) | skip);go_simp;try with_reducible rfl)));simp only [Act.put,zLa,zLb,zLc]))
 exact Imp.rfl'):b:=s h
theorem sU {f:FuncId} {vals:Array Value} (hh:hs.contains i=true) (ho:l[i]?=some o) (hw:Region.wanted o (yielded l.toArray a.tmps)=true) (hN:N <= w.heap.size)
  (Re:∀ w,(execOp a.eval o).run P w= .ok (.enter f vals) w)
  (h:∀ w1,Below w.heap.size w w1 -> Calls P f vals w1 fun e w'=>∃ v,e= .returned v /\ Below w1.heap.size w1 w' /\ Cv P l hs tail Q N j t z rest (Ca.setIfInBounds i true) (a.put o.dst v) w'):Cv P l hs tail Q N j t z (i :: rest) Ca a w:=by
 intro hn Ta Xh;obtain ⟨⟨h1,h2,h3,h4⟩,⟨h5,h6⟩,⟨h7,h8⟩,h9,h10⟩:=NL Ta;obtain ⟨ij,Po⟩:=h9 hh;obtain ⟨oj,Nd,gj,UB⟩:=id Xh;obtain ⟨a1,a2,a3⟩:=Oper.apart_spec (LJ h4 ho Nd);have e:=Dl (h:=h1) ho;subst e;have ej:=Dl (h:=h2) Nd;subst ej;have Jf:∀ cs b,l[i].op≠.select cs b:=fun cs b=>Region.noSelect_spec hn i l[i] cs b (by rw [List.getElem?_toArray];exact ho)
 have done:∀ (w1:World) (g:Nat),Below w.heap.size w w1 -> Blk w1 g t z -> N <= g -> Ci P l.toArray Q (Yf N) (rest.length+tail.length+1) (Ca.setIfInBounds j true) (a.put l[j].dst (.pointer (some ⟨g,0,none⟩))) w1:=fun w1 g hb hg aj=>by
  refine aJ i (zb N) h1 Po (by rw [wanted_put _ _ _ _ a3];exact hw) ((h w1 hb).mono ?_) (fun w=>by rw [execOp_put _ Jf _ _ _ a3];exact Re w)
  rintro e w' ⟨v,rfl,If,hx⟩;refine ⟨v,rfl,yf If (Nat.le_trans hN hb.size),?_⟩;have k3:=(hx hn h10 Xh).2 l[j] w' g Nd (Below.refl _ _) (hg.below If hg.lt) aj;rw [Array.setIfInBounds_comm _ _ h3,Act.put_comm a v _ a2] at k3;exact k3
 have A1:Ox P l Q (Yf N) i (rest.length+1+tail.length) Ca a w:=by
  refine pU h1 hw ((h w (Below.refl _ _)).mono ?_) Re;rintro e w' ⟨v,rfl,If,hx⟩;exact ⟨v,rfl,yf If hN,(hx hn h10 Xh).1⟩
 have A2:Ox P l Q (Yf N) j (rest.length+1+tail.length) Ca a w:=by
  refine ⟨h2,by simp [Region.wanted,gj],?_⟩
  unfold Oper.wp;rw [UB];have hb:Below w.heap.size w (w.alloc (.cells z t)):=(Below.refl _ w).alloc zR _;have:=done _ _ hb (Blk.new w t z) hN;rw [show rest.length+tail.length+1=rest.length+1+tail.length by omega] at this
  exact ⟨yf hb hN,this⟩
 refine ⟨?_,fun oj w1 g XB hb hg aj=>?_⟩
 ·rw [show (i :: rest).length+1+tail.length=rest.length+1+tail.length+1 by simp;omega]
  rcases ij with hr | hr | hr
  ·exact bJ i (zb N) hr A1
  ·exact dJ i j (zb N) hr A1 A2
  ·exact dJ j i (zb N) hr A2 A1
 ·have e:=Dl (h:=h2) XB
  subst e;have:=done w1 g hb hg aj
  rwa [show (i :: rest).length+tail.length=rest.length+tail.length+1 by simp;omega]
theorem V6 (hN:N <= w.heap.size) (h:∀ (oj:Oper) (w1:World) (g:Nat),l[j]?=some oj -> Below w.heap.size w w1 -> Blk w1 g t z -> N <= g -> fm P l hs Q (Yf N) tail (Ca.setIfInBounds j true) (a.put oj.dst (.pointer (some ⟨g,0,none⟩))) w1):Cv P l hs tail Q N j t z [] Ca a w:=by
 intro hn Ta Xh;unfold MC at Ta;simp only [Bool.and_eq_true,decide_eq_true_eq,beq_iff_eq] at Ta;obtain ⟨⟨h2,hr⟩,hk⟩:=Ta;obtain ⟨oj,Nd,gj,UB⟩:=id Xh;have ej:=Dl (h:=h2) Nd;subst ej;refine ⟨?_,fun oj w1 g XB hb hg aj=>?_⟩
 ·rw [show ([]:List Nat).length+1+tail.length=tail.length+1 by simp;omega]
  refine bJ j (zb N) hr ⟨h2,by simp [Region.wanted,gj],?_⟩
  unfold Oper.wp;rw [UB];have hb:Below w.heap.size w (w.alloc (.cells z t)):=(Below.refl _ w).alloc zR _;exact ⟨yf hb hN,h _ _ _ Nd hb (Blk.new w t z) hN hn hk⟩
 ·rw [show ([]:List Nat).length+tail.length=tail.length by simp]
  exact h oj w1 g XB hb hg aj hn hk
end
def SG (l:List Oper) (i j:Nat):Bool:=match l[i]?,l[j]? with
 | some x,some y=>x.apart l.toArray y
 | _,_=>false
def NC (l:List Oper) (hs tail:List Nat) (j:Nat):List Nat -> Array Bool -> Bool
 | [],L=>decide (j<l.length)&&Region.ready .any l.toArray L == [j]&&Su l hs tail (L.setIfInBounds j true)
 | i :: rest,L=>decide (i<l.length)&&decide (j<l.length)&&decide (i≠j)&&SG l i j&&Region.free .any l.toArray L i&&(Region.ready .any l.toArray L).contains i &&
   Region.free .any l.toArray (L.setIfInBounds j true) i&&(Region.ready .any l.toArray (L.setIfInBounds j true)).contains i &&
   (!hs.contains i||((Region.ready .any l.toArray L == [i]||Region.ready .any l.toArray L == [i,j]||Region.ready .any l.toArray L == [j,i])&&Region.ready .any l.toArray (L.setIfInBounds j true) == [i])) &&
   NC l hs tail j rest (L.setIfInBounds i true)
def TN (P:Program) (o:Oper) (t:TypeId) (z:Array Value):Prop:=o.guard=none /\ ∀ a w,(execOp a o).run P w= .ok (.value (.slice (some ⟨w.heap.size,0,none⟩) 0 0)) (w.alloc (.cells z t))
def Bv (P:Program) (l:List Oper) (hs tail:List Nat) (Q:Exit -> Act -> World -> Prop) (N j:Nat) (t:TypeId) (z:Array Value) (order:List Nat) (Ca:Array Bool) (a:Act) (w:World):Prop :=
 Region.noSelect l.toArray=true -> NC l hs tail j order Ca=true -> (∃ oj,l[j]?=some oj /\ TN P oj t z) ->
  Ci P l.toArray Q (Yf N) (order.length+1+tail.length) Ca a w /\
  ∀ (oj:Oper) (w1:World) (g:Nat),l[j]?=some oj -> Below w.heap.size w w1 -> Blk w1 g t z -> N <= g -> Ci P l.toArray Q (Yf N) (order.length+tail.length) (Ca.setIfInBounds j true) (a.put oj.dst (.slice (some ⟨g,0,none⟩) 0 0)) w1
section
variable {P:Program} {l:List Oper} {hs tail:List Nat} {Q:Exit -> Act -> World -> Prop} {N j:Nat} {t:TypeId} {z:Array Value} {rest:List Nat} {i:Nat} {o:Oper} {Ca:Array Bool} {a:Act} {w:World}
theorem P6 {id:Nat} {oj:Oper} (N:Nat) (hs order:List Nat) (j:Nat) (tail:List Nat) (t:TypeId) (z:Array Value) (hm:P.follows .mixedOrders=true) (Nd:l[j]?=some oj) (Xh:TN P oj t z)
  (Ta:(Region.noSelect l.toArray&&order.length+1+tail.length == l.length&&NC l hs tail j order (List.replicate l.length false).toArray)=true)
  (h:Bv P l hs tail Q N j t z order (List.replicate l.length false).toArray a w.drew):(Code.region id l.toArray true).wp P Q a w:=by
 simp only [Bool.and_eq_true,beq_iff_eq] at Ta;refine AE (Yf N) hm ?_;rw [<- Ta.1.2];have:=(h Ta.1.1 Ta.2 ⟨oj,Nd,Xh⟩).1
 rwa [Ta.1.2] at this |-
theorem T6 {order:List Nat} (h:∀ W,Hid (W=w) -> Yf N w W -> Bv P l hs tail Q N j t z order Ca a W):Bv P l hs tail Q N j t z order Ca a w:=h w rfl ((zb N).refl w)
theorem OL (h:NC l hs tail j (i :: rest) Ca=true):(i<l.length /\ j<l.length /\ i≠j /\ SG l i j=true) /\ (Region.free .any l.toArray Ca i=true /\ (Region.ready .any l.toArray Ca).contains i=true) /\
  (Region.free .any l.toArray (Ca.setIfInBounds j true) i=true /\ (Region.ready .any l.toArray (Ca.setIfInBounds j true)).contains i=true) /\
  (hs.contains i=true -> (Region.ready .any l.toArray Ca=[i] \/ Region.ready .any l.toArray Ca=[i,j] \/ Region.ready .any l.toArray Ca=[j,i]) /\ Region.ready .any l.toArray (Ca.setIfInBounds j true)=[i]) /\ NC l hs tail j rest (Ca.setIfInBounds i true)=true:=by
 unfold NC at h;simp only [Bool.and_eq_true,Bool.or_eq_true,Bool.not_eq_true',decide_eq_true_eq,beq_iff_eq] at h;obtain ⟨⟨⟨⟨⟨⟨⟨⟨⟨h1,h2⟩,h3⟩,h4⟩,h5⟩,h6⟩,h7⟩,h8⟩,h9⟩,h10⟩:=h;refine ⟨⟨h1,h2,h3,h4⟩,⟨h5,h6⟩,⟨h7,h8⟩,fun h=>?_,h10⟩
 rcases h9 with h9 | h9
 ·rw [h] at h9;cases h9
 ·refine ⟨?_,h9.2⟩
  rcases h9.1 with (x | x) | x
  ·exact .inl x
  ·exact .inr (.inl x)
  ·exact .inr (.inr x)
theorem MJ {oj:Oper} (h:SG l i j=true) (ho:l[i]?=some o) (Nd:l[j]?=some oj):o.apart l.toArray oj=true:=by
 unfold SG at h;rw [ho,Nd] at h;exact h
theorem R6 {v:Value} (ho:l[i]?=some o) (hw:Region.wanted o (yielded l.toArray a.tmps)=true) (hN:N <= w.heap.size) (hQ:∀ c a w,Q (.panic c) (a.put o.dst v) w -> Q (.panic c) a w)
  (Re:∀ w',Yf N w w' -> (execOp a.eval o).run P w'= .ok (.value v) w') (h:Bv P l hs tail Q N j t z rest (Ca.setIfInBounds i true) (a.put o.dst v) w):Bv P l hs tail Q N j t z (i :: rest) Ca a w:=by
 intro hn Ta Xh;obtain ⟨⟨h1,h2,h3,h4⟩,⟨h5,h6⟩,⟨h7,h8⟩,-,h10⟩:=OL Ta;obtain ⟨k1,k2⟩:=h hn h10 Xh;have e:=Dl (h:=h1) ho;subst e;refine ⟨?_,fun oj w1 g Nd hb hg aj=>?_⟩
 ·have:=Qh i (zb N) h1 hn h5 h6 hQ (.inl ⟨hw,Re⟩) k1
  rwa [show (i :: rest).length+1+tail.length=rest.length+1+tail.length+1 by simp;omega]
 ·obtain ⟨a1,a2,a3⟩:=Oper.apart_spec (MJ h4 ho Nd)
  have Jf:∀ cs b,l[i].op≠.select cs b:=fun cs b=>Region.noSelect_spec hn i l[i] cs b (by rw [List.getElem?_toArray];exact ho)
  have k3:=k2 oj w1 g Nd hb hg aj;rw [Array.setIfInBounds_comm _ _ h3,Act.put_comm a v _ a2] at k3;have:=Qh (a:=a.put oj.dst (.slice (some ⟨g,0,none⟩) 0 0)) i (zb N) h1 hn h7 h8 hQ (.inl ⟨by rw [wanted_put _ _ _ _ a3];exact hw,fun w' iq=>by rw [execOp_put _ Jf _ _ _ a3];exact Re w' ((zb N).trans _ _ _ (yf hb hN) iq)⟩) k3
  rwa [show (i :: rest).length+tail.length=rest.length+tail.length+1 by simp;omega]
theorem S6 (ho:l[i]?=some o) (hw:Region.wanted o (yielded l.toArray a.tmps)=false) (hQ:∀ c a w,Q (.panic c) (a.put o.dst undef) w -> Q (.panic c) a w)
  (h:Bv P l hs tail Q N j t z rest (Ca.setIfInBounds i true) (a.put o.dst undef) w):Bv P l hs tail Q N j t z (i :: rest) Ca a w:=by
 intro hn Ta Xh;obtain ⟨⟨h1,h2,h3,h4⟩,⟨h5,h6⟩,⟨h7,h8⟩,-,h10⟩:=OL Ta;obtain ⟨k1,k2⟩:=h hn h10 Xh;have e:=Dl (h:=h1) ho;subst e;refine ⟨?_,fun oj w1 g Nd hb hg aj=>?_⟩
 ·have:=Qh i (zb N) h1 hn h5 h6 hQ (.inr ⟨hw,rfl⟩) k1
  rwa [show (i :: rest).length+1+tail.length=rest.length+1+tail.length+1 by simp;omega]
 ·obtain ⟨a1,a2,a3⟩:=Oper.apart_spec (MJ h4 ho Nd)
  have k3:=k2 oj w1 g Nd hb hg aj;rw [Array.setIfInBounds_comm _ _ h3,Act.put_comm a undef _ a2] at k3;have:=Qh (a:=a.put oj.dst (.slice (some ⟨g,0,none⟩) 0 0)) i (zb N) h1 hn h7 h8 hQ (.inr ⟨by rw [wanted_put _ _ _ _ a3];exact hw,rfl⟩) k3
  rwa [show (i :: rest).length+tail.length=rest.length+tail.length+1 by simp;omega]
theorem kJ {a b:Prop} (h:a) (s:Imp a b:=by
 (repeat ((first | (apply Imp.via (S6 rfl rfl (fun _ _ _ h=>h))) | (apply Imp.via (R6 (v:=?_) rfl rfl Pa (fun _ _ _ h=>h) ?hr);case hr=>(intro w' hR;(first | have Bn:=lH ((zb _).trans _ _ _ ja hR) | skip);go_simp;try with_reducible rfl)));simp only [Act.put,zLa,zLb,zLc]))
 exact Imp.rfl'):b:=s h
theorem KN {f:FuncId} {vals:Array Value} (hh:hs.contains i=true) (ho:l[i]?=some o) (hw:Region.wanted o (yielded l.toArray a.tmps)=true) (hN:N <= w.heap.size)
  (Re:∀ w,(execOp a.eval o).run P w= .ok (.enter f vals) w)
  (h:∀ w1,Below w.heap.size w w1 -> Calls P f vals w1 fun e w'=>∃ v,e= .returned v /\ Below w1.heap.size w1 w' /\ Bv P l hs tail Q N j t z rest (Ca.setIfInBounds i true) (a.put o.dst v) w'):Bv P l hs tail Q N j t z (i :: rest) Ca a w:=by
 intro hn Ta Xh;obtain ⟨⟨h1,h2,h3,h4⟩,⟨h5,h6⟩,⟨h7,h8⟩,h9,h10⟩:=OL Ta;obtain ⟨ij,Po⟩:=h9 hh;obtain ⟨oj,Nd,gj,UB⟩:=id Xh;obtain ⟨a1,a2,a3⟩:=Oper.apart_spec (MJ h4 ho Nd);have e:=Dl (h:=h1) ho;subst e;have ej:=Dl (h:=h2) Nd;subst ej;have Jf:∀ cs b,l[i].op≠.select cs b:=fun cs b=>Region.noSelect_spec hn i l[i] cs b (by rw [List.getElem?_toArray];exact ho)
 have done:∀ (w1:World) (g:Nat),Below w.heap.size w w1 -> Blk w1 g t z -> N <= g -> Ci P l.toArray Q (Yf N) (rest.length+tail.length+1) (Ca.setIfInBounds j true) (a.put l[j].dst (.slice (some ⟨g,0,none⟩) 0 0)) w1:=fun w1 g hb hg aj=>by
  refine aJ i (zb N) h1 Po (by rw [wanted_put _ _ _ _ a3];exact hw) ((h w1 hb).mono ?_) (fun w=>by rw [execOp_put _ Jf _ _ _ a3];exact Re w)
  rintro e w' ⟨v,rfl,If,hx⟩;refine ⟨v,rfl,yf If (Nat.le_trans hN hb.size),?_⟩;have k3:=(hx hn h10 Xh).2 l[j] w' g Nd (Below.refl _ _) (hg.below If hg.lt) aj;rw [Array.setIfInBounds_comm _ _ h3,Act.put_comm a v _ a2] at k3;exact k3
 have A1:Ox P l Q (Yf N) i (rest.length+1+tail.length) Ca a w:=by
  refine pU h1 hw ((h w (Below.refl _ _)).mono ?_) Re;rintro e w' ⟨v,rfl,If,hx⟩;exact ⟨v,rfl,yf If hN,(hx hn h10 Xh).1⟩
 have A2:Ox P l Q (Yf N) j (rest.length+1+tail.length) Ca a w:=by
  refine ⟨h2,by simp [Region.wanted,gj],?_⟩
  unfold Oper.wp;rw [UB];have hb:Below w.heap.size w (w.alloc (.cells z t)):=(Below.refl _ w).alloc zR _;have:=done _ _ hb (Blk.new w t z) hN;rw [show rest.length+tail.length+1=rest.length+1+tail.length by omega] at this
  exact ⟨yf hb hN,this⟩
 refine ⟨?_,fun oj w1 g XB hb hg aj=>?_⟩
 ·rw [show (i :: rest).length+1+tail.length=rest.length+1+tail.length+1 by simp;omega]
  rcases ij with hr | hr | hr
  ·exact bJ i (zb N) hr A1
  ·exact dJ i j (zb N) hr A1 A2
  ·exact dJ j i (zb N) hr A2 A1
 ·have e:=Dl (h:=h2) XB
  subst e;have:=done w1 g hb hg aj
  rwa [show (i :: rest).length+tail.length=rest.length+tail.length+1 by simp;omega]
theorem Q6 (hN:N <= w.heap.size) (h:∀ (oj:Oper) (w1:World) (g:Nat),l[j]?=some oj -> Below w.heap.size w w1 -> Blk w1 g t z -> N <= g -> fm P l hs Q (Yf N) tail (Ca.setIfInBounds j true) (a.put oj.dst (.slice (some ⟨g,0,none⟩) 0 0)) w1):Bv P l hs tail Q N j t z [] Ca a w:=by
 intro hn Ta Xh;unfold NC at Ta;simp only [Bool.and_eq_true,decide_eq_true_eq,beq_iff_eq] at Ta;obtain ⟨⟨h2,hr⟩,hk⟩:=Ta;obtain ⟨oj,Nd,gj,UB⟩:=id Xh;have ej:=Dl (h:=h2) Nd;subst ej;refine ⟨?_,fun oj w1 g XB hb hg aj=>?_⟩
 ·rw [show ([]:List Nat).length+1+tail.length=tail.length+1 by simp;omega]
  refine bJ j (zb N) hr ⟨h2,by simp [Region.wanted,gj],?_⟩
  unfold Oper.wp;rw [UB];have hb:Below w.heap.size w (w.alloc (.cells z t)):=(Below.refl _ w).alloc zR _;exact ⟨yf hb hN,h _ _ _ Nd hb (Blk.new w t z) hN hn hk⟩
 ·rw [show ([]:List Nat).length+tail.length=tail.length by simp]
  exact h oj w1 g XB hb hg aj hn hk
end
end Go.Proofs.YtgeofabpinfcmaaGreat
