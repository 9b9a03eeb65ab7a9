/- A part of the proof. No condition. -/
import Derived.Deep.AppendLies
import Derived.Laws.OwnMore
import Derived.Test.YtjipleoamlmkfaaGreatProg
import Derived.Test.YtjipleoamlmkfaaGreatPG22

set_option maxRecDepth 100000
set_option maxHeartbeats 8000000
set_option linter.unusedVariables false
set_option linter.unusedSimpArgs false
namespace Go.Proofs.YtjipleoamlmkfaaGreat
open Go.RowKit
theorem LI (L:Va) (v0 v2 v3 v4:Value) (A:Option Addr) (n c:Nat) (l:List Nat) (w:World) (h0:slc v0) (h2:slc v2) (h3:slc v3) (h4:slc v4) (hl:RWd w [.slice A n c] l) (hn:n <= 60000) :
  Calls Tryz.prog 99 #[.agg (Ua L), .agg #[v0, .slice A n c,v2,v3,v4]] w fun e w'=>∃ v,e= .returned v /\ w'.ownsRow w.heap.size 22 1 v n (Ca l) /\ Below w.heap.size w w':=by
 have HV:=zH (fun w' (hb:Below w.heap.size w w')=>TL A n c l w' (ib hb hl) hn)
 obtain ⟨A0,n0,c0,rfl⟩:=h0;obtain ⟨A2,n2,c2,rfl⟩:=h2;obtain ⟨A3,n3,c3,rfl⟩:=h3;obtain ⟨A4,n4,c4,rfl⟩:=h4;clear hl;unfold Ua at *;obtain ⟨kl,kc,aa,-⟩:=ah w 68 43 #[.int .u64 L.p, .int .i64 L.block, .int .i64 L.queries, .int .i64 L.k, .int .i64 L.n, .int .i64 L.secret, .int .i64 L.rows, .int .i64 L.a, .int .i64 L.b, .int .i64 L.b, .int .i64 L.b] #[.slice A0 n0 c0, .slice A n c, .slice A2 n2 c2, .slice A3 n3 c3, .slice A4 n4 c4];go_enter Tryz.func99,Tryz.ntmps99
 go_wp2_with fail
 refine (HV.out _ aa).mono ?_;rintro e w1 ⟨v,rfl,ho,ya⟩;obtain ⟨A1,c1,rfl,-⟩:=Tb ho;go_wp2;go_ret
 exact ⟨_,rfl,mg ho aa.size,ja aa ya⟩
def iu (p b:Nat) (l:List Nat):Nat -> Nat
 | 0=>0
 | k+1=>(iu p b l k+xg p (l.getD ((k+1)*b-1) 0))%p
def Rk (L:Va) (l:List Nat):List Nat:=iu L.p L.block l (l.length / L.block) :: l
theorem NI (L:Va) (v0 v1 v3 v4:Value) (A:Option Addr) (n c:Nat) (l:List Nat) (w:World) (hL:Vc L) (h0:slc v0) (h1:slc v1) (h3:slc v3) (h4:slc v4) (hl:RWd w [.slice A n c] l) (hn:n <= 60000) :
  Calls Tryz.prog 100 #[.agg (Ua L), .agg #[v0,v1, .slice A n c,v3,v4]] w fun e w'=>∃ v,e= .returned v /\ w'.ownsRow w.heap.size 22 1 v (n+1) (Ca (Rk L l)) /\ Below w.heap.size w w':=by
 have hp:=hL.p;have ya:=hL.b1;have xa:=hL.b2;have HS:=zH (fun a b w=>LA L.p a b w hp)
 obtain ⟨rfl,Ec,lh,oa,za⟩:=zb hl;obtain ⟨A0,n0,c0,rfl⟩:=h0;obtain ⟨A1,n1,c1,rfl⟩:=h1;obtain ⟨A3,n3,c3,rfl⟩:=h3;obtain ⟨A4,n4,c4,rfl⟩:=h4;clear hl hL Ec lh hp;have gb:(L.block:Int) <= 256:=by omega
 have gb1:(2:Int) <= (L.block:Int):=by omega
 unfold Ua fv at *;obtain ⟨kl,kc,kf,aa,Ra⟩:=Bl w 68 43 175 #[.int .u64 L.p, .int .i64 L.block, .int .i64 L.queries, .int .i64 L.k, .int .i64 L.n, .int .i64 L.secret, .int .i64 L.rows, .int .i64 L.a, .int .i64 L.b, .int .i64 L.b, .int .i64 L.b] #[.slice A0 n0 c0, .slice A1 n1 c1, .slice A l.length c, .slice A3 n3 c3, .slice A4 n4 c4] #[.int .u64 L.p];go_enter Tryz.func100,Tryz.ntmps100
 go_upto_region 2 with fail
 generalize ((w.alloc _).alloc _).alloc _=w1 at kl kc kf aa Ra |-;have HZ:=zH Ra;clear Ra;have re:=za.below aa;have ph:=World.ownsRow_lit (base:=w1.heap.size) (e:=22) (size:=1) w1 #[.int .u64 0] 1 zR (by simp [maxLen]) rfl
 have ia:=(Below.refl w1.heap.size w1).alloc zR (.cells #[.int .u64 0] 22);have cc:=kc.cell;have lc:=kc.lt;go_upto_region 3 with (at_builtin;refine If rfl _ _ rfl Vi rfl ph rfl (re.below ia) (yg l) (by omega) (by simp) ?_;intro v' w2 ma Ha Ab)
 have hB:=mh ph Ha (by simp)
 replace hB:=ia.trans hB;clear ph Ha Ab ia re cc lc;replace kl:=ea kl hB;replace kf:=ea kf hB;replace aa:=ja aa hB;clear hB kc;obtain ⟨g,cap,rfl,Af,-⟩:=World.ownsRow.form ma (by omega)
 have Lk:w.heap.size+3 <= g:=by have:=HZ.out;omega
 have e0:(1+l.length)=l.length+1:=Nat.add_comm _ _;rw [e0] at ma |-;replace ma:w2.ownsRow w.heap.size 22 1 (.slice (some ⟨g,0,none⟩) (l.length+1) cap) (l.length+1) (Ca (0 :: l)):=mg ma (by have:=HZ.out;omega)
 obtain ⟨n,jg⟩:=zEX (l.length+1);rw [<- jg] at ma |-;have Lf:=zH jg;clear jg e0 Af HZ;have gn:(n:Int) <= 60001:=by have:=Lf.out;omega
 have cl:=kl.cell;go_wp2_with fail
 clear cl;go_loopw [7] (fun y wr=>∃ k i:Nat,y= .int .i64 i /\ Hid (i=(k+1)*L.block /\ k*L.block <= l.length) /\ i <= 61000 /\ 1 <= i /\ Blk wr w.heap.size 68 #[.int .u64 L.p, .int .i64 L.block, .int .i64 L.queries, .int .i64 L.k, .int .i64 L.n, .int .i64 L.secret, .int .i64 L.rows, .int .i64 L.a, .int .i64 L.b, .int .i64 L.b, .int .i64 L.b] /\ Blk wr (w.heap.size+1+1) 175 #[.int .u64 L.p] /\ wr.ownsRow w.heap.size 22 1 (.slice (some ⟨g,0,none⟩) n cap) n (Ca (iu L.p L.block l k :: l)) /\ Below w.heap.size w wr) (fun y _=>61000-(intOf y).toNat)
 case atStart=>exact ⟨0,L.block,rfl,⟨by omega,by omega⟩,by omega,by omega,kl,kf,ma,aa⟩
 case round =>
  clear kl kf ma aa;obtain ⟨k,i,rfl,HK,Di,gd,kl,kf,ma,aa⟩:=hrel;have q0:(0:Int)<(i:Int):=by omega
  have q9:(i:Int) <= 61000:=by omega
  by_cases Zq:i<n
  ·have q1:(i:Int)<(n:Int):=by omega
   have q2:(0:Int) <= (i:Int):=by omega
   have q3:(0:Int)<(n:Int):=by omega
   have q5:0<n:=by omega
   obtain ⟨x,hx⟩:=zEX (iu L.p L.block l k);obtain ⟨y,hy⟩:=zEX (l.getD (i-1) 0);obtain ⟨z,hz⟩:=zEX ((x+xg L.p y)%L.p);obtain ⟨t,ht⟩:=zEX (i+L.block);have e1:(i:Int)+(L.block:Int)=(t:Int):=by omega
   have e2:=zd t;have Xf:=zH (show (Ca (x :: l)).set 0 (.int .u64 z)=Ca (iu L.p L.block l (k+1) :: l) by
    rw [hz,hx,hy,HK.out.1];rfl)
   have HT:Hid (t=(k+1+1)*L.block /\ (k+1)*L.block <= l.length):=by
    have h:=HK.out;have h2:=Lf.out;have h3:(k+1+1)*L.block=(k+1)*L.block+L.block:=Nat.succ_mul _ _;exact ⟨by omega,by omega⟩
   have ht3:t <= 61000:=by have:=Lf.out;omega
   have ht4:1 <= t:=by omega
   have HC:=zH (fun w=>by have:=HS.out x y w;rw [<- hz] at this;exact this)
   rw [<- hx] at ma;have c0:wr.cell? ⟨g,0,none⟩=some (.int .u64 x):=by rw [ma.cellAt 0 (by omega)];rfl
   have ci:wr.cell? ⟨g,i,none⟩=some (.int .u64 y):=by
    rw [ma.cellAt i (by omega),jv (by simp;have:=Lf.out;omega)]
    have:(x :: l)[i]'(by simp;have:=Lf.out;omega)=y:=by
     rw [hy,List.getElem_cons,dif_neg (by omega),List.getD_eq_getElem?_getD,List.getElem?_eq_getElem (show i-1<l.length by have:=Lf.out;omega)]
     rfl
    rw [this]
   clear hx hy hz ht HK;have cf:=kf.cell;have lf:=kf.lt;have lg:g<wr.heap.size:=World.block_lt_of_cell? _ _ c0;go_upto_region 6 with fail
   refine xd (Bb) (pa) [11] [11] [0,1,2,3,4,5,6,7,8,9,10,11] (by kernel_rfl) (by kernel_rfl) ?_
   refine yd (pa) ?_;intro Wc da;refine Qb ?_;refine Jb (pa) rfl rfl rfl rfl (fun _ _ _ h=>h) (fun _=>by go_simp <;> rfl) (fun w' hR=>HC.out _) ?_
   simp only [Act.put,zLa,zLb,zLc];refine Qb ?_;refine Hf rfl rfl rfl rfl ?_;intro wh xb;replace da:=(pa).trans _ _ _ da xb;have rb:=ja (Below.refl wr.heap.size wr).drew da;replace kl:=ea kl rb;replace kf:=ea kf rb;replace ma:=db ma rb zR;replace aa:=ja aa rb;clear rb da xb cf lf lg c0 ci;have c2:wh.cell? ⟨g,0,none⟩=some (.int .u64 x):=by rw [ma.cellAt 0 (by omega)];rfl
   have f2:=ma.frozenAt;go_simp;refine ⟨fun h=>Bool.noConfusion h,?_⟩
   obtain ⟨Wj,hg⟩:=ma.stored 0 (.int .u64 z);rw [Xf.out] at Wj;replace kl:=Dc kl hg;replace kf:=Dc kf hg;replace aa:=yc aa hg;clear hg f2 c2 ma;generalize wh.setCell _ _=we at kl kf Wj aa |-;refine Uf rfl ?_;have cl:=kl.cell;go_wp2_with fail
   go_roundw
   case rel=>exact ⟨k+1,t,by go_num,HT.out,ht3,ht4,kl,kf,Wj,aa⟩
   case measure=>simp [intOf];omega
  ·have q1:¬((i:Int)<(n:Int)):=by omega
   have HE:=zH (show iu L.p L.block l k=iu L.p L.block l (l.length / L.block) by
    have h:=HK.out;have h2:=Lf.out;have:l.length / L.block=k:=by
     rw [Nat.div_eq_iff (by omega)]
     have h3:(k+1)*L.block=k*L.block+L.block:=Nat.succ_mul _ _;omega
    rw [this])
   go_wp2;go_ret
   rw [HE.out] at ma;exact ⟨_,rfl,by rw [<- Lf.out];exact ma,aa⟩
end Go.Proofs.YtjipleoamlmkfaaGreat
