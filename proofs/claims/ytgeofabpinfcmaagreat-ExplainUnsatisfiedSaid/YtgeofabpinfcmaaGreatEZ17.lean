/- A part of the proof. No condition. -/
import Derived.Test.YtgeofabpinfcmaaGreatProg
import Derived.Test.YtgeofabpinfcmaaGreatEZ14
import Derived.Test.YtgeofabpinfcmaaGreatEZ16
import Derived.Deep.AppendLies
import Derived.Laws.OwnMore

set_option maxRecDepth 100000
set_option maxHeartbeats 8000000
set_option linter.unusedVariables false
set_option linter.unusedSimpArgs false
namespace Go.Proofs.YtgeofabpinfcmaaGreat
open Go.RowKit
def tq (L:Ja) (msg masks:List Nat):List Nat:=Te (Pe L.p ((List.range msg.length).map (Lm L.p msg 1)) (Be L.p (De L.p L.block) masks)) L.k
def Gg (L:Ja) (q:List Nat):List Nat:=Te (Be L.p (De L.p L.block) q) (2*L.k-1)
theorem Ut (p b:Nat):(De p b).length=b+1:=by simp [De]
theorem lL {p:Nat} (hp:0<p) (l:List Nat) (s i:Nat):Lm p l s i<p:=Nat.mod_lt _ hp
theorem QZ (L:Ja) (v0 v1 v2 v4:Value) (B:Option Addr) (m d:Nat) (q:List Nat) (w:World) (hL:Db L) (g0:slc v0) (g1:slc v1) (g2:slc v2) (g4:slc v4) (hk:RWd w [.slice B m d] q) (hm:m <= 30000) :
  Calls Tryz.prog 125 #[.agg (Ya L), .agg #[v0,v1,v2, .slice B m d,v4]] w fun e w'=>∃ v,e= .returned v /\ RWd w' [v] (Gg L q) /\ Below w.heap.size w w':=by
 obtain ⟨jc,Kb⟩:=Va hL.p;have Ka:=hL.b2;have Ld:L.k <= 400:=by have:=hL.k;have:=hL.q2;omega
 have Ih:2 <= L.k:=by have:=hL.k;have:=hL.b1;omega
 have Ud:=(Ra hk).1;obtain ⟨A0,n0,c0,rfl⟩:=g0;obtain ⟨A1,n1,c1,rfl⟩:=g1;obtain ⟨A2,n2,c2,rfl⟩:=g2;obtain ⟨A4,n4,c4,rfl⟩:=g4;obtain ⟨t,ht⟩:=zEX (2*L.k-1);obtain ⟨u,hu⟩:=zEX (2*L.k);have HZ:=zH (fun w=>sI L w hL)
 have HM:=zH (fun A n c w' (hb:Below w.heap.size w w') ha hn=>WC L.p A B n c m d (De L.p L.block) q w' hL.p ha (ta hb hk) hn (by omega))
 have HP:=zH (fun A n c l w hl hn=>PZ A n c t l w hl hn (by omega))
 have HR:=zH (show Gg L q=Te (Be L.p (De L.p L.block) q) t by rw [Gg,ht])
 rw [HR.out];have h1:=zH (show (Be L.p (De L.p L.block) q).length <= 40000 by have:=Dr L.p (De L.p L.block) q;rw [Ut] at this;omega)
 have h3:=zH (Ut L.p L.block);have h4:L.block <= 256:=Ka;have e1:(2:Int)*(L.k:Int)=(u:Int):=by omega
 have e2:=Yb u;have e3:(u:Int)-1=(t:Int):=by omega
 have e4:=Yb t;generalize Be L.p (De L.p L.block) q=M at *;clear HR hL hk Ud jc Kb Ld Ih Ka hm ht hu;unfold Ya at *;obtain ⟨kl,kc,da,-⟩:=Ue w 39 42 #[.int .u64 L.p, .int .i64 L.block, .int .i64 L.queries, .int .i64 L.k, .int .i64 L.n, .int .i64 L.secret, .int .i64 L.rows, .int .i64 L.a, .int .i64 L.b, .int .i64 L.b, .int .i64 L.b] #[.slice A0 n0 c0, .slice A1 n1 c1, .slice A2 n2 c2, .slice B m d, .slice A4 n4 c4];go_enter Tryz.func125,Tryz.ntmps125
 go_upto_region 1 with fail
 generalize (w.alloc _).alloc _=w2 at kl kc da |-;have cl:=kl.cell;have ll:=kl.lt;have cc:=kc.cell;have lc:=kc.lt;refine Rc (Ib) [3,6,11] [0,1,2,4,5,7,8,9,10,3,6,11,12] (by kernel_rfl) (by kernel_rfl) ?_
 refine vd (xa) ?_;intro Wc Na ja;have ya:=Cc Na;replace da:=oa da ya;refine pb ?_;refine Mb (xa) rfl rfl rfl (fun _=>by go_simp <;> rfl) ((HZ.out _).mono ?_)
 rintro e w3 ⟨v3,rfl,hZ,ib⟩;refine ⟨_,rfl,ib,?_⟩;replace ja:=(xa).trans _ _ _ ja (ib);simp only [Act.put,zLa,zLb,zLc];replace da:=oa da ib;obtain ⟨A3,c3,rfl⟩:=Le hZ;refine pb ?_;refine Mb (xa) rfl rfl rfl (fun _=>by go_simp <;> rfl) ((HM.out _ _ _ _ da hZ (by rw [h3.out];omega)).mono ?_)
 rintro e w4 ⟨v4,rfl,hM,Fb⟩;refine ⟨_,rfl,Fb,?_⟩;replace ja:=(xa).trans _ _ _ ja (Fb);simp only [Act.put,zLa,zLb,zLc];replace da:=oa da Fb;obtain ⟨A5,c5,rfl⟩:=Le hM;refine pb ?_;refine Mb (xa) rfl rfl rfl (fun _=>by go_simp <;> rfl) ((HP.out _ _ _ _ _ hM (by have:=h1.out;omega)).mono ?_)
 rintro e w6 ⟨v6,rfl,hP,Zb⟩;refine ⟨_,rfl,Zb,?_⟩;replace ja:=(xa).trans _ _ _ ja (Zb);simp only [Act.put,zLa,zLb,zLc];replace da:=oa da Zb;refine pb ?_;refine Fc ?_;go_wp2;go_ret
 exact ⟨_,rfl,hP,da⟩
theorem aS (L:Ja) (v0 v1 v2 v3 v4:Value) (w:World) (g0:slc v0) (g1:slc v1) (g2:slc v2) (g3:slc v3) (g4:slc v4) :
  Calls Tryz.prog 123 #[.agg (Ya L), .agg #[v0,v1,v2,v3,v4]] w fun e w'=>e= .returned v1 /\ Below w.heap.size w w':=by
 obtain ⟨A0,n0,c0,rfl⟩:=g0;obtain ⟨A1,n1,c1,rfl⟩:=g1;obtain ⟨A2,n2,c2,rfl⟩:=g2;obtain ⟨A3,n3,c3,rfl⟩:=g3;obtain ⟨A4,n4,c4,rfl⟩:=g4;unfold Ya at *;obtain ⟨kl,kc,da,-⟩:=Ue w 39 42 #[.int .u64 L.p, .int .i64 L.block, .int .i64 L.queries, .int .i64 L.k, .int .i64 L.n, .int .i64 L.secret, .int .i64 L.rows, .int .i64 L.a, .int .i64 L.b, .int .i64 L.b, .int .i64 L.b] #[.slice A0 n0 c0, .slice A1 n1 c1, .slice A2 n2 c2, .slice A3 n3 c3, .slice A4 n4 c4];go_enter Tryz.func123,Tryz.ntmps123
 go_upto_region 1 with fail
 generalize (w.alloc _).alloc _=w2 at kl kc da |-;have cc:=kc.cell;have lc:=kc.lt;go_wp2;go_ret
 exact ⟨rfl,da⟩
theorem lS (L:Ja) (w:World) (hL:Db L) :
  Calls Tryz.prog 93 #[.agg (Ya L)] w fun e w'=>∃ v1 v2,e= .returned (.tuple #[v1,v2]) /\ RWd w' [v1] ((List.range L.block).map (Vb L.p 1 L.block)) /\ RWd w' [v2] ((List.range L.n).map (Vb L.p (tb L.p).1 L.n)) /\ Below w.heap.size w w':=by
 obtain ⟨jc,Kb⟩:=Va hL.p;obtain ⟨hlen,-⟩:=Uk hL;obtain ⟨SP,-⟩:=nx hL;have xk:=CP hL.p;have H1:=zH (fun w=>jI L.p 1 L.block w hL.p hlen (by rw [Nat.mod_eq_of_lt (by omega)];decide))
 have H2:=zH (fun w=>jI L.p (tb L.p).1 L.n w hL.p SP (vK hL.p))
 have HG:=zH (fun w=>eS L.p w hL.p)
 have Bh:=zH (show ∀ s n,∀ x∈(List.range n).map (Vb L.p s n),x<18446744073709551616 from fun s n x hx=>by
  obtain ⟨i,-,rfl⟩:=List.mem_map.1 hx;exact Nat.lt_trans (SW (by omega) (Nat.mod_lt _ (by omega)) i) Kb)
 generalize (tb L.p).1=gn at *;clear hL jc Kb hlen SP xk;unfold Ya at *;have kl:=Blk.new w 39 #[.int .u64 L.p, .int .i64 L.block, .int .i64 L.queries, .int .i64 L.k, .int .i64 L.n, .int .i64 L.secret, .int .i64 L.rows, .int .i64 L.a, .int .i64 L.b, .int .i64 L.b, .int .i64 L.b];have da:Below w.heap.size w (w.alloc (.cells #[.int .u64 L.p, .int .i64 L.block, .int .i64 L.queries, .int .i64 L.k, .int .i64 L.n, .int .i64 L.secret, .int .i64 L.rows, .int .i64 L.a, .int .i64 L.b, .int .i64 L.b, .int .i64 L.b] 39)):=(Below.refl _ _).alloc zR _;go_enter Tryz.func93,Tryz.ntmps93
 go_wp2_with fail
 generalize w.alloc _=w1 at kl da |-;refine (H1.out _).mono ?_;rintro e w2 ⟨v1,rfl,ra,ea⟩;replace kl:=ia kl ea;replace da:=oa da ea;clear ea;obtain ⟨A1,c1,rfl,-⟩:=Ob ra;have hI:=qf ra (Bh.out _ _);clear ra;have cl:=kl.cell;have ll:=kl.lt;go_upto_region 2 with fail
 refine Rc (Ib) [4,7] [0,1,2,3,5,6,4,7,8,9,10,11,12] (by kernel_rfl) (by kernel_rfl) ?_
 refine vd (xa) ?_;intro Wc Na ja;have ya:=Cc Na;replace da:=oa da ya;replace hI:=ta ya hI;refine pb ?_;refine Mb (xa) rfl rfl rfl (fun _=>by go_simp <;> rfl) ((HG.out _).mono ?_)
 rintro e w3 ⟨rfl,ib⟩;refine ⟨_,rfl,ib,?_⟩;replace ja:=(xa).trans _ _ _ ja (ib);simp only [Act.put,zLa,zLb,zLc];replace da:=oa da ib;replace hI:=ta ib hI;refine pb ?_;refine Mb (xa) rfl rfl rfl (fun _=>by go_simp <;> rfl) ((H2.out _).mono ?_)
 rintro e w4 ⟨v4,rfl,ra,Fb⟩;refine ⟨_,rfl,Fb,?_⟩;replace ja:=(xa).trans _ _ _ ja (Fb);simp only [Act.put,zLa,zLb,zLc];replace da:=oa da Fb;replace hI:=ta Fb hI;obtain ⟨A4,c4,rfl,-⟩:=Ob ra;have hM:=qf ra (Bh.out _ _);clear ra;refine pb ?_;refine Fc ?_;go_wp2
 go_ret2
 exact ⟨_,_,rfl,hI,hM,da⟩
theorem gS (L:Ja) (v0 v1 v3 v4:Value) (A:Option Addr) (n c:Nat) (l:List Nat) (w:World) (hL:Db L) (h0:slc v0) (h1:slc v1) (h3:slc v3) (h4:slc v4) (hl:RWd w [.slice A n c] l) (hn:n <= 60000) :
  Calls Tryz.prog 124 #[.agg (Ya L), .agg #[v0,v1, .slice A n c,v3,v4]] w fun e w'=>∃ v,e= .returned v /\ w'.ownsRow w.heap.size 22 1 v (n+1) (Fa (Bd L l)) /\ Below w.heap.size w w':=by
 have hp:=hL.p;have Ga:=hL.b1;have Ka:=hL.b2;have HS:=zH (fun a b w=>BM L.p a b w hp)
 obtain ⟨rfl,Oc,ye,za,La⟩:=Ra hl;obtain ⟨A0,n0,c0,rfl⟩:=h0;obtain ⟨A1,n1,c1,rfl⟩:=h1;obtain ⟨A3,n3,c3,rfl⟩:=h3;obtain ⟨A4,n4,c4,rfl⟩:=h4;clear hl hL Oc ye hp;have gb:(L.block:Int) <= 256:=by omega
 have gb1:(2:Int) <= (L.block:Int):=by omega
 unfold Ya at *;obtain ⟨kl,kc,da,Nb⟩:=Ue w 39 42 #[.int .u64 L.p, .int .i64 L.block, .int .i64 L.queries, .int .i64 L.k, .int .i64 L.n, .int .i64 L.secret, .int .i64 L.rows, .int .i64 L.a, .int .i64 L.b, .int .i64 L.b, .int .i64 L.b] #[.slice A0 n0 c0, .slice A1 n1 c1, .slice A l.length c, .slice A3 n3 c3, .slice A4 n4 c4];go_enter Tryz.func124,Tryz.ntmps124
 go_upto_region 1 with fail
 generalize (w.alloc _).alloc _=w1 at kl kc da Nb |-;have HZ:=zH Nb;clear Nb;have Qe:=La.below da;have Ck:=World.ownsRow_lit (base:=w1.heap.size) (e:=22) (size:=1) w1 #[.int .u64 0] 1 zR (by simp [maxLen]) rfl
 have ma:=(Below.refl w1.heap.size w1).alloc zR (.cells #[.int .u64 0] 22);have cc:=kc.cell;have lc:=kc.lt;go_upto_region 2 with (at_builtin;refine Mf rfl _ _ rfl xf rfl Ck rfl (Qe.below ma) (mg l) (by omega) (by simp) ?_;intro v' w2 ra Ma Lb)
 have hB:=Ae Ck Ma (by simp)
 replace hB:=ma.trans hB;clear Ck Ma Lb ma Qe cc lc;replace kl:=ia kl hB;replace da:=oa da hB;clear hB kc;obtain ⟨g,cap,rfl,Af,-⟩:=World.ownsRow.form ra (by omega)
 have Ok:w.heap.size+2 <= g:=by have:=HZ.out;omega
 have e0:(1+l.length)=l.length+1:=Nat.add_comm _ _;rw [e0] at ra |-;replace ra:w2.ownsRow w.heap.size 22 1 (.slice (some ⟨g,0,none⟩) (l.length+1) cap) (l.length+1) (Fa (0 :: l)):=Pf ra (by have:=HZ.out;omega)
 obtain ⟨n,Pw⟩:=zEX (l.length+1);rw [<- Pw] at ra |-;have Sh:=zH Pw;clear Pw e0 Af HZ;have gn:(n:Int) <= 60001:=by have:=Sh.out;omega
 have cl:=kl.cell;go_wp2_with fail
 clear cl;go_loopw [6] (fun y wr=>∃ k i:Nat,y= .int .i64 i /\ Hid (i=(k+1)*L.block /\ k*L.block <= l.length) /\ i <= 61000 /\ 1 <= i /\ Blk wr w.heap.size 39 #[.int .u64 L.p, .int .i64 L.block, .int .i64 L.queries, .int .i64 L.k, .int .i64 L.n, .int .i64 L.secret, .int .i64 L.rows, .int .i64 L.a, .int .i64 L.b, .int .i64 L.b, .int .i64 L.b] /\ wr.ownsRow w.heap.size 22 1 (.slice (some ⟨g,0,none⟩) n cap) n (Fa (Ol L.p L.block l k :: l)) /\ Below w.heap.size w wr) (fun y _=>61000-(intOf y).toNat)
 case atStart=>exact ⟨0,L.block,rfl,⟨by omega,by omega⟩,by omega,by omega,kl,ra,da⟩
 case round =>
  clear kl ra da;obtain ⟨k,i,rfl,HK,Io,Yg,kl,ra,da⟩:=hrel;have q0:(0:Int)<(i:Int):=by omega
  have q9:(i:Int) <= 61000:=by omega
  by_cases Tp:i<n
  ·have q1:(i:Int)<(n:Int):=by omega
   have q2:(0:Int) <= (i:Int):=by omega
   have q3:(0:Int)<(n:Int):=by omega
   have q5:0<n:=by omega
   obtain ⟨x,hx⟩:=zEX (Ol L.p L.block l k);obtain ⟨y,hy⟩:=zEX (l.getD (i-1) 0);obtain ⟨z,hz⟩:=zEX ((x+oc L.p y)%L.p);obtain ⟨t,ht⟩:=zEX (i+L.block);have e1:(i:Int)+(L.block:Int)=(t:Int):=by omega
   have e2:=Yb t;have Xc:=zH (show (Fa (x :: l)).set 0 (.int .u64 z)=Fa (Ol L.p L.block l (k+1) :: l) by
    rw [hz,hx,hy,HK.out.1];rfl)
   have HT:Hid (t=(k+1+1)*L.block /\ (k+1)*L.block <= l.length):=by
    have h:=HK.out;have h2:=Sh.out;have h3:(k+1+1)*L.block=(k+1)*L.block+L.block:=Nat.succ_mul _ _;exact ⟨by omega,by omega⟩
   have ht3:t <= 61000:=by have:=Sh.out;omega
   have ht4:1 <= t:=by omega
   have HC:=zH (fun w=>by have:=HS.out x y w;rw [<- hz] at this;exact this)
   rw [<- hx] at ra;have c0:wr.cell? ⟨g,0,none⟩=some (.int .u64 x):=by rw [ra.cellAt 0 (by omega)];rfl
   have ci:wr.cell? ⟨g,i,none⟩=some (.int .u64 y):=by
    rw [ra.cellAt i (by omega),FA (by simp;have:=Sh.out;omega)]
    have:(x :: l)[i]'(by simp;have:=Sh.out;omega)=y:=by
     rw [hy,List.getElem_cons,dif_neg (by omega),List.getD_eq_getElem?_getD,List.getElem?_eq_getElem (show i-1<l.length by have:=Sh.out;omega)]
     rfl
    rw [this]
   clear hx hy hz ht HK;have cf:=kl.cell;have lf:=kl.lt;have lg:g<wr.heap.size:=World.block_lt_of_cell? _ _ c0;go_upto_region 5 with fail
   refine Hd (Ib) (xa) [12] [12] [0,1,2,3,4,5,6,7,8,9,10,11,12] (by kernel_rfl) (by kernel_rfl) ?_
   refine Jd (xa) ?_;intro Wc ja;refine Sc ?_;refine vc (xa) rfl rfl rfl rfl (fun _ _ _ h=>h) (fun _=>by go_simp <;> rfl) (fun w' hR=>HC.out _) ?_
   simp only [Act.put,zLa,zLb,zLc];refine Sc ?_;refine Ph rfl rfl rfl rfl ?_;intro wh tc;replace ja:=(xa).trans _ _ _ ja tc;have Za:=oa (Below.refl wr.heap.size wr).drew ja;replace kl:=ia kl Za;replace ra:=Oa ra Za zR;replace da:=oa da Za;clear Za ja tc cf lf lg c0 ci;have c2:wh.cell? ⟨g,0,none⟩=some (.int .u64 x):=by rw [ra.cellAt 0 (by omega)];rfl
   have f2:=ra.frozenAt;go_simp;refine ⟨fun h=>Bool.noConfusion h,?_⟩
   obtain ⟨sc,hg⟩:=ra.stored 0 (.int .u64 z);rw [Xc.out] at sc;replace kl:=xc kl hg;replace da:=Pb da hg;clear hg f2 c2 ra;generalize wh.setCell _ _=we at kl sc da |-;refine Oh rfl ?_;have cl:=kl.cell;go_wp2_with fail
   go_roundw
   case rel=>exact ⟨k+1,t,by go_num,HT.out,ht3,ht4,kl,sc,da⟩
   case measure=>simp [intOf];omega
  ·have q1:¬((i:Int)<(n:Int)):=by omega
   have HE:=zH (show Ol L.p L.block l k=Ol L.p L.block l (l.length / L.block) by
    have h:=HK.out;have h2:=Sh.out;have:l.length / L.block=k:=by
     rw [Nat.div_eq_iff (by omega)]
     have h3:(k+1)*L.block=k*L.block+L.block:=Nat.succ_mul _ _;omega
    rw [this])
   go_wp2;go_ret
   rw [HE.out] at ra;exact ⟨_,rfl,by rw [<- Sh.out];exact ra,da⟩
def Zc {α:Type} (a b c d:α) (i:Nat):α:=if i=0 then a else if i=1 then b else if i=2 then c else d
theorem SM {α:Type} (a b c d:α) {i:Nat} (h:i<4):(#[a,b,c,d]:Array α)[i]?=some (Zc a b c d i):=by
 rcases (show i=0 \/ i=1 \/ i=2 \/ i=3 by omega) with rfl | rfl | rfl | rfl <;> rfl
theorem tX (L:Ja) {i:Nat} (h:i<4):(#[.int .u64 L.p, .int .i64 L.block, .int .i64 L.queries, .int .i64 L.k, .int .i64 L.n, .int .i64 L.secret, .int .i64 L.rows, .int .i64 L.a, .int .i64 L.b, .int .i64 L.b, .int .i64 L.b]:Array Value)[7+i]?=some (.int .i64 ((Zc L.a L.b L.b L.b i:Nat):Int)):=by
 rcases (show i=0 \/ i=1 \/ i=2 \/ i=3 by omega) with rfl | rfl | rfl | rfl <;> rfl
def Al (B:Nat) (v:List Nat) (k:Nat):List Nat:=(List.range B).map fun j=>v.getD (k*B+j) 0
def ak (B:Nat) (v:List Nat) (n:Nat):List (List Nat):=(List.range n).map (Al B v)
def Vh (B:Nat) (l:Nat -> List Nat) (ps:Nat -> Nat) (i:Nat):List (List Nat):=(List.range i).flatMap fun i=>ak B (l i) (ps i)
def sj (B:Nat) (l:Nat -> List Nat) (ps:Nat -> Nat):List (List Nat):=Vh B l ps 4
theorem DD (B:Nat) (l:Nat -> List Nat) (ps:Nat -> Nat) (i:Nat):Vh B l ps (i+1)=Vh B l ps i++ak B (l i) (ps i):=by
 rw [Vh,List.range_succ,List.flatMap_append];simp [Vh]
theorem MO (B:Nat) (v:List Nat) (k:Nat):ak B v (k+1)=ak B v k++[Al B v k]:=by simp [ak,List.range_succ]
theorem QT {n j:Nat} {F:Nat -> Nat} (h:∀ i,j <= i -> i<n -> F i=0):Ha n (He F (fun _=>0) j)=Ha n F:=pk fun i hi=>by
 unfold He;split
 ·rfl
 ·exact (h i (by omega) hi).symm
theorem yK {M N:Nat} {w:World} {v:Value} {cs:List Value} {l:List (List Nat)} (h:Rf N w v cs l) (hN:M <= N):Rf M w v cs l :=
 ⟨h.1,fun i h1 h2 u hu=>h.2 i h1 h2 u fun b b1 b2 b3=>hu b (by omega) b2 b3⟩
theorem bS (L:Ja) (v0 v1 v2 v3:Value) (l0 l1 l2 l3:List Nat) (w:World) (hL:Db L) (hv:∀ i,i<4 -> RWd w [Zc v0 v1 v2 v3 i] (Zc l0 l1 l2 l3 i)) :
  Calls Tryz.prog 121 #[.agg (Ya L), .agg #[v0,v1,v2,v3]] w fun e w'=>∃ n v cs,e= .returned v /\ w'.ownsRow w.heap.size 28 1 v n cs /\ Rf w.heap.size w' v cs (sj L.block (Zc l0 l1 l2 l3) (Zc L.a L.b L.b L.b)) /\ Below w.heap.size w w':=by
 have Ga:=hL.b1;have Ka:=hL.b2;have Xj:=zH (show ∀ i,Zc L.a L.b L.b L.b i <= 100000 from fun i=>by
  have:=hL.a;have:=hL.b;unfold Zc
  repeat' split
  all_goals omega)
 have HLP:=zH (fun i (h:i<4)=>tX L h)
 have HV:=zH hv;have HG:=zH (fun i (h:i<4)=>SM v0 v1 v2 v3 h)
 obtain ⟨l,hl⟩:=zEX (Zc l0 l1 l2 l3);obtain ⟨ps,Kj⟩:=zEX (Zc L.a L.b L.b L.b);have Yn:=zH (show sj L.block (Zc l0 l1 l2 l3) (Zc L.a L.b L.b L.b)=Vh L.block l ps 4 by rw [hl,Kj];rfl)
 rw [Yn.out];rw [<- hl] at HV;rw [<- Kj] at Xj HLP;have Xi:=zH (show Vh L.block l ps 0=[] from rfl)
 have ey:=zH (DD L.block l ps);have mk:=mj L.block (by omega)
 clear hv hl Kj Yn hL;unfold Ya at *;obtain ⟨kl,kv,da,Nb⟩:=Ue w 39 201 #[.int .u64 L.p, .int .i64 L.block, .int .i64 L.queries, .int .i64 L.k, .int .i64 L.n, .int .i64 L.secret, .int .i64 L.rows, .int .i64 L.a, .int .i64 L.b, .int .i64 L.b, .int .i64 L.b] #[v0,v1,v2,v3];go_enter Tryz.func121,Tryz.ntmps121
 go_upto_region 1 with fail
 generalize (w.alloc _).alloc _=w1 at kl kv da Nb |-;obtain ⟨N,hN⟩:=zEX (w1.heap.size);have HWN:=zH (show w.heap.size <= N by omega)
 have Fh:w.heap.size+1<N:=by omega
 have ve:N <= w1.heap.size:=by omega
 clear Nb hN;obtain ⟨LC,Ly⟩:∃ LC:Array Value,LC=#[.int .u64 L.p, .int .i64 L.block, .int .i64 L.queries, .int .i64 L.k, .int .i64 L.n, .int .i64 L.secret, .int .i64 L.rows, .int .i64 L.a, .int .i64 L.b, .int .i64 L.b, .int .i64 L.b]:=⟨_,rfl⟩;have Bh:=zH (show LC[1]?=some (.int .i64 L.block) by rw [Ly];rfl)
 have HL7:=zH (show ∀ i,i<4 -> LC[7+i]?=some (.int .i64 (ps i:Int)) from fun i h=>by rw [Ly];exact HLP.out i h)
 rw [<- Ly] at kl;clear Ly HLP;obtain ⟨VC,hVC⟩:∃ VC:Array Value,VC=#[v0,v1,v2,v3]:=⟨_,rfl⟩;have HVC:=zH (show ∀ i,i<4 -> VC[i]?=some (Zc v0 v1 v2 v3 i) from fun i h=>by rw [hVC];exact HG.out i h)
 rw [<- hVC] at kv;clear hVC HG;generalize hBL:L.block=B at *;have Xt:=zH hBL;clear hBL;have g1:(0:Int)<(B:Int):=by omega
 have g2:(B:Int) <= 256:=by omega
 go_wp2_with fail
 go_loopw [5,6] (fun u y wr=>∃ (i n:Nat) (v:Value) (cs:List Value),v=u /\ i <= 4 /\ y= .int .i64 i /\ n <= i*100000 /\ Blk wr w.heap.size 39 LC /\ Blk wr (w.heap.size+1) 201 VC /\ wr.ownsRow N 28 1 v n cs /\ Rf N wr v cs (Vh B l ps i) /\ Below w.heap.size w wr /\ N <= wr.heap.size) (fun _ y _=>4-(intOf y).toNat)
 case atStart=>exact ⟨0,0,_,[],rfl,by omega,rfl,by omega,kl,kv,⟨rfl, .inl ⟨rfl,rfl⟩⟩,by rw [Xi.out];exact Ns _ _ _,da,ve⟩
 case round =>
  clear kl kv da ve;obtain ⟨i,n0,v,cs,rfl,hi,rfl,Gn,kl,kv,ra,Da,da,ve⟩:=hrel;by_cases za:i<4
  ·have q1:(i:Int)<4:=by omega
   have dq:=HV.out i za;have Kj:=Xj.out i;obtain ⟨p,hp⟩:=zEX (ps i);have HL7i:=zH (HL7.out i za);have EJ:=zH (HVC.out i za);have Ov:=zH (ey.out i);obtain ⟨li,Ko⟩:=zEX (l i);obtain ⟨si,Xw⟩:=zEX (Zc v0 v1 v2 v3 i);rw [<- Xw] at dq EJ;rw [<- Ko] at dq Ov;rw [<- hp] at Kj HL7i Ov;clear hp Ko Xw;obtain ⟨Ai,ci,rfl⟩:=Le dq;obtain ⟨-,Oc,ye,hltl,-⟩:=Ra dq;have gli:=Kf Oc ye;obtain ⟨P0,hP0⟩:=zEX (Vh B l ps i);rw [<- hP0] at Da Ov;have Zm:=zH (show P0++ak B li 0=P0 by simp [ak])
   have Yr:=zH (show ∀ k,(P0++ak B li k)++[Al B li k]=P0++ak B li (k+1) from fun k=>by rw [MO,List.append_assoc])
   have HVI:=zH dq;have uJ:=zH hltl;have HX:=zH ye;clear hP0 dq hltl Oc ye;go_wp2_with fail
   go_loopw [5,7] (fun u y wr=>∃ (k n:Nat) (v:Value) (cs:List Value),v=u /\ k <= p /\ y= .int .i64 k /\ n <= i*100000+k /\ Blk wr w.heap.size 39 LC /\ Blk wr (w.heap.size+1) 201 VC /\ wr.ownsRow N 28 1 v n cs /\ Rf N wr v cs (P0++ak B li k) /\ Below w.heap.size w wr /\ N <= wr.heap.size) (fun _ y _=>p-(intOf y).toNat)
   case atStart=>exact ⟨0,n0,_,cs,rfl,Nat.zero_le _,rfl,by rw [Nat.add_zero];exact Gn,kl,kv,ra,by rw [Zm.out];exact Da,da,ve⟩
   case round =>
    clear kl kv da ve ra Da Gn;obtain ⟨k,n1,v,cs,rfl,hk,rfl,Md,kl,kv,ra,Da,da,ve⟩:=hrel;have c7:=kl.cell (7+i);rw [HL7i.out] at c7;have c1:=kl.cell 1;rw [Bh.out] at c1;by_cases hltk:k<p
    ·have q2:(k:Int)<(p:Int):=by omega
     obtain ⟨wo,Ln⟩:=zEX (wr);subst Ln;have FG:=zH (Yr.out k);go_wp2_with fail
     have kg:=Blk.new wo 22 (Ha B fun _=>0)
     have Sd:=(Below.refl wo.heap.size wo).alloc zR (.cells (Ha B fun _=>0) 22)
     have Rb:∀ q,v.ownBlock=some q -> q<wo.heap.size:=fun q e=>(ra.lt q e).2
     have Dm:N <= wo.heap.size:=ve;clear c7 c1;generalize wo.alloc _=w2 at kg Sd |-;obtain ⟨F,hF⟩:∃ F:Nat -> Nat,F=fun j=>li.getD (k*B+j) 0:=⟨_,rfl⟩
     have HF:=zH (show ∀ j,F j=li.getD (k*B+j) 0 from fun j=>by rw [hF])
     have Gv:=zH (show (List.range B).map F=Al B li k by rw [hF];rfl)
     obtain ⟨kb,hkb⟩:=zEX (k*B);rw [<- hkb] at HF;have hkb2:kb <= 100000*256:=by rw [hkb];exact Nat.mul_le_mul (by omega) Ka
     have ek:(k:Int)*(B:Int)=(kb:Int):=by rw [hkb];exact (Int.natCast_mul _ _).symm
     have VA:=Yb kb;have H0:=zH (Cq B F fun _=>0)
     have Wx:=zH (show ∀ j,F j<18446744073709551616 from fun j=>by
      rw [HF.out,List.getD_eq_getElem?_getD];cases h:li[kb+j]? with
      | none=>decide
      | some x=>exact uJ.out x (List.mem_of_getElem? h))
     clear hF hkb;go_loopw [9] (fun y wr=>∃ j:Nat,j <= B /\ y= .int .i64 j /\ Blk wr wo.heap.size 22 (Ha B (He F (fun _=>0) j)) /\ Below wo.heap.size wo wr) (fun y _=>B-(intOf y).toNat)
     case atStart=>exact ⟨0,by omega,rfl,by rw [H0.out];exact kg,Sd⟩
     case round =>
      clear kg Sd;obtain ⟨j,hj,rfl,kg,Sd⟩:=hrel;obtain ⟨t,ht⟩:=zEX (kb+j);have et:(kb:Int)+(j:Int)=(t:Int):=by omega
      have et2:=Yb t;have HT:=zH ht;have c1:=(ia kl Sd).cell 1;rw [Bh.out] at c1;have ci:=(ia kv Sd).cell i;rw [EJ.out] at ci;have lk:=(ia kl Sd).lt;have lv:=(ia kv Sd).lt;have lg:=kg.lt;have q9:(0:Int) <= (j:Int):=by omega
      have q8:(0:Int) <= (i:Int):=by omega
      clear ht;by_cases hj1:j<B
      ·have q3:(j:Int)<(B:Int):=by omega
       have d3:decide ((j:Int)<(B:Int))=true:=decide_eq_true q3;by_cases yk:t<li.length
       ·have q4:(t:Int)<(li.length:Int):=by omega
        have q5:(0:Int) <= (t:Int):=by omega
        have d4:decide ((t:Int)<(li.length:Int))=true:=decide_eq_true q4;have Qa:=oa da Sd;obtain ⟨b,q,rfl,Wb,hc⟩:=Vd ((Ra HVI.out).2.2.2.2.below Qa) yk;have HZ:=zH (show li.getD t 0=F j by rw [HF.out,HT.out])
        rw [HZ.out] at hc;obtain ⟨z,hz⟩:=zEX (F j);have Xc:=zH (Sn (n:=B) (G:=fun _=>0) hz)
        rw [<- hz] at hc;clear hz HZ Qa;go_upto_region 10 with fail
        refine Rc (Ib) [] [0,1,2,3,4,5,6,7,8,9,10,11,12,13,14,15,16] (by kernel_rfl) (by kernel_rfl) ?_
        refine vd (xa) ?_;intro Wc Na ja;have ya:=Cc Na;refine pb ?_;refine Fc ?_;replace kg:=ia kg ya;replace Sd:=oa Sd ya;have Hl:=(ya.cell (p:=⟨b,q+t,none⟩) Wb).trans hc;replace Wb:=Nat.lt_of_lt_of_le Wb ya.size;clear c1 ci lk lv lg ja hc;generalize Wc=w3 at kg Sd Hl Wb |-;have c1:=(ia kl Sd).cell 1;rw [Bh.out] at c1;have ci:=(ia kv Sd).cell i;rw [EJ.out] at ci;have lk:=(ia kl Sd).lt;have lv:=(ia kv Sd).lt;have lg:=kg.lt;have cg:=kg.cell j;rw [Zl _ _ hj1] at cg;go_upto_region 12 with fail
        refine Hd (Ib) (xa) [14] [14] [0,1,2,3,4,5,6,7,8,9,10,11,12,13,14] (by kernel_rfl) (by kernel_rfl) ?_
        refine Jd (xa) ?_;intro Wc ja;refine Sc ?_;refine Ph rfl rfl rfl rfl ?_;intro wh tc;replace ja:=(xa).trans _ _ _ ja tc;have Za:=oa (Below.refl w3.heap.size w3).drew ja;replace kg:=ia kg Za;replace Sd:=oa Sd Za;clear Za ja tc lk lv lg c1 ci cg Hl Wb;have c2:=kg.cell j;rw [Zl _ _ hj1] at c2;have f2:=kg.frozen;go_simp;refine ⟨fun h=>Bool.noConfusion h,?_⟩
        have hg:=Me (w:=wh) wo.heap.size j (.int .u64 z);replace kg:=kg.set_ j (.int .u64 z);rw [Xc.out] at kg;replace Sd:=Sd.trans (Ff hg Sd.size zR);clear hg f2 c2;generalize wh.setCell _ _=we at kg Sd |-;refine Oh rfl ?_;go_wp2_with fail
        go_roundw
        case rel=>exact ⟨j+1,by omega,by go_num,kg,Sd⟩
        case measure=>simp [intOf];omega
       ·have d4:decide ((t:Int)<(li.length:Int))=false:=decide_eq_false (by omega)
        have Xc:=zH (show Ha B (He F (fun _=>0) j)=Ha B F from QT fun x h1 _=>by
         rw [HF.out,ym];have:=HT.out;omega)
        go_upto_region 10 with fail
        refine Rc (Ib) [] [0,1,2,3,4,5,6,7,8,9,10,11,12,13,14,15,16] (by kernel_rfl) (by kernel_rfl) ?_
        refine vd (xa) ?_;intro Wc Na ja;have ya:=Cc Na;refine pb ?_;refine Fc ?_;replace kg:=ia kg ya;replace Sd:=oa Sd ya;clear c1 ci lk lv lg ja;generalize Wc=w3 at kg Sd |-;rw [Xc.out] at kg;replace kl:=ia kl Sd;replace kv:=ia kv Sd;replace da:=oa da Sd;replace ve:=Nat.le_trans ve Sd.size;replace ra:=Oa ra Sd zR;replace Da:=Uc Da Sd;have hx:=aD (N:=N) (gb:=v.ownBlock) kg (fun j _=>Wx.out j) (by simp [maxLen];omega) Dm (fun e=>by have:=Rb _ e.symm;omega)
        rw [Gv.out] at hx;clear kg;go_wp2_with (at_builtin;refine Mf rfl _ _ rfl Cj rfl (ra.alloc _) rfl (Lf _ _ _) (by intro u hu;simp at hu;subst hu;rfl) (by omega) (by simp;omega) ?_)
        intro v' wn db Ma Lb;have ma:=(Below.refl w3.heap.size w3).alloc zR (.cells #[.slice (some ⟨wo.heap.size,0,none⟩) B B] 28);replace Da:=Uc Da ma;replace hx:=Mh hx ma.size (fun b _ h2 _=>ma.block b h2)
        have ee:=Tq Da hx Ma (by simpa using Lb)
        rw [FG.out] at ee;have Ej:=Ae (ra.alloc _) Ma (by simp;omega)
        have Pa:w.heap.size <= N:=by omega
        have yi:∀ q,v.ownBlock=some q -> N <= q:=fun q e=>(ra.lt q e).1
        replace kl:=ia kl ma;replace kv:=ia kv ma;replace da:=oa da ma;replace ve:=Nat.le_trans ve ma.size;replace kl:=kl.grown Ma (fun e=>by first | (have:=yi _ e;omega) | (have:=yi _ e.symm;omega))
        replace kv:=kv.grown Ma (fun e=>by first | (have:=yi _ e;omega) | (have:=yi _ e.symm;omega))
        replace da:=da.trans (Ej.mono Pa);replace ve:=Nat.le_trans ve Ma.size;clear Ma Lb Ej ma ra Da hx Sd;go_wp2
        go_roundw
        case rel=>exact ⟨k+1,n1+1,_,_,rfl,by omega,by go_num,by omega,kl,kv,db,ee,da,ve⟩
        case measure=>simp [intOf];omega
      ·have d3:decide ((j:Int)<(B:Int))=false:=decide_eq_false (by omega)
       have Xc:=zH (show Ha B (He F (fun _=>0) j)=Ha B F from QT fun x h1 h2=>by omega)
       go_upto_region 10 with fail
       refine Rc (Ib) [] [0,1,2,3,4,5,6,7,8,9,10,11,12,13,14,15,16] (by kernel_rfl) (by kernel_rfl) ?_
       refine vd (xa) ?_;intro Wc Na ja;have ya:=Cc Na;refine pb ?_;refine Fc ?_;replace kg:=ia kg ya;replace Sd:=oa Sd ya;clear c1 ci lk lv lg ja;generalize Wc=w3 at kg Sd |-;rw [Xc.out] at kg;replace kl:=ia kl Sd;replace kv:=ia kv Sd;replace da:=oa da Sd;replace ve:=Nat.le_trans ve Sd.size;replace ra:=Oa ra Sd zR;replace Da:=Uc Da Sd;have hx:=aD (N:=N) (gb:=v.ownBlock) kg (fun j _=>Wx.out j) (by simp [maxLen];omega) Dm (fun e=>by have:=Rb _ e.symm;omega)
       rw [Gv.out] at hx;clear kg;go_wp2_with (at_builtin;refine Mf rfl _ _ rfl Cj rfl (ra.alloc _) rfl (Lf _ _ _) (by intro u hu;simp at hu;subst hu;rfl) (by omega) (by simp;omega) ?_)
       intro v' wn db Ma Lb;have ma:=(Below.refl w3.heap.size w3).alloc zR (.cells #[.slice (some ⟨wo.heap.size,0,none⟩) B B] 28);replace Da:=Uc Da ma;replace hx:=Mh hx ma.size (fun b _ h2 _=>ma.block b h2)
       have ee:=Tq Da hx Ma (by simpa using Lb)
       rw [FG.out] at ee;have Ej:=Ae (ra.alloc _) Ma (by simp;omega)
       have Pa:w.heap.size <= N:=by omega
       have yi:∀ q,v.ownBlock=some q -> N <= q:=fun q e=>(ra.lt q e).1
       replace kl:=ia kl ma;replace kv:=ia kv ma;replace da:=oa da ma;replace ve:=Nat.le_trans ve ma.size;replace kl:=kl.grown Ma (fun e=>by first | (have:=yi _ e;omega) | (have:=yi _ e.symm;omega))
       replace kv:=kv.grown Ma (fun e=>by first | (have:=yi _ e;omega) | (have:=yi _ e.symm;omega))
       replace da:=da.trans (Ej.mono Pa);replace ve:=Nat.le_trans ve Ma.size;clear Ma Lb Ej ma ra Da hx Sd;go_wp2
       go_roundw
       case rel=>exact ⟨k+1,n1+1,_,_,rfl,by omega,by go_num,by omega,kl,kv,db,ee,da,ve⟩
       case measure=>simp [intOf];omega
    ·obtain rfl:k=p:=by omega
     have q2:¬((k:Int)<(k:Int)):=by omega
     rw [<- Ov.out] at Da;go_wp2_with fail
     go_roundw
     case rel=>exact ⟨i+1,n1,_,cs,rfl,by omega,by go_num,by omega,kl,kv,ra,Da,da,ve⟩
     case measure=>simp [intOf];omega
  ·obtain rfl:i=4:=by omega
   rw [<- Xt.out] at Da;go_wp2;go_ret
   exact ⟨_,_,_,rfl,Pf ra HWN.out,yK Da HWN.out,da⟩
theorem vZ (L:Ja) (v0 v1 v2 v3:Value) (l0 l1 l2 l3:List Nat) (w:World) (hL:Db L) (hv:∀ i,i<4 -> RWd w [Zc v0 v1 v2 v3 i] (Zc l0 l1 l2 l3 i)) :
  Calls Tryz.prog 121 #[.agg (Ya L), .agg #[v0,v1,v2,v3]] w fun e w'=>∃ v,e= .returned v /\ Sb w' [v] (sj L.block (Zc l0 l1 l2 l3) (Zc L.a L.b L.b L.b)) /\ Below w.heap.size w w':=by
 refine (bS L v0 v1 v2 v3 l0 l1 l2 l3 w hL hv).mono ?_;rintro e w' ⟨n,v,cs,rfl,ho,hg,hb⟩;exact ⟨v,rfl,qw hg ho,hb⟩
end Go.Proofs.YtgeofabpinfcmaaGreat
