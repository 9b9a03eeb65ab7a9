/- A part of the proof. No condition. -/
import Derived.Test.YteoghgbnielkpaaGreatTB7
import Derived.ChangeAlike
import Derived.Deep.RegionWith
import Derived.RegionTactic

set_option maxRecDepth 100000
set_option maxHeartbeats 8000000
set_option linter.unusedVariables false
set_option linter.unusedSimpArgs false
namespace Go.Proofs.YteoghgbnielkpaaGreat
open Go.RowKit
open Tryz
open Go renaming World->vw, Value->vx, Addr->vy, TypeId->vz, Calls->vB
open Go.Value renaming int->vd, slice->ve, agg->vf
open Go.IntKind renaming u64->vn, i64->vq
open Go.Ending renaming returned->vl
open Go.RowKit renaming Below->vA
open Go.World renaming setCell->vF
open Go.Act renaming put->vG
open Option renaming none->vD, some->vE
def kM (x:NewIn) (e:Ending):Prop:=∃ (y0 y1 y2 y3 y4 y5 y6 y7 y8 y9 se:Int) (b s:Bool),e=vl (.tuple #[vf #[vd vn y0,vd vq y1,vd vq y2,vd vq y3,vd vq y4,vd vq y5,vd vq y6,vd vq y7,vd vq y8,vd vq y9,vd vq se], .bool b, .bool s]) /\ (b=true -> ∃ L,Nb L /\ Lj L x /\ L.n <= 64 /\ L.a+3*L.b <= 40 /\ #[vd vn y0,vd vq y1,vd vq y2,vd vq y3,vd vq y4,vd vq y5,vd vq y6,vd vq y7,vd vq y8,vd vq y9,vd vq se]=ib L)
theorem yQ {y0 y1 y2 y3 y4 y5 y6 y7 y8 y9 se:Int} {L:Na} (h:#[vd vn y0,vd vq y1,vd vq y2,vd vq y3,vd vq y4,vd vq y5,vd vq y6,vd vq y7,vd vq y8,vd vq y9,vd vq se]=ib L):y0=L.p /\ y1=L.block /\ y2=L.queries /\ y3=L.k /\ y4=L.n /\ y5=L.secret /\ y6=L.rows /\ y7=L.a /\ y8=L.b /\ y9=L.b /\ se=L.b:=by
 simpa [ib] using h
structure Vz (p:Nat) (pub vars:Int) (rows:List Ua) (ws:List Nat) (s:Bool):Prop where
 tab:Yc p pub vars rows=true
 asg:yi p vars ws=true
 small:PH rows
 few:rows.length <= 12
 sat:tx p rows ws=s
theorem zH5 (p:Nat) (pub vars:Int) (A B:Option vy) (n c m d:Nat) (rows:List Ua) (ws:List Nat) (bl bw qs:Int) (coin Gg:Int) (real:Bool) (w:vw) (hr:RSl 3 je w [ve A n c] rows) (hw:RWd w [ve B m d] ws) (hp:p<18446744073709551616) :
  vB prog 13 #[vf #[vd vn p,vd vq pub,vd vq vars,ve A n c,vd vq bl,vd vq bw,vd vq qs,ve B m d,vd vn coin, .bool real,vd vn Gg]] w fun e w'=>(kM ⟨p,pub,vars,rows.length,bl,bw,qs⟩ e /\ (∀ v s,e=vl (.tuple #[v, .bool true, .bool s]) -> Vz p pub vars rows ws s)) /\ vA w.1.size w w':=by
 have HR:=zH (fun w' (hb:vA w.1.size w w')=>zH4 12 p pub vars A B n c m d rows ws bl bw qs w' (Pg Og _ _ _ _ hb hr) (Ab hb hw) hp)
 have HS:=zH (fun ht ha w' (hb:vA w.1.size w w')=>zH6 p pub vars A B n c m d rows ws w' (Pg Og _ _ _ _ hb hr) (Ab hb hw) ht ha)
 obtain ⟨A',n',c',he,-⟩:=hr;simp at he
 obtain ⟨rfl,rfl,rfl⟩:=he;have da:vA w.1.size w ((w.alloc (.cells #[vd vn p,vd vq pub,vd vq vars,ve A n c,vd vq bl,vd vq bw,vd vq qs,ve B m d,vd vn coin, .bool real,vd vn Gg] 32)).alloc (.cells #[vd vn 0,vd vq 0,vd vq 0,vd vq 0,vd vq 0,vd vq 0,vd vq 0,vd vq 0,vd vq 0,vd vq 0,vd vq 0] 35)):=((tb _ w).alloc zR _).alloc zS _;go_enter func13,ntmps13
 go_wp2_with fail
 refine (HR.out _ da).mono ?_;rintro e w1 ⟨⟨cL,pJ⟩,hb⟩;obtain ⟨k1,k2,Ib⟩:=bH hb;have l2:=k2.lt;clear hb;obtain ⟨y0,y1,y2,y3,y4,y5,y6,y7,y8,y9,se,b,rfl,hL⟩:=cL;cases b
 ·have HE:=zH (show kM ⟨p,pub,vars,rows.length,bl,bw,qs⟩ (vl (.tuple #[vf #[vd vn y0,vd vq y1,vd vq y2,vd vq y3,vd vq y4,vd vq y5,vd vq y6,vd vq y7,vd vq y8,vd vq y9,vd vq se], .bool false, .bool false])) from ⟨_,_,_,_,_,_,_,_,_,_,_,_,_,rfl,fun h=>by cases h⟩)
  clear hL pJ;obtain ⟨c2,f2⟩:=k2.cells';go_wp2_with fail
  obtain ⟨wf,Ub,wJ,By⟩:=aE k2 Ib y0 y1 y2 y3 y4 y5 y6 y7 y8 y9 se;rw [Ub];clear Ub;have kW:=wJ.alloc (.cells #[vd vn y0,vd vq y1,vd vq y2,vd vq y3,vd vq y4,vd vq y5,vd vq y6,vd vq y7,vd vq y8,vd vq y9,vd vq se] 35);have hW:=By.alloc By.size (.cells #[vd vn y0,vd vq y1,vd vq y2,vd vq y3,vd vq y4,vd vq y5,vd vq y6,vd vq y7,vd vq y8,vd vq y9,vd vq se] 35);have tp:=kW.cell;exact Sc (v:=.tuple #[vf #[vd vn y0,vd vq y1,vd vq y2,vd vq y3,vd vq y4,vd vq y5,vd vq y6,vd vq y7,vd vq y8,vd vq y9,vd vq se], .bool false, .bool false]) (by simp [results,results13,go_sem,tp]) rfl ⟨⟨HE.out,fun v s h=>by simp at h⟩,hW⟩
 ·obtain ⟨L,Xa,hLp,xy⟩:=hL rfl
  obtain ⟨rfl,rfl,rfl,rfl,rfl,rfl,rfl,rfl,rfl,rfl,rfl⟩:=yQ xy;have HT:=zH (pJ _ rfl);have HO:=zH Xa;have HLp:=zH hLp;have na:=Xa.a;have nb:=Xa.b;clear hL pJ Xa hLp xy;obtain ⟨c1,f1⟩:=k1.cells';obtain ⟨c2,f2⟩:=k2.cells';by_cases z1:64<L.n
  ·have HE:=zH (show kM ⟨p,pub,vars,rows.length,bl,bw,qs⟩ (vl (.tuple #[vf #[vd vn L.p,vd vq L.block,vd vq L.queries,vd vq L.k,vd vq L.n,vd vq L.secret,vd vq L.rows,vd vq L.a,vd vq L.b,vd vq L.b,vd vq L.b], .bool false, .bool false])) from ⟨_,_,_,_,_,_,_,_,_,_,_,_,_,rfl,fun h=>by cases h⟩)
   have d1:decide ((64:Int)<L.n)=true:=xb zO;have d2:decide (64<L.n)=true:=xb z1;go_wp2_with fail
   obtain ⟨wf,Ub,wJ,By⟩:=RR k2 Ib L;rw [Ub];clear Ub;have kW:=wJ.alloc (.cells #[vd vn L.p,vd vq L.block,vd vq L.queries,vd vq L.k,vd vq L.n,vd vq L.secret,vd vq L.rows,vd vq L.a,vd vq L.b,vd vq L.b,vd vq L.b] 35);have hW:=By.alloc By.size (.cells #[vd vn L.p,vd vq L.block,vd vq L.queries,vd vq L.k,vd vq L.n,vd vq L.secret,vd vq L.rows,vd vq L.a,vd vq L.b,vd vq L.b,vd vq L.b] 35);have tp:=kW.cell;exact Sc (v:=.tuple #[vf #[vd vn L.p,vd vq L.block,vd vq L.queries,vd vq L.k,vd vq L.n,vd vq L.secret,vd vq L.rows,vd vq L.a,vd vq L.b,vd vq L.b,vd vq L.b], .bool false, .bool false]) (by simp [results,results13,go_sem,tp]) rfl ⟨⟨HE.out,fun v s h=>by simp at h⟩,hW⟩
  ·have d1:decide ((64:Int)<L.n)=false:=db zO
   have d2:decide (64<L.n)=false:=db z1;have dq:=zH (fun w=>zAt L.p L.block L.queries L.k L.n L.secret L.rows L.a L.b L.b L.b w na nb nb nb)
   revert dq
   generalize hT:L.a+L.b+L.b+L.b=T;intro dq;by_cases z2:40<T
   ·have HE:=zH (show kM ⟨p,pub,vars,rows.length,bl,bw,qs⟩ (vl (.tuple #[vf #[vd vn L.p,vd vq L.block,vd vq L.queries,vd vq L.k,vd vq L.n,vd vq L.secret,vd vq L.rows,vd vq L.a,vd vq L.b,vd vq L.b,vd vq L.b], .bool false, .bool false])) from ⟨_,_,_,_,_,_,_,_,_,_,_,_,_,rfl,fun h=>by cases h⟩)
    have d3:decide ((40:Int)<T)=true:=xb zO;have d4:decide (40<T)=true:=xb z2;have HTT:=zH hT;clear hT;go_wp2_with fail
    refine (dq.out _).mono ?_;rintro e w3 ⟨rfl,Ta⟩;have Zh:=(k2.alloc (.cells #[vd vn L.p,vd vq L.block,vd vq L.queries,vd vq L.k,vd vq L.n,vd vq L.secret,vd vq L.rows,vd vq L.a,vd vq L.b,vd vq L.b,vd vq L.b] 35)).below Ta zT;have Gi:=(k1.alloc (.cells #[vd vn L.p,vd vq L.block,vd vq L.queries,vd vq L.k,vd vq L.n,vd vq L.secret,vd vq L.rows,vd vq L.a,vd vq L.b,vd vq L.b,vd vq L.b] 35)).below Ta zT;have MA:=(Blk.new w1 35 #[vd vn L.p,vd vq L.block,vd vq L.queries,vd vq L.k,vd vq L.n,vd vq L.secret,vd vq L.rows,vd vq L.a,vd vq L.b,vd vq L.b,vd vq L.b]).below Ta zS;have JU:=ma (Ib.alloc Ib.size _) Ta;have l3:w.1.size+1<w3.1.size:=Zh.lt;have l4:w.1.size<w3.1.size:=by omega
    have l5:w1.1.size<w3.1.size:=MA.lt;have n1:w1.1.size≠w.1.size+1:=by omega
    clear c1 f1 c2 f2 k1 k2 Ib Ta;obtain ⟨c1,f1⟩:=Gi.cells';obtain ⟨c2,f2⟩:=Zh.cells';obtain ⟨c5,f5⟩:=MA.cells';go_wp2;obtain ⟨wf,Ub,kW,hW⟩:=RR Zh JU L;rw [Ub];clear Ub;have tp:=kW.cell;exact Sc (v:=.tuple #[vf #[vd vn L.p,vd vq L.block,vd vq L.queries,vd vq L.k,vd vq L.n,vd vq L.secret,vd vq L.rows,vd vq L.a,vd vq L.b,vd vq L.b,vd vq L.b], .bool false, .bool false]) (by simp [results,results13,go_sem,tp]) rfl ⟨⟨HE.out,fun v s h=>by simp at h⟩,hW⟩
   ·have HE:=zH (show ∀ s,kM ⟨p,pub,vars,rows.length,bl,bw,qs⟩ (vl (.tuple #[vf #[vd vn L.p,vd vq L.block,vd vq L.queries,vd vq L.k,vd vq L.n,vd vq L.secret,vd vq L.rows,vd vq L.a,vd vq L.b,vd vq L.b,vd vq L.b], .bool true, .bool s])) from fun s=>⟨_,_,_,_,_,_,_,_,_,_,_,_,_,rfl,fun _=>⟨L,HO.out,HLp.out,zO,zO,rfl⟩⟩)
    have d3:decide ((40:Int)<T)=false:=db zO;have d4:decide (40<T)=false:=db z2;have HTT:=zH hT;clear hT;go_wp2_with fail
    refine (dq.out _).mono ?_;rintro e w3 ⟨rfl,Ta⟩;have Zh:=(k2.alloc (.cells #[vd vn L.p,vd vq L.block,vd vq L.queries,vd vq L.k,vd vq L.n,vd vq L.secret,vd vq L.rows,vd vq L.a,vd vq L.b,vd vq L.b,vd vq L.b] 35)).below Ta zT;have Gi:=(k1.alloc (.cells #[vd vn L.p,vd vq L.block,vd vq L.queries,vd vq L.k,vd vq L.n,vd vq L.secret,vd vq L.rows,vd vq L.a,vd vq L.b,vd vq L.b,vd vq L.b] 35)).below Ta zT;have MA:=(Blk.new w1 35 #[vd vn L.p,vd vq L.block,vd vq L.queries,vd vq L.k,vd vq L.n,vd vq L.secret,vd vq L.rows,vd vq L.a,vd vq L.b,vd vq L.b,vd vq L.b]).below Ta zS;have JU:=ma (Ib.alloc Ib.size _) Ta;have l3:w.1.size+1<w3.1.size:=Zh.lt;have l4:w.1.size<w3.1.size:=by omega
    have l5:w1.1.size<w3.1.size:=MA.lt;have n1:w1.1.size≠w.1.size+1:=by omega
    clear c1 f1 c2 f2 k1 k2 Ib Ta;obtain ⟨c1,f1⟩:=Gi.cells';obtain ⟨c2,f2⟩:=Zh.cells';obtain ⟨c5,f5⟩:=MA.cells';go_wp2;refine zd (Vk (w.1.size+1)) [7,8] [0,1,2,3,4,5,6,7,8,9,10] zK zK ?_;refine Ue (oe (w.1.size+1)) ?_;intro Wc Ja ea;refine Sm ?_;have sJ:vA w.1.size w Wc:=by rw [Ja.out];exact JU.drew
    have kwc:=Zh.drew;rw [<- Ja.out] at kwc;refine tE (oe (w.1.size+1)) rfl rfl rfl (fun _=>by go_simp <;> rfl) ((HS.out HT.out.1 HT.out.2.1 _ sJ).mono ?_)
    rintro e w4 ⟨rfl,Db⟩;refine ⟨_,rfl,du Db,?_⟩;replace ea:=(oe (w.1.size+1)).trans _ _ _ ea (du Db);refine zPU ?_;replace kwc:=ia kwc Db;replace sJ:=ma sJ Db;clear c1 f1 c2 f2 c5 f5 Gi Zh MA;obtain ⟨c2,f2⟩:=kwc.cells';refine Te (oe (w.1.size+1)) rfl rfl rfl ?_;go_simp;refine ⟨zIQ _ (vd vn L.p) (vd vq L.block) (vd vq L.queries) (vd vq L.k) (vd vq L.n) (vd vq L.secret) (vd vq L.rows) (vd vq L.a) (vd vq L.b) (vd vq L.b) (vd vq L.b),?_⟩;obtain ⟨wf,Ub,kW,hW⟩:=RR kwc sJ L;rw [Ub];clear Ub ea Ja c2 f2;have ea:=(oe (w.1.size+1)).refl wf;refine Sm ?_;refine Hc ?_;go_wp2;have tp:=kW.cell;exact Sc (v:=.tuple #[vf #[vd vn L.p,vd vq L.block,vd vq L.queries,vd vq L.k,vd vq L.n,vd vq L.secret,vd vq L.rows,vd vq L.a,vd vq L.b,vd vq L.b,vd vq L.b], .bool true, .bool (tx p rows ws)]) (by simp [results,results13,go_sem,tp]) rfl ⟨⟨HE.out _,fun v s h=>by
     simp at h
     exact ⟨HT.out.1,HT.out.2.1,HT.out.2.2.1,by have:=HT.out.2.2.2;omega,h.2⟩⟩,hW⟩
def Xj (l:List Nat) (n:Int) (p:Nat):Bool:=l.all (fun x=>decide (x<p))&&((l.length:Int) == n)
def Xt (ls:List (List Nat)) (m n:Int) (p:Nat):Bool:=ls.all (fun l=>Xj l n p)&&((ls.length:Int) == m)
theorem PY {l:List Nat} {p j:Nat} (hj:j<l.length) (h:p <= l.getD j 0):l.all (fun x=>decide (x<p))=false:=by
 refine Oz.2 ⟨l[j],He hj,?_⟩;simp [Fb,Qb hj] at h
 simp
 omega
theorem QY {l:List Nat} {p:Nat} (h:∀ k<l.length,l.getD k 0<p):l.all (fun x=>decide (x<p))=true:=by
 refine fe.2 fun x hx=>?_
 obtain ⟨k,hk,rfl⟩:=Ym hx;have:=h k hk;simp [Fb,Qb hk] at this
 simpa using this
theorem Y1 {l:List Nat} {p j:Nat} (h:∀ k<j,l.getD k 0<p) (hj:¬p <= l.getD j 0):∀ k<j+1,l.getD k 0<p:=fun k hk=>by
 rcases Wg k j with h1 | h1
 ·exact h k h1
 ·have e:k=j:=by omega
  rw [e];omega
theorem Ev {w:vw} {A:Option vy} {n c:Nat} {l:List Nat} (h:RWd w [ve A n c] l):n=l.length /\ n <= c /\ c <= maxLen /\ (∀ x∈l,x<18446744073709551616) /\ Rd w 1 A n (Oa l):=by
 obtain ⟨A',n',c',he,h1,h2,h3,h4⟩:=h;simp at he
 obtain ⟨rfl,rfl,rfl⟩:=he;have:=h3.len1;rw [Vt] at this;exact ⟨this.symm,h1,h2,h4,h3⟩
theorem nS {w:vw} {A:Option vy} {l:List Nat} (h:Rd w 1 A l.length (Oa l)) {j:Nat} (hj:j<l.length):∃ b q,A=vE ⟨b,q,vD⟩ /\ b<w.1.size /\ w.cell? ⟨b,q+j,vD⟩=vE (vd vn ((l.getD j 0:Nat):Int)):=by
 obtain ⟨b,q,e,hb,hc⟩:=pz h zO;refine ⟨b,q,e,hb,?_⟩;rw [hc j hj,ZB hj,Fb,Qb hj]
 rfl
theorem CG {n c:Nat} (h1:n <= c) (h2:c <= maxLen):(n:Int) <= 9223372036854775807:=by
 simp [maxLen] at h2
 omega
theorem rT (A:Option vy) (n c:Nat) (l:List Nat) (p:Nat) (w:vw) (hl:RWd w [ve A n c] l) :
  vB prog 56 #[ve A n c,vd vn p] w fun e w'=>e=vl (.bool (l.all (fun x=>decide (x<p)))) /\ w=w':=by
 obtain ⟨rfl,h1,h2,-,Ra⟩:=Ev hl;have gm:=CG h1 h2;clear hl h1 h2;go_enter func56,ntmps56
 go_wp2_with fail
 go_loop [9] (fun i=>∃ j:Nat,j <= l.length /\ i=vd vq j /\ Hid (∀ k<j,l.getD k 0<p)) (fun i=>l.length-(intOf i).toNat)
 case atStart=>exact ⟨0,Kb _,rfl,fun k hk=>zO⟩
 case round =>
  obtain ⟨j,hj,rfl,HB⟩:=hrel;by_cases ta:j<l.length
  ·obtain ⟨b,q,rfl,Gb,hc⟩:=nS Ra ta
   have HL:=zH ta;have g1:(0:Int)<=j:=by omega
   have g2:(j:Int)<l.length:=by omega
   revert hc
   generalize hy:l.getD j 0=y;intro hc;have HY:=zH hy;clear hy Ra;by_cases z:p <= y
   ·have HZ:=zH (PY (p:=p) ta (by rw [HY.out];exact z))
    have d1:decide ((p:Int)<=y)=true:=xb zO;go_wp2;go_ret
    exact ⟨by rw [HZ.out];rfl,rfl⟩
   ·have HZ:=zH (Y1 HB.out (by rw [HY.out];exact z))
    have d1:decide ((p:Int)<=y)=false:=db zO;go_wp2
    go_round
    case rel=>exact ⟨j+1,zO,by go_num,HZ.out⟩
    case measure=>simp [intOf];omega
  ·have e:j=l.length:=by omega
   have HA:=zH (QY (l:=l) (p:=p) (fun k hk=>HB.out k zO))
   clear Ra;go_wp2;go_ret
   exact ⟨by rw [HA.out];rfl,rfl⟩
theorem zCQ {j:Nat} (hj:j<64):Lib.bitLen (2^j)=j+1:=by
 obtain ⟨h1,h2,h3⟩:=Lib.bitLenAux_bounds 64 (2^j) (Nat.pow_lt_pow_right zO hj) (Nat.ne_of_gt (Nat.pow_pos zO));have e:Lib.bitLen (2^j)=Lib.bitLenAux 64 (2^j):=rfl;rw [e];generalize Lib.bitLenAux 64 (2^j)=k at *;have h4:=(Nat.pow_lt_pow_iff_right (a:=2) zO).1 h3;have h5:=(Nat.pow_le_pow_iff_right (a:=2) zO).1 h2;omega
theorem zCf (d:Nat) (hd:d <= 10):wrap64 ((2:Int)^d)=((2^d:Nat):Int):=by
 have h:2^d <= 2^10:=bn zO hd;have e:((2:Int)^d)=((2^d:Nat):Int):=(jo 2 d).symm;rw [e];generalize 2^d=x at *;unfold wrap64;omega
theorem UJ {j n:Nat} (h:n=2^j) (hn:n <= 1024):j <= 10:=by
 rcases Wg 10 j with h1 | h1
 ·have:2^11 <= 2^j:=bn zO h1
  omega
 ·exact h1
theorem X6 (L:Na) (j:Nat) (w:vw) (hn:L.n=2^j) (hj:j <= 10) :
  vB prog 191 #[vf (ib L)] w fun e w'=>e=vl (vd vq j) /\ vA w.1.size w w':=by
 have hN:L.n <= 1024:=by rw [hn];exact bn (n:=2) zO hj
 have HL:=zH (fun w=>zFp (L.n:Int) w zO zO)
 rw [Rk,hn,zCQ zO,<- hn] at HL;have e1:vn.wrap (L.n:Int)=L.n:=Fl _ zO;have i1:(j:Int) <= 10:=by omega
 have e2:((j+1:Nat):Int)-1=(j:Int):=by omega
 unfold ib;clear hn;go_enter func191,ntmps191
 go_wp2_with fail
 refine (HL.out _).mono ?_;rintro e w1 ⟨rfl,rfl⟩;go_wp2;go_ret
 exact ⟨zS,(tb _ _).alloc zR _⟩
theorem U6 (L:Na) (w:vw) (hL:Nb L) :
  vB prog 48 #[vf (ib L)] w fun e w'=>e=vl (vf #[vd vq L.k,vd vq ((L.k+L.block-1:Nat):Int),vd vq ((2*L.k-1:Nat):Int)]) /\ vA w.1.size w w':=by
 have h1:=hL.b1;have h2:=hL.b2;have h3:=hL.q1;have h4:=hL.q2;have h5:=hL.k;have e1:(L.k:Int)+L.block-1=((L.k+L.block-1:Nat):Int):=by omega
 have e2:(2:Int)*L.k-1=((2*L.k-1:Nat):Int):=by omega
 have i1:(L.k:Int) <= 320:=by omega
 have i2:(1:Int)<=L.k:=by omega
 have i3:(L.block:Int) <= 256:=by omega
 revert e1 e2
 generalize L.k+L.block-1=x;generalize 2*L.k-1=y;intro e1 e2;clear h1 h2 h3 h4 h5 hL;unfold ib;go_enter func48,ntmps48
 go_wp2;exact Sc (v:=vf #[vd vq L.k,vd vq x,vd vq y]) (by simp [results,results48,go_sem]) rfl ⟨rfl,((tb _ _).alloc zR _).alloc zS _⟩
def gh (L:Na) (j:Nat):Nat:=8*(1+(L.k+(L.k+L.block-1)+(2*L.k-1))+L.queries*(L.a+L.b+L.b+L.b+3+1+j))
theorem zDv (n j:Nat) (w:vw) (hn:n=2^j) (hj:j <= 10) :
  vB prog 101 #[vd vq n] w fun e w'=>e=vl (vd vq j) /\ w=w':=by
 have hN:n <= 1024:=by rw [hn];exact bn (n:=2) zO hj
 go_enter func101,ntmps101
 go_wp2_with fail
 go_loop [3] (fun i=>∃ d:Nat,d <= j /\ i=vd vq d) (fun i=>j-(intOf i).toNat)
 case atStart=>exact ⟨0,Kb _,rfl⟩
 case round =>
  obtain ⟨d,hd,rfl⟩:=hrel;have HN:=zH hn;clear hn;go_wp2_with fail
  ·rename_i h
   have ta:d<j:=by
    rw [zCf d zO,HN.out] at h;exact (Nat.pow_lt_pow_iff_right (a:=2) zO).1 zO
   go_round
   case rel=>exact ⟨d+1,ta,by go_num⟩
   case measure=>simp [intOf];omega
  ·have h:(n:Int) <= wrap64 (2^d):=by assumption
   have PC:¬d<j:=fun ta=>by
    have:=(Nat.pow_lt_pow_iff_right (a:=2) zO).2 ta;rw [zCf d zO,HN.out] at h;omega
   have e:d=j:=by omega
   subst e;go_ret
   exact ⟨rfl,rfl⟩
theorem zIV (L:Na) (j:Nat) (w:vw) (hL:Nb L) (hn:L.n=2^j) (hj:j <= 10) :
  vB prog 95 #[vf (ib L)] w fun e w'=>e=vl (vd vq (gh L j:Nat)) /\ vA w.1.size w w':=by
 have HL:=zH (fun w=>X6 L j w hn hj)
 have HT:=zH (fun w=>GG L.p L.block L.queries L.k L.n L.secret L.rows L.a L.b L.b L.b w hL.a hL.b hL.b hL.b)
 have h1:=hL.b1;have h2:=hL.b2;have h3:=hL.q1;have h4:=hL.q2;have h5:=hL.k;have h6:=hL.a;have h7:=hL.b;have i1:(L.k:Int) <= 320:=by omega
 have i2:(1:Int)<=L.k:=by omega
 have i3:(L.block:Int) <= 256:=by omega
 have i4:(j:Int) <= 10:=by omega
 have hS:gh L j=8*(1+(L.k+(L.k+L.block-1)+(2*L.k-1))+L.queries*(L.a+L.b+L.b+L.b+3+1+j)):=rfl;have hT:L.a+L.b+L.b+L.b <= 400000:=by omega
 obtain ⟨T,zy⟩:=zEX (L.a+L.b+L.b+L.b);rw [<- zy] at HT hS hT;obtain ⟨T2,DC⟩:=zEX (T+3+1+j);rw [<- DC] at hS;have hM:L.queries*T2 <= 64*T2:=Tz _ h4;obtain ⟨M,jw⟩:=zEX (L.queries*T2);rw [<- jw] at hS hM;obtain ⟨Z,hZ⟩:=zEX (gh L j);rw [<- hZ] at hS;rw [<- hZ];obtain ⟨X,hX⟩:=zEX (L.k+(L.k+L.block-1)+(2*L.k-1));have e1:(L.k:Int)+((L.k:Int)+L.block-1)+(2*(L.k:Int)-1)=(X:Int):=by omega
 have e2:(T:Int)+3+1+(j:Int)=T2:=by omega
 have e3:(L.queries:Int)*T2=(M:Int):=by rw [jw];exact (Qf _ _).symm
 have e4:(8:Int)*(1+(X:Int)+M)=(Z:Int):=by omega
 have e5:vq.wrap ((T:Int)+3)=(T:Int)+3:=El _ zO zO;have e6:vq.wrap ((T:Int)+3+1)=(T:Int)+3+1:=El _ zO zO;have e7:=Qc T2;have i5:(T2:Int) <= 400014:=by omega
 have i6:(M:Int) <= 25600896:=by omega
 have i7:(X:Int) <= 2000:=by omega
 have i8:(T:Int) <= 400000:=by omega
 clear h1 h2 h3 h4 h5 h6 h7 hS hT zy DC hM jw hZ hX hL hn hj;unfold ib at HL |-;obtain ⟨da,hB⟩:=(zN w 101 #[vd vn L.p,vd vq L.block,vd vq L.queries,vd vq L.k,vd vq L.n,vd vq L.secret,vd vq L.rows,vd vq L.a,vd vq L.b,vd vq L.b,vd vq L.b]).symm;go_enter func95,ntmps95
 go_wp2_with fail
 revert da hB
 generalize w.alloc _=w0;intro da hB;obtain ⟨c0,f0⟩:=hB.cells';have l0:=hB.lt;refine zd (Wb) [1,5] [0,4,1,2,3,5,6,7] zK zK ?_;refine Gv (oa) ?_;intro Wc ea;refine Pb ?_;refine Ic oa rfl rfl rfl ((HT.out _).mono ?_);rintro e w1 ⟨rfl,Ia⟩;refine ⟨_,rfl,Ia,?_⟩;replace ea:=zM oa ea (Ia);refine zPU ?_;refine Pb ?_;refine Ic oa rfl rfl rfl ((HL.out _).mono ?_);rintro e w2 ⟨rfl,Ba⟩;refine ⟨_,rfl,Ba,?_⟩;replace ea:=zM oa ea (Ba);refine zPU ?_;refine Pb ?_;refine Hc ?_;have Fh:=hB.drew.below ea hB.lt;clear c0 f0;obtain ⟨c0,f0⟩:=Fh.cells';go_wp2;go_ret
 exact ⟨rfl,ma da.drew ea⟩
structure ie where
 root:Nat
 code:List Nat
 linear:List Nat
 quad:List Nat
 cols:List (List Nat)
 salts:List Nat
 paths:List (List Nat)
structure PS where
 A1:Option vy
 n1:Nat
 c1:Nat
 A2:Option vy
 n2:Nat
 c2:Nat
 A3:Option vy
 n3:Nat
 c3:Nat
 A4:Option vy
 n4:Nat
 c4:Nat
 A5:Option vy
 n5:Nat
 c5:Nat
 A6:Option vy
 n6:Nat
 c6:Nat
def Wd (P:ie) (S:PS):Array vx:=#[vd vn P.root,ve S.A1 S.n1 S.c1,ve S.A2 S.n2 S.c2,ve S.A3 S.n3 S.c3,ve S.A4 S.n4 S.c4,ve S.A5 S.n5 S.c5,ve S.A6 S.n6 S.c6]
structure Ji (w:vw) (P:ie) (S:PS):Prop where
 root:P.root<18446744073709551616
 code:RWd w [ve S.A1 S.n1 S.c1] P.code
 linear:RWd w [ve S.A2 S.n2 S.c2] P.linear
 quad:RWd w [ve S.A3 S.n3 S.c3] P.quad
 cols:RSl 1 RWd w [ve S.A4 S.n4 S.c4] P.cols
 salts:RWd w [ve S.A5 S.n5 S.c5] P.salts
 paths:RSl 1 RWd w [ve S.A6 S.n6 S.c6] P.paths
theorem CW {w w':vw} {P:ie} {S:PS} (h:Ji w P S) (hb:vA w.1.size w w'):Ji w' P S :=
 ⟨h.root,Ab hb h.code,Ab hb h.linear,Ab hb h.quad,Pg tD _ _ _ _ hb h.cols,Ab hb h.salts,Pg tD _ _ _ _ hb h.paths⟩
theorem EJ {w:vw} {A:Option vy} {n c:Nat} {ls:List (List Nat)} (h:RSl 1 RWd w [ve A n c] ls):n=ls.length /\ n <= c /\ c <= maxLen /\ RdL w 1 RWd A ls:=by
 obtain ⟨A',n',c',he,hlen,Sd,Ze,Ra⟩:=h;simp at he
 obtain ⟨rfl,rfl,rfl⟩:=he;exact ⟨hlen.symm,Sd,Ze,Ra⟩
theorem F7 {w:vw} {A:Option vy} {ls:List (List Nat)} (h:RdL w 1 RWd A ls) {j:Nat} (hj:j<ls.length):∃ b q A1 n1 c1,A=vE ⟨b,q,vD⟩ /\ b<w.1.size /\ w.cell? ⟨b,q+j,vD⟩=vE (ve A1 n1 c1) /\ RWd w [ve A1 n1 c1] ls[j]:=by
 obtain ⟨b,q,rfl⟩:=h.base zO zO;obtain ⟨cs,Bk,hc,hr⟩:=h.get hj;have Qt:=hr;obtain ⟨A1,n1,c1,rfl,-⟩:=hr;have c0:=hc 0 zO;simp at c0
 exact ⟨b,q,A1,n1,c1,rfl,Gf _ _ c0,c0,Qt⟩
def Pe:Nat:=18446744069414584321
def Oh (L:Na) (j:Nat) (P:ie):Bool :=
 !(decide (Pe <= P.root))&&(Xj P.code (L.k:Int) L.p&&(Xj P.linear ((L.k+L.block-1:Nat):Int) L.p&&(Xj P.quad ((2*L.k-1:Nat):Int) L.p &&
  (Xt P.cols (L.queries:Int) ((L.a+L.b+L.b+L.b+3:Nat):Int) L.p&&(Xj P.salts (L.queries:Int) Pe&&Xt P.paths (L.queries:Int) (j:Int) Pe)))))
theorem zE2:(prog.info? 199).map (fun i=>(i.zero,i.size,i.bytes))=vE (vE (vf #[.pointer vD,vd vq 0,vd vn 0]),3,24):=by kernel_rfl
theorem TT:Tq prog 194 199 3 24 (vf #[.pointer vD,vd vq 0,vd vn 0]):=by
 obtain ⟨i0,hi,Yh,ud,Ve⟩:=info_parts zE2;exact ⟨underlying194,⟨i0,hi,Yh,ud,Ve⟩,rfl,zO⟩
structure Ll where
 ptr:vy
 size:Nat
 lim:Nat
def Mn (l:List Ll):List vx:=l.flatMap fun x=>[.pointer (vE x.ptr),vd vq x.size,vd vn x.lim]
theorem wW (l m:List Ll):Mn (l++m)=Mn l++Mn m:=by simp [Mn]
theorem pR (l:List Ll):(Mn l).length=l.length*3:=by
 induction l with
 | nil=>rfl
 | cons x l ih=>simp [Mn] at ih |-;omega
def Gj (L:Na) (g:Nat):List Ll:=[⟨⟨g,1,vD⟩,L.k,L.p⟩,⟨⟨g,2,vD⟩,L.k+L.block-1,L.p⟩,⟨⟨g,3,vD⟩,2*L.k-1,L.p⟩]
def gg (b q n size lim:Nat):List Ll:=(List.range n).map fun i=>⟨⟨b,q+i,vD⟩,size,lim⟩
theorem X9 (b q n size lim:Nat):gg b q (n+1) size lim=gg b q n size lim++[⟨⟨b,q+n,vD⟩,size,lim⟩]:=by simp [gg,List.range_succ]
def Ui (L:Na) (j g b4 q4 b6 q6:Nat):List Ll :=
 Gj L g++gg b4 q4 L.queries (L.a+L.b+L.b+L.b+3) L.p++[⟨⟨g,5,vD⟩,L.queries,Pe⟩]++gg b6 q6 L.queries j Pe
theorem zGI (w:vw) (base:Nat) (x1 x2 x3 x4 x5 x6 x7 x8 x9:vx) (hb:base <= w.1.size) :
  (w.alloc (.cells #[x1,x2,x3,x4,x5,x6,x7,x8,x9] 199)).ownsRow base 199 3 (ve (vE ⟨w.1.size,0,vD⟩) 3 3) 3 [x1,x2,x3,x4,x5,x6,x7,x8,x9] :=
 ⟨rfl, .inr ⟨w.1.size,3,_,rfl,hb,heap_alloc_new w _,zO,by simp [maxLen],rfl,rfl⟩⟩
theorem qM {B:Nat} {w0 w1 w2:vw} (h1:vA B w0 w1) (h2:vA w1.1.size w1 w2) (hB:B <= w1.1.size:=by omega):vA B w0 w2:=h1.trans (h2.mono hB)
theorem kR {w W:vw} {base:Nat} {e:vz} {size:Nat} {v:vx} {n:Nat} {xs:List vx} (hW:Hid (W=w.drew)) (h:w.ownsRow base e size v n xs):W.ownsRow base e size v n xs:=by rw [hW.out];exact h
theorem sT {B:Nat} {w0 w W:vw} (hW:Hid (W=w.drew)) (h:vA B w0 w):vA B w0 W:=by rw [hW.out];exact h.drew
theorem SJ {w:vw} {base:Nat} {e:vz} {size:Nat} {v:vx} {n:Nat} {xs:List vx} (h:w.ownsRow base e size v n xs) (hn:0<n):∃ r c,v=ve (vE ⟨r,0,vD⟩) n c /\ base <= r /\ r<w.1.size:=by
 rcases h.2 with ⟨-,h0⟩ | ⟨r,c,cur,hv,hb,hh,-⟩
 ·omega
 ·exact ⟨r,c,hv,hb,(ru.1 hh).1⟩
theorem SW (w:vw) (x y z:vx) (t:vz):Rd (w.alloc (.cells #[x,y,z] t)) 3 (vE ⟨w.1.size,0,vD⟩) 1 [x,y,z]:=by
 refine ⟨rfl,fun _=>⟨_,rfl,fun j u hj=>?_⟩⟩
 match j,hj with
 | 0,hj=>simp at hj;subst hj;simp [Addr.add]
 | 1,hj=>simp at hj;subst hj;simp [Addr.add]
 | 2,hj=>simp at hj;subst hj;simp [Addr.add]
theorem iW (a:vy) (n m:Int):∀ u∈[Value.pointer (vE a),vd vq n,vd vn m],u.oneCell'=true:=by
 intro u hu;simp at hu
 rcases hu with rfl | rfl | rfl <;> rfl
theorem zHg (L:Na) (P:ie) (S:PS) (g:Nat) (w:vw) (kg:Blk w g 46 (Wd P S)) (h:¬(S.n4=L.queries /\ S.n6=L.queries)) :
  vB prog 106 #[vf (ib L), .pointer (vE ⟨g,0,vD⟩)] w fun e w'=>e=vl (ve vD 0 0) /\ vA w.1.size w w':=by
 unfold ib;unfold Wd at kg;obtain ⟨da,kl⟩:=(zN w 101 #[vd vn L.p,vd vq L.block,vd vq L.queries,vd vq L.k,vd vq L.n,vd vq L.secret,vd vq L.rows,vd vq L.a,vd vq L.b,vd vq L.b,vd vq L.b]).symm;have Fj:=ia kg da;by_cases z:S.n4=L.queries
 ·have d1:((S.n4:Int)!=L.queries)=false:=by rw [Hr];omega
  have d2:((S.n6:Int)!=L.queries)=true:=by rw [ef];omega
  clear z h;go_enter func106,ntmps106
  go_wp2_with fail
  revert da kl Fj
  generalize w.alloc _=w0;intro da kl Fj;have c0:=kl.cell;have cg:=Fj.cell;have l0:=kl.lt;have lg:=Fj.lt;refine zd (Wb) [] [0,1,2,3,4,5,6,7,8,9,10,11,12,13,14,15,16,17] zK zK ?_;refine Gv (oa) ?_;intro Wc ea;refine Pb ?_;refine Hc ?_;go_wp2;go_ret
  exact ⟨rfl,ma da.drew ea⟩
 ·have d1:((S.n4:Int)!=L.queries)=true:=by rw [ef];omega
  clear z h;go_enter func106,ntmps106
  go_wp2_with fail
  revert da kl Fj
  generalize w.alloc _=w0;intro da kl Fj;have c0:=kl.cell;have cg:=Fj.cell;have l0:=kl.lt;have lg:=Fj.lt;refine zd (Wb) [] [0,1,2,3,4,5,6,7,8,9,10,11,12,13,14,15,16,17] zK zK ?_;refine Gv (oa) ?_;intro Wc ea;refine Pb ?_;refine Hc ?_;go_wp2;go_ret
  exact ⟨rfl,ma da.drew ea⟩
theorem rW (L:Na) (j:Nat) (P:ie) (S:PS) (g b4 q4 b6 q6:Nat) (w:vw) (hL:Nb L) (hn:L.n=2^j) (hj:j <= 10) (kg:Blk w g 46 (Wd P S)) (h4:S.n4=L.queries) (h6:S.n6=L.queries)
  (hg:g<w.1.size) (Su:S.A4=vE ⟨b4,q4,vD⟩) (Tu:S.A6=vE ⟨b6,q6,vD⟩) (It:S.n4 <= S.c4 /\ S.c4 <= maxLen) (DF:S.n6 <= S.c6 /\ S.c6 <= maxLen) :
  vB prog 106 #[vf (ib L), .pointer (vE ⟨g,0,vD⟩)] w fun e w'=>∃ v n,e=vl v /\ w'.ownsRow w.1.size 199 3 v n (Mn (Ui L j g b4 q4 b6 q6)) /\ vA w.1.size w w':=by
 have HLv:=zH (fun w=>X6 L j w hn hj)
 have HT:=zH (fun w=>GG L.p L.block L.queries L.k L.n L.secret L.rows L.a L.b L.b L.b w hL.a hL.b hL.b hL.b)
 have b1:=hL.b1;have b2:=hL.b2;have b3:=hL.q1;have b5:=hL.q2;have b6':=hL.k;have hT:L.a+L.b+L.b+L.b <= 400000:=by have:=hL.a;have:=hL.b;omega
 have HP:Hid (Ui L j g b4 q4 b6 q6=Gj L g++gg b4 q4 L.queries (L.a+L.b+L.b+L.b+3) L.p++[⟨⟨g,5,vD⟩,L.queries,Pe⟩]++gg b6 q6 L.queries j Pe):=rfl;rw [HP.out];clear HP;revert HT hT
 generalize L.a+L.b+L.b+L.b=T;intro HT hT;have e3:vq.wrap ((T:Int)+3)=((T+3:Nat):Int):=by rw [El _ zO zO];omega
 have e4:(T:Int)+3=((T+3:Nat):Int):=by omega
 have e5:vq.wrap ((T+3:Nat):Int)=((T+3:Nat):Int):=El _ zO zO;have eX1:vq.wrap ((L.k:Int)+L.block)=(L.k:Int)+L.block:=El _ zO zO;have eX2:vq.wrap ((L.k:Int)+L.block-1)=((L.k+L.block-1:Nat):Int):=by rw [El _ zO zO];omega
 have eX3:(L.k:Int)+L.block-1=((L.k+L.block-1:Nat):Int):=by omega
 have eX4:vq.wrap ((L.k+L.block-1:Nat):Int)=((L.k+L.block-1:Nat):Int):=El _ zO zO;have eY1:vq.wrap (2*(L.k:Int))=2*(L.k:Int):=El _ zO zO;have eY2:vq.wrap (2*(L.k:Int)-1)=((2*L.k-1:Nat):Int):=by rw [El _ zO zO];omega
 have eY3:2*(L.k:Int)-1=((2*L.k-1:Nat):Int):=by omega
 have eY4:vq.wrap ((2*L.k-1:Nat):Int)=((2*L.k-1:Nat):Int):=El _ zO zO;have HP3:Hid (Gj L g=[⟨⟨g,1,vD⟩,L.k,L.p⟩,⟨⟨g,2,vD⟩,L.k+L.block-1,L.p⟩,⟨⟨g,3,vD⟩,2*L.k-1,L.p⟩]):=rfl;revert e3 e4 e5 eX2 eX3 eX4 eY2 eY3 eY4 HP3
 generalize T+3=T3;generalize L.k+L.block-1=x;generalize 2*L.k-1=y;intro e3 e4 e5 eX2 eX3 eX4 eY2 eY3 eY4 HP3;have d1:((S.n4:Int)!=L.queries)=false:=by rw [Hr];omega
 have d2:((S.n6:Int)!=L.queries)=false:=by rw [Hr];omega
 have H4:=zH h4;have H6:=zH h6;have HQ:=zH b5;clear b1 b2 b3 b5 b6' hL hn hj hT h4 h6;unfold ib at HLv |-;unfold Wd at kg;rw [Su,Tu] at kg;obtain ⟨da,kl⟩:=(zN w 101 #[vd vn L.p,vd vq L.block,vd vq L.queries,vd vq L.k,vd vq L.n,vd vq L.secret,vd vq L.rows,vd vq L.a,vd vq L.b,vd vq L.b,vd vq L.b]).symm;have Fj:=ia kg da;clear kg Su Tu;go_enter func106,ntmps106
 go_wp2_with fail
 revert da kl Fj
 generalize w.alloc _=w0;intro da kl Fj;have c0:=kl.cell;have cg:=Fj.cell;have l0:=kl.lt;have lg:=Fj.lt;refine zd (Wb) [] [0,1,2,3,4,5,6,7,8,9,10,11,12,13,14,15,16,17] zK zK ?_;refine Gv (oa) ?_;intro Wc ea;refine Pb ?_;refine Hc ?_;replace kl:=kl.drew.below ea kl.lt;replace Fj:=Fj.drew.below ea Fj.lt;replace da:=ma da.drew ea;clear c0 cg l0 lg ea;have c0:=kl.cell;have cg:=Fj.cell;have l0:=kl.lt;have lg:=Fj.lt;go_wp2_with fail
 refine zd (Wb) [30] [0,1,2,3,4,5,6,7,8,9,10,11,12,13,14,15,16,17,18,19,20,21,22,23,24,25,26,27,28,29,30,31] zK zK ?_;refine Gv (oa) ?_;intro Wc ea;refine Pb ?_;refine Te (oa) rfl rfl rfl ?_;go_simp;refine ⟨(tb _ _).alloc zR _,?_⟩;have Hm:w.1.size+1 <= Wc.1.size:=by have:=Below.size ea;simp at this;omega
 have Ca:=zGI Wc (w.1.size+1) (.pointer (vE ⟨g,1,vD⟩)) (vd vq L.k) (vd vn L.p) (.pointer (vE ⟨g,2,vD⟩)) (vd vq x) (vd vn L.p) (.pointer (vE ⟨g,3,vD⟩)) (vd vq y) (vd vn L.p) Hm;replace ea:=oa.trans _ _ _ ea ((tb Wc.1.size Wc).alloc zR (.cells #[.pointer (vE ⟨g,1,vD⟩),vd vq L.k,vd vn L.p, .pointer (vE ⟨g,2,vD⟩),vd vq x,vd vn L.p, .pointer (vE ⟨g,3,vD⟩),vd vq y,vd vn L.p] 199));clear Hm;revert Ca ea
 refine zPU ?_
 generalize Wc.alloc _=w2;generalize Wc.1.size=gr;intro Ca ea;refine Pb ?_;refine Hc ?_;replace kl:=kl.drew.below ea kl.lt;replace Fj:=Fj.drew.below ea Fj.lt;replace da:=ma da.drew ea;clear c0 cg l0 lg ea;have c0:=kl.cell;have cg:=Fj.cell;have hlw:w.1.size+1 <= w2.1.size:=kl.lt;have zw:g<w.1.size:=hg;have Px:Hid ([.pointer (vE ⟨g,1,vD⟩),vd vq L.k,vd vn L.p, .pointer (vE ⟨g,2,vD⟩),vd vq x,vd vn L.p, .pointer (vE ⟨g,3,vD⟩),vd vq y,vd vn L.p]=Mn (Gj L g)):=by rw [HP3.out];rfl
 rw [Px.out] at Ca;have m4:=CG It.1 It.2;have m6:=CG DF.1 DF.2;clear It DF Px HP3;go_wp2_with fail
 go_loopw [5,62] (fun v i wr=>∃ k:Nat,k <= S.n4 /\ i=vd vq k /\ wr.ownsRow (w.1.size+1) 199 3 v (3+k) (Mn (Gj L g++gg b4 q4 k T3 L.p)) /\ vA (w.1.size+1) w2 wr) (fun _ i _=>S.n4-(intOf i).toNat)
 case atStart=>exact ⟨0,Kb _,rfl,by simpa [gg] using Ca,tb _ _⟩
 case round =>
  clear Ca c0 cg;obtain ⟨k,hk,rfl,Ca,de⟩:=hrel;obtain ⟨r,cr,rfl,Bg,Cn⟩:=SJ Ca zO;have Vl:=kl.below de zO;have df:=Fj.below de zO;have c0:=Vl.cell;have cg:=df.cell;have l0:=Vl.lt;have lg:=df.lt;have n1:w.1.size≠r:=by omega
  have n2:g≠r:=by omega
  by_cases ta:k<S.n4
  ·have g1:(0:Int)<=k:=by omega
   have g2:(k:Int)<S.n4:=by omega
   go_wp2_with fail
   refine zd (Vk r) [8,13,14] [0,1,2,3,4,5,6,7,10,11,8,9,12,13,14,15] zK zK ?_;refine Ue (oe r) ?_;intro Wc Ja ea;replace Ca:=kR Ja Ca;replace de:=sT Ja de;clear Ja;refine Sm ?_;refine Ic (oe r) rfl rfl rfl ((HT.out _).mono ?_);rintro e w4 ⟨rfl,Db⟩;refine ⟨_,rfl,du Db,?_⟩;replace ea:=zM (oe r) ea (du Db);refine zPU ?_;replace Ca:=Mc Ca Db zR;have fN:w.1.size+1 <= Wc.1.size:=by have:=de.size;omega
   replace de:=qM de Db fN;clear Db fN;refine Sm ?_;refine Te (oe r) rfl rfl rfl ?_;go_simp;refine ⟨du ((tb _ _).alloc zR _),?_⟩;have ja:=zA w4 (.cells #[.pointer (vE ⟨b4,q4+k,vD⟩),vd vq T3,vd vn L.p] 199);have Ra:=SW w4 (.pointer (vE ⟨b4,q4+k,vD⟩)) (vd vq T3) (vd vn L.p) 199;replace ea:=zM (oe r) ea (du ja);replace Ca:=Mc Ca ja zR;replace de:=qM de ja (zQ de.size);have Hm:w.1.size+1 <= (w4.alloc (.cells #[.pointer (vE ⟨b4,q4+k,vD⟩),vd vq T3,vd vn L.p] 199)).1.size:=by have:=de.size;omega
   revert Ra ea Ca de Hm
   refine zPU ?_
   generalize w4.alloc _=We;generalize w4.1.size=ge;intro Ra ea Ca de Hm;refine Te (oe r) rfl rfl rfl ?_;refine zx _ _ rfl TT rfl Ca rfl Ra (iW _ _ _) (by have:=H4.out;have:=HQ.out;omega) Hm ?_
   intro v' wn Tb Va Cc;refine ⟨Va,?_⟩;replace ea:=zM (oe r) ea Va;replace de:=de.trans (zt Va (w.1.size+1) Hm (fun z hz=>by have Ve:r=z:=Ya hz;omega))
   refine zPU ?_
   refine Sm ?_;refine Hc ?_;go_wp2
   go_roundw
   case rel =>
    refine ⟨k+1,zO,by go_num,?_,de⟩
    rw [X9,<- iq,wW];exact Tb
   case measure=>simp [intOf];omega
  ·have ek:k=S.n4:=by omega
   have nm:Hid (Gj L g++gg b4 q4 k T3 L.p=Gj L g++gg b4 q4 L.queries T3 L.p):=by rw [ek,H4.out];rfl
   rw [nm.out] at Ca;clear nm;have EK:=zH ek;clear ek;go_wp2_with fail
   refine zd (Vk r) [7,8] [0,1,2,3,4,5,6,7,8,9] zK zK ?_;refine Ue (oe r) ?_;intro Wc Ja ea;replace Ca:=kR Ja Ca;replace de:=sT Ja de;clear Ja;refine Sm ?_;refine Te (oe r) rfl rfl rfl ?_;go_simp;refine ⟨du ((tb _ _).alloc zR _),?_⟩;have ja:=zA Wc (.cells #[.pointer (vE ⟨g,5,vD⟩),vd vq L.queries,vd vn 18446744069414584321] 199);have Ra:=SW Wc (.pointer (vE ⟨g,5,vD⟩)) (vd vq L.queries) (vd vn 18446744069414584321) 199;replace ea:=zM (oe r) ea (du ja);replace Ca:=Mc Ca ja zR;replace de:=qM de ja (zQ de.size);have Hm:w.1.size+1 <= (Wc.alloc (.cells #[.pointer (vE ⟨g,5,vD⟩),vd vq L.queries,vd vn 18446744069414584321] 199)).1.size:=by have:=de.size;omega
   revert Ra ea Ca de Hm
   refine zPU ?_
   generalize Wc.alloc _=We;generalize Wc.1.size=ge;intro Ra ea Ca de Hm;refine Te (oe r) rfl rfl rfl ?_;refine zx _ _ rfl TT rfl Ca rfl Ra (iW _ _ _) (by have:=H4.out;have:=HQ.out;have:=EK.out;omega) Hm ?_
   intro v' wn Tb Va Cc;refine ⟨Va,?_⟩;replace ea:=zM (oe r) ea Va;replace de:=de.trans (zt Va (w.1.size+1) Hm (fun z hz=>by have Ve:r=z:=Ya hz;omega))
   refine zPU ?_
   refine Sm ?_;refine Hc ?_;obtain ⟨PRE,DU⟩:=zEX (Gj L g++gg b4 q4 L.queries T3 L.p++[(⟨⟨g,5,vD⟩,L.queries,Pe⟩:Ll)]);have J5:wn.ownsRow (w.1.size+1) 199 3 v' (3+k+1) (Mn PRE):=by rw [DU,wW];exact Tb
   have HPRE:=zH DU;clear Ca Tb ea Va Cc Ra Hm c0 cg n1 n2 l0 lg Vl df DU;have Rt:=kl.below de zO;have NA:=Fj.below de zO;have c0:=Rt.cell;have cg:=NA.cell;go_wp2_with fail
   go_loopw [5,95] (fun v i wr=>∃ k2:Nat,k2 <= S.n6 /\ i=vd vq k2 /\ wr.ownsRow (w.1.size+1) 199 3 v (3+k+1+k2) (Mn (PRE++gg b6 q6 k2 j Pe)) /\ vA (w.1.size+1) w2 wr) (fun _ i _=>S.n6-(intOf i).toNat)
   case atStart=>exact ⟨0,Kb _,rfl,by simpa [gg] using J5,de⟩
   case round =>
    clear J5 c0 cg de Rt NA;obtain ⟨k2,hk2,rfl,Ca,de⟩:=hrel;clear Bg Cn;obtain ⟨r,cr2,rfl,Bg,Cn⟩:=SJ Ca zO;have Vl:=kl.below de zO;have df:=Fj.below de zO;have c0:=Vl.cell;have cg:=df.cell;have l0:=Vl.lt;have lg:=df.lt;have n1:w.1.size≠r:=by omega
    have n2:g≠r:=by omega
    by_cases Ck:k2<S.n6
    ·have g1:(0:Int)<=k2:=by omega
     have g2:(k2:Int)<S.n6:=by omega
     go_wp2_with fail
     refine zd (Vk r) [8,10,11] [0,1,2,3,4,5,6,7,8,9,10,11,12] zK zK ?_;refine Ue (oe r) ?_;intro Wc Ja ea;replace Ca:=kR Ja Ca;replace de:=sT Ja de;clear Ja;refine Sm ?_;refine Ic (oe r) rfl rfl rfl ((HLv.out _).mono ?_);rintro e w4 ⟨rfl,Db⟩;refine ⟨_,rfl,du Db,?_⟩;replace ea:=zM (oe r) ea (du Db);refine zPU ?_;replace Ca:=Mc Ca Db zR;have fN:w.1.size+1 <= Wc.1.size:=by have:=de.size;omega
     replace de:=qM de Db fN;clear Db fN;refine Sm ?_;refine Te (oe r) rfl rfl rfl ?_;go_simp;refine ⟨du ((tb _ _).alloc zR _),?_⟩;have ja:=zA w4 (.cells #[.pointer (vE ⟨b6,q6+k2,vD⟩),vd vq j,vd vn 18446744069414584321] 199);have Ra:=SW w4 (.pointer (vE ⟨b6,q6+k2,vD⟩)) (vd vq j) (vd vn 18446744069414584321) 199;replace ea:=zM (oe r) ea (du ja);replace Ca:=Mc Ca ja zR;replace de:=qM de ja (zQ de.size);have Hm:w.1.size+1 <= (w4.alloc (.cells #[.pointer (vE ⟨b6,q6+k2,vD⟩),vd vq j,vd vn 18446744069414584321] 199)).1.size:=by have:=de.size;omega
     revert Ra ea Ca de Hm
     refine zPU ?_
     generalize w4.alloc _=We;generalize w4.1.size=ge;intro Ra ea Ca de Hm;refine Te (oe r) rfl rfl rfl ?_;refine zx _ _ rfl TT rfl Ca rfl Ra (iW _ _ _) (by have:=H4.out;have:=HQ.out;have:=EK.out;have:=H6.out;omega) Hm ?_
     intro v' wn Tb Va Cc;refine ⟨Va,?_⟩;replace ea:=zM (oe r) ea Va;replace de:=de.trans (zt Va (w.1.size+1) Hm (fun z hz=>by have Ve:r=z:=Ya hz;omega))
     refine zPU ?_
     refine Sm ?_;refine Hc ?_;go_wp2
     go_roundw
     case rel =>
      refine ⟨k2+1,zO,by go_num,?_,de⟩
      rw [X9,<- iq,wW];exact Tb
     case measure=>simp [intOf];omega
    ·have oI:k2=S.n6:=by omega
     have nm:Hid (PRE++gg b6 q6 k2 j Pe=Gj L g++gg b4 q4 L.queries T3 L.p++[(⟨⟨g,5,vD⟩,L.queries,Pe⟩:Ll)]++gg b6 q6 L.queries j Pe):=by rw [oI,H6.out,HPRE.out];rfl
     rw [nm.out] at Ca;clear nm oI;go_wp2;go_ret
     exact ⟨_,_,rfl,yv Ca zO,da.trans (de.mono zO)⟩
def gI (P:ie):List (List Nat):=[P.code,P.linear,P.quad]++P.cols++[P.salts]++P.paths
def nx (x:Ll) (l:List Nat):Bool:=((l.length:Int)==x.size)&&l.all (fun n=>decide (n<x.lim))
def xt (ps:List Ll) (ls:List (List Nat)):Bool:=(List.zip ps ls).all fun z=>nx z.1 z.2
theorem lR (x:Ll) (l:List Nat):nx x l=Xj l (x.size:Int) x.lim:=by unfold nx Xj;rw [Bool.and_comm]
theorem jT {a b:List Ll} {c d:List (List Nat)} (h:a.length=c.length):xt (a++b) (c++d)=(xt a c&&xt b d):=by
 unfold xt;rw [List.zip_append h,List.all_append]
theorem LY {ps:List Ll} {ls:List (List Nat)} (h:ps.length=ls.length) (hg:∀ i (h1:i<ps.length) (h2:i<ls.length),nx ps[i] ls[i]=true):xt ps ls=true:=by
 unfold xt;rw [fe];intro z hz;obtain ⟨i,hi,rfl⟩:=Ym hz;have h1:i<ps.length:=by simp at hi;omega
 have h2:i<ls.length:=by simp at hi;omega
 simpa using hg i h1 h2
theorem KY {ps:List Ll} {ls:List (List Nat)} {i:Nat} (h1:i<ps.length) (h2:i<ls.length) (hg:nx ps[i] ls[i]=false):xt ps ls=false:=by
 unfold xt;rw [Oz];refine ⟨(ps[i],ls[i]),?_,by rw [hg];exact Bool.noConfusion⟩
 have:(List.zip ps ls)[i]'zT=(ps[i],ls[i]):=by simp
 rw [<- this];exact He _
theorem tW (b q n size lim:Nat):(gg b q n size lim).length=n:=by simp [gg]
theorem JY (b q size lim:Nat) (ls:List (List Nat)):xt (gg b q ls.length size lim) ls=ls.all (fun l=>Xj l (size:Int) lim):=by
 cases h:ls.all (fun l=>Xj l (size:Int) lim) with
 | true =>
  refine LY (tW _ _ _ _ _) fun i h1 h2=>?_
  rw [lR];have:=fe.1 h ls[i] (He h2)
  simpa [gg] using this
 | false =>
  obtain ⟨l,hl,hb⟩:=Oz.1 h;obtain ⟨i,hi,rfl⟩:=Ym hl;refine KY (i:=i) (by rw [tW];exact hi) hi ?_
  rw [lR];have Sl:Xj ls[i] (size:Int) lim=false:=by simpa using hb
  simpa [gg] using Sl
theorem zCv (x:Ll) (l:List Nat):xt [x] [l]=nx x l:=by simp [xt]
theorem zCu (L:Na) (g:Nat) (a b c:List Nat):xt (Gj L g) [a,b,c]=(Xj a (L.k:Int) L.p&&(Xj b ((L.k+L.block-1:Nat):Int) L.p&&Xj c ((2*L.k-1:Nat):Int) L.p)):=by
 simp only [xt,Gj,List.zip_cons_cons,List.zip_nil_right,List.all_cons,List.all_nil,Bool.and_true,lR]
theorem zHE (L:Na) (j g b4 q4 b6 q6:Nat) (P:ie) (h4:P.cols.length=L.queries) (h6:P.paths.length=L.queries) (hr:decide (Pe <= P.root)=false) :
  Oh L j P=xt (Ui L j g b4 q4 b6 q6) (gI P):=by
 unfold Ui gI Oh;rw [jT,jT,jT]
 ·rw [<- h4,JY,h4,<- h6,JY,h6,zCv,lR,zCu,hr]
  unfold Xt;rw [h4,h6];simp only [beq_self_eq_true,Bool.and_true,Bool.not_false,Bool.true_and,Bool.and_assoc]
 ·simp [Gj]
 ·simp [Gj,gg,h4]
 ·simp [Gj,gg,h4]
theorem zHC {L:Na} {j:Nat} {P:ie} (h:¬(P.cols.length=L.queries /\ P.paths.length=L.queries)):Oh L j P=false:=by
 by_cases h4:P.cols.length=L.queries
 ·have h6:((P.paths.length:Int)==L.queries)=false:=by rw [Gd];omega
  simp [Oh,Xt,h6]
 ·have h6:((P.cols.length:Int)==L.queries)=false:=by rw [Gd];omega
  simp [Oh,Xt,h6]
theorem zHF {L:Na} {j:Nat} {P:ie} (h:decide (Pe <= P.root)=true):Oh L j P=false:=by
 unfold Oh;rw [h]
 rfl
def FO (w:vw) (x:Ll) (l:List Nat):Prop:=∃ b o A n c,x.ptr=⟨b,o,vD⟩ /\ w.cell? ⟨b,o,vD⟩=vE (ve A n c) /\ RWd w [ve A n c] l
def tK (w:vw) (ps:List Ll) (ls:List (List Nat)):Prop:=ps.length=ls.length /\ ∀ i (h1:i<ps.length) (h2:i<ls.length),FO w ps[i] ls[i]
theorem qW {w w':vw} {x:Ll} {l:List Nat} (h:FO w x l) (hb:vA w.1.size w w'):FO w' x l:=by
 obtain ⟨b,o,A,n,c,e,hc,hr⟩:=h;exact ⟨b,o,A,n,c,e,Ww hb hc,Ab hb hr⟩
theorem uW {w:vw} {a b:List Ll} {c d:List (List Nat)} (h:tK w a c) (k:tK w b d):tK w (a++b) (c++d):=by
 refine ⟨by rw [jj,jj,h.1,k.1],fun i h1 h2=>?_⟩
 rcases Wg i a.length with hi | hi
 ·rw [zr hi,zr (by rw [<- h.1];exact hi)]
  exact h.2 i hi (by rw [<- h.1];exact hi)
 ·rw [Vx hi,Vx (by rw [<- h.1];exact hi)]
  have e:i-a.length=i-c.length:=by rw [h.1]
  have:=k.2 (i-a.length) (by simp at h1;omega) (by rw [jj] at h2;rw [h.1];have:=h.1;omega)
  simpa [e] using this
theorem Y9 {w:vw} {b q size lim:Nat} {ls:List (List Nat)} (h:RdL w 1 RWd (vE ⟨b,q,vD⟩) ls):tK w (gg b q ls.length size lim) ls:=by
 refine ⟨tW _ _ _ _ _,fun i h1 h2=>?_⟩
 obtain ⟨b',q',A,n,c,hA,-,hc,hr⟩:=F7 h h2
 injection hA with hA
 injection hA with e1 e2
 subst e1;subst e2;exact ⟨b,q+i,A,n,c,by simp [gg],hc,hr⟩
theorem Z9 {w:vw} {L:Na} {j g b4 q4 b6 q6:Nat} {P:ie} {S:PS} (kg:Blk w g 46 (Wd P S)) (h:Ji w P S) (h4:P.cols.length=L.queries) (h6:P.paths.length=L.queries) (Su:S.A4=vE ⟨b4,q4,vD⟩) (Tu:S.A6=vE ⟨b6,q6,vD⟩) :
  tK w (Ui L j g b4 q4 b6 q6) (gI P):=by
 have r4:=(EJ h.cols).2.2.2;have r6:=(EJ h.paths).2.2.2;rw [Su] at r4;rw [Tu] at r6;have one:∀ (i:Nat) (s lim:Nat) (l:List Nat) (A:Option vy) (n c:Nat),(Wd P S)[i]?=vE (ve A n c) -> RWd w [ve A n c] l -> FO w ⟨⟨g,i,vD⟩,s,lim⟩ l :=
  fun i s lim l A n c hi hr=>⟨g,i,A,n,c,rfl,(kg.cell i).trans hi,hr⟩
 refine uW (uW (uW ?_ ?_) ?_) ?_
 ·refine ⟨rfl,fun i h1 h2=>?_⟩
  match i,h1 with
  | 0,_=>exact one 1 _ _ _ _ _ _ rfl h.code
  | 1,_=>exact one 2 _ _ _ _ _ _ rfl h.linear
  | 2,_=>exact one 3 _ _ _ _ _ _ rfl h.quad
 ·rw [<- h4];exact Y9 r4
 ·refine ⟨rfl,fun i h1 h2=>?_⟩
  match i,h1 with
  | 0,_=>exact one 5 _ _ _ _ _ _ rfl h.salts
 ·rw [<- h6];exact Y9 r6
theorem oR:∀ (l:List Ll) (k:Nat) (h:k<l.length),(Mn l)[k*3]?=vE (.pointer (vE l[k].ptr)) /\ (Mn l)[k*3+1]?=vE (vd vq (l[k].size:Int)) /\ (Mn l)[k*3+2]?=vE (vd vn (l[k].lim:Int))
 | x :: l,0,_=>⟨rfl,rfl,rfl⟩
 | x :: l,k+1,h=>by
  have:=oR l k (by simpa using h)
  have e:Mn (x :: l)=[.pointer (vE x.ptr),vd vq x.size,vd vn x.lim]++Mn l:=rfl;rw [e];refine ⟨?_,?_,?_⟩
  ·rw [jt zT]
   have e1:(k+1)*3 - [Value.pointer (vE x.ptr),vd vq x.size,vd vn x.lim].length=k*3:=by simp;omega
   rw [e1];exact this.1
  ·rw [jt zT]
   have e1:(k+1)*3+1 - [Value.pointer (vE x.ptr),vd vq x.size,vd vn x.lim].length=k*3+1:=by simp;omega
   rw [e1];exact this.2.1
  ·rw [jt zT]
   have e1:(k+1)*3+2 - [Value.pointer (vE x.ptr),vd vq x.size,vd vn x.lim].length=k*3+2:=by simp;omega
   rw [e1];exact this.2.2
theorem pW (L:Na) (j:Nat) (P:ie) (S:PS) (w:vw) (hL:Nb L) (hn:L.n=2^j) (hj:j <= 10) (h:Ji w P S) :
  vB prog 105 #[vf (ib L),vf (Wd P S)] w fun e w'=>e=vl (.bool (Oh L j P)) /\ vA w.1.size w w':=by
 have da:vA w.1.size w ((w.alloc (.cells (ib L) 101)).alloc (.cells (Wd P S) 46)):=((tb _ w).alloc zR _).alloc zS _;have kg:Blk ((w.alloc (.cells (ib L) 101)).alloc (.cells (Wd P S) 46)) (w.1.size+1) 46 (Wd P S):=by
  have:=Blk.new (w.alloc (.cells (ib L) 101)) 46 (Wd P S)
  simpa using this
 have Pc:=CW h da;obtain ⟨e4,a4,m4,r4⟩:=EJ h.cols;obtain ⟨e6,a6,m6,r6⟩:=EJ h.paths;by_cases z:S.n4=L.queries /\ S.n6=L.queries
 rotate_left
 ·have HZ:=zH (zHC (L:=L) (j:=j) (P:=P) (by rw [<- e4,<- e6];exact z))
  have HP:=zH (zHg L P S (w.1.size+1) _ kg z);clear z e4 a4 m4 r4 e6 a6 m6 r6 Pc kg h hn hj hL;unfold ib Wd at *;have aG:=fun (w:vw) (a:Option vy) (n c:Nat)=>Lib.run_eql_slice_nil (P:=prog) w 194 199 a n c 0 0 underlying194
  go_enter func105,ntmps105
  go_wp2_with fail
  refine HP.out.mono ?_;rintro e w1 ⟨rfl,hb⟩;go_wp2;go_ret
  exact ⟨by rw [HZ.out];rfl,ma da hb⟩
 obtain ⟨z4,z6⟩:=z;have hq:=hL.q1;obtain ⟨b4,q4,Su⟩:=r4.base zO zO;obtain ⟨b6,q6,Tu⟩:=r6.base zO zO;have HP:=zH (rW L j P S (w.1.size+1) b4 q4 b6 q6 _ hL hn hj kg z4 z6 kg.lt Su Tu ⟨a4,m4⟩ ⟨a6,m6⟩);have Pt:=Z9 (L:=L) (j:=j) kg Pc (by rw [<- e4];exact z4) (by rw [<- e6];exact z6) Su Tu
 cases hr:decide (Pe <= P.root)
 rotate_left
 ·have HZ:=zH (zHF (L:=L) (j:=j) (P:=P) hr)
  have d1:decide ((18446744069414584321:Int)<=P.root)=true:=xb (by have:=of_decide_eq_true hr;unfold Pe at this;omega)
  have d2:decide (18446744069414584321 <= P.root)=true:=hr;clear hr Pt Su Tu z4 z6 e4 a4 m4 r4 e6 a6 m6 r6 Pc h hq hL hn hj;have jf:0<(Ui L j (w.1.size+1) b4 q4 b6 q6).length:=by simp [Ui,Gj]
  generalize Ui L j (w.1.size+1) b4 q4 b6 q6=ps at *;unfold ib Wd at *;have aG:=fun (w:vw) (a:Option vy) (n c:Nat)=>Lib.run_eql_slice_nil (P:=prog) w 194 199 a n c 0 0 underlying194
  go_enter func105,ntmps105
  go_wp2_with fail
  refine HP.out.mono ?_;rintro e w1 ⟨v,n,rfl,Ca,hb⟩;have qG:=ia kg hb;have cg:=qG.cell;clear kg;have Ag:0<n:=by have:=Ca.1;rw [pR] at this;omega
  obtain ⟨r,cr,rfl,Bg,Cn⟩:=SJ Ca Ag;go_wp2;go_ret
  exact ⟨by rw [HZ.out];rfl,ma da hb⟩
 have HZ:=zH (zHE L j (w.1.size+1) b4 q4 b6 q6 P (by rw [<- e4];exact z4) (by rw [<- e6];exact z6) hr)
 have d1:decide ((18446744069414584321:Int)<=P.root)=false:=db (by have:=of_decide_eq_false hr;unfold Pe at this;omega)
 have d2:decide (18446744069414584321 <= P.root)=false:=hr;have jf:0<(Ui L j (w.1.size+1) b4 q4 b6 q6).length:=by simp [Ui,Gj]
 have Zr:(Ui L j (w.1.size+1) b4 q4 b6 q6).length <= 200:=by have:=hL.q2;simp [Ui,Gj,gg];omega
 rw [HZ.out];clear HZ hr Su Tu z4 z6 e4 a4 m4 r4 e6 a6 m6 r6 Pc h hq hL hn hj;generalize Ui L j (w.1.size+1) b4 q4 b6 q6=ps at *;generalize gI P=ls at *;unfold ib Wd at *;have aG:=fun (w:vw) (a:Option vy) (n c:Nat)=>Lib.run_eql_slice_nil (P:=prog) w 194 199 a n c 0 0 underlying194
 go_enter func105,ntmps105
 go_wp2_with fail
 refine HP.out.mono ?_;rintro e w1 ⟨v,n,rfl,Ca,hb⟩;have qG:=ia kg hb;have cg:=qG.cell;have hps1:tK w1 ps ls:=⟨Pt.1,fun i h1 h2=>qW (Pt.2 i h1 h2) hb⟩
 replace da:=ma da hb;clear kg qG Pt HP hb;have Ag:n=ps.length:=by have:=Ca.1;rw [pR] at this;omega
 obtain ⟨r,cr,rfl,Bg,Cn⟩:=SJ Ca zO;have tl:∀ i u,(Mn ps)[i]?=vE u -> w1.cell? ⟨r,i,vD⟩=vE u:=fun i u hu=>by
  obtain ⟨ad,e,hc⟩:=(Rd.of_own Ca).2 zO
  injection e with e
  subst e;have:=hc i u hu
  simpa [zm] using this
 have NB:=zH tl;clear tl Ca;subst Ag;have Uo:=zH hps1;clear hps1;have gm:(ps.length:Int) <= 200:=by omega
 go_wp2_with fail
 go_loopw [19] (fun i wr=>∃ k:Nat,k <= ps.length /\ i=vd vq k /\ vA w1.1.size w1 wr /\ Hid (∀ i (h1:i<ps.length) (h2:i<ls.length),i<k -> nx ps[i] ls[i]=true)) (fun i _=>ps.length-(intOf i).toNat)
 case atStart=>exact ⟨0,Kb _,rfl,tb _ _,fun i h1 h2 h3=>zO⟩
 case round =>
  clear cg;obtain ⟨k,hk,rfl,yb,HG⟩:=hrel;by_cases ta:k<ps.length
  ·have Ck:k<ls.length:=by rw [<- Uo.out.1];exact ta
   obtain ⟨b,o,A,nn,cc,JM,hc,Zf⟩:=qW (Uo.out.2 k ta Ck) yb;obtain ⟨u0,u1,u2⟩:=oR ps k ta;have c0:=Ww yb (NB.out _ _ u0);have c1:=Ww yb (NB.out _ _ u1);have c2:=Ww yb (NB.out _ _ u2);rw [JM] at c0;clear u0 u1 u2;have ZL:Hid (nx ps[k] ls[k]=(((ls[k].length:Int) == (ps[k].size:Int))&&ls[k].all (fun n=>decide (n<ps[k].lim)))):=rfl
   have HB:=zH (fun w (h:RWd w [ve A nn cc] ls[k])=>rT A nn cc ls[k] ps[k].lim w h)
   have Xn:=zH ta;have jm:=zH Ck;obtain ⟨enn,hcc1,hcc2,-,-⟩:=Ev Zf;have gnn:=CG hcc1 hcc2;have ENN:=zH enn;clear enn hcc1 hcc2 JM;have tY:=zH (fun (hh:nx ps[k] ls[k]=false)=>KY ta Ck hh)
   have yO:=zH (fun (hh:nx ps[k] ls[k]=true)=>(fun i (h1:i<ps.length) (h2:i<ls.length) (h3:i<k+1)=>(by
    rcases Wg i k with h5 | h5
    ·exact HG.out i h1 h2 h5
    ·have e:i=k:=by omega
     subst e;exact hh:nx ps[i] ls[i]=true)))
   revert c1 c2 ZL HB
   generalize ps[k].size=size;generalize ps[k].lim=lim;generalize Gh:ls[k].all (fun n=>decide (n<lim))=bb
   intro c1 c2 ZL HB;clear Gh;have lb:b<wr.1.size:=Gf _ _ hc;have lr:r<wr.1.size:=Gf _ _ c0;have g1:(0:Int)<=k:=by omega
   have g2:(k:Int)<ps.length:=by omega
   obtain ⟨ja,kx⟩:=(zN wr 199 #[.pointer (vE ⟨b,o,vD⟩),vd vq size,vd vn lim]).symm;by_cases zs:nn=size
   rotate_left
   ·have y1:((nn:Int)!=size)=true:=by rw [ef];omega
    have HF:=zH (tY.out (ZL.out.trans (by rw [<- ENN.out,show ((nn:Int)==size)=false by rw [Gd];omega];rfl)))
    clear zs;go_wp2_with fail
    replace Zf:=Ab ja Zf;replace hc:=Ww ja hc;replace yb:=ma yb ja;replace lb:b<(wr.alloc (.cells #[.pointer (vE ⟨b,o,vD⟩),vd vq size,vd vn lim] 199)).1.size:=Gf _ _ hc;clear c0 c1 c2 lr ja;revert kx Zf hc yb lb
    generalize wr.alloc _=w7;generalize wr.1.size=gx;intro kx Zf hc yb lb;have cx:=kx.cell;have lx:=kx.lt;refine zd (Wb) [15] [0,1,2,3,4,5,6,7,8,9,10,11,12,13,14,15,16,17] zK zK ?_;refine Gv (oa) ?_;intro Wc ea;refine Pb ?_;refine Hc ?_;go_wp2;go_ret
    exact ⟨by rw [HF.out];rfl,ma (ma da yb.drew) ea⟩
   have y1:((nn:Int)!=size)=false:=by rw [Hr];omega
   have HGG:=zH (show nx ps[k] ls[k]=bb from ZL.out.trans (by rw [<- ENN.out,show ((nn:Int)==size)=true by rw [Dh];omega];rfl))
   clear zs ZL;go_wp2_with fail
   replace Zf:=Ab ja Zf;replace hc:=Ww ja hc;replace yb:=ma yb ja;replace lb:b<(wr.alloc (.cells #[.pointer (vE ⟨b,o,vD⟩),vd vq size,vd vn lim] 199)).1.size:=Gf _ _ hc;clear c0 c1 c2 lr ja;revert kx Zf hc yb lb
   generalize wr.alloc _=w7;generalize wr.1.size=gx;intro kx Zf hc yb lb;have cx:=kx.cell;have lx:=kx.lt;refine zd (Wb) [15] [0,1,2,3,4,5,6,7,8,9,10,11,12,13,14,15,16,17] zK zK ?_;refine Gv (oa) ?_;intro Wc ea;refine Pb ?_;refine Ic oa rfl rfl rfl ((HB.out _ (Ab ea Zf)).mono ?_);rintro e w8 ⟨rfl,rfl⟩;refine ⟨_,rfl,oa.refl _,?_⟩;replace ea:=zM oa ea (oa.refl _);refine zPU ?_;cases bb
   ·have HF:=zH (tY.out HGG.out)
    refine Pb ?_;refine Hc ?_;go_wp2;go_ret
    exact ⟨by rw [HF.out];rfl,ma (ma da yb.drew) ea⟩
   ·refine Pb ?_
    refine Hc ?_;go_wp2
    go_roundw
    case rel=>exact ⟨k+1,zO,by go_num,ma yb.drew ea,yO.out HGG.out⟩
    case measure=>simp [intOf];omega
  ·have HT:=zH (LY Uo.out.1 fun i h1 h2=>HG.out i h1 h2 zO)
   go_wp2;go_ret
   exact ⟨by rw [HT.out];rfl,ma da yb⟩
theorem zC1:prog.cellsOf 32=11:=by kernel_rfl
theorem RWd.slc {w:vw} {v:vx} {l:List Nat} (h:RWd w [v] l):slc v:=by
 obtain ⟨A,n,c,e,-⟩:=h;simp at e
 exact ⟨A,n,c,e⟩
def dh (P:ie):List Nat:=[P.root]++P.code++P.linear++P.quad++P.cols.flatten++P.salts++P.paths.flatten
theorem zGE (w:vw) (base:Nat) (x:vx) (hb:base <= w.1.size):(w.alloc (.cells #[x] 22)).ownsRow base 22 1 (ve (vE ⟨w.1.size,0,vD⟩) 1 1) 1 [x] :=
 ⟨rfl, .inr ⟨w.1.size,1,_,rfl,hb,heap_alloc_new w _,zO,by simp [maxLen],rfl,rfl⟩⟩
theorem zGD {W W':vw} {B:Nat} {e:vz} {size:Nat} {v:vx} {n:Nat} {xs:List vx} (h:W.ownsRow B e size v n xs) (hg:W.grownBy W' v.ownBlock) (hB:B <= W.1.size):vA B W W' :=
 zt hg B hB fun g e=>(h.lt g e).1
theorem zEx (ls:List (List Nat)) (k:Nat) (h:k<ls.length):(ls.take (k+1)).flatten=(ls.take k).flatten++ls[k]:=by
 rw [Lv h,List.flatten_append];simp
theorem zEw (ls:List (List Nat)) (k:Nat):(ls.take k).flatten.length <= ls.flatten.length:=by
 have:(ls.take k).flatten++(ls.drop k).flatten=ls.flatten:=by rw [<- List.flatten_append,List.take_append_drop]
 rw [<- this,jj];omega
theorem zIC (A B:Option vy) (n c m d:Nat) (l r:List Nat) (w:vw) (hl:RWd w [ve A n c] l) (hr:RWd w [ve B m d] r) :
  vB prog 68 #[ve A n c,ve B m d] w fun e w'=>e=vl (.bool (decide (l=r))) /\ ∃ k,w'=w.drewN k:=by
 obtain ⟨rfl,h1,h2,-,Ra⟩:=Ev hl;obtain ⟨rfl,h3,h4,-,Im⟩:=Ev hr;have gm:=CG h1 h2;have gr:=CG h3 h4;clear hl hr h1 h2 h3 h4;by_cases z:l.length=r.length
 rotate_left
 ·have d1:((l.length:Int)!=r.length)=true:=by rw [ef];omega
  have HZ:=zH (show decide (l=r)=false from db fun e=>z (by rw [e]))
  clear z Ra Im;go_enter func68,ntmps68
  go_wp2;go_ret
  exact ⟨by rw [HZ.out];rfl,0,rfl⟩
 have d1:((l.length:Int)!=r.length)=false:=by rw [Hr];omega
 have HE:=zH z;clear z;go_enter func68,ntmps68
 go_wp2_with fail
 go_loopw [5] (fun i wr=>∃ j kk:Nat,j <= l.length /\ i=vd vq j /\ wr=w.drewN kk /\ Hid (∀ k<j,l.getD k 0=r.getD k 0)) (fun i _=>l.length-(intOf i).toNat)
 case atStart=>exact ⟨0,0,Kb _,rfl,rfl,fun k hk=>zO⟩
 case round =>
  obtain ⟨j,kk,hj,rfl,rfl,HB⟩:=hrel;by_cases ta:j<l.length
  ·have Ck:j<r.length:=by rw [<- HE.out];exact ta
   obtain ⟨b,q,rfl,Gb,hc⟩:=nS Ra ta;obtain ⟨b',q',rfl,Ur,yq⟩:=nS Im Ck;have HL:=zH ta;have jm:=zH Ck;have g1:(0:Int)<=j:=by omega
   have g2:(j:Int)<l.length:=by omega
   have g3:(j:Int)<r.length:=by omega
   revert hc yq
   generalize hy:l.getD j 0=y;generalize hz:r.getD j 0=z;intro hc yq;have HY:=zH hy;have HZ:=zH hz;clear hy hz Ra Im;by_cases e:y=z
   ·have d2:((y:Int)!=z)=false:=by rw [Hr];omega
    have HYZ:=zH e;clear e;go_wp2_with fail
    go_quiet (fail)
    go_wp2
    go_roundw
    case rel =>
     refine ⟨j+1,_,zO,by go_num,rfl,fun k hk=>?_⟩
     rcases Wg k j with h5 | h5
     ·exact HB.out k h5
     ·have e:k=j:=by omega
      rw [e,HY.out,HZ.out,HYZ.out]
    case measure=>simp [intOf];omega
   ·have d2:((y:Int)!=z)=true:=by rw [ef];omega
    have HF:=zH (show decide (l=r)=false from db fun h=>e (by rw [<- HY.out,<- HZ.out,h]))
    clear e;go_wp2_with fail
    go_quiet (fail)
    go_wp2;go_ret
    exact ⟨by rw [HF.out];rfl,_,World.drewN_drewN ..⟩
  ·have e:j=l.length:=by omega
   have HF:=zH (show decide (l=r)=true from xb (Kv HE.out fun i h1 h2=>by
    have:=HB.out i zO
    simpa [Fb,Qb h1,Qb h2] using this))
   clear Ra Im;go_wp2;go_ret
   exact ⟨by rw [HF.out];rfl,_,rfl⟩
theorem zIU (L:Na) (j:Nat) (w:vw) (hL:Nb L) (hn:L.n=2^j) (hj:j <= 10) :
  vB prog 47 #[vf (ib L)] w fun e w'=>e=vl (vd vq (gh L j:Nat)) /\ vA w.1.size w w':=by
 have pH:=zH (fun w=>U6 L w hL)
 have HD:=zH (fun w=>zDv L.n j w hn hj)
 have HT:=zH (fun w=>zAt L.p L.block L.queries L.k L.n L.secret L.rows L.a L.b L.b L.b w hL.a hL.b hL.b hL.b)
 have h1:=hL.b1;have h2:=hL.b2;have h3:=hL.q1;have h4:=hL.q2;have h5:=hL.k;have h6:=hL.a;have h7:=hL.b;have hS:gh L j=8*(1+(L.k+(L.k+L.block-1)+(2*L.k-1))+L.queries*(L.a+L.b+L.b+L.b+3+1+j)):=rfl;have hT:L.a+L.b+L.b+L.b <= 400000:=by omega
 obtain ⟨T,zy⟩:=zEX (L.a+L.b+L.b+L.b);rw [<- zy] at HT hS hT;obtain ⟨T2,DC⟩:=zEX (T+3+1+j);rw [<- DC] at hS;have hM:L.queries*T2 <= 64*T2:=Tz _ h4;obtain ⟨M,jw⟩:=zEX (L.queries*T2);rw [<- jw] at hS hM;obtain ⟨Z,hZ⟩:=zEX (gh L j);rw [<- hZ] at hS;rw [<- hZ];obtain ⟨x,hx⟩:=zEX (L.k+L.block-1);obtain ⟨y,hy⟩:=zEX (2*L.k-1);rw [<- hx,<- hy] at pH;rw [<- hx,<- hy] at hS;obtain ⟨X1,hX1⟩:=zEX (1+L.k);obtain ⟨X2,hX2⟩:=zEX (X1+x);obtain ⟨X3,hX3⟩:=zEX (X2+y);obtain ⟨X4,hX4⟩:=zEX (X3+M);obtain ⟨T3,hT3⟩:=zEX (T+3);obtain ⟨T4,hT4⟩:=zEX (T3+1);have u1:(1:Int)+L.k=(X1:Int):=by omega
 have v1:=Qc X1;have u2:(X1:Int)+x=(X2:Int):=by omega
 have v2:=Qc X2;have u3:(X2:Int)+y=(X3:Int):=by omega
 have v3:=Qc X3;have u4:(X3:Int)+M=(X4:Int):=by omega
 have v4:=Qc X4;have u5:(T:Int)+3=(T3:Int):=by omega
 have v5:=Qc T3;have u6:(T3:Int)+1=(T4:Int):=by omega
 have v6:=Qc T4;have u7:(T4:Int)+j=(T2:Int):=by omega
 have v7:=Qc T2;have u8:(L.queries:Int)*T2=(M:Int):=by rw [jw];exact (Qf _ _).symm
 have v8:=Qc M;have u9:(8:Int)*X4=(Z:Int):=by omega
 have v9:=Qc Z;clear h1 h2 h3 h4 h5 h6 h7 hS hT zy DC hM jw hZ hx hy hX1 hX2 hX3 hX4 hT3 hT4 hL hn hj;unfold ib at pH |-;go_enter func47,ntmps47
 go_wp2_with fail
 refine (pH.out _).mono ?_;rintro e w1 ⟨rfl,hb⟩;have k1:=(Blk.new w 35 #[vd vn L.p,vd vq L.block,vd vq L.queries,vd vq L.k,vd vq L.n,vd vq L.secret,vd vq L.rows,vd vq L.a,vd vq L.b,vd vq L.b,vd vq L.b]).below hb zS;have Ib:=ma ((tb _ w).alloc zR _) hb;have kl:=k1.alloc (.cells #[vd vq L.k,vd vq x,vd vq y] 108);have k3:=Blk.new w1 108 #[vd vq L.k,vd vq x,vd vq y];have Gb:=Ib.alloc Ib.size (.cells #[vd vq L.k,vd vq x,vd vq y] 108);clear hb k1 Ib;go_wp2_with fail
 revert kl k3 Gb
 generalize w1.alloc _=w2;generalize w1.1.size=g;intro kl k3 Gb;have c1:=kl.cell;have c3:=k3.cell;have l1:=kl.lt;have l3:=k3.lt;refine zd (Wb) [12,17] [0,1,2,3,4,5,6,7,8,9,10,11,15,16,12,13,14,17,18,19,20,21,22] zK zK ?_;refine Gv (oa) ?_;intro Wc ea;refine Pb ?_;refine Ic oa rfl rfl rfl ((HT.out _).mono ?_);rintro e w4 ⟨rfl,Db⟩;refine ⟨_,rfl,Db,?_⟩;replace ea:=zM oa ea (Db);refine zPU ?_;refine Pb ?_;refine Ic oa rfl rfl rfl ((HD.out _).mono ?_);rintro e w5 ⟨rfl,rfl⟩;refine ⟨_,rfl,oa.refl _,?_⟩;replace ea:=zM oa ea (oa.refl _);refine zPU ?_;refine Pb ?_;refine Hc ?_;go_wp2;go_ret
 exact ⟨rfl,ma Gb.drew ea⟩
theorem Z8 {w:vw} {B m:Nat} {v:vx} {a b c:List Nat} (h:w.ownsRow B 22 1 v m (Oa a++Oa b)) (e:a++b=c):w.ownsRow B 22 1 v m (Oa c):=by
 rw [<- e,zY];exact h
theorem B8 {w:vw} {P:ie} {S:PS} (h:Ji w P S):∀ x∈dh P,x<18446744073709551616:=by
 have hc:∀ {A:Option vy} {n c:Nat} {ls:List (List Nat)},RSl 1 RWd w [ve A n c] ls -> ∀ l∈ls,∀ x∈l,x<18446744073709551616:=fun hh l hl x hx=>by
  obtain ⟨i,hi,rfl⟩:=Ym hl;obtain ⟨b,q,A1,n1,c1,-,-,-,hr⟩:=F7 (EJ hh).2.2.2 hi;exact (Ev hr).2.2.2.1 x hx
 intro x hx;simp only [dh,jq,Zo,List.mem_flatten] at hx;rcases hx with (((((rfl | hx) | hx) | hx) | ⟨l,hl,hx⟩) | hx) | ⟨l,hl,hx⟩
 ·exact h.root
 ·exact (Ev h.code).2.2.2.1 x hx
 ·exact (Ev h.linear).2.2.2.1 x hx
 ·exact (Ev h.quad).2.2.2.1 x hx
 ·exact hc h.cols l hl x hx
 ·exact (Ev h.salts).2.2.2.1 x hx
 ·exact hc h.paths l hl x hx
def Bm (n size:Nat) (l:List Nat):List (List Nat):=(List.range n).map fun i=>(l.drop (i*size)).take size
def Nf (L:Na) (j:Nat) (x:List Nat):ie :=
 let a:=1+L.k
 let b:=L.k+L.block-1
 let c:=2*L.k-1
 let t:=L.a+L.b+L.b+L.b+3
 {root:=x.getD 0 0,code:=(x.drop 1).take L.k,linear:=(x.drop a).take b,quad:=((x.drop a).drop b).take c,
  cols:=Bm L.queries t (((x.drop a).drop b).drop c),salts:=((((x.drop a).drop b).drop c).drop (L.queries*t)).take L.queries,
  paths:=Bm L.queries j (((((x.drop a).drop b).drop c).drop (L.queries*t)).drop L.queries) }
def RWF (C:vw -> Prop) (cs:List vx) (l:List Nat):Prop:=∀ u,C u -> RWd u cs l
structure Cut (C:vw -> Prop) (A:Option vy) (l h c:Nat) (A':Option vy) (n' c':Nat) (y:List Nat):Prop where
 eq:sliced A l h c 1=ve A' n' c'
 rd:RWF C [ve A' n' c'] y
theorem pX {w:vw} {g:Nat} {t:vz} {y0 y1 y2 y3 y4 y5 y6:vx} (k:Blk w g t #[y0,y1,y2,y3,y4,y5,y6]) (x0 x1 x2 x3 x4 x5 x6:vx):Blk (((((((w.setCell ⟨g,0,vD⟩ x0).setCell ⟨g,1,vD⟩ x1).setCell ⟨g,2,vD⟩ x2).setCell ⟨g,3,vD⟩ x3).setCell ⟨g,4,vD⟩ x4).setCell ⟨g,5,vD⟩ x5).setCell ⟨g,6,vD⟩ x6) g t #[x0,x1,x2,x3,x4,x5,x6]:=by
 have h:=(((((((k.set_ 0 x0).set_ 1 x1).set_ 2 x2).set_ 3 x3).set_ 4 x4).set_ 5 x5).set_ 6 x6)
 simpa using h
theorem qX {w:vw} {g:Nat} (x0 x1 x2 x3 x4 x5 x6:vx):w.grownBy (((((((w.setCell ⟨g,0,vD⟩ x0).setCell ⟨g,1,vD⟩ x1).setCell ⟨g,2,vD⟩ x2).setCell ⟨g,3,vD⟩ x3).setCell ⟨g,4,vD⟩ x4).setCell ⟨g,5,vD⟩ x5).setCell ⟨g,6,vD⟩ x6) (vE g):=by
 iterate 7 refine mh ?_ (.inl rfl) _
 exact Ce w _
theorem dI (n s:Nat) (l:List Nat):(Bm n s l).length=n:=by simp [Bm]
theorem DT (n s:Nat) (l:List Nat) (i:Nat) (h:i<(Bm n s l).length):(Bm n s l)[i]=(l.drop (i*s)).take s:=by simp [Bm]
theorem r9 {w w':vw} {base B:Nat} {e:vz} {size:Nat} {v:vx} {n:Nat} {xs:List vx} (h:w.ownsRow base e size v n xs) (hg:w.grownBy w' (vE B)) (hB:B<base):w'.ownsRow base e size v n xs:=by
 obtain ⟨h1,h2⟩:=h;refine ⟨h1,?_⟩;rcases h2 with h2 | ⟨g,cap,cur,hv,il,hh,r⟩
 ·exact Or.inl h2
 ·exact Or.inr ⟨g,cap,cur,hv,il,by rw [hg.block g (ru.1 hh).1 (fun e=>by have:=Ya e;omega)];exact hh,r⟩
theorem zE5:(prog.info? 28).map (fun i=>(i.zero,i.size,i.bytes))=vE (vE (ve vD 0 0),1,24):=by kernel_rfl
theorem zDY:Tq prog 39 28 1 24 (ve vD 0 0):=by
 obtain ⟨i0,hi,Yh,ud,Ve⟩:=info_parts zE5;exact ⟨underlying39,⟨i0,hi,Yh,ud,Ve⟩,rfl,zO⟩
def uc (L:Na) (j:Nat) (i:Nat):Nat × Nat :=
 if i=0 then (L.k,L.p) else if i=1 then (L.k+L.block-1,L.p) else if i=2 then (2*L.k-1,L.p)
 else if i<3+L.queries then (L.a+L.b+L.b+L.b+3,L.p) else if i=3+L.queries then (L.queries,Pe) else (j,Pe)
def nh (L:Na) (P:ie) (i:Nat):List Nat :=
 if i=0 then P.code else if i=1 then P.linear else if i=2 then P.quad
 else if i<3+L.queries then P.cols.getD (i-3) [] else if i=3+L.queries then P.salts else P.paths.getD (i-4-L.queries) []
def aB (L:Na) (j:Nat) (b:List Nat):ie :=
 let u:=mi (Pe-1) b false
 let f:=Yt (uc L j) u.2.1 u.2.2
 {root:=u.1,code:=f 0,linear:=f 1,quad:=f 2,cols:=(List.range L.queries).map fun i=>f (3+i),salts:=f (3+L.queries),paths:=(List.range L.queries).map fun i=>f (4+L.queries+i) }
def WD (L:Na) (j:Nat) (b:List Nat):List Nat × Bool :=
 Dl (uc L j) (mi (Pe-1) b false).2.1 (mi (Pe-1) b false).2.2 (4+2*L.queries)
theorem ZR (L:Na) (j:Nat):∀ i,i <= L.queries -> Se (uc L j) (3+i)=L.k+(L.k+L.block-1)+(2*L.k-1)+i*(L.a+L.b+L.b+L.b+3)
 | 0,_=>by simp [Se,uc]
 | i+1,h=>by
  have e:Se (uc L j) (3+(i+1))=Se (uc L j) (3+i)+(uc L j (3+i)).1:=rfl;rw [e,ZR L j i zO,Nat.succ_mul i];simp only [uc];rw [ya zO,ya zO,ya zO,Ka zO];omega
theorem zJd (L:Na) (j:Nat):Se (uc L j) (4+L.queries)=L.k+(L.k+L.block-1)+(2*L.k-1)+L.queries*(L.a+L.b+L.b+L.b+3)+L.queries:=by
 have e:Se (uc L j) (3+L.queries+1)=Se (uc L j) (3+L.queries)+(uc L j (3+L.queries)).1:=rfl;rw [show 4+L.queries=3+L.queries+1 by omega,e,ZR L j _ zR]
 simp only [uc];rw [ya zO,ya zO,ya zO,ya zO,Ka trivial]
theorem IX (L:Na) (j:Nat):∀ i,i <= L.queries -> Se (uc L j) (4+L.queries+i)=L.k+(L.k+L.block-1)+(2*L.k-1)+L.queries*(L.a+L.b+L.b+L.b+3)+L.queries+i*j
 | 0,_=>by rw [tt,zJd];simp
 | i+1,h=>by
  have e:Se (uc L j) (4+L.queries+(i+1))=Se (uc L j) (4+L.queries+i)+(uc L j (4+L.queries+i)).1:=rfl;rw [e,IX L j i zO,Nat.succ_mul i];simp only [uc];rw [ya zO,ya zO,ya zO,ya zO,ya zO];omega
theorem zJc (L:Na) (j:Nat):gh L j=8*(1+Se (uc L j) (4+2*L.queries)):=by
 rw [show 4+2*L.queries=4+L.queries+L.queries by omega,IX L j _ zR]
 unfold gh;rw [Nat.mul_add L.queries _ j,Nat.mul_add L.queries _ 1];omega
theorem J4 (n s:Nat) (l:List Nat) (i:Nat) (h:i<n):(Bm n s l).getD i []=(l.drop (i*s)).take s:=by
 rw [Fb,Qb (by rw [dI];exact h),DT]
 rfl
theorem zHp (L:Na) (j:Nat) (b:List Nat) (n:Nat) (hn:n=1+Se (uc L j) (4+2*L.queries)) (i:Nat) (hi:i<4+2*L.queries) :
  nh L (Nf L j (Gc n b)) i=Gc (uc L j i).1 ((b.drop 8).drop (8*Se (uc L j) i)):=by
 have hm:=GX (uc L j) (4+2*L.queries) (i+1) zO;rw [Se] at hm;have key:∀ s k,s+k <= n -> ((Gc n b).drop s).take k=Gc k (b.drop (8*s)):=fun s k h=>zBY n b s k h
 rw [Mj];have e8:8+8*Se (uc L j) i=8*(1+Se (uc L j) i):=by omega
 rw [e8];by_cases h0:i=0
 ·subst h0
  have e:(uc L j 0).1=L.k:=rfl;rw [e] at hm |-;exact key 1 L.k (by simp only [Se] at hm;omega)
 by_cases h1:i=1
 ·subst h1
  have e:(uc L j 1).1=L.k+L.block-1:=rfl;have es:Se (uc L j) 1=L.k:=by simp [Se,uc]
  rw [e,es] at hm |-;exact key (1+L.k) _ zO
 by_cases h2:i=2
 ·subst h2
  have e:(uc L j 2).1=2*L.k-1:=rfl;have es:Se (uc L j) 2=L.k+(L.k+L.block-1):=by simp [Se,uc]
  rw [e,es] at hm |-;show (((Gc n b).drop (1+L.k)).drop (L.k+L.block-1)).take (2*L.k-1)=_
  rw [Mj];exact (key _ _ zO).trans (by rw [Nat.add_assoc])
 by_cases h3:i<3+L.queries
 ·obtain ⟨q,rfl⟩:∃ q,i=3+q:=⟨i-3,zO⟩
  have e:(uc L j (3+q)).1=L.a+L.b+L.b+L.b+3:=by simp only [uc];rw [ya h0,ya h1,ya h2,Ka h3]
  rw [e,ZR L j q zO] at hm |-;have ep:nh L (Nf L j (Gc n b)) (3+q)=(Nf L j (Gc n b)).cols.getD q []:=by
   simp only [nh];rw [ya h0,ya h1,ya h2,Ka h3,show 3+q-3=q by omega]
  rw [ep];show (Bm _ _ ((((Gc n b).drop (1+L.k)).drop (L.k+L.block-1)).drop (2*L.k-1))).getD q []=_
  rw [J4 _ _ _ _ zO,Mj,Mj,Mj];exact (key _ _ zO).trans (by simp only [Nat.add_assoc])
 by_cases h4:i=3+L.queries
 ·subst h4
  have e:(uc L j (3+L.queries)).1=L.queries:=by simp only [uc];rw [ya h0,ya h1,ya h2,ya h3,Ka trivial]
  rw [e,ZR L j L.queries zR] at hm |-;have ep:nh L (Nf L j (Gc n b)) (3+L.queries)=(Nf L j (Gc n b)).salts:=by
   simp only [nh];rw [ya h0,ya h1,ya h2,ya h3,Ka trivial]
  rw [ep];show ((((((Gc n b).drop (1+L.k)).drop (L.k+L.block-1)).drop (2*L.k-1))).drop (L.queries*(L.a+L.b+L.b+L.b+3))).take L.queries=_
  rw [Mj,Mj,Mj];exact (key _ _ zO).trans (by simp only [Nat.add_assoc])
 ·obtain ⟨q,rfl⟩:∃ q,i=4+L.queries+q:=⟨i-4-L.queries,zO⟩
  have e:(uc L j (4+L.queries+q)).1=j:=by simp only [uc];rw [ya h0,ya h1,ya h2,ya h3,ya h4]
  rw [e,IX L j q zO] at hm |-;have ep:nh L (Nf L j (Gc n b)) (4+L.queries+q)=(Nf L j (Gc n b)).paths.getD q []:=by
   simp only [nh];rw [ya h0,ya h1,ya h2,ya h3,ya h4,show 4+L.queries+q-4-L.queries=q by omega]
  rw [ep];show (Bm _ _ (((((Gc n b).drop (1+L.k)).drop (L.k+L.block-1)).drop (2*L.k-1)).drop (L.queries*(L.a+L.b+L.b+L.b+3)) |>.drop L.queries)).getD q []=_
  rw [J4 _ _ _ _ zO,Mj,Mj,Mj,Mj,Mj];exact (key _ _ zO).trans (by simp only [Nat.add_assoc])
theorem zHq (L:Na) (j:Nat) (b:List Nat) (i:Nat) (hi:i<4+2*L.queries):nh L (aB L j b) i=Yt (uc L j) (mi (Pe-1) b false).2.1 (mi (Pe-1) b false).2.2 i:=by
 by_cases h0:i=0
 ·subst h0;rfl
 by_cases h1:i=1
 ·subst h1;rfl
 by_cases h2:i=2
 ·subst h2;rfl
 by_cases h3:i<3+L.queries
 ·obtain ⟨q,rfl⟩:∃ q,i=3+q:=⟨i-3,zO⟩
  simp only [nh];rw [ya h0,ya h1,ya h2,Ka h3,show 3+q-3=q by omega]
  simp [aB,Fb,show q<L.queries by omega]
 by_cases h4:i=3+L.queries
 ·subst h4
  simp only [nh];rw [ya h0,ya h1,ya h2,ya h3,Ka trivial]
  rfl
 ·obtain ⟨q,rfl⟩:∃ q,i=4+L.queries+q:=⟨i-4-L.queries,zO⟩
  simp only [nh];rw [ya h0,ya h1,ya h2,ya h3,ya h4,show 4+L.queries+q-4-L.queries=q by omega]
  simp [aB,Fb,show q<L.queries by omega]
theorem B7 {a b:List (List Nat)} (hl:a.length=b.length) (h:∀ i<a.length,a.getD i []=b.getD i []):a=b:=by
 refine Kv hl fun i h1 h2=>?_
 have:=h i h1
 simpa [Fb,Qb h1,Qb h2] using this
theorem zHN (L:Na) (P P':ie) (hr:P.root=P'.root) (h1:P.cols.length=L.queries) (h2:P'.cols.length=L.queries) (h3:P.paths.length=L.queries) (h4:P'.paths.length=L.queries)
  (h:∀ i<4+2*L.queries,nh L P i=nh L P' i):P=P':=by
 have e0:=h 0 zO;have e1:=h 1 zO;have e2:=h 2 zO;have e3:P.cols=P'.cols:=B7 (by rw [h1,h2]) fun i hi=>by
  have:=h (3+i) zO;simp only [nh] at this;rw [ya zO,ya zO,ya zO,Ka zO,ya zO,ya zO,ya zO,Ka zO,show 3+i-3=i by omega] at this
  exact this
 have e4:P.salts=P'.salts:=by
  have:=h (3+L.queries) zO;simp only [nh] at this;rw [ya zO,ya zO,ya zO,ya zO,Ka trivial,ya zO,ya zO,ya zO,ya zO,Ka trivial] at this;exact this
 have e5:P.paths=P'.paths:=B7 (by rw [h3,h4]) fun i hi=>by
  have:=h (4+L.queries+i) zO;simp only [nh] at this;rw [ya zO,ya zO,ya zO,ya zO,ya zO,ya zO,ya zO,ya zO,ya zO,ya zO,show 4+L.queries+i-4-L.queries=i by omega] at this
  exact this
 cases P
 cases P'
 simp only [nh] at e0 e1 e2
 simp_all
theorem AL (l:List Nat) (n:Nat) (p:Nat) (hl:l.length=n):Xj l (n:Int) p=true↔∀ x∈l,x<p:=by
 simp [Xj,hl]
theorem C7 (ls:List (List Nat)) (m n:Nat) (p:Nat) (hm:ls.length=m) (hl:∀ l∈ls,l.length=n):Xt ls (m:Int) (n:Int) p=true↔∀ l∈ls,∀ x∈l,x<p:=by
 simp only [Xt,Vb,fe,hm,beq_self_eq_true,and_true];exact ⟨fun h l Tl=>(AL l n p (hl l Tl)).1 (h l Tl),fun h l Tl=>(AL l n p (hl l Tl)).2 (h l Tl)⟩
theorem zHB (L:Na) (j:Nat) (P:ie) (h1:P.cols.length=L.queries) (h3:P.paths.length=L.queries) (hl:∀ i<4+2*L.queries,(nh L P i).length=(uc L j i).1) :
  Oh L j P=true↔P.root<Pe /\ ∀ i<4+2*L.queries,∀ x∈nh L P i,x<(uc L j i).2:=by
 have hc:∀ l∈P.cols,∃ i<L.queries,l=nh L P (3+i) /\ uc L j (3+i)=(L.a+L.b+L.b+L.b+3,L.p):=fun l Tl=>by
  obtain ⟨i,hi,rfl⟩:=Ym Tl;refine ⟨i,zO,?_,?_⟩
  ·simp only [nh]
   rw [ya zO,ya zO,ya zO,Ka zO,show 3+i-3=i by omega,Fb,Qb hi]
   rfl
  ·simp only [uc]
   rw [ya zO,ya zO,ya zO,Ka zO]
 have hp:∀ l∈P.paths,∃ i<L.queries,l=nh L P (4+L.queries+i) /\ uc L j (4+L.queries+i)=(j,Pe):=fun l Tl=>by
  obtain ⟨i,hi,rfl⟩:=Ym Tl;refine ⟨i,zO,?_,?_⟩
  ·simp only [nh]
   rw [ya zO,ya zO,ya zO,ya zO,ya zO,show 4+L.queries+i-4-L.queries=i by omega,Fb,Qb hi]
   rfl
  ·simp only [uc]
   rw [ya zO,ya zO,ya zO,ya zO,ya zO]
 have hs:nh L P (3+L.queries)=P.salts /\ uc L j (3+L.queries)=(L.queries,Pe):=by
  simp only [nh,uc];rw [ya zO,ya zO,ya zO,ya zO,Ka trivial,ya zO,ya zO,ya zO,ya zO,Ka trivial];exact ⟨rfl,rfl⟩
 have l0:P.code.length=L.k:=hl 0 zO;have l1:P.linear.length=L.k+L.block-1:=hl 1 zO;have l2:P.quad.length=2*L.k-1:=hl 2 zO;have l3:P.salts.length=L.queries:=by have:=hl (3+L.queries) zO;rw [hs.1,hs.2] at this;exact this
 have l4:∀ l∈P.cols,l.length=L.a+L.b+L.b+L.b+3:=fun l Tl=>by
  obtain ⟨i,hi,e,e2⟩:=hc l Tl;have:=hl (3+i) zO;rw [<- e,e2] at this;exact this
 have l5:∀ l∈P.paths,l.length=j:=fun l Tl=>by
  obtain ⟨i,hi,e,e2⟩:=hp l Tl;have:=hl (4+L.queries+i) zO;rw [<- e,e2] at this;exact this
 unfold Oh;simp only [Vb,Gl,Nu];rw [AL _ _ _ l0,AL _ _ _ l1,AL _ _ _ l2,AL _ _ _ l3,C7 _ _ _ _ h1 l4,C7 _ _ _ _ h3 l5];constructor
 ·rintro ⟨a0,a1,a2,a3,a4,a5,a6⟩
  refine ⟨zO,fun i hi x hx=>?_⟩
  by_cases h0:i=0
  ·subst h0;exact a1 x hx
  by_cases zC:i=1
  ·subst zC;exact a2 x hx
  by_cases yI:i=2
  ·subst yI;exact a3 x hx
  by_cases py:i<3+L.queries
  ·obtain ⟨q,rfl⟩:∃ q,i=3+q:=⟨i-3,zO⟩
   have hq:q<P.cols.length:=by omega
   obtain ⟨q',Jw,e,e2⟩:=hc _ (He hq);have e3:nh L P (3+q)=P.cols[q]:=by
    simp only [nh];rw [ya h0,ya zC,ya yI,Ka py,show 3+q-3=q by omega,Fb,Qb hq]
    rfl
   have e4:(uc L j (3+q)).2=L.p:=by simp only [uc];rw [ya h0,ya zC,ya yI,Ka py]
   rw [e4];rw [e3] at hx;exact a4 _ (He hq) x hx
  by_cases uF:i=3+L.queries
  ·subst uF
   rw [hs.2];rw [hs.1] at hx;exact a5 x hx
  ·obtain ⟨q,rfl⟩:∃ q,i=4+L.queries+q:=⟨i-4-L.queries,zO⟩
   have hq:q<P.paths.length:=by omega
   have e3:nh L P (4+L.queries+q)=P.paths[q]:=by
    simp only [nh];rw [ya h0,ya zC,ya yI,ya py,ya uF,show 4+L.queries+q-4-L.queries=q by omega,Fb,Qb hq]
    rfl
   have e4:(uc L j (4+L.queries+q)).2=Pe:=by simp only [uc];rw [ya h0,ya zC,ya yI,ya py,ya uF]
   rw [e4];rw [e3] at hx;exact a6 _ (He hq) x hx
 ·rintro ⟨a0,a⟩
  refine ⟨zO,a 0 zO,a 1 zO,a 2 zO,fun l Tl x hx=>?_,fun x hx=>?_,fun l Tl x hx=>?_⟩
  ·obtain ⟨i,hi,e,e2⟩:=hc l Tl
   have:=a (3+i) zO x (by rw [<- e];exact hx)
   rwa [e2] at this
  ·have:=a (3+L.queries) zO x (by rw [hs.1];exact hx)
   rwa [hs.2] at this
  ·obtain ⟨i,hi,e,e2⟩:=hp l Tl
   have:=a (4+L.queries+i) zO x (by rw [<- e];exact hx)
   rwa [e2] at this
theorem QZ (L:Na) (j:Nat) (b:List Nat) (n:Nat) (hp:0<L.p) (hb:b.length=gh L j) (hn:8*n=gh L j) :
  (Oh L j (Nf L j (Gc n b))=true -> aB L j b=Nf L j (Gc n b) /\ WD L j b=([],false)) /\ (Oh L j (Nf L j (Gc n b))=false -> (WD L j b).2=true):=by
 have hs:=zJc L j;have aD:n=1+Se (uc L j) (4+2*L.queries):=by omega
 have jf:∀ i,0<(uc L j i).2:=fun i=>by
  simp only [uc];split
  ·exact hp
  split
  ·exact hp
  split
  ·exact hp
  split
  ·exact hp
  split <;> exact (show 0<Pe by decide)
 have cD:=zHp L j b n aD;have hlen:∀ i<4+2*L.queries,(nh L (Nf L j (Gc n b)) i).length=(uc L j i).1:=fun i hi=>by rw [cD i hi,yz]
 have ZP:=zHB L j (Nf L j (Gc n b)) (dI _ _ _) (dI _ _ _) hlen;have iD:(Nf L j (Gc n b)).root=Ug (b.take 8):=by
  show (Gc n b).getD 0 0=_
  rw [Fb,lK n b 0 zO];simp
 have h8:8 <= b.length:=by omega
 have hl8:8*Se (uc L j) (4+2*L.queries) <= (b.drop 8).length:=by rw [ti];omega
 rw [iD] at ZP;have Zu:(∀ i<4+2*L.queries,∀ x∈nh L (Nf L j (Gc n b)) i,x<(uc L j i).2)↔∀ i<4+2*L.queries,∀ x∈Gc (uc L j i).1 ((b.drop 8).drop (8*Se (uc L j) i)),x<(uc L j i).2 :=
  ⟨fun h i hi=>by rw [<- cD i hi];exact h i hi,fun h i hi=>by rw [cD i hi];exact h i hi⟩
 rw [Zu] at ZP;have hbig:0<Pe:=by decide
 constructor
 ·intro h
  obtain ⟨hr,ha⟩:=ZP.1 h;have hu:=RW (Pe-1) b h8 zO;have kd:=TR (uc L j) (b.drop 8) jf _ hl8 ha;constructor
  ·refine zHN L _ _ ?_ (by simp [aB]) (dI _ _ _) (by simp [aB]) (dI _ _ _) fun i hi=>?_
   ·rw [iD]
    show (mi (Pe-1) b false).1=_
    rw [hu]
   ·rw [zHq L j b i hi,hu,cD i hi]
    exact zFA (uc L j) (b.drop 8) jf _ i hi hl8 ha
  ·unfold WD
   rw [hu];simp only;rw [kd,Mj,List.drop_of_length_le zO]
 ·intro h
  unfold WD;by_cases hr:Ug (b.take 8)<Pe
  ·rw [RW (Pe-1) b h8 zO]
   refine zA9 (uc L j) (b.drop 8) jf _ hl8 fun ha=>?_
   rw [ZP.2 ⟨hr,ha⟩] at h;cases h
  ·have:=zAA (Pe-1) b h8 zO
   rw [this];exact zA8 _ _ _
def aW:ie:=⟨0,[],[],[],[],[],[]⟩
def ZV:PS:=⟨vD,0,0,vD,0,0,vD,0,0,vD,0,0,vD,0,0,vD,0,0⟩
theorem aK (w:vw):RWd w [ve vD 0 0] []:=⟨_,_,_,rfl,zR,by simp [maxLen],Rd.nil _ _ _,fun x hx=>by cases hx⟩
theorem zAQ (w:vw):RSl 1 RWd w [ve vD 0 0] ([]:List (List Nat)):=⟨_,_,_,rfl,rfl,zR,by simp [maxLen],fun i hi=>absurd hi zS⟩
theorem s8 (w:vw):Ji w aW ZV:=⟨zD,aK w,aK w,aK w,zAQ w,aK w,zAQ w⟩
structure Dst (w:vw) (B C4 C6 rt Q:Nat) (vals:Nat -> vx):Prop where
 pr:Blk w B 46 #[vd vn rt,vals 0,vals 1,vals 2,ve (vE ⟨C4,0,vD⟩) Q Q,vals (3+Q),ve (vE ⟨C6,0,vD⟩) Q Q]
 cols:Blk w C4 28 ((List.range Q).map fun i=>vals (3+i)).toArray
 paths:Blk w C6 28 ((List.range Q).map fun i=>vals (4+Q+i)).toArray
def TD (B C4 C6 Q i:Nat):vy:=if i=0 then ⟨B,1,vD⟩ else if i=1 then ⟨B,2,vD⟩ else if i=2 then ⟨B,3,vD⟩ else if i<3+Q then ⟨C4,i-3,vD⟩ else if i=3+Q then ⟨B,5,vD⟩ else ⟨C6,i-4-Q,vD⟩
def Mo (vals:Nat -> vx) (i:Nat) (v:vx):Nat -> vx:=fun k=>if k=i then v else vals k
theorem pE (vals:Nat -> vx) (i:Nat) (v:vx):Mo vals i v i=v:=Ka rfl
theorem SX (vals:Nat -> vx) (i:Nat) (v:vx) {k:Nat} (h:k≠i):Mo vals i v k=vals k:=ya h
theorem zJD (vals:Nat -> vx) (i:Nat) (v u:vx):Mo (Mo vals i v) i u=Mo vals i u:=by
 funext k
 unfold Mo;split <;> rfl
theorem zJC (vals:Nat -> vx) (i:Nat):Mo vals i (vals i)=vals:=by
 funext k
 unfold Mo;split
 ·subst_vars;rfl
 ·rfl
theorem zHP (B C4 C6 Q i:Nat):∃ b o,TD B C4 C6 Q i=⟨b,o,vD⟩ /\ (b=B \/ b=C4 \/ b=C6):=by
 unfold TD;split
 ·exact ⟨_,_,rfl, .inl rfl⟩
 split
 ·exact ⟨_,_,rfl, .inl rfl⟩
 split
 ·exact ⟨_,_,rfl, .inl rfl⟩
 split
 ·exact ⟨_,_,rfl, .inr (.inl rfl)⟩
 split
 ·exact ⟨_,_,rfl, .inl rfl⟩
 ·exact ⟨_,_,rfl, .inr (.inr rfl)⟩
theorem PW {Q k:Nat} (f:Nat -> vx) (h:k<Q):((List.range Q).map f).toArray[k]?=vE (f k):=by simp [h]
theorem Dst.at_ {w:vw} {B C4 C6 rt Q:Nat} {vals:Nat -> vx} (h:Dst w B C4 C6 rt Q vals) {i:Nat} (hi:i<4+2*Q):w.cell? (TD B C4 C6 Q i)=vE (vals i) /\ w.frozen? (TD B C4 C6 Q i)=false:=by
 unfold TD;by_cases h0:i=0
 ·subst h0;exact ⟨by simpa using h.pr.cell 1,h.pr.frozen 1⟩
 rw [ya h0];by_cases h1:i=1
 ·subst h1;exact ⟨by simpa using h.pr.cell 2,h.pr.frozen 2⟩
 rw [ya h1];by_cases h2:i=2
 ·subst h2;exact ⟨by simpa using h.pr.cell 3,h.pr.frozen 3⟩
 rw [ya h2];by_cases h3:i<3+Q
 ·rw [Ka h3]
  refine ⟨?_,h.cols.frozen _⟩;rw [h.cols.cell,PW _ zO,show 3+(i-3)=i by omega]
 rw [ya h3];by_cases h4:i=3+Q
 ·subst h4;rw [Ka rfl];exact ⟨by simpa using h.pr.cell 5,h.pr.frozen 5⟩
 rw [ya h4];refine ⟨?_,h.paths.frozen _⟩;rw [h.paths.cell,PW _ zO,show 4+Q+(i-4-Q)=i by omega]
theorem zAv (Q k:Nat) (f g:Nat -> vx) (v:vx) (hk:g k=v) (h:∀ i,i≠k -> g i=f i):((List.range Q).map f).toArray.setIfInBounds k v=((List.range Q).map g).toArray:=by
 apply Array.ext
 ·simp
 ·intro i h1 h2
  simp at h1 h2
  rw [Array.getElem_setIfInBounds (by simpa using h1)]
  split
  ·subst_vars;simp
  ·simp
   exact (h i zO).symm
theorem ZA (Q:Nat) (f g:Nat -> vx) (h:∀ i,i<Q -> g i=f i):((List.range Q).map f).toArray=((List.range Q).map g).toArray:=by
 congr 1
 exact Qz fun i hi=>(h i (pj.1 hi)).symm
theorem Dst.set_ {w:vw} {B C4 C6 rt Q:Nat} {vals:Nat -> vx} (h:Dst w B C4 C6 rt Q vals) (n1:B≠C4) (n2:B≠C6) (n3:C4≠C6) {i:Nat} (hi:i<4+2*Q) (v:vx):Dst (w.setCell (TD B C4 C6 Q i) v) B C4 C6 rt Q (Mo vals i v):=by
 have u:=fun {k:Nat} (hk:k≠i)=>SX vals i v hk
 unfold TD;by_cases h0:i=0
 ·subst h0
  rw [Ka rfl];refine ⟨?_,?_,?_⟩
  ·have:=h.pr.set_ 1 v
   rw [pE,u (k:=1) zO,u (k:=2) zO,u (k:=3+Q) zO]
   simpa using this
  ·rw [<- ZA Q (fun i=>vals (3+i)) _ fun i _=>u zO]
   exact h.cols.far (p:=⟨B,1,vD⟩) (Ne.symm n1) v
  ·rw [<- ZA Q (fun i=>vals (4+Q+i)) _ fun i _=>u zO]
   exact h.paths.far (p:=⟨B,1,vD⟩) (Ne.symm n2) v
 rw [ya h0];by_cases h1:i=1
 ·subst h1
  rw [Ka rfl];refine ⟨?_,?_,?_⟩
  ·have:=h.pr.set_ 2 v
   rw [pE,u (k:=0) zO,u (k:=2) zO,u (k:=3+Q) zO]
   simpa using this
  ·rw [<- ZA Q (fun i=>vals (3+i)) _ fun i _=>u zO]
   exact h.cols.far (p:=⟨B,2,vD⟩) (Ne.symm n1) v
  ·rw [<- ZA Q (fun i=>vals (4+Q+i)) _ fun i _=>u zO]
   exact h.paths.far (p:=⟨B,2,vD⟩) (Ne.symm n2) v
 rw [ya h1];by_cases h2:i=2
 ·subst h2
  rw [Ka rfl];refine ⟨?_,?_,?_⟩
  ·have:=h.pr.set_ 3 v
   rw [pE,u (k:=0) zO,u (k:=1) zO,u (k:=3+Q) zO]
   simpa using this
  ·rw [<- ZA Q (fun i=>vals (3+i)) _ fun i _=>u zO]
   exact h.cols.far (p:=⟨B,3,vD⟩) (Ne.symm n1) v
  ·rw [<- ZA Q (fun i=>vals (4+Q+i)) _ fun i _=>u zO]
   exact h.paths.far (p:=⟨B,3,vD⟩) (Ne.symm n2) v
 rw [ya h2];by_cases h3:i<3+Q
 ·rw [Ka h3]
  refine ⟨?_,?_,?_⟩
  ·rw [u (k:=0) zO,u (k:=1) zO,u (k:=2) zO,u (k:=3+Q) zO]
   exact h.pr.far (p:=⟨C4,i-3,vD⟩) n1 v
  ·rw [<- zAv Q (i-3) (fun i=>vals (3+i)) _ v (by show Mo vals i v (3+(i-3))=v;rw [show 3+(i-3)=i by omega,pE]) fun k hk=>u zO]
   exact h.cols.set_ (i-3) v
  ·rw [<- ZA Q (fun i=>vals (4+Q+i)) _ fun k _=>u zO]
   exact h.paths.far (p:=⟨C4,i-3,vD⟩) (Ne.symm n3) v
 rw [ya h3];by_cases h4:i=3+Q
 ·subst h4
  rw [Ka rfl];refine ⟨?_,?_,?_⟩
  ·have:=h.pr.set_ 5 v
   rw [pE,u (k:=0) zO,u (k:=1) zO,u (k:=2) zO]
   simpa using this
  ·rw [<- ZA Q (fun i=>vals (3+i)) _ fun i _=>u zO]
   exact h.cols.far (p:=⟨B,5,vD⟩) (Ne.symm n1) v
  ·rw [<- ZA Q (fun i=>vals (4+Q+i)) _ fun i _=>u zO]
   exact h.paths.far (p:=⟨B,5,vD⟩) (Ne.symm n2) v
 rw [ya h4];refine ⟨?_,?_,?_⟩
 ·rw [u (k:=0) zO,u (k:=1) zO,u (k:=2) zO,u (k:=3+Q) zO]
  exact h.pr.far (p:=⟨C6,i-4-Q,vD⟩) n2 v
 ·rw [<- ZA Q (fun i=>vals (3+i)) _ fun k _=>u zO]
  exact h.cols.far (p:=⟨C6,i-4-Q,vD⟩) n3 v
 ·rw [<- zAv Q (i-4-Q) (fun i=>vals (4+Q+i)) _ v (by show Mo vals i v (4+Q+(i-4-Q))=v;rw [show 4+Q+(i-4-Q)=i by omega,pE]) fun k hk=>u zO]
  exact h.paths.set_ (i-4-Q) v
theorem Dst.keep {w u:vw} {B C4 C6 rt Q:Nat} {vals:Nat -> vx} (h:Dst w B C4 C6 rt Q vals) (hB:u.1[B]?=w.1[B]?) (h4:u.1[C4]?=w.1[C4]?) (h6:u.1[C6]?=w.1[C6]?):Dst u B C4 C6 rt Q vals :=
 ⟨hB.trans h.pr,h4.trans h.cols,h6.trans h.paths⟩
theorem zAa (L:Na) (j B C4 C6:Nat):(Ui L j B C4 0 C6 0).length=4+2*L.queries:=by simp [Ui,Gj,gg];omega
theorem zHf (L:Na) (j B C4 C6:Nat) {i:Nat} (hi:i<4+2*L.queries) (h:i<(Ui L j B C4 0 C6 0).length):(Ui L j B C4 0 C6 0)[i]=⟨TD B C4 C6 L.queries i,(uc L j i).1,(uc L j i).2⟩:=by
 have l3:(Gj L B).length=3:=rfl;have l4:(Gj L B++gg C4 0 L.queries (L.a+L.b+L.b+L.b+3) L.p).length=3+L.queries:=by simp [Gj,gg];omega
 have l5:(Gj L B++gg C4 0 L.queries (L.a+L.b+L.b+L.b+3) L.p++[(⟨⟨B,5,vD⟩,L.queries,Pe⟩:Ll)]).length=4+L.queries:=by simp [Gj,gg];omega
 simp only [Ui,TD,uc];by_cases h0:i=0
 ·subst h0;rfl
 by_cases h1:i=1
 ·subst h1;rfl
 by_cases h2:i=2
 ·subst h2;rfl
 simp only [ya h0,ya h1,ya h2];by_cases h3:i<3+L.queries
 ·simp only [Ka h3]
  rw [zr zO,zr zO,Vx zO];simp [gg,l3]
 simp only [ya h3];by_cases h4:i=3+L.queries
 ·subst h4
  simp only [Ka trivial];rw [zr zO,Vx zO];simp [l4]
 simp only [ya h4];rw [Vx zO];simp only [gg,Nj] at l5;simp only [gg,List.getElem_map,List.getElem_range,Nj]
 congr 2
 omega
structure Ex4 (g B C4 C6:Nat) (w w':vw):Prop where
 os:w'.os=w.os
 tape:w'.tape=w.tape
 output:w'.output=w.output
 size:w.1.size <= w'.1.size
 block:∀ b,b<w.1.size -> b≠g -> b≠B -> b≠C4 -> b≠C6 -> w'.1[b]?=w.1[b]?
section
variable {g B C4 C6:Nat} {w w' Nk:vw}
theorem Ex4.refl (w:vw):Ex4 g B C4 C6 w w:=⟨rfl,rfl,rfl,zR,fun _ _ _ _ _ _=>rfl⟩
theorem Ex4.trans (h:Ex4 g B C4 C6 w w') (k:Ex4 g B C4 C6 w' Nk):Ex4 g B C4 C6 w Nk :=
 ⟨k.os.trans h.os,k.tape.trans h.tape,k.output.trans h.output,zb h.size k.size,fun b h1 h2 h3 h4 h5=>(k.block b (pd h1 h.size) h2 h3 h4 h5).trans (h.block b h1 h2 h3 h4 h5)⟩
theorem Ex4.below {N:Nat} (h:vA N w w') (hN:w.1.size <= N):Ex4 g B C4 C6 w w':=⟨h.os,h.tape,h.output,h.size,fun b h1 _ _ _ _=>h.block b zO⟩
theorem Ex4.grown (h:w.grownBy w' (vE g)):Ex4 g B C4 C6 w w':=⟨h.os,h.tape,h.output,h.size,fun b h1 h2 _ _ _=>h.block b h1 (fun e=>h2 (Ya e))⟩
theorem Ex4.set_ (w:vw) {b o:Nat} (hb:b=B \/ b=C4 \/ b=C6) (v:vx):Ex4 g B C4 C6 w (w.setCell ⟨b,o,vD⟩ v) :=
 ⟨rfl,rfl,rfl,by simp [vF],fun k _ _ h2 h3 h4=>wg w _ v k (by rintro rfl;rcases hb with h | h | h <;> simp_all)⟩
theorem Ex4.to_below {N:Nat} (h:Ex4 g B C4 C6 w w') (hN:N <= w.1.size) (h1:N <= g) (h2:N <= B) (h3:N <= C4) (h4:N <= C6):vA N w w' :=
 ⟨h.os,h.tape,h.output,h.size,fun b hb=>h.block b zO zO zO zO zO⟩
end
def Ex (lo:Nat) (w:vw) (v:vx) (l:List Nat):Prop:=∃ A n c,v=ve A n c /\ RWd w [ve A n c] l /\ ∀ ad,A=vE ad -> lo <= ad.block /\ ad.block<w.1.size
theorem zEl {w:vw} {base lo:Nat} {e:vz} {v:vx} {n:Nat} {l:List Nat} (h:w.ownsRow base e 1 v n (Oa l)) (hl:∀ x∈l,x<18446744073709551616) (hb:lo <= base):Ex lo w v l:=by
 obtain ⟨A,c,rfl,h1,h2,h3,h4⟩:=Ud h;exact ⟨A,n,c,rfl,⟨A,n,c,rfl,h1,h2,h3,hl⟩,fun ad e=>⟨zb hb (h4 ad e).1,(h4 ad e).2⟩⟩
theorem zIa {w u:vw} {A:Option vy} {n:Nat} {xs:List vx} (h:Rd w 1 A n xs) (ha:∀ ad,A=vE ad -> u.1[ad.block]?=w.1[ad.block]?):Rd u 1 A n xs :=
 ⟨h.1,fun hn=>by
  obtain ⟨ad,e,hc⟩:=h.2 hn;refine ⟨ad,e,fun j x hj=>?_⟩
  have:=ha ad e;rw [<- hc j x hj];unfold World.cell?;rw [tT,this]⟩
theorem Z2 {lo:Nat} {w u:vw} {v:vx} {l:List Nat} (h:Ex lo w v l) (hs:w.1.size <= u.1.size) (ha:∀ b,lo <= b -> b<w.1.size -> u.1[b]?=w.1[b]?):Ex lo u v l:=by
 obtain ⟨A,n,c,rfl,⟨A',n',c',he,h1,h2,h3,h4⟩,h5⟩:=h;simp at he
 obtain ⟨rfl,rfl,rfl⟩:=he;exact ⟨A,n,c,rfl,⟨A,n,c,rfl,h1,h2,zIa h3 fun ad e=>ha _ (h5 ad e).1 (h5 ad e).2,h4⟩,fun ad e=>⟨(h5 ad e).1,pd (h5 ad e).2 hs⟩⟩
theorem Y2 {lo g B C4 C6:Nat} {w u:vw} {v:vx} {l:List Nat} (h:Ex lo w v l) (ha:Ex4 g B C4 C6 w u) (hg:g<lo) (hB:B<lo) (h4:C4<lo) (h6:C6<lo):Ex lo u v l :=
 Z2 h ha.size fun b h1 h2=>ha.block b h2 zO zO zO zO
theorem DP {lo:Nat} {w:vw} {A:Option vy} {n c:Nat} {l:List Nat} (h:Ex lo w (ve A n c) l):RWd w [ve A n c] l:=by
 obtain ⟨A',n',c',he,h1,-⟩:=h
 injection he with e1 e2 e3
 subst e1 e2 e3;exact h1
theorem zAR {lo C Q:Nat} {w:vw} {t:vz} {vals:Nat -> vx} {f:Nat -> List Nat} (h:Blk w C t ((List.range Q).map vals).toArray) (hf:∀ i,i<Q -> Ex lo w (vals i) (f i)) (hq:Q <= maxLen):RSl 1 RWd w [ve (vE ⟨C,0,vD⟩) Q Q] ((List.range Q).map f):=by
 refine ⟨_,_,_,rfl,zS,zR,hq,fun i hi=>?_⟩
 have hiq:i<Q:=by simpa using hi
 obtain ⟨A,n,c,e,h1,-⟩:=hf i hiq;refine ⟨_,[vals i],rfl,rfl,fun j hj=>?_,?_⟩
 ·have e0:j=0:=by omega
  subst e0;have:=h.cell i;rw [PW _ hiq] at this;simp only [fp,tt,List.getElem?_cons_zero];rw [<- this]
  congr 1
  unfold Addr.add;split
  ·subst_vars;rfl
  ·simp
 ·rw [e]
  simpa using h1
theorem fU {g B C4 C6:Nat} {w w':vw} (h:Ex4 g B C4 C6 w w') {p:vy} {v:vx} (hc:w.cell? p=vE v) (h1:p.block≠g) (h2:p.block≠B) (h3:p.block≠C4) (h4:p.block≠C6):w'.cell? p=vE v:=by
 rw [<- hc];have:=h.block p.block (Gf _ _ hc) h1 h2 h3 h4;simp only [World.cell?,this]
theorem LM {g B C4 C6 k:Nat} {w w':vw} {t:vz} {cs:Array vx} (h:Ex4 g B C4 C6 w w') (hb:Blk w k t cs) (h1:k≠g) (h2:k≠B) (h3:k≠C4) (h4:k≠C6):Blk w' k t cs:=(h.block k hb.lt h1 h2 h3 h4).trans hb
theorem zD3 {g B C4 C6:Nat} {w0 w W:vw} (hW:Hid (W=w.drew)) (h:Ex4 g B C4 C6 w0 w):Ex4 g B C4 C6 w0 W:=by rw [hW.out];exact ⟨h.os,h.tape,h.output,h.size,h.block⟩
theorem zDT {w W:vw} {B C4 C6 rt Q:Nat} {vals:Nat -> vx} (hW:Hid (W=w.drew)) (h:Dst w B C4 C6 rt Q vals):Dst W B C4 C6 rt Q vals:=by rw [hW.out];exact ⟨h.pr,h.cols,h.paths⟩
theorem wr_hid {w W:vw} {g:Nat} {bd:Nat × Nat} {l:List Nat} {f:Bool} (hW:Hid (W=w.drew)) (h:WR w g bd l f):WR W g bd l f:=by rw [hW.out];exact h
theorem zDu {w u:vw} {g B C4 C6 rt Q:Nat} {bd:Nat × Nat} {l:List Nat} {f:Bool} (kz:Blk u B 46 #[vd vn rt,ve vD 0 0,ve vD 0 0,ve vD 0 0,ve (vE ⟨C4,0,vD⟩) Q Q,ve vD 0 0,ve (vE ⟨C6,0,vD⟩) Q Q])
  (lB:B<w.1.size) (jb:u.1.size=w.1.size) (Cn:WR u g bd l f) (hex:Ex4 g B C4 C6 w u) (hC:(C4=w.1.size /\ C6=w.1.size+1) \/ (C6=w.1.size /\ C4=w.1.size+1)) {CS:Array vx} (ry:CS=((List.range Q).map fun _=>ve vD 0 0).toArray) :
  B<C4 /\ B<C6 /\ C4≠C6 /\ Dst ((u.alloc (.cells CS 28)).alloc (.cells CS 28)).drew B C4 C6 rt Q (fun _=>ve vD 0 0) /\
  WR ((u.alloc (.cells CS 28)).alloc (.cells CS 28)).drew g bd l f /\
  Ex4 g B C4 C6 w ((u.alloc (.cells CS 28)).alloc (.cells CS 28)).drew:=by
 have b1:=(Blk.new u 28 CS).alloc (.cells CS 28);have b2:=Blk.new (u.alloc (.cells CS 28)) 28 CS;have Dd:(u.alloc (.cells CS 28)).1.size=w.1.size+1:=by simp [jb]
 rw [jb] at b1;rw [Dd] at b2;have ja:vA u.1.size u ((u.alloc (.cells CS 28)).alloc (.cells CS 28)):=((tb _ u).alloc zR _).alloc zS _;have hd:Dst ((u.alloc (.cells CS 28)).alloc (.cells CS 28)) B C4 C6 rt Q (fun _=>ve vD 0 0):=by
  subst ry;rcases hC with ⟨rfl,rfl⟩ | ⟨rfl,rfl⟩
  ·exact ⟨(kz.alloc _).alloc _,b1,b2⟩
  ·exact ⟨(kz.alloc _).alloc _,b2,b1⟩
 exact ⟨zO,zO,zO,⟨hd.pr.drew,hd.cols.drew,hd.paths.drew⟩,(Cn.below ja zR).drew,hex.trans (Ex4.below ja.drew zR)⟩
theorem zDt {w:vw} {g B C4 C6 rt Q:Nat} {bd:Nat × Nat} {l:List Nat} {f:Bool} (kB:Blk w B 46 #[vd vn rt,ve vD 0 0,ve vD 0 0,ve vD 0 0,ve vD 0 0,ve vD 0 0,ve vD 0 0])
  (hr:WR w g bd l f) (hg:g<B) (pA:bd.2 <= g) (hC:(C4=w.1.size /\ C6=w.1.size+1) \/ (C6=w.1.size /\ C4=w.1.size+1)) {CS:Array vx} (ry:CS=((List.range Q).map fun _=>ve vD 0 0).toArray) :
  B<C4 /\ B<C6 /\ C4≠C6 /\ Dst ((((w.setCell ⟨B,4,vD⟩ (ve (vE ⟨C4,0,vD⟩) Q Q)).setCell ⟨B,6,vD⟩ (ve (vE ⟨C6,0,vD⟩) Q Q)).alloc (.cells CS 28)).alloc (.cells CS 28)).drew B C4 C6 rt Q (fun _=>ve vD 0 0) /\
  WR ((((w.setCell ⟨B,4,vD⟩ (ve (vE ⟨C4,0,vD⟩) Q Q)).setCell ⟨B,6,vD⟩ (ve (vE ⟨C6,0,vD⟩) Q Q)).alloc (.cells CS 28)).alloc (.cells CS 28)).drew g bd l f /\
  Ex4 g B C4 C6 w ((((w.setCell ⟨B,4,vD⟩ (ve (vE ⟨C4,0,vD⟩) Q Q)).setCell ⟨B,6,vD⟩ (ve (vE ⟨C6,0,vD⟩) Q Q)).alloc (.cells CS 28)).alloc (.cells CS 28)).drew:=by
 have lB:=kB.lt;have kz:=(kB.set_ 4 (ve (vE ⟨C4,0,vD⟩) Q Q)).set_ 6 (ve (vE ⟨C6,0,vD⟩) Q Q);simp at kz
 have jb:((w.setCell ⟨B,4,vD⟩ (ve (vE ⟨C4,0,vD⟩) Q Q)).setCell ⟨B,6,vD⟩ (ve (vE ⟨C6,0,vD⟩) Q Q)).1.size=w.1.size:=by simp [vF]
 have Wa:w.grownBy ((w.setCell ⟨B,4,vD⟩ (ve (vE ⟨C4,0,vD⟩) Q Q)).setCell ⟨B,6,vD⟩ (ve (vE ⟨C6,0,vD⟩) Q Q)) (vE B):=by
  iterate 2 refine mh ?_ (.inl rfl) _
  exact Ce w _
 have Cn:=hr.grown Wa fun k e=>by have:=Ya e;omega
 have hex:Ex4 g B C4 C6 w ((w.setCell ⟨B,4,vD⟩ (ve (vE ⟨C4,0,vD⟩) Q Q)).setCell ⟨B,6,vD⟩ (ve (vE ⟨C6,0,vD⟩) Q Q)):=⟨Wa.os,Wa.tape,Wa.output,Wa.size,fun b h1 h2 h3 _ _=>Wa.block b h1 fun e=>h3 (Ya e)⟩
 exact zDu kz lB jb Cn hex hC ry
theorem zH9 (Bd:Nat) (l:List Nat) (f:Bool):∀ x∈(mi Bd l f).2.1,x∈l:=by
 intro x hx;unfold mi Lk at hx;split at hx <;> split at hx <;> first | exact hx | exact List.mem_of_mem_drop hx
theorem zAB (Bd:Nat) (l:List Nat) (f:Bool) (hl:∀ x∈l,x<256):(mi Bd l f).1<18446744073709551616:=by
 unfold mi;split
 ·simp
 ·exact zAw (k:=8) hl
theorem zAy (Bd:Nat):∀ (k:Nat) (l:List Nat) (f:Bool),(∀ x∈l,x<256) -> (∀ x∈(Ph Bd k l f).1,x<18446744073709551616) /\ ∀ x∈(Ph Bd k l f).2.1,x<256
 | 0,l,f,h=>⟨fun x hx=>by simp [Ph] at hx,h⟩
 | k+1,l,f,h=>by
  obtain ⟨h1,h2⟩:=zAy Bd k l f h;rw [Ph];refine ⟨fun x hx=>?_,fun x hx=>h2 x (zH9 _ _ _ x hx)⟩
  rcases jq.1 hx with hx | hx
  ·exact h1 x hx
  ·rw [Zo] at hx
   rw [hx];exact zAB _ _ _ h2
def Wl (L:Na) (j:Nat) (b:List Nat):ie × Int:=if b.length=gh L j /\ WD L j b=([],false) then (aB L j b,0) else (aW,2)
def PDecF (w:vw) (D:ie × Int) (e:Ending) (w':vw):Prop:=∃ S,e=vl (.tuple #[vf (Wd D.1 S),vd vq D.2]) /\ (∀ u:vw,w'.1.size <= u.1.size -> (∀ b,w.1.size <= b -> b<w'.1.size -> u.1[b]?=w'.1[b]?) -> Ji u D.1 S) /\ vA w.1.size w w'
theorem ps_bd {L:Na} (hL:Nb L) (j:Nat) (hj:j <= 10) (i:Nat):0<(uc L j i).2 /\ (uc L j i).2 <= 18446744069414584321 /\ (uc L j i).1 <= 400003:=by
 have hp:0<L.p /\ L.p <= 18446744069414584321:=by
  have:=hL.p;simp [Jb] at this
  omega
 have h1:=hL.k;have h2:=hL.b2;have h3:=hL.q2;have h4:=hL.a;have h5:=hL.b;have h6:=hL.b1;simp only [uc,Pe];split
 ·exact ⟨hp.1,hp.2,by show L.k <= _;omega⟩
 split
 ·exact ⟨hp.1,hp.2,by show L.k+L.block-1 <= _;omega⟩
 split
 ·exact ⟨hp.1,hp.2,by show 2*L.k-1 <= _;omega⟩
 split
 ·exact ⟨hp.1,hp.2,by show L.a+L.b+L.b+L.b+3 <= _;omega⟩
 split
 ·exact ⟨by show 0<18446744069414584321;omega,zR,by show L.queries <= _;omega⟩
 ·exact ⟨by show 0<18446744069414584321;omega,zR,by show j <= _;omega⟩
theorem zIx {P:Program} {t e:vz} {size bytes:Nat} {z:vx} (E:Tq P t e size bytes z) (n:Nat) (hb:bytes*n <= 281474976710656) (hn:(n:Int) <= 9223372036854775807) (w:vw) :
  (Instr.makeSlice t (vd vq n) (vd vq n)).run P w= .ok (ve (vE ⟨w.1.size,0,vD⟩) n n) (w.alloc (.cells (madeCells z.cells (n*size)) e)):=by
 obtain ⟨ht,⟨i,hi,hz,hs,Em⟩,uJ,jb⟩:=E;have:=run_make (P:=P) w t e i z ht hi hz vq vq (n:Int) (n:Int) zO (Int.le_refl _) (by rw [Em,<- Qf];exact Int.ofNat_le.2 hb) hn
 rw [Rk,hs] at this;exact this
theorem zFH (n:Nat):madeCells (ve vD 0 0).cells (n*1)=((List.range n).map fun _=>ve vD 0 0).toArray:=by
 apply Array.toList_inj.1
 rw [show (ve vD 0 0).cells=#[ve vD 0 0] from rfl,toList_madeCells_one]
 exact Kv zS fun i h1 h2=>zS
theorem zGT (L:Na) (j:Nat) (A:Option vy) (n c:Nat) (b:List Nat) (w:vw) (hL:Nb L) (hn:L.n=2^j) (hj:j <= 10) (hr:Rd w 1 A n (U8 b)) (Sd:n <= c) (Ao:c <= maxLen) (Ly:n <= 1000000) (hb:∀ x∈b,x<256) :
  vB prog 96 #[vf (ib L),ve A n c] w (PDecF w (Wl L j b)):=by
 have HS:=zH (fun w=>zIV L j w hL hn hj)
 have hlen:=hr.len1;rw [DJ] at hlen;obtain ⟨D,hD⟩:=zEX (Wl L j b);rw [<- hD];unfold Wl at hD;rw [hlen] at hD;have gm:=CG Sd Ao;have q0:decide ((L.queries:Int)<0)=false:=db zO;by_cases z:n=gh L j
 rotate_left
 ·have d1:((n:Int) != (gh L j:Nat))=true:=by rw [ef];omega
  rw [ya (fun h=>z h.1)] at hD
  have Wp:=zH hD;clear hD z hlen hr hb hL hn hj Sd Ao Ly;generalize gh L j=sz at *;unfold ib at HS |-;go_enter func96,ntmps96
  go_wp2_with fail
  refine (HS.out _).mono ?_;rintro e w1 ⟨rfl,hb⟩;obtain ⟨k1,k2,Ib⟩:=bH hb;have l2:=k2.lt;have c2:=k2.cell;have f2:=k2.frozen;clear hb k1;go_wp2_with fail
  have Lt:=qX (w:=w1) (g:=w.1.size+1) (vd vn 0) (ve vD 0 0) (ve vD 0 0) (ve vD 0 0) (ve vD 0 0) (ve vD 0 0) (ve vD 0 0);have kz:=pX k2 (vd vn 0) (ve vD 0 0) (ve vD 0 0) (ve vD 0 0) (ve vD 0 0) (ve vD 0 0) (ve vD 0 0);clear c2 f2 k2;generalize ((((((vF w1 _ _).setCell _ _).setCell _ _).setCell _ _).setCell _ _).setCell _ _).setCell _ _=Wf at Lt kz |-;have cz:=kz.cell;refine Sc (v:=.tuple #[vf #[vd vn 0,ve vD 0 0,ve vD 0 0,ve vD 0 0,ve vD 0 0,ve vD 0 0,ve vD 0 0],vd vq 2]) (by simp [results,results96,go_sem,cz]) rfl ?_
  rw [Wp.out];exact ⟨ZV,rfl,fun u _ _=>s8 u,Ib.trans (zt Lt w.1.size zO (fun g e=>by have:=Ya e;omega))⟩
 ·have d1:((n:Int) != (gh L j:Nat))=false:=by rw [Hr];omega
  have HNR:=zH (fun w' (h:vA w.1.size w w')=>zF8 A n c b w' (hr.below h) zO hb)
  have HU0:=fun g bd w h=>zAu g bd (Pe-1) b false w h
  obtain ⟨⟨rt,l0,f0⟩,hU⟩:∃ x,x=mi (Pe-1) b false:=⟨_,rfl⟩;simp only [<- hU] at HU0;have HU:=zH HU0;have HRU:=zH hU;clear HU0 hU;have hP:=zH (fun P S g b4 q4 b6 q6 w=>rW L j P S g b4 q4 b6 q6 w hL hn hj)
  have Yn:=zH hL;have HBD:=zH (ps_bd hL j hj);have HZ:=zH z;have HBB:=zH hb;have HDz:=zH hD;clear hD hlen hL hn hj hr Sd Ao hb z;generalize gh L j=sz at *;unfold ib at HS hP |-;go_enter func96,ntmps96
  go_wp2_with fail
  refine (HS.out _).mono ?_;rintro e w1 ⟨rfl,hb⟩;obtain ⟨k1,k2,Ib⟩:=bH hb;have Xc:=k2.lt;clear hb;go_wp2_with fail
  refine (HNR.out _ Ib).mono ?_;rintro e w2 ⟨g,bd,rfl,Dg,og,Jp,ah,Ba⟩;replace k1:=ia k1 Ba;replace k2:=ia k2 Ba;have lk1:=k1.lt;have lk2:=k2.lt;have xA:=Ib.size;replace Ib:=ma Ib Ba;go_wp2_with fail
  refine (HU.out g bd _ Dg).mono ?_;rintro e w3 ⟨rfl,tJ,YI⟩;replace k1:=k1.grown YI (fun e=>by have:=Ya e;omega)
  replace k2:=k2.grown YI (fun e=>by have:=Ya e;omega)
  replace Ib:=Ib.trans (zt YI w.1.size zO (fun k e=>by have:=Ya e;omega))
  obtain ⟨kB,ja⟩:=zN w3 46 #[vd vn rt,ve vD 0 0,ve vD 0 0,ve vD 0 0,ve vD 0 0,ve vD 0 0,ve vD 0 0];have hgB:g<w3.1.size:=tJ.lt;replace k1:=ia k1 ja;replace k2:=ia k2 ja;replace tJ:=tJ.below ja zR;replace Ib:=ma Ib ja;have pA:bd.2 <= g:=by obtain ⟨A,n,c,p,L,hb,Qt,hA,hp⟩:=tJ;exact hA.2
  clear Dg Ba ah lk1 lk2 ja YI;go_upto_region 5 with fail
  generalize w3.alloc _=w4 at k1 k2 tJ Ib kB |-;generalize w3.1.size=B at kB hgB |-;clear w3 w2;have lB:=kB.lt;have HQ:=zH Yn.out.q2;have Ek:=Yn.out.q2
  go_cut [7] (fun s7 wx=>s7= .pointer (vE ⟨B,0,vD⟩) /\ ∃ C4 C6,B<C4 /\ B<C6 /\ C4≠C6 /\ Dst wx B C4 C6 rt L.queries (fun _=>ve vD 0 0) /\ WR wx g bd l0 f0 /\ Ex4 g B C4 C6 w4 wx)
  case first =>
   obtain ⟨CS,ry⟩:=zEX (((List.range L.queries).map fun _=>ve vD 0 0).toArray)
   have Jh:=zIx zDY L.queries zO zO;rw [zFH,<- ry] at Jh;have HCS:=zH ry;have H1:=zH (fun (C4 C6:Nat) hC=>zDt (C4:=C4) (C6:=C6) kB tJ hgB pA hC ry)
   clear ry;have c1:=k1.cell;have cB:=kB.cell;have fB:=kB.frozen;have l1:=k1.lt
   go_region
   ·go_wp2_with fail
    go_meet
    exact ⟨rfl,w4.1.size,w4.1.size+1,H1.out _ _ (.inl ⟨rfl,rfl⟩)⟩
   ·go_wp2_with fail
    go_meet
    exact ⟨rfl,w4.1.size+1,w4.1.size,H1.out _ _ (.inr ⟨rfl,rfl⟩)⟩
  case rest =>
   obtain ⟨rfl,C4,C6,n1,n2,n3,hd,Dg,hex⟩:=hcut;have Gi:=LM hex k1 zO zO zO zO;have Zh:=LM hex k2 zO zO zO zO;have lC4:=hd.cols.lt;have lC6:=hd.paths.lt;have xa:=Ib.trans (hex.to_below (g:=g) (B:=B) (C4:=C4) (C6:=C6) (N:=w.1.size) Ib.size zO zO zO zO);have nm:=zH (hP.out ⟨rt,[],[],[],[],[],[]⟩ ⟨vD,0,0,vD,0,0,vD,0,0,vE ⟨C4,0,vD⟩,L.queries,L.queries,vD,0,0,vE ⟨C6,0,vD⟩,L.queries,L.queries⟩ B C4 0 C6 0 wc hd.pr rfl rfl hd.pr.lt rfl rfl ⟨zR,by simp [maxLen];omega⟩ ⟨zR,by simp [maxLen];omega⟩)
   have c1:=Gi.cell;clear hex k1 k2 Ib tJ kB;go_wp2_with fail
   refine nm.out.mono ?_;rintro e W0 ⟨v,m,rfl,Ca,da⟩;replace Zh:=Zh.below da Zh.lt;replace Dg:=Dg.below da zR;replace xa:=ma xa da;have hsz0:=da.size;have hd0:Dst W0 B C4 C6 rt L.queries (fun _=>ve vD 0 0):=hd.keep (da.block _ hd.pr.lt) (da.block _ lC4) (da.block _ lC6)
   clear c1 Gi hP nm hd da;have hm:m=4+2*L.queries:=by have:=Ca.1;rw [pR,zAa] at this;omega
   subst hm;obtain ⟨r,cr,rfl,Bg,Cn⟩:=SJ Ca zO;have tl:∀ i u,(Mn (Ui L j B C4 0 C6 0))[i]?=vE u -> W0.cell? ⟨r,i,vD⟩=vE u:=fun i u hu=>by
    obtain ⟨ad,e,hc⟩:=(Rd.of_own Ca).2 zO
    injection e with e
    subst e;have:=hc i u hu
    simpa [zm] using this
   have HPT:=zH (fun k (hk:k<4+2*L.queries)=>by
    have hl:k<(Ui L j B C4 0 C6 0).length:=by rw [zAa];exact hk
    have h:=oR (Ui L j B C4 0 C6 0) k hl;rw [zHf L j B C4 C6 hk hl] at h;exact And.intro (tl _ _ h.1) (And.intro (tl _ _ h.2.1) (tl _ _ h.2.2)))
   have HLO:=zH (show ∀ x∈l0,x<256 from Dg.bytes)
   clear tl Ca;obtain ⟨M,hM⟩:=zEX (4+2*L.queries);rw [<- hM];have HM:=zH hM;have hM2:M <= 200:=by omega
   clear hM;generalize GI:uc L j=ps at *;have Uo:=zH GI;clear GI;go_wp2_with fail
   go_loopw [37] (fun i wr=>∃ (k:Nat) (vals:Nat -> vx),k <= M /\ i=vd vq k /\ WR wr g bd (Dl ps l0 f0 k).1 (Dl ps l0 f0 k).2 /\ Dst wr B C4 C6 rt L.queries vals /\ Ex4 g B C4 C6 W0 wr /\ Hid ((∀ i,k <= i -> vals i=ve vD 0 0) /\ ∀ i<k,Ex W0.1.size wr (vals i) (Yt ps l0 f0 i))) (fun i _=>M-(intOf i).toNat)
   case atStart=>exact ⟨0,_,Kb _,rfl,Dg,hd0,Ex4.refl _,fun _ _=>rfl,fun i h=>absurd h zO⟩
   case round =>
    clear Dg hd0;obtain ⟨k,vals,hk,rfl,Dg,hd,hex,HV⟩:=hrel;by_cases ta:k<M
    ·obtain ⟨u0,u1,u2⟩:=HPT.out k (zQ HM.out)
     have c0:=fU hex u0 (by show r≠g;omega) (by show r≠B;omega) (by show r≠C4;omega) (by show r≠C6;omega)
     have c1:=fU hex u1 (by show r≠g;omega) (by show r≠B;omega) (by show r≠C4;omega) (by show r≠C6;omega)
     have c2:=fU hex u2 (by show r≠g;omega) (by show r≠B;omega) (by show r≠C4;omega) (by show r≠C6;omega)
     obtain ⟨pb,po,gV,Zr⟩:=zHP B C4 C6 L.queries k;rw [gV] at c0;obtain ⟨hbd1,hbd2,hbd3⟩:=(show 0<(ps k).2 /\ (ps k).2 <= 18446744069414584321 /\ (ps k).1 <= 400003 from HBD.out k)
     obtain ⟨size,mN⟩:=zEX ((ps k).1);obtain ⟨lim,dN⟩:=zEX ((ps k).2);obtain ⟨lk,hlk⟩:=zEX ((Dl ps l0 f0 k).1);obtain ⟨fk,hfk⟩:=zEX ((Dl ps l0 f0 k).2);rw [<- mN] at hbd3;rw [<- dN] at hbd1 hbd2;rw [<- mN] at c1;rw [<- dN] at c2;rw [<- hlk,<- hfk] at Dg;obtain ⟨lm,hlm⟩:=zEX (lim-1);have e1:(lim:Int)-1=(lm:Int):=by omega
     have e2:vn.wrap ((lim:Int)-1)=(lm:Int):=by rw [e1];exact Fl _ zO
     have e3:vn.wrap (lm:Int)=lm:=Fl _ zO;have Rh:=zH (show Dl ps l0 f0 (k+1)=(Ph lm size lk fk).2 by rw [Dl,<- mN,<- dN,<- hlk,<- hfk,<- hlm])
     have Xn:=zH (show Yt ps l0 f0 k=(Ph lm size lk fk).1 by rw [Yt,<- mN,<- dN,<- hlk,<- hfk,<- hlm])
     have HNIL:=zH (HV.out.1 k zR);have vO:=zH gV;clear mN dN hlk hfk hlm gV u0 u1 u2;have hlkb:=zH (show ∀ x∈lk,x<256 from Dg.bytes)
     have g1:(0:Int)<=k:=by omega
     have g2:(k:Int)<M:=by omega
     have lr:r<wr.1.size:=Gf _ _ c0;obtain ⟨kx,ja⟩:=zN wr 199 #[.pointer (vE ⟨pb,po,vD⟩),vd vq size,vd vn lim];have hwk:=Dg.below ja zR;have hdk:Dst (wr.alloc (.cells #[.pointer (vE ⟨pb,po,vD⟩),vd vq size,vd vn lim] 199)) B C4 C6 rt L.queries vals:=hd.keep (ja.block _ hd.pr.lt) (ja.block _ hd.cols.lt) (ja.block _ hd.paths.lt);have hexk:=hex.trans (Ex4.below ja zR);have zq:g<W0.1.size:=by have:=n1;omega
     have hszw:=hex.size
     go_upto_block 2 with fail
     generalize wr.alloc _=wk at kx hwk hdk hexk ja |-;generalize jl:wr.1.size=gx at kx ja lr hszw |-;have lx:=kx.lt;clear c0 c1 c2 Dg hd hex;have aj:=zH jl;clear jl;have cx:=kx.cell;obtain ⟨N,hN⟩:=zEX (wk.1.size);rw [<- hN] at lx;have HN:=zH hN;have hkM:=zH (show k<4+2*L.queries by have:=HM.out;omega)
     have hNs:W0.1.size <= N:=by omega
     have hpb2:B <= pb /\ pb<W0.1.size:=by rcases Zr with h | h | h <;> omega
     have hbdl:=pA;clear hN;go_wp2_with fail
     go_loopw [43] (fun i w2=>∃ (t:Nat) (v:vx),t <= size /\ i=vd vq t /\ WR w2 g bd (Ph lm t lk fk).2.1 (Ph lm t lk fk).2.2 /\ Dst w2 B C4 C6 rt L.queries (Mo vals k v) /\ Ex4 g B C4 C6 wk w2 /\ w2.ownsRow N 22 1 v t (Oa (Ph lm t lk fk).1)) (fun i _=>size-(intOf i).toNat)
     case atStart=>exact ⟨0,ve vD 0 0,Kb _,rfl,hwk,(by have h:=zJC vals k;rw [HNIL.out] at h;rw [h];exact hdk),Ex4.refl _,⟨rfl, .inl ⟨rfl,rfl⟩⟩⟩
     case round =>
      clear hwk hdk cx;obtain ⟨t,v,ht,rfl,Qw,Fm,Gm,Ca⟩:=hrel;by_cases Ck:t<size
      ·obtain ⟨rA,hfp⟩:=Fm.at_ (i:=k) hkM.out
       rw [vO.out,pE] at rA;have Kn:=LM Gm kx zO zO zO zO;have cx:=Kn.cell;have lN:N <= wr.1.size:=by have:=Gm.size;have:=HN.out;omega
       have hrest:=zH (show ∀ x∈(Ph lm t lk fk).2.1,x<256 from Qw.bytes)
       obtain ⟨⟨xs,l1,f1⟩,hxs⟩:∃ z,z=Ph lm t lk fk:=⟨_,rfl⟩;rw [<- hxs] at Qw Ca;obtain ⟨⟨y,l2,f2⟩,hy⟩:∃ z,z=mi lm l1 f1:=⟨_,rfl⟩;have HU1:=fun w h=>zAu g bd lm l1 f1 w h
       simp only [<- hy] at HU1;replace HU1:=zH HU1;have xg:=zH (show Ph lm (t+1) lk fk=(xs++[y],l2,f2) by rw [Ph,<- hxs];simp only;rw [<- hy])
       simp only at Qw Ca;clear hxs hy hrest hfp Kn;have ng:gx≠g:=by omega
       have npg:pb≠g:=by omega
       have npN:pb<N:=by omega
       have hgN:g<N:=by omega
       have g3:(t:Int)<size:=by omega
       go_wp2_with fail
       refine yB (So g N) [10,11,12,14] [14] [0,1,2,3,4,5,6,7,8,9,10,11,12,13,14] zK zK ?_;refine AB (Yb g N) ?_;intro Wc Ja ea;replace Ca:=kR Ja Ca;replace Qw:=wr_hid Ja Qw;replace Fm:=zDT Ja Fm;replace Gm:=zD3 Ja Gm;have lN':N <= Wc.1.size:=by have:=Gm.size;have:=HN.out;omega
       clear Ja;refine dm ?_;refine ku (Yb g N) rfl rfl rfl (fun _=>by go_simp <;> rfl) ((HU1.out _ Qw).mono ?_)
       rintro e w5 ⟨rfl,hw5,Bq⟩;refine ⟨_,rfl,fun _=>uC Bq lN',?_⟩
       replace ea:=zM (Yb g N) ea (uC Bq lN');refine zPU ?_;replace Ca:=r9 Ca Bq hgN;replace Fm:Dst w5 B C4 C6 rt L.queries (Mo vals k v):=Fm.keep (Bq.block _ Fm.pr.lt (fun e=>by have:=Ya e;omega)) (Bq.block _ Fm.cols.lt (fun e=>by have:=Ya e;omega)) (Bq.block _ Fm.paths.lt (fun e=>by have:=Ya e;omega))
       replace Gm:=Gm.trans (Ex4.grown Bq);have lN5:N <= w5.1.size:=by have:=Bq.size;omega
       clear Bq cx rA lN' lN;refine ak (Yb g N) rfl rfl rfl ?_;go_simp;refine ⟨fun _=>Xk ((tb _ _).alloc zR _) lN5,?_⟩
       have AF:=zA w5 (.cells #[vd vn y] 22);have Ra:=sx w5 (vd vn y) 22;replace Ca:=Mc Ca AF zR;replace Fm:Dst (w5.alloc (.cells #[vd vn y] 22)) B C4 C6 rt L.queries (Mo vals k v):=Fm.keep (AF.block _ Fm.pr.lt) (AF.block _ Fm.cols.lt) (AF.block _ Fm.paths.lt);replace Gm:=Gm.trans (Ex4.below AF zR);replace hw5:=hw5.below AF zR;have lN6:=zb lN5 AF.size
       refine zPU ?_
       generalize w5.alloc _=w6 at Ra Ca Fm Gm hw5 lN6 |-;generalize w5.1.size=g5 at Ra |-;clear AF lN5 ea;have ea:=(Yb g N).refl w6;refine ak (Yb g N) rfl rfl rfl ?_;refine zx _ _ rfl GM rfl Ca rfl Ra (Lq [y]) zO lN6 ?_;intro v' wn Tb Va Cc;have Uc:∀ q,v.ownBlock=vE q -> N <= q:=fun q e=>(Ca.lt q e).1
       refine ⟨fun _=>oy Va lN6 Uc,?_⟩
       have hdn:Dst wn B C4 C6 rt L.queries (Mo vals k v):=Fm.keep (Va.block _ Fm.pr.lt (fun e=>by have:=Uc _ e.symm;omega)) (Va.block _ Fm.cols.lt (fun e=>by have:=Uc _ e.symm;omega)) (Va.block _ Fm.paths.lt (fun e=>by have:=Uc _ e.symm;omega))
       have hwn:=hw5.grown Va (fun q e=>by have:=Uc q e;omega)
       have RP:Ex4 g B C4 C6 wk wn:=⟨Va.os.trans Gm.os,Va.tape.trans Gm.tape,Va.output.trans Gm.output,zb Gm.size Va.size,fun b h1 h2 h3 h4 h5=>(Va.block b (zQ Gm.size) (fun e=>by have:=Uc b e.symm;have:=HN.out;omega)).trans (Gm.block b h1 h2 h3 h4 h5)⟩
       obtain ⟨Av,cv,hv',-⟩:=Ud Tb;subst hv';obtain ⟨hcn,LF⟩:=hdn.at_ (i:=k) hkM.out;rw [vO.out,pE] at hcn;rw [vO.out] at LF;clear Ca Va Cc Fm hw5 Gm Ra Uc ea;have ea:=(Yb g N).refl wn
       refine zPU ?_
       refine dm ?_;refine ak (Yb g N) rfl rfl rfl ?_;go_simp;refine ⟨fun h=>Bool.noConfusion h,?_⟩
       have Lb:wn.grownBy (wn.setCell ⟨pb,po,vD⟩ (ve Av (t+1) cv)) (vE pb):=mh (p:=⟨pb,po,vD⟩) (Ce wn _) (.inl rfl) _;have hdz:=hdn.set_ zO zO n3 (i:=k) hkM.out (ve Av (t+1) cv);rw [vO.out,zJD] at hdz;replace hwn:=hwn.grown Lb (fun q e=>by have:=Ya e;omega)
       replace RP:=RP.trans (Ex4.set_ wn (o:=po) Zr (ve Av (t+1) cv));replace Tb:=r9 Tb Lb npN;clear hcn LF ea hdn Lb;generalize wn.setCell _ _=wz at hdz hwn RP Tb |-;have ea:=(Yb g N).refl wz;refine dm ?_;refine zB ?_;go_wp2
       go_roundw
       case rel=>exact ⟨t+1,ve Av (t+1) cv,zO,by go_num,by rw [xg.out];exact hwn,hdz,RP,by rw [xg.out];exact Z8 (a:=xs) (b:=[y]) Tb rfl⟩
       case measure=>simp [intOf];omega
      ·obtain rfl:t=size:=by omega
       have HWS:=zH (show ∀ x∈(Ph lm t lk fk).1,x<18446744073709551616 from (zAy lm t lk fk hlkb.out).1)
       have hexz:=hexk.trans Gm;have Wo:=zH (show (∀ i,k+1 <= i -> Mo vals k v i=ve vD 0 0) /\ ∀ i<k+1,Ex W0.1.size wr (Mo vals k v i) (Yt ps l0 f0 i) from ⟨fun i hi=>by rw [SX vals k v zO];exact HV.out.1 i zO,fun i hi=>by
        rcases Wg i k with h5 | h5
        ·rw [SX vals k v zO]
         exact Y2 (Y2 (HV.out.2 i h5) (Ex4.below (g:=g) (B:=B) (C4:=C4) (C6:=C6) ja (zQ aj.out)) zq zO zO zO) Gm zq zO zO zO
        ·have e:i=k:=by omega
         subst e;rw [pE,Xn.out];exact zEl Ca HWS.out hNs⟩)
       have Kn:=LM Gm kx zO zO zO zO;have cx:=Kn.cell;clear Ca;go_wp2
       go_roundw
       case rel=>exact ⟨k+1,Mo vals k v,zO,by go_num,by rw [Rh.out];exact Qw,Fm,hexz,Wo.out⟩
       case measure=>simp [intOf];omega
    ·obtain rfl:k=M:=by omega
     have HDN:=zH (zDI g bd _ _ wr Dg);have k2z:=LM hex Zh zO zO zO zO;have xq:=xa.trans (hex.to_below (N:=w.1.size) xa.size zO zO zO zO);have hsw:=hex.size;have vH:=zH (show rt<18446744073709551616 by have:=zAB (Pe-1) b false HBB.out;rw [<- HRU.out] at this;exact this)
     have xg:=zH (show WD L j b=Dl ps l0 f0 k by unfold WD;rw [<- HRU.out,Uo.out,HM.out])
     have HRP:=zH (show aB L j b={ root:=rt,code:=Yt ps l0 f0 0,linear:=Yt ps l0 f0 1,quad:=Yt ps l0 f0 2,cols:=(List.range L.queries).map fun i=>Yt ps l0 f0 (3+i),salts:=Yt ps l0 f0 (3+L.queries),paths:=(List.range L.queries).map fun i=>Yt ps l0 f0 (4+L.queries+i) } by unfold aB;rw [<- HRU.out,Uo.out])
     obtain ⟨lz,hlz⟩:=zEX ((Dl ps l0 f0 k).1);obtain ⟨fz,OC⟩:=zEX ((Dl ps l0 f0 k).2);rw [<- hlz,<- OC] at HDN;have OB:=zH (show WD L j b=(lz,fz) by rw [xg.out,hlz,OC])
     clear hlz OC Dg;obtain ⟨A0,m0,c0,e0,r0⟩:=HV.out.2 0 (zQ HM.out);obtain ⟨A1,m1,c1,e1,r1⟩:=HV.out.2 1 (zQ HM.out);obtain ⟨A2,m2,c2,e2,r2⟩:=HV.out.2 2 (zQ HM.out);obtain ⟨A3,m3,c3,e3,r3⟩:=HV.out.2 (3+L.queries) (zQ HM.out);have kp:=hd.pr;rw [e0,e1,e2,e3] at kp;have Kx:=zH (HV.out.2 0 (zQ HM.out));have Yp:=zH (HV.out.2 1 (zQ HM.out));have Wq:=zH (HV.out.2 2 (zQ HM.out));have HF3:=zH (HV.out.2 (3+L.queries) (zQ HM.out));rw [e0] at Kx;rw [e1] at Yp;rw [e2] at Wq;rw [e3] at HF3;clear e0 e1 e2 e3 r0 r1 r2 r3;go_wp2_with fail
     refine HDN.out.mono ?_;rintro e w9 ⟨rfl,kk,rfl⟩;have yJ:=kp.drewN kk;have vJ:=k2z.drewN kk;have kcz:=hd.cols.drewN kk;have kqz:=hd.paths.drewN kk;have Em:=AK xq kk;have hag:∀ b:Nat,(wr.drewN kk).1[b]?=wr.1[b]?:=fun _=>rfl
     have hsy:(wr.drewN kk).1.size=wr.1.size:=rfl;have HAG:=zH (And.intro hag hsy);clear hag hsy kp k2z hd xq;generalize wr.drewN kk=wz at yJ vJ kcz kqz Em HAG |-;have cp:=yJ.cell;have cr2:=vJ.cell;have fr2:=vJ.frozen;have lp:=yJ.lt;cases Hh:(!fz&&lz.isEmpty)
     ·have Wp:=zH (show D=(aW,2) by
       rw [HDz.out,ya];rintro ⟨-,h⟩;rw [OB.out] at h
       injection h with h1 h2
       subst h1 h2;simp at Hh)
      clear Hh;go_wp2_with fail
      have Lt:=qX (w:=wz) (g:=w.1.size+1) (vd vn 0) (ve vD 0 0) (ve vD 0 0) (ve vD 0 0) (ve vD 0 0) (ve vD 0 0) (ve vD 0 0);have kz:=pX vJ (vd vn 0) (ve vD 0 0) (ve vD 0 0) (ve vD 0 0) (ve vD 0 0) (ve vD 0 0) (ve vD 0 0);clear cr2 fr2 vJ cp;generalize ((((((vF wz _ _).setCell _ _).setCell _ _).setCell _ _).setCell _ _).setCell _ _).setCell _ _=Wf at Lt kz |-;have cz:=kz.cell;refine Sc (v:=.tuple #[vf #[vd vn 0,ve vD 0 0,ve vD 0 0,ve vD 0 0,ve vD 0 0,ve vD 0 0,ve vD 0 0],vd vq 2]) (by simp [results,results96,go_sem,cz]) rfl ?_
      rw [Wp.out];exact ⟨ZV,rfl,fun u _ _=>s8 u,Em.trans (zt Lt w.1.size zO (fun g e=>by have:=Ya e;omega))⟩
     ·have Wp:=zH (show D=(aB L j b,0) by
       have h1:fz=false /\ lz=[]:=by simpa using Hh
       rw [HDz.out,Ka ⟨HZ.out,by rw [OB.out,h1.1,h1.2]⟩])
      clear Hh;go_wp2_with fail
      have Lt:=qX (w:=wz) (g:=w.1.size+1) (vd vn rt) (ve A0 m0 c0) (ve A1 m1 c1) (ve A2 m2 c2) (ve (vE ⟨C4,0,vD⟩) L.queries L.queries) (ve A3 m3 c3) (ve (vE ⟨C6,0,vD⟩) L.queries L.queries);have kz:=pX vJ (vd vn rt) (ve A0 m0 c0) (ve A1 m1 c1) (ve A2 m2 c2) (ve (vE ⟨C4,0,vD⟩) L.queries L.queries) (ve A3 m3 c3) (ve (vE ⟨C6,0,vD⟩) L.queries L.queries);clear cr2 fr2 vJ cp;generalize ((((((vF wz _ _).setCell _ _).setCell _ _).setCell _ _).setCell _ _).setCell _ _).setCell _ _=Wf at Lt kz |-;have cz:=kz.cell;refine Sc (v:=.tuple #[vf #[vd vn rt,ve A0 m0 c0,ve A1 m1 c1,ve A2 m2 c2,ve (vE ⟨C4,0,vD⟩) L.queries L.queries,ve A3 m3 c3,ve (vE ⟨C6,0,vD⟩) L.queries L.queries],vd vq 0]) (by simp [results,results96,go_sem,cz]) rfl ?_
      rw [Wp.out,HRP.out];have kQ:=Lt.size;have Mp:=xa.size;have h4:w.1.size <= C4:=by omega
      have h6:w.1.size <= C6:=by omega
      have k4:=kcz.grown Lt (fun e=>by have:=Ya e;omega)
      have k6:=kqz.grown Lt (fun e=>by have:=Ya e;omega)
      have keep:∀ (u:vw),Wf.1.size <= u.1.size -> (∀ b,w.1.size <= b -> b<Wf.1.size -> u.1[b]?=Wf.1[b]?) -> ∀ (v:vx) (l:List Nat),Ex W0.1.size wr v l -> Ex W0.1.size u v l:=fun u hu ha v l h=>Z2 h (zb (by rw [<- HAG.out.2];exact kQ) hu) fun b h1 h2=>(ha b (zb Mp h1) (pd h2 (by rw [<- HAG.out.2];exact kQ))).trans ((Lt.block b (by rw [HAG.out.2];exact h2) (fun e=>by have:=Ya e;omega)).trans (HAG.out.1 b))
      refine ⟨⟨A0,m0,c0,A1,m1,c1,A2,m2,c2,vE ⟨C4,0,vD⟩,L.queries,L.queries,A3,m3,c3,vE ⟨C6,0,vD⟩,L.queries,L.queries⟩,rfl,fun u hu ha=>?_,Em.trans (zt Lt w.1.size zO (fun g e=>by have:=Ya e;omega))⟩
      have hqm:L.queries <= maxLen:=by simp [maxLen];omega
      exact ⟨vH.out,DP (keep u hu ha _ _ Kx.out),DP (keep u hu ha _ _ Yp.out),DP (keep u hu ha _ _ Wq.out),
       zAR ((ha C4 h4 k4.lt).trans k4) (fun i (hi:i<L.queries)=>keep u hu ha _ _ (HV.out.2 (3+i) (zQ HM.out))) hqm,
       DP (keep u hu ha _ _ HF3.out),
       zAR ((ha C6 h6 k6.lt).trans k6) (fun i (hi:i<L.queries)=>keep u hu ha _ _ (HV.out.2 (4+L.queries+i) (zQ HM.out))) hqm⟩
def xo (l:List Nat):List Nat:=l.flatMap fun x=>Je x 8
theorem CK:∀ (l:List Nat),(xo l).length=8*l.length
 | []=>rfl
 | x :: r=>by
  have e:xo (x :: r)=Je x 8++xo r:=rfl;rw [e,jj,yG,CK r,Jg];omega
theorem WZ:∀ (k n:Nat),∀ x∈Je n k,x<256
 | 0,_,x,h=>by simp [Je] at h
 | k+1,n,x,h=>by
  rw [Je,Ah] at h;rcases h with h | h
  ·omega
  ·exact WZ k _ x h
theorem qZ (l:List Nat):∀ x∈xo l,x<256:=by
 intro x hx;obtain ⟨y,-,h⟩:=List.mem_flatMap.1 hx;exact WZ 8 y x h
theorem zBH:∀ (k n:Nat),Ug (Je n k)=n%256^k
 | 0,n=>by simp [Je,Ug,Nat.mod_one]
 | k+1,n=>by
  rw [Je,Ug,zBH k,Sf,ye (256^k) 256,Nat.mod_mul]
theorem zBW:∀ (l:List Nat),(∀ x∈l,x<18446744073709551616) -> Gc l.length (xo l)=l
 | [],_=>rfl
 | x :: r,h=>by
  have e:xo (x :: r)=Je x 8++xo r:=rfl;have hl:(Je x 8).length=8:=yG 8 x;rw [Jg,Gc,e,List.take_append_of_le_length zO,VE zO,List.drop_append_of_le_length zO,List.drop_of_length_le zO,List.nil_append,zBW r fun y hy=>h y (by simp [hy]),zBH]
  have h1:=h x zS;have h2:(256:Nat)^8=18446744073709551616:=by decide
  rw [h2,qj h1]
theorem DK {l r:List Nat} {n:Nat} (h:l.length=n):(l++r).drop n=r:=by
 rw [List.drop_append_of_le_length zO,List.drop_of_length_le zO,List.nil_append]
theorem iS {l r:List Nat} {n:Nat} (h:l.length=n):(l++r).take n=l:=by
 rw [List.take_append_of_le_length zO,VE zO]
theorem CT (s:Nat):∀ (ls:List (List Nat)) (r:List Nat),(∀ l∈ls,l.length=s) -> Bm ls.length s (ls.flatten++r)=ls
 | [],r,_=>rfl
 | l :: ls,r,h=>by
  have hl:=h l zS;have ih:=CT s ls r fun x hx=>h x (by simp [hx])
  apply Kv (by rw [dI])
  intro i h1 h2;rw [DT];cases i with
  | zero =>
   rw [Nat.zero_mul,List.drop_zero,List.flatten_cons,iq,List.take_append_of_le_length zO,VE zO]
   rfl
  | succ i =>
   have h3:i<(Bm ls.length s (ls.flatten++r)).length:=by rw [dI];simpa using h2
   have e:=DT ls.length s (ls.flatten++r) i h3;simp only [ih] at e;have ed:(l++(ls.flatten++r)).drop ((i+1)*s)=(ls.flatten++r).drop (i*s):=by
    rw [show (i+1)*s=s+i*s by rw [Nat.succ_mul,Nat.add_comm],<- Mj,DK hl]
   rw [Vg,e,List.flatten_cons,iq,ed]
theorem EP (s:Nat):∀ (ls:List (List Nat)),(∀ l∈ls,l.length=s) -> ls.flatten.length=ls.length*s
 | [],_=>zS
 | l :: ls,h=>by
  rw [List.flatten_cons,jj,EP s ls fun x hx=>h x (by simp [hx]),h l zS,Jg,Nat.succ_mul]
  omega
structure SS (L:Na) (j:Nat) (P:ie):Prop where
 code:P.code.length=L.k
 linear:P.linear.length=L.k+L.block-1
 quad:P.quad.length=2*L.k-1
 cols:P.cols.length=L.queries
 col:∀ l∈P.cols,l.length=L.a+L.b+L.b+L.b+3
 salts:P.salts.length=L.queries
 paths:P.paths.length=L.queries
 path:∀ l∈P.paths,l.length=j
theorem XN {l:List Nat} {n p:Nat} (h:Xj l (n:Int) p=true):l.length=n:=by
 simp only [Xj,Vb,Dh] at h;omega
theorem D7 {ls:List (List Nat)} {m n p:Nat} (h:Xt ls (m:Int) (n:Int) p=true):ls.length=m /\ ∀ l∈ls,l.length=n:=by
 simp only [Xt,Vb,Dh,fe] at h;exact ⟨zO,fun l hl=>XN (h.1 l hl)⟩
theorem V6 {L:Na} {j:Nat} {P:ie} (h:Oh L j P=true):SS L j P:=by
 unfold Oh at h;simp only [Vb] at h;obtain ⟨-,h1,h2,h3,h4,h5,h6⟩:=h;have a4:=D7 h4;have a6:=D7 h6;exact ⟨XN h1,XN h2,XN h3,a4.1,a4.2,XN h5,a6.1,a6.2⟩
theorem cW {L:Na} {j:Nat} {P:ie} (h:SS L j P):8*(dh P).length=gh L j:=by
 have h4:=EP _ P.cols h.col;have h6:=EP _ P.paths h.path;rw [h.cols] at h4;rw [h.paths] at h6;have h1:=h.code;have h2:=h.linear;have h3:=h.quad;have h5:=h.salts;unfold dh gh;simp only [jj,Jg,List.length_nil];rw [Nat.mul_add L.queries (L.a+L.b+L.b+L.b+3+1) j,Nat.mul_add L.queries (L.a+L.b+L.b+L.b+3) 1];omega
theorem zGh {L:Na} {j:Nat} {P:ie} (h:SS L j P):Nf L j (dh P)=P:=by
 have hn:dh P=P.root :: (P.code++(P.linear++(P.quad++(P.cols.flatten++(P.salts++P.paths.flatten))))):=by simp [dh]
 have d1:(dh P).drop 1=P.code++(P.linear++(P.quad++(P.cols.flatten++(P.salts++P.paths.flatten)))):=by rw [hn];rfl
 have d2:(dh P).drop (1+L.k)=P.linear++(P.quad++(P.cols.flatten++(P.salts++P.paths.flatten))):=by rw [<- Mj,d1,DK h.code]
 have hf:=EP _ P.cols h.col;rw [h.cols] at hf;have e4:Bm L.queries (L.a+L.b+L.b+L.b+3) (P.cols.flatten++(P.salts++P.paths.flatten))=P.cols:=by
  rw [<- h.cols];exact CT _ _ _ h.col
 have e6:Bm L.queries j P.paths.flatten=P.paths:=by
  have:=CT j P.paths [] h.path;rw [List.append_nil] at this;rw [<- h.paths];exact this
 unfold Nf;simp only [d1,d2,DK h.linear,DK h.quad,iS h.code,iS h.linear,iS h.quad,DK hf,iS h.salts,DK h.salts,e4,e6];rw [hn];cases P
 rfl
theorem OZ (L:Na) (j:Nat) (P:ie) (hp:0<L.p) (hP:∀ x∈dh P,x<18446744073709551616) (h:Oh L j P=true):Wl L j (xo (dh P))=(P,0) /\ (xo (dh P)).length=gh L j:=by
 have hl:=V6 h;have hb:(xo (dh P)).length=gh L j:=by rw [CK,cW hl]
 have h8:=cW hl;have hw:=zBW (dh P) hP;obtain ⟨h1,-⟩:=QZ L j (xo (dh P)) (dh P).length hp hb h8;rw [hw,zGh hl] at h1;obtain ⟨a1,a2⟩:=h1 h;refine ⟨?_,hb⟩;unfold Wl;rw [Ka ⟨hb,a2⟩,a1]
theorem zGf (P:ie):dh P=P.root :: (gI P).flatten:=by simp [dh,gI]
def EncF (w:vw) (ns:List Nat) (e:Ending) (w':vw):Prop :=
 ∃ g c,e=vl (.tuple #[ve (vE ⟨g,4,vD⟩) (8*ns.length) (c-4),vd vq 0]) /\ w'.ownsRow w.1.size 5 1 (ve (vE ⟨g,0,vD⟩) (8*ns.length+4) c) (8*ns.length+4) (U8 (Je ns.length 4++xo ns)) /\ 8*ns.length+4 <= c /\ c <= maxLen /\ vA w.1.size w w'
theorem zBj (L:Na) (j:Nat) (hL:Nb L) (hj:j <= 10) (hT:L.a+3*L.b <= 40):gh L j <= 48000:=by
 have h1:=hL.k;have h2:=hL.b2;have h3:=hL.q2;have hm:L.queries*(L.a+L.b+L.b+L.b+3+1+j) <= 64*54:=Nat.mul_le_mul h3 zO;unfold gh;omega
theorem zGV (L:Na) (j:Nat) (P:ie) (S:PS) (w:vw) (hL:Nb L) (hn:L.n=2^j) (hj:j <= 10) (hT:L.a+3*L.b <= 40) (h:Ji w P S) (hv:Oh L j P=true) :
  vB prog 46 #[vf (ib L),vf (Wd P S)] w (EncF w (dh P)):=by
 have da:vA w.1.size w ((w.alloc (.cells (ib L) 101)).alloc (.cells (Wd P S) 46)):=((tb _ w).alloc zR _).alloc zS _;have HV:=zH (pW L j P S _ hL hn hj (CW h da));rw [hv] at HV;have hl:=V6 hv;obtain ⟨e4,a4,m4,r4⟩:=EJ h.cols;obtain ⟨e6,a6,m6,r6⟩:=EJ h.paths;have z4:S.n4=L.queries:=by rw [e4];exact hl.cols
 have z6:S.n6=L.queries:=by rw [e6];exact hl.paths
 have hq:=hL.q1;obtain ⟨b4,q4,Su⟩:=r4.base zO zO;obtain ⟨b6,q6,Tu⟩:=r6.base zO zO;have hN:(dh P).length <= 6000:=by have:=cW hl;have:=zBj L j hL hj hT;omega
 have HN:=zH hN;have HPT:=zH (fun (w':vw) (kg:Blk w' (w.1.size+1) 46 (Wd P S))=>rW L j P S (w.1.size+1) b4 q4 b6 q6 w' hL hn hj kg z4 z6 kg.lt Su Tu ⟨a4,m4⟩ ⟨a6,m6⟩)
 have HPI:=zH (fun (w':vw) (kg:Blk w' (w.1.size+1) 46 (Wd P S)) (Pc:Ji w' P S)=>Z9 (L:=L) (j:=j) kg Pc (by rw [<- e4];exact z4) (by rw [<- e6];exact z6) Su Tu)
 have Yq:=zH (fun w' (hb:vA w.1.size w w')=>CW h hb)
 have HC:=zH (zGf P);have Xb:=zH (B8 h);have jf:0<(Ui L j (w.1.size+1) b4 q4 b6 q6).length:=by simp [Ui,Gj]
 have Zr:(Ui L j (w.1.size+1) b4 q4 b6 q6).length <= 200:=by have:=hL.q2;simp [Ui,Gj,gg];omega
 clear hN hv hl e4 a4 m4 r4 e6 a6 m6 r6 z4 z6 Su Tu h hq hL hn hj hT;generalize Ui L j (w.1.size+1) b4 q4 b6 q6=ps at *;generalize gI P=ls at *;generalize dh P=ns at *;unfold ib Wd at *;go_enter func46,ntmps46
 go_wp2_with fail
 refine HV.out.mono ?_;rintro e w1 ⟨rfl,hb⟩;obtain ⟨k1,k2,Ib⟩:=bH hb;have Uo:=zH (HPI.out w1 k2 (Yq.out w1 Ib));have c2:=k2.cell;have Lh:=Ib.size;have oD:=k2.lt;clear hb HV HPI;go_upto_region 4 with fail
 have ja:=zA w1 (.cells #[vd vn P.root] 22);have Ca:=zGE w1 w1.1.size (vd vn P.root) zR;have Dd:(w1.alloc (.cells #[vd vn P.root] 22)).1.size=w1.1.size+1:=by simp
 replace k1:=ia k1 ja;replace k2:=ia k2 ja;have Gb:=ma Ib ja;clear c2;generalize w1.alloc _=w2 at ja Ca Dd k1 k2 Gb |-;have c1:=k1.cell;have ar:=zH (HPT.out w2 k2);clear HPT;go_wp2_with fail
 refine ar.out.mono ?_;rintro e w3 ⟨v,n,rfl,bQ,Ta⟩;have Ag:n=ps.length:=by have:=bQ.1;rw [pR] at this;omega
 obtain ⟨r,cr,rfl,Bg,Cn⟩:=SJ bQ zO;have tl:∀ i u,(Mn ps)[i]?=vE u -> w3.cell? ⟨r,i,vD⟩=vE u:=fun i u hu=>by
  obtain ⟨ad,e,hc⟩:=(Rd.of_own bQ).2 zO
  injection e with e
  subst e;have:=hc i u hu
  simpa [zm] using this
 have NB:=zH tl;replace Ca:w3.ownsRow w1.1.size 22 1 _ 1 (Oa [P.root]):=Mc Ca Ta zR;have hb13:vA w1.1.size w1 w3:=ja.trans (Ta.mono zO);have JA:=Ta.size;replace Gb:=ma Gb Ta;clear tl bQ c1 k1 k2 ja Ta ar Yq;subst Ag;have gm:(ps.length:Int) <= 200:=by omega
 generalize P.root=rt at *;go_wp2_with fail
 go_loopw [6,20] (fun v i wr=>∃ k m:Nat,k <= ps.length /\ i=vd vq k /\ wr.ownsRow w1.1.size 22 1 v m (Oa (rt :: (ls.take k).flatten)) /\ vA w1.1.size w1 wr /\ w3.grownBy wr (vE w1.1.size) /\ (∀ q,v.ownBlock=vE q -> vE w1.1.size=vE q \/ w3.1.size <= q)) (fun _ i _=>ps.length-(intOf i).toNat)
 case atStart=>exact ⟨0,1,Kb _,rfl,Ca,hb13,Ce _ _,fun q e=>by injection e with e;subst e;exact .inl rfl⟩
 case round =>
  clear Ca hb13;obtain ⟨k,m,hk,rfl,Ca,yb,Wa,Uc⟩:=hrel;by_cases ta:k<ps.length
  ·have Ck:k<ls.length:=by rw [<- Uo.out.1];exact ta
   obtain ⟨b,o,A,nn,cc,JM,hc,Zf⟩:=qW (Uo.out.2 k ta Ck) yb;obtain ⟨u0,u1,u2⟩:=oR ps k ta;have c0:=Wa.cell (NB.out _ _ u0) (by show vE r≠vE w1.1.size;intro e;have:=Ya e;omega)
   have c1:=Wa.cell (NB.out _ _ u1) (by show vE r≠vE w1.1.size;intro e;have:=Ya e;omega)
   have c2:=Wa.cell (NB.out _ _ u2) (by show vE r≠vE w1.1.size;intro e;have:=Ya e;omega)
   rw [JM] at c0;have HF:=zH (zEx ls k Ck);have hle:=zEw ls (k+1);rw [HF.out,jj] at hle;have hm:m+nn <= 6000:=by
    have h1:=Ca.1;have h2:=(Ev Zf).1;have h3:=HN.out;rw [HC.out] at h3;rw [Vt] at h1;simp only [Jg] at h1 h3;omega
   have jm:=zH Ck;clear u0 u1 u2 JM hle;generalize ps[k].size=size at *;generalize ps[k].lim=lim at *;have lb:b<wr.1.size:=Gf _ _ hc;have lr:r<wr.1.size:=Gf _ _ c0;have g1:(0:Int)<=k:=by omega
   have g2:(k:Int)<ps.length:=by omega
   have ja:=zA wr (.cells #[.pointer (vE ⟨b,o,vD⟩),vd vq size,vd vn lim] 199);have hrw2:=Ab ja Zf;have hs5:=yb.size;go_wp2_with (at_builtin;refine Ok rfl _ _ rfl GM rfl (Ca.alloc _) rfl (Ev hrw2).2.2.2.2 (Lq _) zO zT ?_)
   intro v' wn Tb Va Cc;have hB:=zGD (Ca.alloc _) Va zT;have Xh:=(yb.trans (ja.mono zO)).trans hB;have kd:=lW (Vf Wa ja Wa.size) Uc Va (by
    rcases Cc with e | e
    ·exact .inl e
    ·exact .inr ⟨_,e,zS⟩)
   replace Tb:wn.ownsRow w1.1.size 22 1 v' (m+nn) (Oa (rt :: (ls.take (k+1)).flatten)):=Z8 (a:=rt :: (ls.take k).flatten) (b:=ls[k]) Tb (by rw [HF.out];rfl)
   clear Ca Va Cc hB Zf hrw2 ja c0 c1 c2 hc Wa Uc yb lb lr;go_wp2
   go_roundw
   case rel=>exact ⟨k+1,m+nn,zO,by go_num,Tb,Xh,kd.1,kd.2⟩
   case measure=>simp [intOf];omega
  ·have ek:k=ls.length:=by rw [<- Uo.out.1];omega
   have HCC:=zH HC.out;rw [ek,qt,<- HC.out] at Ca;have hm:m=ns.length:=by have:=Ca.1;rw [Vt] at this;omega
   subst hm;obtain ⟨A,c,rfl,h1,h2,Ra,-⟩:=Ud Ca;have ql:0<ns.length:=by rw [HC.out];simp
   have Yk:=HN.out;have HLs:=zH (zJO vD A 0 0 ns.length c [] ns wr (Rd.nil _ _ _) (fun u hu=>by cases hu) Ra Xb.out zO)
   have xq:vA w.1.size w wr:=Ib.trans (yb.mono Lh);clear ek Ca Ra Wa Uc;go_wp2_with fail
   refine HLs.out.mono ?_;rintro e w5 ⟨v5,rfl,hv5,Za⟩;obtain ⟨n5,hn5⟩:=zEX (0+4+8*ns.length);rw [<- hn5] at hv5;obtain ⟨g5,c5,rfl,-,-⟩:=SJ hv5 zO;have HOW:=zH (yv hv5 xq.size);obtain ⟨h5,h6⟩:n5 <= c5 /\ c5 <= maxLen:=by
    obtain ⟨A',c',he,h5,h6,-⟩:=Ud hv5
    injection he with _ _ e3
    subst e3;exact ⟨h5,h6⟩
   have HI:=zH (zJN vD 0 0 0 [] w5 (Rd.nil _ _ _) (fun u hu=>by cases hu) zO zO zO)
   have e8:n5-4=8*ns.length:=by omega
   have v1:(4:Int)<n5:=by omega
   have v2:(4:Int)<c5:=by omega
   have v3:(n5:Int)<=c5:=by omega
   have HE8:=zH (And.intro h5 (And.intro h6 (And.intro hn5 e8)));replace xq:=ma xq Za;clear hn5 hv5 h5 h6 Za ql Yk e8;go_wp2_with fail
   refine HI.out.mono ?_;rintro e w6 ⟨v6,rfl,hv6,tc⟩;obtain ⟨A6,c6,rfl,-⟩:=Ud hv6;have HOZ:=zH (Mc HOW.out tc zR);replace xq:=ma xq tc;clear hv6 tc;go_wp2
   go_ret2
   obtain ⟨h5,h6,hn5,e8⟩:=HE8.out;have e9:n5=8*ns.length+4:=by omega
   have ho:=HOZ.out;have ed:([]++(U8 (Je ns.length 4)++U8 (ns.flatMap fun x=>Je x 8)))=U8 (Je ns.length 4++xo ns):=by
    rw [List.nil_append,RH]
    rfl
   rw [ed,e9] at ho;exact ⟨g5,c5,by rw [<- e8];rfl,ho,zO,h6,xq⟩
theorem zBG:∀ (l m:List Nat),l.length=m.length -> (∀ x∈l,x<256) -> (∀ x∈m,x<256) -> Ug l=Ug m -> l=m
 | [],[],_,_,_,_=>rfl
 | [],_ :: _,h,_,_,_=>by simp at h
 | _ :: _,[],h,_,_,_=>by simp at h
 | x :: l,y :: m,h,hl,hm,e=>by
  have h1:=hl x zS;have h2:=hm y zS;simp only [Ug] at e;have e1:x=y:=by omega
  have e2:Ug l=Ug m:=by omega
  rw [e1,zBG l m (by simpa using h) (fun z hz=>hl z (by simp [hz])) (fun z hz=>hm z (by simp [hz])) e2]
theorem zBX:∀ (n:Nat) (l m:List Nat),l.length=8*n -> m.length=8*n -> (∀ x∈l,x<256) -> (∀ x∈m,x<256) -> Gc n l=Gc n m -> l=m
 | 0,l,m,h,k,_,_,_=>by
  rw [UE (l:=l) (by simpa using h),UE (l:=m) (by simpa using k)]
 | n+1,l,m,h,k,hl,hm,e=>by
  simp only [Gc,List.cons.injEq] at e;have e1:=zBG _ _ (by rw [Br,Br];omega) (fun x hx=>hl x (List.mem_of_mem_take hx)) (fun x hx=>hm x (List.mem_of_mem_take hx)) e.1
  have e2:=zBX n (l.drop 8) (m.drop 8) (by rw [ti];omega) (by rw [ti];omega) (fun x hx=>hl x (List.mem_of_mem_drop hx)) (fun x hx=>hm x (List.mem_of_mem_drop hx)) e.2
  rw [<- List.take_append_drop 8 l,e1,e2,List.take_append_drop]
theorem bY:∀ (n:Nat) (l:List Nat),Gc n (l.take (8*n))=Gc n l
 | 0,_=>rfl
 | n+1,l=>by
  simp only [Gc];rw [List.take_take,Nat.min_eq_left zO,List.drop_take,show 8*(n+1)-8=8*n by omega,bY n]
theorem BT (size:Nat) (l:List Nat):∀ n,(Bm n size l).flatten=l.take (n*size)
 | 0=>by simp [Bm]
 | n+1=>by
  have ih:=BT size l n;unfold Bm at ih |-;rw [List.range_succ,List.map_append,List.flatten_append,ih];simp only [List.map_cons,List.map_nil,List.flatten_cons,List.flatten_nil,List.append_nil];rw [show (n+1)*size=n*size+size from Nat.succ_mul n size,List.take_add]
theorem C8 (L:Na) (j:Nat) (x:List Nat) (h:8*x.length=gh L j):dh (Nf L j x)=x:=by
 unfold gh at h;have h0:x=[x.getD 0 0]++x.drop 1:=by
  cases x with
  | nil=>simp at h;omega
  | cons a r=>rfl
 have c1:(x.drop 1).take L.k++x.drop (1+L.k)=x.drop 1:=by rw [<- Mj];exact List.take_append_drop _ _
 have hlen:(((x.drop (1+L.k)).drop (L.k+L.block-1)).drop (2*L.k-1)).length=L.queries*(L.a+L.b+L.b+L.b+3+1+j):=by
  rw [ti,ti,ti];omega
 have e5:L.queries*(L.a+L.b+L.b+L.b+3+1+j)=L.queries*(L.a+L.b+L.b+L.b+3)+L.queries+L.queries*j:=by
  rw [Nat.mul_add,Nat.mul_add,fp]
 have c6:(Bm L.queries j (((((x.drop (1+L.k)).drop (L.k+L.block-1)).drop (2*L.k-1)).drop (L.queries*(L.a+L.b+L.b+L.b+3))).drop L.queries)).flatten
   = ((((x.drop (1+L.k)).drop (L.k+L.block-1)).drop (2*L.k-1)).drop (L.queries*(L.a+L.b+L.b+L.b+3))).drop L.queries:=by
  rw [BT];refine VE ?_;rw [ti,ti,hlen];omega
 show [x.getD 0 0]++(x.drop 1).take L.k++((x.drop (1+L.k)).take (L.k+L.block-1))++(((x.drop (1+L.k)).drop (L.k+L.block-1)).take (2*L.k-1))
  ++ (Bm L.queries (L.a+L.b+L.b+L.b+3) (((x.drop (1+L.k)).drop (L.k+L.block-1)).drop (2*L.k-1))).flatten
  ++ ((((x.drop (1+L.k)).drop (L.k+L.block-1)).drop (2*L.k-1)).drop (L.queries*(L.a+L.b+L.b+L.b+3))).take L.queries
  ++ (Bm L.queries j (((((x.drop (1+L.k)).drop (L.k+L.block-1)).drop (2*L.k-1)).drop (L.queries*(L.a+L.b+L.b+L.b+3))).drop L.queries)).flatten=x
 rw [c6,BT,iq,iq,iq,iq,iq,List.take_append_drop,List.take_append_drop,List.take_append_drop,List.take_append_drop,c1];exact h0.symm
theorem zGg {L:Na} {j:Nat} {x y:List Nat} (hk:0<L.k) (h:x.take (1+(L.k+(L.k+L.block-1)+(2*L.k-1)))=y.take (1+(L.k+(L.k+L.block-1)+(2*L.k-1)))) :
  (Nf L j x).root=(Nf L j y).root /\ (Nf L j x).code=(Nf L j y).code /\ (Nf L j x).linear=(Nf L j y).linear /\ (Nf L j x).quad=(Nf L j y).quad:=by
 have cut:∀ s l:Nat,s+l <= 1+(L.k+(L.k+L.block-1)+(2*L.k-1)) -> ∀ z:List Nat,(z.drop s).take l=((z.take (1+(L.k+(L.k+L.block-1)+(2*L.k-1)))).drop s).take l:=fun s l hs z=>by
  rw [List.drop_take,List.take_take,Nat.min_eq_left zO]
 have all:∀ s l:Nat,s+l <= 1+(L.k+(L.k+L.block-1)+(2*L.k-1)) -> (x.drop s).take l=(y.drop s).take l:=fun s l hs=>by
  rw [cut s l hs x,cut s l hs y,h]
 refine ⟨?_,all 1 L.k zO,all (1+L.k) (L.k+L.block-1) zO,?_⟩
 ·have g:∀ z:List Nat,z.getD 0 0=((z.drop 0).take 1).getD 0 0:=fun z=>by cases z <;> rfl
  show x.getD 0 0=y.getD 0 0
  rw [g x,g y,all 0 1 zO]
 ·show ((x.drop (1+L.k)).drop (L.k+L.block-1)).take (2*L.k-1)=((y.drop (1+L.k)).drop (L.k+L.block-1)).take (2*L.k-1)
  rw [Mj,Mj];exact all (1+L.k+(L.k+L.block-1)) (2*L.k-1) zO
theorem zGz {L:Na} {j n:Nat} {b c:List Nat} (hk:0<L.k) (hn:8*n=gh L j) (lb:b.length=8*n) (lc:c.length=8*n) (vb:∀ x∈b,x<256) (vc:∀ x∈c,x<256)
  (ht:b.take (8*(1+(L.k+(L.k+L.block-1)+(2*L.k-1))))=c.take (8*(1+(L.k+(L.k+L.block-1)+(2*L.k-1))))) (Sa:b≠c) :
  Nf L j (Gc n b)≠Nf L j (Gc n c) /\ (Nf L j (Gc n b)).root=(Nf L j (Gc n c)).root /\ (Nf L j (Gc n b)).code=(Nf L j (Gc n c)).code /\ (Nf L j (Gc n b)).linear=(Nf L j (Gc n c)).linear /\ (Nf L j (Gc n b)).quad=(Nf L j (Gc n c)).quad:=by
 have hle:1+(L.k+(L.k+L.block-1)+(2*L.k-1)) <= n:=by
  unfold gh at hn;omega
 refine ⟨fun e=>?_,zGg hk ?_⟩
 ·have:=congrArg dh e
  rw [C8 L j _ (by rw [yz];exact hn),C8 L j _ (by rw [yz];exact hn)] at this
  exact Sa (zBX n b c lb lc vb vc this)
 ·have w:∀ z:List Nat,(Gc n z).take (1+(L.k+(L.k+L.block-1)+(2*L.k-1)))=Gc (1+(L.k+(L.k+L.block-1)+(2*L.k-1))) z:=fun z=>by
   have:=zBY n z 0 (1+(L.k+(L.k+L.block-1)+(2*L.k-1))) zO
   simpa using this
  rw [w,w,<- bY,ht,bY]
end Go.Proofs.YteoghgbnielkpaaGreat
