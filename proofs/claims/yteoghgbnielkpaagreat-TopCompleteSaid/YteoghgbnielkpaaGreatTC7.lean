/- A part of the proof. No condition. -/
import Derived.Test.YteoghgbnielkpaaGreatTC5
import Derived.Test.YteoghgbnielkpaaGreatTC4
import Derived.Test.YteoghgbnielkpaaGreatTC6
import Derived.ChangeAlike
import Derived.Deep.RegionWith
import Derived.RegionTactic

set_option maxRecDepth 100000
set_option maxHeartbeats 8000000
set_option linter.unusedVariables false
set_option linter.unusedSimpArgs false
namespace Go.Proofs.YteoghgbnielkpaaGreat
open Go.RowKit
open Tryz
open Go renaming World->vw, Value->vx, Addr->vy, TypeId->vz, Calls->vB
open Go.Value renaming int->vd, slice->ve, agg->vf
open Go.IntKind renaming u64->vn, i64->vq
open Go.Ending renaming returned->vl
open Go.RowKit renaming Below->vA
open Go.World renaming setCell->vF
open Go.Act renaming put->vG
open Option renaming none->vD, some->vE
def vL (x:NewIn) (e:Ending):Prop:=∃ (y0 y1 y2 y3 y4 y5 y6 y7 y8 y9 Xd:Int) (b s:Bool),e=vl (.tuple #[vf #[vd vn y0,vd vq y1,vd vq y2,vd vq y3,vd vq y4,vd vq y5,vd vq y6,vd vq y7,vd vq y8,vd vq y9,vd vq Xd], .bool b, .bool s]) /\ (b=true -> ∃ L,Lb L /\ mi L x /\ L.n <= 64 /\ L.a+3*L.b <= 40 /\ #[vd vn y0,vd vq y1,vd vq y2,vd vq y3,vd vq y4,vd vq y5,vd vq y6,vd vq y7,vd vq y8,vd vq y9,vd vq Xd]=jb L)
theorem DP {y0 y1 y2 y3 y4 y5 y6 y7 y8 y9 Xd:Int} {L:Ma} (h:#[vd vn y0,vd vq y1,vd vq y2,vd vq y3,vd vq y4,vd vq y5,vd vq y6,vd vq y7,vd vq y8,vd vq y9,vd vq Xd]=jb L):y0=L.p /\ y1=L.block /\ y2=L.queries /\ y3=L.k /\ y4=L.n /\ y5=L.secret /\ y6=L.rows /\ y7=L.a /\ y8=L.b /\ y9=L.b /\ Xd=L.b:=by
 simpa [jb] using h
structure Vu (p:Nat) (pub vars:Int) (rows:List Ua) (ws:List Nat) (s:Bool):Prop where
 tab:Nc p pub vars rows=true
 asg:Th p vars ws=true
 small:bH rows
 few:rows.length <= 12
 sat:Gw p rows ws=s
theorem zGF (p:Nat) (pub vars:Int) (A B:Option vy) (n c m d:Nat) (rows:List Ua) (ws:List Nat) (bl bw qs:Int) (coin pd:Int) (real:Bool) (w:vw) (hr:RSl 3 Ud w [ve A n c] rows) (hw:RWd w [ve B m d] ws) (hp:p<18446744073709551616) :
  vB prog 13 #[vf #[vd vn p,vd vq pub,vd vq vars,ve A n c,vd vq bl,vd vq bw,vd vq qs,ve B m d,vd vn coin, .bool real,vd vn pd]] w fun e w'=>(vL ⟨p,pub,vars,rows.length,bl,bw,qs⟩ e /\ (∀ v s,e=vl (.tuple #[v, .bool true, .bool s]) -> Vu p pub vars rows ws s)) /\ vA w.1.size w w':=by
 have HR:=zH (fun w' (hb:vA w.1.size w w')=>zGE 12 p pub vars A B n c m d rows ws bl bw qs w' (Dg Bg _ _ _ _ hb hr) (Bb hb hw) hp)
 have HS:=zH (fun ht ha w' (hb:vA w.1.size w w')=>zGG p pub vars A B n c m d rows ws w' (Dg Bg _ _ _ _ hb hr) (Bb hb hw) ht ha)
 obtain ⟨A',n',c',he,-⟩:=hr;simp at he
 obtain ⟨rfl,rfl,rfl⟩:=he;have da:vA w.1.size w ((w.alloc (.cells #[vd vn p,vd vq pub,vd vq vars,ve A n c,vd vq bl,vd vq bw,vd vq qs,ve B m d,vd vn coin, .bool real,vd vn pd] 32)).alloc (.cells #[vd vn 0,vd vq 0,vd vq 0,vd vq 0,vd vq 0,vd vq 0,vd vq 0,vd vq 0,vd vq 0,vd vq 0,vd vq 0] 35)):=((Ca _ w).alloc zR _).alloc (by simp) _
 go_enter func13,ntmps13
 go_wp2_with fail
 refine (HR.out _ da).mono ?_;rintro e w1 ⟨⟨kK,DI⟩,hb⟩;obtain ⟨k1,k2,Jb⟩:=qG hb;have l2:=k2.lt;clear hb;obtain ⟨y0,y1,y2,y3,y4,y5,y6,y7,y8,y9,Xd,b,rfl,hL⟩:=kK;cases b
 ·have HE:=zH (show vL ⟨p,pub,vars,rows.length,bl,bw,qs⟩ (vl (.tuple #[vf #[vd vn y0,vd vq y1,vd vq y2,vd vq y3,vd vq y4,vd vq y5,vd vq y6,vd vq y7,vd vq y8,vd vq y9,vd vq Xd], .bool false, .bool false])) from ⟨_,_,_,_,_,_,_,_,_,_,_,_,_,rfl,fun h=>by cases h⟩)
  clear hL DI;obtain ⟨c2,f2⟩:=k2.cells';go_wp2_with fail
  obtain ⟨wf,Sb,LI,Yx⟩:=qD k2 Jb y0 y1 y2 y3 y4 y5 y6 y7 y8 y9 Xd;rw [Sb];clear Sb;have kW:=LI.alloc (.cells #[vd vn y0,vd vq y1,vd vq y2,vd vq y3,vd vq y4,vd vq y5,vd vq y6,vd vq y7,vd vq y8,vd vq y9,vd vq Xd] 35);have hW:=Yx.alloc Yx.size (.cells #[vd vn y0,vd vq y1,vd vq y2,vd vq y3,vd vq y4,vd vq y5,vd vq y6,vd vq y7,vd vq y8,vd vq y9,vd vq Xd] 35);have Lo:=kW.cell;exact Tc (v:=.tuple #[vf #[vd vn y0,vd vq y1,vd vq y2,vd vq y3,vd vq y4,vd vq y5,vd vq y6,vd vq y7,vd vq y8,vd vq y9,vd vq Xd], .bool false, .bool false]) (by simp [results,results13,go_sem,Lo]) rfl ⟨⟨HE.out,fun v s h=>by simp at h⟩,hW⟩
 ·obtain ⟨L,Xa,hLp,Vx⟩:=hL rfl
  obtain ⟨rfl,rfl,rfl,rfl,rfl,rfl,rfl,rfl,rfl,rfl,rfl⟩:=DP Vx;have HT:=zH (DI _ rfl);have HO:=zH Xa;have HLp:=zH hLp;have na:=Xa.a;have nb:=Xa.b;clear hL DI Xa hLp Vx;obtain ⟨c1,f1⟩:=k1.cells';obtain ⟨c2,f2⟩:=k2.cells';by_cases z1:64<L.n
  ·have HE:=zH (show vL ⟨p,pub,vars,rows.length,bl,bw,qs⟩ (vl (.tuple #[vf #[vd vn L.p,vd vq L.block,vd vq L.queries,vd vq L.k,vd vq L.n,vd vq L.secret,vd vq L.rows,vd vq L.a,vd vq L.b,vd vq L.b,vd vq L.b], .bool false, .bool false])) from ⟨_,_,_,_,_,_,_,_,_,_,_,_,_,rfl,fun h=>by cases h⟩)
   have d1:decide ((64:Int)<L.n)=true:=tb (by omega)
   have d2:decide (64<L.n)=true:=tb z1;go_wp2_with fail
   obtain ⟨wf,Sb,LI,Yx⟩:=PQ k2 Jb L;rw [Sb];clear Sb;have kW:=LI.alloc (.cells #[vd vn L.p,vd vq L.block,vd vq L.queries,vd vq L.k,vd vq L.n,vd vq L.secret,vd vq L.rows,vd vq L.a,vd vq L.b,vd vq L.b,vd vq L.b] 35);have hW:=Yx.alloc Yx.size (.cells #[vd vn L.p,vd vq L.block,vd vq L.queries,vd vq L.k,vd vq L.n,vd vq L.secret,vd vq L.rows,vd vq L.a,vd vq L.b,vd vq L.b,vd vq L.b] 35);have Lo:=kW.cell;exact Tc (v:=.tuple #[vf #[vd vn L.p,vd vq L.block,vd vq L.queries,vd vq L.k,vd vq L.n,vd vq L.secret,vd vq L.rows,vd vq L.a,vd vq L.b,vd vq L.b,vd vq L.b], .bool false, .bool false]) (by simp [results,results13,go_sem,Lo]) rfl ⟨⟨HE.out,fun v s h=>by simp at h⟩,hW⟩
  ·have d1:decide ((64:Int)<L.n)=false:=db (by omega)
   have d2:decide (64<L.n)=false:=db z1;have Lp:=zH (fun w=>zGI L.p L.block L.queries L.k L.n L.secret L.rows L.a L.b L.b L.b w na nb nb nb)
   revert Lp
   generalize hT:L.a+L.b+L.b+L.b=T;intro Lp;by_cases z2:40<T
   ·have HE:=zH (show vL ⟨p,pub,vars,rows.length,bl,bw,qs⟩ (vl (.tuple #[vf #[vd vn L.p,vd vq L.block,vd vq L.queries,vd vq L.k,vd vq L.n,vd vq L.secret,vd vq L.rows,vd vq L.a,vd vq L.b,vd vq L.b,vd vq L.b], .bool false, .bool false])) from ⟨_,_,_,_,_,_,_,_,_,_,_,_,_,rfl,fun h=>by cases h⟩)
    have d3:decide ((40:Int)<T)=true:=tb (by omega)
    have d4:decide (40<T)=true:=tb z2;have HTT:=zH hT;clear hT;go_wp2_with fail
    refine (Lp.out _).mono ?_;rintro e w3 ⟨rfl,Sa⟩;have zl:=(k2.alloc (.cells #[vd vn L.p,vd vq L.block,vd vq L.queries,vd vq L.k,vd vq L.n,vd vq L.secret,vd vq L.rows,vd vq L.a,vd vq L.b,vd vq L.b,vd vq L.b] 35)).below Sa (by simp;omega)
    have Zj:=(k1.alloc (.cells #[vd vn L.p,vd vq L.block,vd vq L.queries,vd vq L.k,vd vq L.n,vd vq L.secret,vd vq L.rows,vd vq L.a,vd vq L.b,vd vq L.b,vd vq L.b] 35)).below Sa (by simp;omega)
    have iA:=(Blk.new w1 35 #[vd vn L.p,vd vq L.block,vd vq L.queries,vd vq L.k,vd vq L.n,vd vq L.secret,vd vq L.rows,vd vq L.a,vd vq L.b,vd vq L.b,vd vq L.b]).below Sa (by simp)
    have JT:=pa (Jb.alloc Jb.size _) Sa;have l3:w.1.size+1<w3.1.size:=zl.lt;have l4:w.1.size<w3.1.size:=by omega
    have l5:w1.1.size<w3.1.size:=iA.lt;have n1:w1.1.size≠w.1.size+1:=by omega
    clear c1 f1 c2 f2 k1 k2 Jb Sa;obtain ⟨c1,f1⟩:=Zj.cells';obtain ⟨c2,f2⟩:=zl.cells';obtain ⟨c5,f5⟩:=iA.cells';go_wp2;obtain ⟨wf,Sb,kW,hW⟩:=PQ zl JT L;rw [Sb];clear Sb;have Lo:=kW.cell;exact Tc (v:=.tuple #[vf #[vd vn L.p,vd vq L.block,vd vq L.queries,vd vq L.k,vd vq L.n,vd vq L.secret,vd vq L.rows,vd vq L.a,vd vq L.b,vd vq L.b,vd vq L.b], .bool false, .bool false]) (by simp [results,results13,go_sem,Lo]) rfl ⟨⟨HE.out,fun v s h=>by simp at h⟩,hW⟩
   ·have HE:=zH (show ∀ s,vL ⟨p,pub,vars,rows.length,bl,bw,qs⟩ (vl (.tuple #[vf #[vd vn L.p,vd vq L.block,vd vq L.queries,vd vq L.k,vd vq L.n,vd vq L.secret,vd vq L.rows,vd vq L.a,vd vq L.b,vd vq L.b,vd vq L.b], .bool true, .bool s])) from fun s=>⟨_,_,_,_,_,_,_,_,_,_,_,_,_,rfl,fun _=>⟨L,HO.out,HLp.out,by omega,by omega,rfl⟩⟩)
    have d3:decide ((40:Int)<T)=false:=db (by omega)
    have d4:decide (40<T)=false:=db z2;have HTT:=zH hT;clear hT;go_wp2_with fail
    refine (Lp.out _).mono ?_;rintro e w3 ⟨rfl,Sa⟩;have zl:=(k2.alloc (.cells #[vd vn L.p,vd vq L.block,vd vq L.queries,vd vq L.k,vd vq L.n,vd vq L.secret,vd vq L.rows,vd vq L.a,vd vq L.b,vd vq L.b,vd vq L.b] 35)).below Sa (by simp;omega)
    have Zj:=(k1.alloc (.cells #[vd vn L.p,vd vq L.block,vd vq L.queries,vd vq L.k,vd vq L.n,vd vq L.secret,vd vq L.rows,vd vq L.a,vd vq L.b,vd vq L.b,vd vq L.b] 35)).below Sa (by simp;omega)
    have iA:=(Blk.new w1 35 #[vd vn L.p,vd vq L.block,vd vq L.queries,vd vq L.k,vd vq L.n,vd vq L.secret,vd vq L.rows,vd vq L.a,vd vq L.b,vd vq L.b,vd vq L.b]).below Sa (by simp)
    have JT:=pa (Jb.alloc Jb.size _) Sa;have l3:w.1.size+1<w3.1.size:=zl.lt;have l4:w.1.size<w3.1.size:=by omega
    have l5:w1.1.size<w3.1.size:=iA.lt;have n1:w1.1.size≠w.1.size+1:=by omega
    clear c1 f1 c2 f2 k1 k2 Jb Sa;obtain ⟨c1,f1⟩:=Zj.cells';obtain ⟨c2,f2⟩:=zl.cells';obtain ⟨c5,f5⟩:=iA.cells';go_wp2;refine zd (Km (w.1.size+1)) [7,8] [0,1,2,3,4,5,6,7,8,9,10] (by kernel_rfl) (by kernel_rfl) ?_
    refine Se (Re (w.1.size+1)) ?_;intro Wc Ja ia;refine oo ?_;have hwc:vA w.1.size w Wc:=by rw [Ja.out];exact JT.drew
    have kwc:=zl.drew;rw [<- Ja.out] at kwc;refine Bc (Re (w.1.size+1)) rfl rfl rfl (fun _=>by go_simp <;> rfl) ((HS.out HT.out.1 HT.out.2.1 _ hwc).mono ?_)
    rintro e w4 ⟨rfl,Ab⟩;refine ⟨_,rfl,zw Ab,?_⟩;replace ia:=(Re (w.1.size+1)).trans _ _ _ ia (zw Ab);refine zPU ?_;replace kwc:=ja kwc Ab;replace hwc:=pa hwc Ab;clear c1 f1 c2 f2 c5 f5 Zj zl iA;obtain ⟨c2,f2⟩:=kwc.cells';refine ef (Re (w.1.size+1)) rfl rfl rfl ?_;go_simp;refine ⟨zHs _ (vd vn L.p) (vd vq L.block) (vd vq L.queries) (vd vq L.k) (vd vq L.n) (vd vq L.secret) (vd vq L.rows) (vd vq L.a) (vd vq L.b) (vd vq L.b) (vd vq L.b),?_⟩;obtain ⟨wf,Sb,kW,hW⟩:=PQ kwc hwc L;rw [Sb];clear Sb ia Ja c2 f2;have ia:=(Re (w.1.size+1)).refl wf;refine oo ?_;refine Jc ?_;go_wp2;have Lo:=kW.cell;exact Tc (v:=.tuple #[vf #[vd vn L.p,vd vq L.block,vd vq L.queries,vd vq L.k,vd vq L.n,vd vq L.secret,vd vq L.rows,vd vq L.a,vd vq L.b,vd vq L.b,vd vq L.b], .bool true, .bool (Gw p rows ws)]) (by simp [results,results13,go_sem,Lo]) rfl ⟨⟨HE.out _,fun v s h=>by
     simp at h
     exact ⟨HT.out.1,HT.out.2.1,HT.out.2.2.1,by have:=HT.out.2.2.2;omega,h.2⟩⟩,hW⟩
def Tk (l:List Nat) (n:Int) (p:Nat):Bool:=l.all (fun x=>decide (x<p))&&((l.length:Int) == n)
def mw (ls:List (List Nat)) (m n:Int) (p:Nat):Bool:=ls.all (fun l=>Tk l n p)&&((ls.length:Int) == m)
theorem MX {l:List Nat} {p j:Nat} (hj:j<l.length) (h:p <= l.getD j 0):l.all (fun x=>decide (x<p))=false:=by
 refine jz.2 ⟨l[j],zf hj,?_⟩;simp [Cb,Xb hj] at h
 simp
 omega
theorem OX {l:List Nat} {p:Nat} (h:∀ k<l.length,l.getD k 0<p):l.all (fun x=>decide (x<p))=true:=by
 refine fe.2 fun x hx=>?_
 obtain ⟨k,hk,rfl⟩:=Hm hx;have:=h k hk;simp [Cb,Xb hk] at this
 simpa using this
theorem iZ {l:List Nat} {p j:Nat} (h:∀ k<j,l.getD k 0<p) (hj:¬p <= l.getD j 0):∀ k<j+1,l.getD k 0<p:=fun k hk=>by
 rcases Sg k j with h1 | h1
 ·exact h k h1
 ·have e:k=j:=by omega
  rw [e];omega
theorem Ny {w:vw} {A:Option vy} {n c:Nat} {l:List Nat} (h:RWd w [ve A n c] l):n=l.length /\ n <= c /\ c <= maxLen /\ (∀ x∈l,x<18446744073709551616) /\ Rd w 1 A n (Oa l):=by
 obtain ⟨A',n',c',he,h1,h2,h3,h4⟩:=h;simp at he
 obtain ⟨rfl,rfl,rfl⟩:=he;have:=h3.len1;rw [tt] at this;exact ⟨this.symm,h1,h2,h4,h3⟩
theorem zAL {w:vw} {A:Option vy} {l:List Nat} (h:Rd w 1 A l.length (Oa l)) {j:Nat} (hj:j<l.length):∃ b q,A=vE ⟨b,q,vD⟩ /\ b<w.1.size /\ w.cell? ⟨b,q+j,vD⟩=vE (vd vn ((l.getD j 0:Nat):Int)):=by
 obtain ⟨b,q,e,hb,hc⟩:=Jy h (by omega)
 refine ⟨b,q,e,hb,?_⟩;rw [hc j hj,yB hj,Cb,Xb hj]
 rfl
theorem vK {n c:Nat} (h1:n <= c) (h2:c <= maxLen):(n:Int) <= 9223372036854775807:=by
 simp [maxLen] at h2
 omega
theorem lS (A:Option vy) (n c:Nat) (l:List Nat) (p:Nat) (w:vw) (hl:RWd w [ve A n c] l) :
  vB prog 56 #[ve A n c,vd vn p] w fun e w'=>e=vl (.bool (l.all (fun x=>decide (x<p)))) /\ w=w':=by
 obtain ⟨rfl,h1,h2,-,Ra⟩:=Ny hl;have gm:=vK h1 h2;clear hl h1 h2;go_enter func56,ntmps56
 go_wp2_with fail
 go_loop [9] (fun i=>∃ j:Nat,j <= l.length /\ i=vd vq j /\ Hid (∀ k<j,l.getD k 0<p)) (fun i=>l.length-(intOf i).toNat)
 case atStart=>exact ⟨0,Mb _,rfl,fun k hk=>by omega⟩
 case round =>
  obtain ⟨j,hj,rfl,HB⟩:=hrel;by_cases ta:j<l.length
  ·obtain ⟨b,q,rfl,Gb,hc⟩:=zAL Ra ta
   have HL:=zH ta;have g1:(0:Int)<=j:=by omega
   have g2:(j:Int)<l.length:=by omega
   revert hc
   generalize hy:l.getD j 0=y;intro hc;have HY:=zH hy;clear hy Ra;by_cases z:p <= y
   ·have HZ:=zH (MX (p:=p) ta (by rw [HY.out];exact z))
    have d1:decide ((p:Int)<=y)=true:=tb (by omega)
    go_wp2;go_ret
    exact ⟨by rw [HZ.out];rfl,rfl⟩
   ·have HZ:=zH (iZ HB.out (by rw [HY.out];exact z))
    have d1:decide ((p:Int)<=y)=false:=db (by omega)
    go_wp2
    go_round
    case rel=>exact ⟨j+1,by omega,by go_num,HZ.out⟩
    case measure=>simp [intOf];omega
  ·have e:j=l.length:=by omega
   have HA:=zH (OX (l:=l) (p:=p) (fun k hk=>HB.out k (by omega)))
   clear Ra;go_wp2;go_ret
   exact ⟨by rw [HA.out];rfl,rfl⟩
theorem zBz {j:Nat} (hj:j<64):Lib.bitLen (2^j)=j+1:=by
 obtain ⟨h1,h2,h3⟩:=Lib.bitLenAux_bounds 64 (2^j) (Nat.pow_lt_pow_right (by omega) hj) (Nat.ne_of_gt (Nat.pow_pos (by omega)))
 have e:Lib.bitLen (2^j)=Lib.bitLenAux 64 (2^j):=rfl;rw [e];generalize Lib.bitLenAux 64 (2^j)=k at *;have h4:=(Nat.pow_lt_pow_iff_right (a:=2) (by omega)).1 h3
 have h5:=(Nat.pow_le_pow_iff_right (a:=2) (by omega)).1 h2
 omega
theorem JK {j n:Nat} (h:n=2^j) (hn:n <= 1024):j <= 10:=by
 rcases Sg 10 j with h1 | h1
 ·have:2^11 <= 2^j:=Io (by omega) h1
  omega
 ·exact h1
theorem Y3 (L:Ma) (j:Nat) (w:vw) (hn:L.n=2^j) (hj:j <= 10) :
  vB prog 191 #[vf (jb L)] w fun e w'=>e=vl (vd vq j) /\ vA w.1.size w w':=by
 have hN:L.n <= 1024:=by rw [hn];exact Io (n:=2) (by omega) hj
 have HL:=zH (fun w=>zD4 (L.n:Int) w (by omega) (by omega))
 rw [Bk,hn,zBz (by omega),<- hn] at HL
 have e1:vn.wrap (L.n:Int)=L.n:=Wk _ (by omega)
 have i1:(j:Int) <= 10:=by omega
 have e2:((j+1:Nat):Int)-1=(j:Int):=by omega
 unfold jb;clear hn;go_enter func191,ntmps191
 go_wp2_with fail
 refine (HL.out _).mono ?_;rintro e w1 ⟨rfl,rfl⟩;go_wp2;go_ret
 exact ⟨by simp,(Ca _ _).alloc zR _⟩
def tn (L:Ma) (j:Nat):Nat:=8*(1+(L.k+(L.k+L.block-1)+(2*L.k-1))+L.queries*(L.a+L.b+L.b+L.b+3+1+j))
theorem zHt (L:Ma) (j:Nat) (w:vw) (hL:Lb L) (hn:L.n=2^j) (hj:j <= 10) :
  vB prog 95 #[vf (jb L)] w fun e w'=>e=vl (vd vq (tn L j:Nat)) /\ vA w.1.size w w':=by
 have HL:=zH (fun w=>Y3 L j w hn hj)
 have HT:=zH (fun w=>UF L.p L.block L.queries L.k L.n L.secret L.rows L.a L.b L.b L.b w hL.a hL.b hL.b hL.b)
 have h1:=hL.b1;have h2:=hL.b2;have h3:=hL.q1;have h4:=hL.q2;have h5:=hL.k;have h6:=hL.a;have h7:=hL.b;have i1:(L.k:Int) <= 320:=by omega
 have i2:(1:Int)<=L.k:=by omega
 have i3:(L.block:Int) <= 256:=by omega
 have i4:(j:Int) <= 10:=by omega
 have hS:tn L j=8*(1+(L.k+(L.k+L.block-1)+(2*L.k-1))+L.queries*(L.a+L.b+L.b+L.b+3+1+j)):=rfl;have hT:L.a+L.b+L.b+L.b <= 400000:=by omega
 obtain ⟨T,ME⟩:=zEX (L.a+L.b+L.b+L.b);rw [<- ME] at HT hS hT;obtain ⟨T2,hT2⟩:=zEX (T+3+1+j);rw [<- hT2] at hS;have hM:L.queries*T2 <= 64*T2:=dE _ h4;obtain ⟨M,IE⟩:=zEX (L.queries*T2);rw [<- IE] at hS hM;obtain ⟨Z,hZ⟩:=zEX (tn L j);rw [<- hZ] at hS;rw [<- hZ];obtain ⟨X,hX⟩:=zEX (L.k+(L.k+L.block-1)+(2*L.k-1));have e1:(L.k:Int)+((L.k:Int)+L.block-1)+(2*(L.k:Int)-1)=(X:Int):=by omega
 have e2:(T:Int)+3+1+(j:Int)=T2:=by omega
 have e3:(L.queries:Int)*T2=(M:Int):=by rw [IE];exact (Uf _ _).symm
 have e4:(8:Int)*(1+(X:Int)+M)=(Z:Int):=by omega
 have e5:vq.wrap ((T:Int)+3)=(T:Int)+3:=Vk _ (by omega) (by omega)
 have e6:vq.wrap ((T:Int)+3+1)=(T:Int)+3+1:=Vk _ (by omega) (by omega)
 have e7:=ye T2;have i5:(T2:Int) <= 400014:=by omega
 have i6:(M:Int) <= 25600896:=by omega
 have i7:(X:Int) <= 2000:=by omega
 have i8:(T:Int) <= 400000:=by omega
 clear h1 h2 h3 h4 h5 h6 h7 hS hT ME hT2 hM IE hZ hX hL hn hj;unfold jb at HL |-;have da:vA w.1.size w (w.alloc (.cells #[vd vn L.p,vd vq L.block,vd vq L.queries,vd vq L.k,vd vq L.n,vd vq L.secret,vd vq L.rows,vd vq L.a,vd vq L.b,vd vq L.b,vd vq L.b] 101)):=(Ca _ _).alloc zR _;have hB:=Blk.new w 101 #[vd vn L.p,vd vq L.block,vd vq L.queries,vd vq L.k,vd vq L.n,vd vq L.secret,vd vq L.rows,vd vq L.a,vd vq L.b,vd vq L.b,vd vq L.b];go_enter func95,ntmps95
 go_wp2_with fail
 revert da hB
 generalize w.alloc _=w0;intro da hB;obtain ⟨c0,f0⟩:=hB.cells';have l0:=hB.lt;refine zd (Ub) [1,5] [0,4,1,2,3,5,6,7] (by kernel_rfl) (by kernel_rfl) ?_
 refine Kw (ra) ?_;intro Wc ia;refine Qb ?_;refine Bc (ra) rfl rfl rfl (fun _=>by go_simp <;> rfl) ((HT.out _).mono ?_)
 rintro e w1 ⟨rfl,Ia⟩;refine ⟨_,rfl,Ia,?_⟩;replace ia:=(ra).trans _ _ _ ia (Ia);refine zPU ?_;refine Qb ?_;refine Bc (ra) rfl rfl rfl (fun _=>by go_simp <;> rfl) ((HL.out _).mono ?_)
 rintro e w2 ⟨rfl,Ba⟩;refine ⟨_,rfl,Ba,?_⟩;replace ia:=(ra).trans _ _ _ ia (Ba);refine zPU ?_;refine Qb ?_;refine Jc ?_;have lh:=hB.drew.below ia hB.lt;clear c0 f0;obtain ⟨c0,f0⟩:=lh.cells';go_wp2;go_ret
 exact ⟨rfl,pa da.drew ia⟩
structure se where
 root:Nat
 code:List Nat
 linear:List Nat
 quad:List Nat
 cols:List (List Nat)
 salts:List Nat
 paths:List (List Nat)
structure PS where
 A1:Option vy
 n1:Nat
 c1:Nat
 A2:Option vy
 n2:Nat
 c2:Nat
 A3:Option vy
 n3:Nat
 c3:Nat
 A4:Option vy
 n4:Nat
 c4:Nat
 A5:Option vy
 n5:Nat
 c5:Nat
 A6:Option vy
 n6:Nat
 c6:Nat
def Od (P:se) (S:PS):Array vx:=#[vd vn P.root,ve S.A1 S.n1 S.c1,ve S.A2 S.n2 S.c2,ve S.A3 S.n3 S.c3,ve S.A4 S.n4 S.c4,ve S.A5 S.n5 S.c5,ve S.A6 S.n6 S.c6]
structure gh (w:vw) (P:se) (S:PS):Prop where
 root:P.root<18446744073709551616
 code:RWd w [ve S.A1 S.n1 S.c1] P.code
 linear:RWd w [ve S.A2 S.n2 S.c2] P.linear
 quad:RWd w [ve S.A3 S.n3 S.c3] P.quad
 cols:RSl 1 RWd w [ve S.A4 S.n4 S.c4] P.cols
 salts:RWd w [ve S.A5 S.n5 S.c5] P.salts
 paths:RSl 1 RWd w [ve S.A6 S.n6 S.c6] P.paths
theorem yV {w w':vw} {P:se} {S:PS} (h:gh w P S) (hb:vA w.1.size w w'):gh w' P S :=
 ⟨h.root,Bb hb h.code,Bb hb h.linear,Bb hb h.quad,Dg jA _ _ _ _ hb h.cols,Bb hb h.salts,Dg jA _ _ _ _ hb h.paths⟩
theorem UI {w:vw} {A:Option vy} {n c:Nat} {ls:List (List Nat)} (h:RSl 1 RWd w [ve A n c] ls):n=ls.length /\ n <= c /\ c <= maxLen /\ RdL w 1 RWd A ls:=by
 obtain ⟨A',n',c',he,hlen,Ld,Ef,Ra⟩:=h;simp at he
 obtain ⟨rfl,rfl,rfl⟩:=he;exact ⟨hlen.symm,Ld,Ef,Ra⟩
theorem Q4 {w:vw} {A:Option vy} {ls:List (List Nat)} (h:RdL w 1 RWd A ls) {j:Nat} (hj:j<ls.length):∃ b q A1 n1 c1,A=vE ⟨b,q,vD⟩ /\ b<w.1.size /\ w.cell? ⟨b,q+j,vD⟩=vE (ve A1 n1 c1) /\ RWd w [ve A1 n1 c1] ls[j]:=by
 obtain ⟨b,q,rfl⟩:=h.base (by omega) (by omega)
 obtain ⟨cs,dm,hc,hr⟩:=h.get hj;have dt:=hr;obtain ⟨A1,n1,c1,rfl,-⟩:=hr;have c0:=hc 0 (by omega)
 simp at c0
 exact ⟨b,q,A1,n1,c1,rfl,Jf _ _ c0,c0,dt⟩
def Me:Nat:=18446744069414584321
def ei (L:Ma) (j:Nat) (P:se):Bool :=
 !(decide (Me <= P.root))&&(Tk P.code (L.k:Int) L.p&&(Tk P.linear ((L.k+L.block-1:Nat):Int) L.p&&(Tk P.quad ((2*L.k-1:Nat):Int) L.p &&
  (mw P.cols (L.queries:Int) ((L.a+L.b+L.b+L.b+3:Nat):Int) L.p&&(Tk P.salts (L.queries:Int) Me&&mw P.paths (L.queries:Int) (j:Int) Me)))))
theorem zDG:(prog.info? 199).map (fun i=>(i.zero,i.size,i.bytes))=vE (vE (vf #[.pointer vD,vd vq 0,vd vn 0]),3,24):=by kernel_rfl
theorem IS:zq prog 194 199 3 24 (vf #[.pointer vD,vd vq 0,vd vn 0]):=by
 obtain ⟨i0,hi,Kh,kd,Qe⟩:=info_parts zDG;exact ⟨underlying194,⟨i0,hi,Kh,kd,Qe⟩,rfl,by omega⟩
structure jl where
 ptr:vy
 size:Nat
 lim:Nat
def pn (l:List jl):List vx:=l.flatMap fun x=>[.pointer (vE x.ptr),vd vq x.size,vd vn x.lim]
theorem sV (l m:List jl):pn (l++m)=pn l++pn m:=by simp [pn]
theorem rQ (l:List jl):(pn l).length=l.length*3:=by
 induction l with
 | nil=>rfl
 | cons x l ih=>simp [pn] at ih |-;omega
def aj (L:Ma) (g:Nat):List jl:=[⟨⟨g,1,vD⟩,L.k,L.p⟩,⟨⟨g,2,vD⟩,L.k+L.block-1,L.p⟩,⟨⟨g,3,vD⟩,2*L.k-1,L.p⟩]
def Rf (b q n size lim:Nat):List jl:=(List.range n).map fun i=>⟨⟨b,q+i,vD⟩,size,lim⟩
theorem K7 (b q n size lim:Nat):Rf b q (n+1) size lim=Rf b q n size lim++[⟨⟨b,q+n,vD⟩,size,lim⟩]:=by simp [Rf,List.range_succ]
def Ei (L:Ma) (j g b4 q4 b6 q6:Nat):List jl :=
 aj L g++Rf b4 q4 L.queries (L.a+L.b+L.b+L.b+3) L.p++[⟨⟨g,5,vD⟩,L.queries,Me⟩]++Rf b6 q6 L.queries j Me
theorem zFj (w:vw) (base:Nat) (x1 x2 x3 x4 x5 x6 x7 x8 x9:vx) (hb:base <= w.1.size) :
  (w.alloc (.cells #[x1,x2,x3,x4,x5,x6,x7,x8,x9] 199)).ownsRow base 199 3 (ve (vE ⟨w.1.size,0,vD⟩) 3 3) 3 [x1,x2,x3,x4,x5,x6,x7,x8,x9] :=
 ⟨rfl, .inr ⟨w.1.size,3,_,rfl,hb,heap_alloc_new w _,by omega,by simp [maxLen],rfl,rfl⟩⟩
theorem yL {B:Nat} {w0 w1 w2:vw} (h1:vA B w0 w1) (h2:vA w1.1.size w1 w2) (hB:B <= w1.1.size:=by omega):vA B w0 w2:=h1.trans (h2.mono hB)
theorem mQ {w W:vw} {base:Nat} {e:vz} {size:Nat} {v:vx} {n:Nat} {xs:List vx} (hW:Hid (W=w.drew)) (h:w.ownsRow base e size v n xs):W.ownsRow base e size v n xs:=by rw [hW.out];exact h
theorem mS {B:Nat} {w0 w W:vw} (hW:Hid (W=w.drew)) (h:vA B w0 w):vA B w0 W:=by rw [hW.out];exact h.drew
theorem fJ {w:vw} {base:Nat} {e:vz} {size:Nat} {v:vx} {n:Nat} {xs:List vx} (h:w.ownsRow base e size v n xs) (hn:0<n):∃ r c,v=ve (vE ⟨r,0,vD⟩) n c /\ base <= r /\ r<w.1.size:=by
 rcases h.2 with ⟨-,h0⟩ | ⟨r,c,cur,hv,hb,hh,-⟩
 ·omega
 ·exact ⟨r,c,hv,hb,(Nt.1 hh).1⟩
theorem NV (w:vw) (x y z:vx) (t:vz):Rd (w.alloc (.cells #[x,y,z] t)) 3 (vE ⟨w.1.size,0,vD⟩) 1 [x,y,z]:=by
 refine ⟨rfl,fun _=>⟨_,rfl,fun j u hj=>?_⟩⟩
 match j,hj with
 | 0,hj=>simp at hj;subst hj;simp [Addr.add]
 | 1,hj=>simp at hj;subst hj;simp [Addr.add]
 | 2,hj=>simp at hj;subst hj;simp [Addr.add]
theorem eV (a:vy) (n m:Int):∀ u∈[Value.pointer (vE a),vd vq n,vd vn m],u.oneCell'=true:=by
 intro u hu;simp at hu
 rcases hu with rfl | rfl | rfl <;> rfl
theorem zFQ (L:Ma) (P:se) (S:PS) (g:Nat) (w:vw) (kg:Blk w g 46 (Od P S)) (h:¬(S.n4=L.queries /\ S.n6=L.queries)) :
  vB prog 106 #[vf (jb L), .pointer (vE ⟨g,0,vD⟩)] w fun e w'=>e=vl (ve vD 0 0) /\ vA w.1.size w w':=by
 unfold jb;unfold Od at kg;have da:vA w.1.size w (w.alloc (.cells #[vd vn L.p,vd vq L.block,vd vq L.queries,vd vq L.k,vd vq L.n,vd vq L.secret,vd vq L.rows,vd vq L.a,vd vq L.b,vd vq L.b,vd vq L.b] 101)):=(Ca _ _).alloc zR _;have kl:=Blk.new w 101 #[vd vn L.p,vd vq L.block,vd vq L.queries,vd vq L.k,vd vq L.n,vd vq L.secret,vd vq L.rows,vd vq L.a,vd vq L.b,vd vq L.b,vd vq L.b];have Zi:=ja kg da;by_cases z:S.n4=L.queries
 ·have d1:((S.n4:Int)!=L.queries)=false:=by rw [iu];omega
  have d2:((S.n6:Int)!=L.queries)=true:=by rw [Bf];omega
  clear z h;go_enter func106,ntmps106
  go_wp2_with fail
  revert da kl Zi
  generalize w.alloc _=w0;intro da kl Zi;have c0:=kl.cell;have cg:=Zi.cell;have l0:=kl.lt;have lg:=Zi.lt;refine zd (Ub) [] [0,1,2,3,4,5,6,7,8,9,10,11,12,13,14,15,16,17] (by kernel_rfl) (by kernel_rfl) ?_
  refine Kw (ra) ?_;intro Wc ia;refine Qb ?_;refine Jc ?_;go_wp2;go_ret
  exact ⟨rfl,pa da.drew ia⟩
 ·have d1:((S.n4:Int)!=L.queries)=true:=by rw [Bf];omega
  clear z h;go_enter func106,ntmps106
  go_wp2_with fail
  revert da kl Zi
  generalize w.alloc _=w0;intro da kl Zi;have c0:=kl.cell;have cg:=Zi.cell;have l0:=kl.lt;have lg:=Zi.lt;refine zd (Ub) [] [0,1,2,3,4,5,6,7,8,9,10,11,12,13,14,15,16,17] (by kernel_rfl) (by kernel_rfl) ?_
  refine Kw (ra) ?_;intro Wc ia;refine Qb ?_;refine Jc ?_;go_wp2;go_ret
  exact ⟨rfl,pa da.drew ia⟩
theorem oV (L:Ma) (j:Nat) (P:se) (S:PS) (g b4 q4 b6 q6:Nat) (w:vw) (hL:Lb L) (hn:L.n=2^j) (hj:j <= 10) (kg:Blk w g 46 (Od P S)) (h4:S.n4=L.queries) (h6:S.n6=L.queries)
  (hg:g<w.1.size) (tu:S.A4=vE ⟨b4,q4,vD⟩) (uu:S.A6=vE ⟨b6,q6,vD⟩) (Rs:S.n4 <= S.c4 /\ S.c4 <= maxLen) (SE:S.n6 <= S.c6 /\ S.c6 <= maxLen) :
  vB prog 106 #[vf (jb L), .pointer (vE ⟨g,0,vD⟩)] w fun e w'=>∃ v n,e=vl v /\ w'.ownsRow w.1.size 199 3 v n (pn (Ei L j g b4 q4 b6 q6)) /\ vA w.1.size w w':=by
 have HLv:=zH (fun w=>Y3 L j w hn hj)
 have HT:=zH (fun w=>UF L.p L.block L.queries L.k L.n L.secret L.rows L.a L.b L.b L.b w hL.a hL.b hL.b hL.b)
 have b1:=hL.b1;have b2:=hL.b2;have b3:=hL.q1;have b5:=hL.q2;have b6':=hL.k;have hT:L.a+L.b+L.b+L.b <= 400000:=by have:=hL.a;have:=hL.b;omega
 have HP:Hid (Ei L j g b4 q4 b6 q6=aj L g++Rf b4 q4 L.queries (L.a+L.b+L.b+L.b+3) L.p++[⟨⟨g,5,vD⟩,L.queries,Me⟩]++Rf b6 q6 L.queries j Me):=rfl;rw [HP.out];clear HP;revert HT hT
 generalize L.a+L.b+L.b+L.b=T;intro HT hT;have e3:vq.wrap ((T:Int)+3)=((T+3:Nat):Int):=by rw [Vk _ (by omega) (by omega)];omega
 have e4:(T:Int)+3=((T+3:Nat):Int):=by omega
 have e5:vq.wrap ((T+3:Nat):Int)=((T+3:Nat):Int):=Vk _ (by omega) (by omega)
 have eX1:vq.wrap ((L.k:Int)+L.block)=(L.k:Int)+L.block:=Vk _ (by omega) (by omega)
 have eX2:vq.wrap ((L.k:Int)+L.block-1)=((L.k+L.block-1:Nat):Int):=by rw [Vk _ (by omega) (by omega)];omega
 have eX3:(L.k:Int)+L.block-1=((L.k+L.block-1:Nat):Int):=by omega
 have eX4:vq.wrap ((L.k+L.block-1:Nat):Int)=((L.k+L.block-1:Nat):Int):=Vk _ (by omega) (by omega)
 have eY1:vq.wrap (2*(L.k:Int))=2*(L.k:Int):=Vk _ (by omega) (by omega)
 have eY2:vq.wrap (2*(L.k:Int)-1)=((2*L.k-1:Nat):Int):=by rw [Vk _ (by omega) (by omega)];omega
 have eY3:2*(L.k:Int)-1=((2*L.k-1:Nat):Int):=by omega
 have eY4:vq.wrap ((2*L.k-1:Nat):Int)=((2*L.k-1:Nat):Int):=Vk _ (by omega) (by omega)
 have HP3:Hid (aj L g=[⟨⟨g,1,vD⟩,L.k,L.p⟩,⟨⟨g,2,vD⟩,L.k+L.block-1,L.p⟩,⟨⟨g,3,vD⟩,2*L.k-1,L.p⟩]):=rfl;revert e3 e4 e5 eX2 eX3 eX4 eY2 eY3 eY4 HP3
 generalize T+3=T3;generalize L.k+L.block-1=x;generalize 2*L.k-1=y;intro e3 e4 e5 eX2 eX3 eX4 eY2 eY3 eY4 HP3;have d1:((S.n4:Int)!=L.queries)=false:=by rw [iu];omega
 have d2:((S.n6:Int)!=L.queries)=false:=by rw [iu];omega
 have H4:=zH h4;have H6:=zH h6;have HQ:=zH b5;clear b1 b2 b3 b5 b6' hL hn hj hT h4 h6;unfold jb at HLv |-;unfold Od at kg;rw [tu,uu] at kg;have da:vA w.1.size w (w.alloc (.cells #[vd vn L.p,vd vq L.block,vd vq L.queries,vd vq L.k,vd vq L.n,vd vq L.secret,vd vq L.rows,vd vq L.a,vd vq L.b,vd vq L.b,vd vq L.b] 101)):=(Ca _ _).alloc zR _;have kl:=Blk.new w 101 #[vd vn L.p,vd vq L.block,vd vq L.queries,vd vq L.k,vd vq L.n,vd vq L.secret,vd vq L.rows,vd vq L.a,vd vq L.b,vd vq L.b,vd vq L.b];have Zi:=ja kg da;clear kg tu uu;go_enter func106,ntmps106
 go_wp2_with fail
 revert da kl Zi
 generalize w.alloc _=w0;intro da kl Zi;have c0:=kl.cell;have cg:=Zi.cell;have l0:=kl.lt;have lg:=Zi.lt;refine zd (Ub) [] [0,1,2,3,4,5,6,7,8,9,10,11,12,13,14,15,16,17] (by kernel_rfl) (by kernel_rfl) ?_
 refine Kw (ra) ?_;intro Wc ia;refine Qb ?_;refine Jc ?_;replace kl:=kl.drew.below ia kl.lt;replace Zi:=Zi.drew.below ia Zi.lt;replace da:=pa da.drew ia;clear c0 cg l0 lg ia;have c0:=kl.cell;have cg:=Zi.cell;have l0:=kl.lt;have lg:=Zi.lt;go_wp2_with fail
 refine zd (Ub) [30] [0,1,2,3,4,5,6,7,8,9,10,11,12,13,14,15,16,17,18,19,20,21,22,23,24,25,26,27,28,29,30,31] (by kernel_rfl) (by kernel_rfl) ?_
 refine Kw (ra) ?_;intro Wc ia;refine Qb ?_;refine ef (ra) rfl rfl rfl ?_;go_simp;refine ⟨(Ca _ _).alloc zR _,?_⟩;have im:w.1.size+1 <= Wc.1.size:=by have:=Below.size ia;simp at this;omega
 have Aa:=zFj Wc (w.1.size+1) (.pointer (vE ⟨g,1,vD⟩)) (vd vq L.k) (vd vn L.p) (.pointer (vE ⟨g,2,vD⟩)) (vd vq x) (vd vn L.p) (.pointer (vE ⟨g,3,vD⟩)) (vd vq y) (vd vn L.p) im;replace ia:=ra.trans _ _ _ ia ((Ca Wc.1.size Wc).alloc zR (.cells #[.pointer (vE ⟨g,1,vD⟩),vd vq L.k,vd vn L.p, .pointer (vE ⟨g,2,vD⟩),vd vq x,vd vn L.p, .pointer (vE ⟨g,3,vD⟩),vd vq y,vd vn L.p] 199));clear im;revert Aa ia
 refine zPU ?_
 generalize Wc.alloc _=w2;generalize Wc.1.size=gr;intro Aa ia;refine Qb ?_;refine Jc ?_;replace kl:=kl.drew.below ia kl.lt;replace Zi:=Zi.drew.below ia Zi.lt;replace da:=pa da.drew ia;clear c0 cg l0 lg ia;have c0:=kl.cell;have cg:=Zi.cell;have hlw:w.1.size+1 <= w2.1.size:=kl.lt;have jy:g<w.1.size:=hg;have nx:Hid ([.pointer (vE ⟨g,1,vD⟩),vd vq L.k,vd vn L.p, .pointer (vE ⟨g,2,vD⟩),vd vq x,vd vn L.p, .pointer (vE ⟨g,3,vD⟩),vd vq y,vd vn L.p]=pn (aj L g)):=by rw [HP3.out];rfl
 rw [nx.out] at Aa;have m4:=vK Rs.1 Rs.2;have m6:=vK SE.1 SE.2;clear Rs SE nx HP3;go_wp2_with fail
 go_loopw [5,62] (fun v i wr=>∃ k:Nat,k <= S.n4 /\ i=vd vq k /\ wr.ownsRow (w.1.size+1) 199 3 v (3+k) (pn (aj L g++Rf b4 q4 k T3 L.p)) /\ vA (w.1.size+1) w2 wr) (fun _ i _=>S.n4-(intOf i).toNat)
 case atStart=>exact ⟨0,Mb _,rfl,by simpa [Rf] using Aa,Ca _ _⟩
 case round =>
  clear Aa c0 cg;obtain ⟨k,hk,rfl,Aa,Zd⟩:=hrel;obtain ⟨r,cr,rfl,Zg,Wm⟩:=fJ Aa (by omega)
  have Al:=kl.below Zd (by omega)
  have Ye:=Zi.below Zd (by omega)
  have c0:=Al.cell;have cg:=Ye.cell;have l0:=Al.lt;have lg:=Ye.lt;have n1:w.1.size≠r:=by omega
  have n2:g≠r:=by omega
  by_cases ta:k<S.n4
  ·have g1:(0:Int)<=k:=by omega
   have g2:(k:Int)<S.n4:=by omega
   go_wp2_with fail
   refine zd (Km r) [8,13,14] [0,1,2,3,4,5,6,7,10,11,8,9,12,13,14,15] (by kernel_rfl) (by kernel_rfl) ?_
   refine Se (Re r) ?_;intro Wc Ja ia;replace Aa:=mQ Ja Aa;replace Zd:=mS Ja Zd;clear Ja;refine oo ?_;refine Bc (Re r) rfl rfl rfl (fun _=>by go_simp <;> rfl) ((HT.out _).mono ?_)
   rintro e w4 ⟨rfl,Ab⟩;refine ⟨_,rfl,zw Ab,?_⟩;replace ia:=(Re r).trans _ _ _ ia (zw Ab);refine zPU ?_;replace Aa:=Mc Aa Ab zR;have oM:w.1.size+1 <= Wc.1.size:=by have:=Zd.size;omega
   replace Zd:=yL Zd Ab oM;clear Ab oM;refine oo ?_;refine ef (Re r) rfl rfl rfl ?_;go_simp;refine ⟨zw ((Ca _ _).alloc zR _),?_⟩;have ma:=(Ca w4.1.size w4).alloc zR (.cells #[.pointer (vE ⟨b4,q4+k,vD⟩),vd vq T3,vd vn L.p] 199);have Ra:=NV w4 (.pointer (vE ⟨b4,q4+k,vD⟩)) (vd vq T3) (vd vn L.p) 199;replace ia:=(Re r).trans _ _ _ ia (zw ma);replace Aa:=Mc Aa ma zR;replace Zd:=yL Zd ma (by have:=Zd.size;omega)
   have im:w.1.size+1 <= (w4.alloc (.cells #[.pointer (vE ⟨b4,q4+k,vD⟩),vd vq T3,vd vn L.p] 199)).1.size:=by have:=Zd.size;omega
   revert Ra ia Aa Zd im
   refine zPU ?_
   generalize w4.alloc _=We;generalize w4.1.size=ge;intro Ra ia Aa Zd im;refine ef (Re r) rfl rfl rfl ?_;refine Mw _ _ rfl IS rfl Aa rfl Ra (eV _ _ _) (by have:=H4.out;have:=HQ.out;omega) im ?_
   intro v' wn Rb Wa Dc;refine ⟨Wa,?_⟩;replace ia:=(Re r).trans _ _ _ ia Wa;replace Zd:=Zd.trans (Es Wa (w.1.size+1) im (fun z hz=>by have Qe:r=z:=Za hz;omega))
   refine zPU ?_
   refine oo ?_;refine Jc ?_;go_wp2
   go_roundw
   case rel =>
    refine ⟨k+1,by omega,by go_num,?_,Zd⟩
    rw [K7,<- zx,sV];exact Rb
   case measure=>simp [intOf];omega
  ·have ek:k=S.n4:=by omega
   have Kl:Hid (aj L g++Rf b4 q4 k T3 L.p=aj L g++Rf b4 q4 L.queries T3 L.p):=by rw [ek,H4.out];rfl
   rw [Kl.out] at Aa;clear Kl;have EK:=zH ek;clear ek;go_wp2_with fail
   refine zd (Km r) [7,8] [0,1,2,3,4,5,6,7,8,9] (by kernel_rfl) (by kernel_rfl) ?_
   refine Se (Re r) ?_;intro Wc Ja ia;replace Aa:=mQ Ja Aa;replace Zd:=mS Ja Zd;clear Ja;refine oo ?_;refine ef (Re r) rfl rfl rfl ?_;go_simp;refine ⟨zw ((Ca _ _).alloc zR _),?_⟩;have ma:=(Ca Wc.1.size Wc).alloc zR (.cells #[.pointer (vE ⟨g,5,vD⟩),vd vq L.queries,vd vn 18446744069414584321] 199);have Ra:=NV Wc (.pointer (vE ⟨g,5,vD⟩)) (vd vq L.queries) (vd vn 18446744069414584321) 199;replace ia:=(Re r).trans _ _ _ ia (zw ma);replace Aa:=Mc Aa ma zR;replace Zd:=yL Zd ma (by have:=Zd.size;omega)
   have im:w.1.size+1 <= (Wc.alloc (.cells #[.pointer (vE ⟨g,5,vD⟩),vd vq L.queries,vd vn 18446744069414584321] 199)).1.size:=by have:=Zd.size;omega
   revert Ra ia Aa Zd im
   refine zPU ?_
   generalize Wc.alloc _=We;generalize Wc.1.size=ge;intro Ra ia Aa Zd im;refine ef (Re r) rfl rfl rfl ?_;refine Mw _ _ rfl IS rfl Aa rfl Ra (eV _ _ _) (by have:=H4.out;have:=HQ.out;have:=EK.out;omega) im ?_
   intro v' wn Rb Wa Dc;refine ⟨Wa,?_⟩;replace ia:=(Re r).trans _ _ _ ia Wa;replace Zd:=Zd.trans (Es Wa (w.1.size+1) im (fun z hz=>by have Qe:r=z:=Za hz;omega))
   refine zPU ?_
   refine oo ?_;refine Jc ?_;obtain ⟨PRE,zT⟩:=zEX (aj L g++Rf b4 q4 L.queries T3 L.p++[(⟨⟨g,5,vD⟩,L.queries,Me⟩:jl)]);have G0:wn.ownsRow (w.1.size+1) 199 3 v' (3+k+1) (pn PRE):=by rw [zT,sV];exact Rb
   have HPRE:=zH zT;clear Aa Rb ia Wa Dc Ra im c0 cg n1 n2 l0 lg Al Ye zT;have jt:=kl.below Zd (by omega)
   have lA:=Zi.below Zd (by omega)
   have c0:=jt.cell;have cg:=lA.cell;go_wp2_with fail
   go_loopw [5,95] (fun v i wr=>∃ k2:Nat,k2 <= S.n6 /\ i=vd vq k2 /\ wr.ownsRow (w.1.size+1) 199 3 v (3+k+1+k2) (pn (PRE++Rf b6 q6 k2 j Me)) /\ vA (w.1.size+1) w2 wr) (fun _ i _=>S.n6-(intOf i).toNat)
   case atStart=>exact ⟨0,Mb _,rfl,by simpa [Rf] using G0,Zd⟩
   case round =>
    clear G0 c0 cg Zd jt lA;obtain ⟨k2,hk2,rfl,Aa,Zd⟩:=hrel;clear Zg Wm;obtain ⟨r,cr2,rfl,Zg,Wm⟩:=fJ Aa (by omega)
    have Al:=kl.below Zd (by omega)
    have Ye:=Zi.below Zd (by omega)
    have c0:=Al.cell;have cg:=Ye.cell;have l0:=Al.lt;have lg:=Ye.lt;have n1:w.1.size≠r:=by omega
    have n2:g≠r:=by omega
    by_cases jm:k2<S.n6
    ·have g1:(0:Int)<=k2:=by omega
     have g2:(k2:Int)<S.n6:=by omega
     go_wp2_with fail
     refine zd (Km r) [8,10,11] [0,1,2,3,4,5,6,7,8,9,10,11,12] (by kernel_rfl) (by kernel_rfl) ?_
     refine Se (Re r) ?_;intro Wc Ja ia;replace Aa:=mQ Ja Aa;replace Zd:=mS Ja Zd;clear Ja;refine oo ?_;refine Bc (Re r) rfl rfl rfl (fun _=>by go_simp <;> rfl) ((HLv.out _).mono ?_)
     rintro e w4 ⟨rfl,Ab⟩;refine ⟨_,rfl,zw Ab,?_⟩;replace ia:=(Re r).trans _ _ _ ia (zw Ab);refine zPU ?_;replace Aa:=Mc Aa Ab zR;have oM:w.1.size+1 <= Wc.1.size:=by have:=Zd.size;omega
     replace Zd:=yL Zd Ab oM;clear Ab oM;refine oo ?_;refine ef (Re r) rfl rfl rfl ?_;go_simp;refine ⟨zw ((Ca _ _).alloc zR _),?_⟩;have ma:=(Ca w4.1.size w4).alloc zR (.cells #[.pointer (vE ⟨b6,q6+k2,vD⟩),vd vq j,vd vn 18446744069414584321] 199);have Ra:=NV w4 (.pointer (vE ⟨b6,q6+k2,vD⟩)) (vd vq j) (vd vn 18446744069414584321) 199;replace ia:=(Re r).trans _ _ _ ia (zw ma);replace Aa:=Mc Aa ma zR;replace Zd:=yL Zd ma (by have:=Zd.size;omega)
     have im:w.1.size+1 <= (w4.alloc (.cells #[.pointer (vE ⟨b6,q6+k2,vD⟩),vd vq j,vd vn 18446744069414584321] 199)).1.size:=by have:=Zd.size;omega
     revert Ra ia Aa Zd im
     refine zPU ?_
     generalize w4.alloc _=We;generalize w4.1.size=ge;intro Ra ia Aa Zd im;refine ef (Re r) rfl rfl rfl ?_;refine Mw _ _ rfl IS rfl Aa rfl Ra (eV _ _ _) (by have:=H4.out;have:=HQ.out;have:=EK.out;have:=H6.out;omega) im ?_
     intro v' wn Rb Wa Dc;refine ⟨Wa,?_⟩;replace ia:=(Re r).trans _ _ _ ia Wa;replace Zd:=Zd.trans (Es Wa (w.1.size+1) im (fun z hz=>by have Qe:r=z:=Za hz;omega))
     refine zPU ?_
     refine oo ?_;refine Jc ?_;go_wp2
     go_roundw
     case rel =>
      refine ⟨k2+1,by omega,by go_num,?_,Zd⟩
      rw [K7,<- zx,sV];exact Rb
     case measure=>simp [intOf];omega
    ·have vH:k2=S.n6:=by omega
     have Kl:Hid (PRE++Rf b6 q6 k2 j Me=aj L g++Rf b4 q4 L.queries T3 L.p++[(⟨⟨g,5,vD⟩,L.queries,Me⟩:jl)]++Rf b6 q6 L.queries j Me):=by rw [vH,H6.out,HPRE.out];rfl
     rw [Kl.out] at Aa;clear Kl vH;go_wp2;go_ret
     exact ⟨_,_,rfl,tA Aa (by omega),da.trans (Zd.mono (by omega))⟩
def rH (P:se):List (List Nat):=[P.code,P.linear,P.quad]++P.cols++[P.salts]++P.paths
def Cw (x:jl) (l:List Nat):Bool:=((l.length:Int)==x.size)&&l.all (fun n=>decide (n<x.lim))
def Cs (ps:List jl) (ls:List (List Nat)):Bool:=(List.zip ps ls).all fun z=>Cw z.1 z.2
theorem nQ (x:jl) (l:List Nat):Cw x l=Tk l (x.size:Int) x.lim:=by unfold Cw Tk;rw [Bool.and_comm]
theorem cS {a b:List jl} {c d:List (List Nat)} (h:a.length=c.length):Cs (a++b) (c++d)=(Cs a c&&Cs b d):=by
 unfold Cs;rw [List.zip_append h,List.all_append]
theorem GX {ps:List jl} {ls:List (List Nat)} (h:ps.length=ls.length) (hg:∀ i (h1:i<ps.length) (h2:i<ls.length),Cw ps[i] ls[i]=true):Cs ps ls=true:=by
 unfold Cs;rw [fe];intro z hz;obtain ⟨i,hi,rfl⟩:=Hm hz;have h1:i<ps.length:=by simp at hi;omega
 have h2:i<ls.length:=by simp at hi;omega
 simpa using hg i h1 h2
theorem EX {ps:List jl} {ls:List (List Nat)} {i:Nat} (h1:i<ps.length) (h2:i<ls.length) (hg:Cw ps[i] ls[i]=false):Cs ps ls=false:=by
 unfold Cs;rw [jz];refine ⟨(ps[i],ls[i]),?_,by rw [hg];exact Bool.noConfusion⟩
 have:(List.zip ps ls)[i]'(by simp;omega)=(ps[i],ls[i]):=by simp
 rw [<- this];exact zf _
theorem pV (b q n size lim:Nat):(Rf b q n size lim).length=n:=by simp [Rf]
theorem DX (b q size lim:Nat) (ls:List (List Nat)):Cs (Rf b q ls.length size lim) ls=ls.all (fun l=>Tk l (size:Int) lim):=by
 cases h:ls.all (fun l=>Tk l (size:Int) lim) with
 | true =>
  refine GX (pV _ _ _ _ _) fun i h1 h2=>?_
  rw [nQ];have:=fe.1 h ls[i] (zf h2)
  simpa [Rf] using this
 | false =>
  obtain ⟨l,hl,hb⟩:=jz.1 h;obtain ⟨i,hi,rfl⟩:=Hm hl;refine EX (i:=i) (by rw [pV];exact hi) hi ?_
  rw [nQ];have yi:Tk ls[i] (size:Int) lim=false:=by simpa using hb
  simpa [Rf] using yi
theorem zBh (x:jl) (l:List Nat):Cs [x] [l]=Cw x l:=by simp [Cs]
theorem zBg (L:Ma) (g:Nat) (a b c:List Nat):Cs (aj L g) [a,b,c]=(Tk a (L.k:Int) L.p&&(Tk b ((L.k+L.block-1:Nat):Int) L.p&&Tk c ((2*L.k-1:Nat):Int) L.p)):=by
 simp only [Cs,aj,List.zip_cons_cons,List.zip_nil_right,List.all_cons,List.all_nil,Bool.and_true,nQ]
theorem zGe (L:Ma) (j g b4 q4 b6 q6:Nat) (P:se) (h4:P.cols.length=L.queries) (h6:P.paths.length=L.queries) (hr:decide (Me <= P.root)=false) :
  ei L j P=Cs (Ei L j g b4 q4 b6 q6) (rH P):=by
 unfold Ei rH ei;rw [cS,cS,cS]
 ·rw [<- h4,DX,h4,<- h6,DX,h6,zBh,nQ,zBg,hr]
  unfold mw;rw [h4,h6];simp only [beq_self_eq_true,Bool.and_true,Bool.not_false,Bool.true_and,Bool.and_assoc]
 ·simp [aj]
 ·simp [aj,Rf,h4]
 ·simp [aj,Rf,h4]
theorem zGc {L:Ma} {j:Nat} {P:se} (h:¬(P.cols.length=L.queries /\ P.paths.length=L.queries)):ei L j P=false:=by
 by_cases h4:P.cols.length=L.queries
 ·have h6:((P.paths.length:Int)==L.queries)=false:=by rw [Gd];omega
  simp [ei,mw,h6]
 ·have h6:((P.cols.length:Int)==L.queries)=false:=by rw [Gd];omega
  simp [ei,mw,h6]
theorem zGf {L:Ma} {j:Nat} {P:se} (h:decide (Me <= P.root)=true):ei L j P=false:=by
 unfold ei;rw [h]
 rfl
def LN (w:vw) (x:jl) (l:List Nat):Prop:=∃ b o A n c,x.ptr=⟨b,o,vD⟩ /\ w.cell? ⟨b,o,vD⟩=vE (ve A n c) /\ RWd w [ve A n c] l
def EJ (w:vw) (ps:List jl) (ls:List (List Nat)):Prop:=ps.length=ls.length /\ ∀ i (h1:i<ps.length) (h2:i<ls.length),LN w ps[i] ls[i]
theorem mV {w w':vw} {x:jl} {l:List Nat} (h:LN w x l) (hb:vA w.1.size w w'):LN w' x l:=by
 obtain ⟨b,o,A,n,c,e,hc,hr⟩:=h;exact ⟨b,o,A,n,c,e,jw hb hc,Bb hb hr⟩
theorem qV {w:vw} {a b:List jl} {c d:List (List Nat)} (h:EJ w a c) (k:EJ w b d):EJ w (a++b) (c++d):=by
 refine ⟨by rw [Ni,Ni,h.1,k.1],fun i h1 h2=>?_⟩
 rcases Sg i a.length with hi | hi
 ·rw [Iq hi,Iq (by rw [<- h.1];exact hi)]
  exact h.2 i hi (by rw [<- h.1];exact hi)
 ·rw [Bx hi,Bx (by rw [<- h.1];exact hi)]
  have e:i-a.length=i-c.length:=by rw [h.1]
  have:=k.2 (i-a.length) (by simp at h1;omega) (by rw [Ni] at h2;rw [h.1];have:=h.1;omega)
  simpa [e] using this
theorem L7 {w:vw} {b q size lim:Nat} {ls:List (List Nat)} (h:RdL w 1 RWd (vE ⟨b,q,vD⟩) ls):EJ w (Rf b q ls.length size lim) ls:=by
 refine ⟨pV _ _ _ _ _,fun i h1 h2=>?_⟩
 obtain ⟨b',q',A,n,c,hA,-,hc,hr⟩:=Q4 h h2
 injection hA with hA
 injection hA with e1 e2
 subst e1;subst e2;exact ⟨b,q+i,A,n,c,by simp [Rf],hc,hr⟩
theorem M7 {w:vw} {L:Ma} {j g b4 q4 b6 q6:Nat} {P:se} {S:PS} (kg:Blk w g 46 (Od P S)) (h:gh w P S) (h4:P.cols.length=L.queries) (h6:P.paths.length=L.queries) (tu:S.A4=vE ⟨b4,q4,vD⟩) (uu:S.A6=vE ⟨b6,q6,vD⟩) :
  EJ w (Ei L j g b4 q4 b6 q6) (rH P):=by
 have r4:=(UI h.cols).2.2.2;have r6:=(UI h.paths).2.2.2;rw [tu] at r4;rw [uu] at r6;have one:∀ (i:Nat) (s lim:Nat) (l:List Nat) (A:Option vy) (n c:Nat),(Od P S)[i]?=vE (ve A n c) -> RWd w [ve A n c] l -> LN w ⟨⟨g,i,vD⟩,s,lim⟩ l :=
  fun i s lim l A n c hi hr=>⟨g,i,A,n,c,rfl,(kg.cell i).trans hi,hr⟩
 refine qV (qV (qV ?_ ?_) ?_) ?_
 ·refine ⟨rfl,fun i h1 h2=>?_⟩
  match i,h1 with
  | 0,_=>exact one 1 _ _ _ _ _ _ rfl h.code
  | 1,_=>exact one 2 _ _ _ _ _ _ rfl h.linear
  | 2,_=>exact one 3 _ _ _ _ _ _ rfl h.quad
 ·rw [<- h4];exact L7 r4
 ·refine ⟨rfl,fun i h1 h2=>?_⟩
  match i,h1 with
  | 0,_=>exact one 5 _ _ _ _ _ _ rfl h.salts
 ·rw [<- h6];exact L7 r6
theorem qQ:∀ (l:List jl) (k:Nat) (h:k<l.length),(pn l)[k*3]?=vE (.pointer (vE l[k].ptr)) /\ (pn l)[k*3+1]?=vE (vd vq (l[k].size:Int)) /\ (pn l)[k*3+2]?=vE (vd vn (l[k].lim:Int))
 | x :: l,0,_=>⟨rfl,rfl,rfl⟩
 | x :: l,k+1,h=>by
  have:=qQ l k (by simpa using h)
  have e:pn (x :: l)=[.pointer (vE x.ptr),vd vq x.size,vd vn x.lim]++pn l:=rfl;rw [e];refine ⟨?_,?_,?_⟩
  ·rw [Yt (by simp;omega)]
   have e1:(k+1)*3 - [Value.pointer (vE x.ptr),vd vq x.size,vd vn x.lim].length=k*3:=by simp;omega
   rw [e1];exact this.1
  ·rw [Yt (by simp;omega)]
   have e1:(k+1)*3+1 - [Value.pointer (vE x.ptr),vd vq x.size,vd vn x.lim].length=k*3+1:=by simp;omega
   rw [e1];exact this.2.1
  ·rw [Yt (by simp;omega)]
   have e1:(k+1)*3+2 - [Value.pointer (vE x.ptr),vd vq x.size,vd vn x.lim].length=k*3+2:=by simp;omega
   rw [e1];exact this.2.2
theorem kV (L:Ma) (j:Nat) (P:se) (S:PS) (w:vw) (hL:Lb L) (hn:L.n=2^j) (hj:j <= 10) (h:gh w P S) :
  vB prog 105 #[vf (jb L),vf (Od P S)] w fun e w'=>e=vl (.bool (ei L j P)) /\ vA w.1.size w w':=by
 have da:vA w.1.size w ((w.alloc (.cells (jb L) 101)).alloc (.cells (Od P S) 46)):=((Ca _ w).alloc zR _).alloc (by simp) _
 have kg:Blk ((w.alloc (.cells (jb L) 101)).alloc (.cells (Od P S) 46)) (w.1.size+1) 46 (Od P S):=by
  have:=Blk.new (w.alloc (.cells (jb L) 101)) 46 (Od P S)
  simpa using this
 have Rc:=yV h da;obtain ⟨e4,a4,m4,r4⟩:=UI h.cols;obtain ⟨e6,a6,m6,r6⟩:=UI h.paths;by_cases z:S.n4=L.queries /\ S.n6=L.queries
 rotate_left
 ·have HZ:=zH (zGc (L:=L) (j:=j) (P:=P) (by rw [<- e4,<- e6];exact z))
  have HP:=zH (zFQ L P S (w.1.size+1) _ kg z);clear z e4 a4 m4 r4 e6 a6 m6 r6 Rc kg h hn hj hL;unfold jb Od at *;have lF:=fun (w:vw) (a:Option vy) (n c:Nat)=>Lib.run_eql_slice_nil (P:=prog) w 194 199 a n c 0 0 underlying194
  go_enter func105,ntmps105
  go_wp2_with fail
  refine HP.out.mono ?_;rintro e w1 ⟨rfl,hb⟩;go_wp2;go_ret
  exact ⟨by rw [HZ.out];rfl,pa da hb⟩
 obtain ⟨z4,z6⟩:=z;have hq:=hL.q1;obtain ⟨b4,q4,tu⟩:=r4.base (by omega) (by omega)
 obtain ⟨b6,q6,uu⟩:=r6.base (by omega) (by omega)
 have HP:=zH (oV L j P S (w.1.size+1) b4 q4 b6 q6 _ hL hn hj kg z4 z6 kg.lt tu uu ⟨a4,m4⟩ ⟨a6,m6⟩);have Zs:=M7 (L:=L) (j:=j) kg Rc (by rw [<- e4];exact z4) (by rw [<- e6];exact z6) tu uu
 cases hr:decide (Me <= P.root)
 rotate_left
 ·have HZ:=zH (zGf (L:=L) (j:=j) (P:=P) hr)
  have d1:decide ((18446744069414584321:Int)<=P.root)=true:=tb (by have:=of_decide_eq_true hr;unfold Me at this;omega)
  have d2:decide (18446744069414584321 <= P.root)=true:=hr;clear hr Zs tu uu z4 z6 e4 a4 m4 r4 e6 a6 m6 r6 Rc h hq hL hn hj;have Ze:0<(Ei L j (w.1.size+1) b4 q4 b6 q6).length:=by simp [Ei,aj]
  generalize Ei L j (w.1.size+1) b4 q4 b6 q6=ps at *;unfold jb Od at *;have lF:=fun (w:vw) (a:Option vy) (n c:Nat)=>Lib.run_eql_slice_nil (P:=prog) w 194 199 a n c 0 0 underlying194
  go_enter func105,ntmps105
  go_wp2_with fail
  refine HP.out.mono ?_;rintro e w1 ⟨v,n,rfl,Aa,hb⟩;have kg1:=ja kg hb;have cg:=kg1.cell;clear kg;have mg:0<n:=by have:=Aa.1;rw [rQ] at this;omega
  obtain ⟨r,cr,rfl,Zg,Wm⟩:=fJ Aa mg;go_wp2;go_ret
  exact ⟨by rw [HZ.out];rfl,pa da hb⟩
 have HZ:=zH (zGe L j (w.1.size+1) b4 q4 b6 q6 P (by rw [<- e4];exact z4) (by rw [<- e6];exact z6) hr)
 have d1:decide ((18446744069414584321:Int)<=P.root)=false:=db (by have:=of_decide_eq_false hr;unfold Me at this;omega)
 have d2:decide (18446744069414584321 <= P.root)=false:=hr;have Ze:0<(Ei L j (w.1.size+1) b4 q4 b6 q6).length:=by simp [Ei,aj]
 have Wq:(Ei L j (w.1.size+1) b4 q4 b6 q6).length <= 200:=by have:=hL.q2;simp [Ei,aj,Rf];omega
 rw [HZ.out];clear HZ hr tu uu z4 z6 e4 a4 m4 r4 e6 a6 m6 r6 Rc h hq hL hn hj;generalize Ei L j (w.1.size+1) b4 q4 b6 q6=ps at *;generalize rH P=ls at *;unfold jb Od at *;have lF:=fun (w:vw) (a:Option vy) (n c:Nat)=>Lib.run_eql_slice_nil (P:=prog) w 194 199 a n c 0 0 underlying194
 go_enter func105,ntmps105
 go_wp2_with fail
 refine HP.out.mono ?_;rintro e w1 ⟨v,n,rfl,Aa,hb⟩;have kg1:=ja kg hb;have cg:=kg1.cell;have hps1:EJ w1 ps ls:=⟨Zs.1,fun i h1 h2=>mV (Zs.2 i h1 h2) hb⟩
 replace da:=pa da hb;clear kg kg1 Zs HP hb;have mg:n=ps.length:=by have:=Aa.1;rw [rQ] at this;omega
 obtain ⟨r,cr,rfl,Zg,Wm⟩:=fJ Aa (by omega)
 have Ok:∀ i u,(pn ps)[i]?=vE u -> w1.cell? ⟨r,i,vD⟩=vE u:=fun i u hu=>by
  obtain ⟨ad,e,hc⟩:=(Rd.of_own Aa).2 (by omega)
  injection e with e
  subst e;have:=hc i u hu
  simpa [Sl] using this
 have aB:=zH Ok;clear Ok Aa;subst mg;have xo:=zH hps1;clear hps1;have gm:(ps.length:Int) <= 200:=by omega
 go_wp2_with fail
 go_loopw [19] (fun i wr=>∃ k:Nat,k <= ps.length /\ i=vd vq k /\ vA w1.1.size w1 wr /\ Hid (∀ i (h1:i<ps.length) (h2:i<ls.length),i<k -> Cw ps[i] ls[i]=true)) (fun i _=>ps.length-(intOf i).toNat)
 case atStart=>exact ⟨0,Mb _,rfl,Ca _ _,fun i h1 h2 h3=>by omega⟩
 case round =>
  clear cg;obtain ⟨k,hk,rfl,Db,HG⟩:=hrel;by_cases ta:k<ps.length
  ·have jm:k<ls.length:=by rw [<- xo.out.1];exact ta
   obtain ⟨b,o,A,nn,cc,RL,hc,Vf⟩:=mV (xo.out.2 k ta jm) Db;obtain ⟨u0,u1,u2⟩:=qQ ps k ta;have c0:=jw Db (aB.out _ _ u0);have c1:=jw Db (aB.out _ _ u1);have c2:=jw Db (aB.out _ _ u2);rw [RL] at c0;clear u0 u1 u2;have mL:Hid (Cw ps[k] ls[k]=(((ls[k].length:Int) == (ps[k].size:Int))&&ls[k].all (fun n=>decide (n<ps[k].lim)))):=rfl
   have HB:=zH (fun w (h:RWd w [ve A nn cc] ls[k])=>lS A nn cc ls[k] ps[k].lim w h)
   have Cn:=zH ta;have Dm:=zH jm;obtain ⟨enn,hcc1,hcc2,-,-⟩:=Ny Vf;have gnn:=vK hcc1 hcc2;have ENN:=zH enn;clear enn hcc1 hcc2 RL;have oX:=zH (fun (hh:Cw ps[k] ls[k]=false)=>EX ta jm hh)
   have DN:=zH (fun (hh:Cw ps[k] ls[k]=true)=>(fun i (h1:i<ps.length) (h2:i<ls.length) (h3:i<k+1)=>(by
    rcases Sg i k with h5 | h5
    ·exact HG.out i h1 h2 h5
    ·have e:i=k:=by omega
     subst e;exact hh:Cw ps[i] ls[i]=true)))
   revert c1 c2 mL HB
   generalize ps[k].size=size;generalize ps[k].lim=lim;generalize ui:ls[k].all (fun n=>decide (n<lim))=bb
   intro c1 c2 mL HB;clear ui;have lb:b<wr.1.size:=Jf _ _ hc;have lr:r<wr.1.size:=Jf _ _ c0;have g1:(0:Int)<=k:=by omega
   have g2:(k:Int)<ps.length:=by omega
   have ma:=(Ca wr.1.size wr).alloc zR (.cells #[.pointer (vE ⟨b,o,vD⟩),vd vq size,vd vn lim] 199);have kx:=Blk.new wr 199 #[.pointer (vE ⟨b,o,vD⟩),vd vq size,vd vn lim];by_cases zs:nn=size
   rotate_left
   ·have y1:((nn:Int)!=size)=true:=by rw [Bf];omega
    have HF:=zH (oX.out (mL.out.trans (by rw [<- ENN.out,show ((nn:Int)==size)=false by rw [Gd];omega];rfl)))
    clear zs;go_wp2_with fail
    replace Vf:=Bb ma Vf;replace hc:=jw ma hc;replace Db:=pa Db ma;replace lb:b<(wr.alloc (.cells #[.pointer (vE ⟨b,o,vD⟩),vd vq size,vd vn lim] 199)).1.size:=Jf _ _ hc;clear c0 c1 c2 lr ma;revert kx Vf hc Db lb
    generalize wr.alloc _=w7;generalize wr.1.size=gx;intro kx Vf hc Db lb;have cx:=kx.cell;have lx:=kx.lt;refine zd (Ub) [15] [0,1,2,3,4,5,6,7,8,9,10,11,12,13,14,15,16,17] (by kernel_rfl) (by kernel_rfl) ?_
    refine Kw (ra) ?_;intro Wc ia;refine Qb ?_;refine Jc ?_;go_wp2;go_ret
    exact ⟨by rw [HF.out];rfl,pa (pa da Db.drew) ia⟩
   have y1:((nn:Int)!=size)=false:=by rw [iu];omega
   have HGG:=zH (show Cw ps[k] ls[k]=bb from mL.out.trans (by rw [<- ENN.out,show ((nn:Int)==size)=true by rw [qi];omega];rfl))
   clear zs mL;go_wp2_with fail
   replace Vf:=Bb ma Vf;replace hc:=jw ma hc;replace Db:=pa Db ma;replace lb:b<(wr.alloc (.cells #[.pointer (vE ⟨b,o,vD⟩),vd vq size,vd vn lim] 199)).1.size:=Jf _ _ hc;clear c0 c1 c2 lr ma;revert kx Vf hc Db lb
   generalize wr.alloc _=w7;generalize wr.1.size=gx;intro kx Vf hc Db lb;have cx:=kx.cell;have lx:=kx.lt;refine zd (Ub) [15] [0,1,2,3,4,5,6,7,8,9,10,11,12,13,14,15,16,17] (by kernel_rfl) (by kernel_rfl) ?_
   refine Kw (ra) ?_;intro Wc ia;refine Qb ?_;refine Bc (ra) rfl rfl rfl (fun _=>by go_simp <;> rfl) ((HB.out _ (Bb ia Vf)).mono ?_)
   rintro e w8 ⟨rfl,rfl⟩;refine ⟨_,rfl,ra.refl _,?_⟩;replace ia:=(ra).trans _ _ _ ia (ra.refl _);refine zPU ?_;cases bb
   ·have HF:=zH (oX.out HGG.out)
    refine Qb ?_;refine Jc ?_;go_wp2;go_ret
    exact ⟨by rw [HF.out];rfl,pa (pa da Db.drew) ia⟩
   ·refine Qb ?_
    refine Jc ?_;go_wp2
    go_roundw
    case rel=>exact ⟨k+1,by omega,by go_num,pa Db.drew ia,DN.out HGG.out⟩
    case measure=>simp [intOf];omega
  ·have HT:=zH (GX xo.out.1 fun i h1 h2=>HG.out i h1 h2 (by omega))
   go_wp2;go_ret
   exact ⟨by rw [HT.out];rfl,pa da Db⟩
theorem zBJ:prog.cellsOf 32=11:=by kernel_rfl
theorem RWd.slc {w:vw} {v:vx} {l:List Nat} (h:RWd w [v] l):slc v:=by
 obtain ⟨A,n,c,e,-⟩:=h;simp at e
 exact ⟨A,n,c,e⟩
def Dj (P:se):List Nat:=[P.root]++P.code++P.linear++P.quad++P.cols.flatten++P.salts++P.paths.flatten
theorem zFf (w:vw) (base:Nat) (x:vx) (hb:base <= w.1.size):(w.alloc (.cells #[x] 22)).ownsRow base 22 1 (ve (vE ⟨w.1.size,0,vD⟩) 1 1) 1 [x] :=
 ⟨rfl, .inr ⟨w.1.size,1,_,rfl,hb,heap_alloc_new w _,by omega,by simp [maxLen],rfl,rfl⟩⟩
theorem zFe {W W':vw} {B:Nat} {e:vz} {size:Nat} {v:vx} {n:Nat} {xs:List vx} (h:W.ownsRow B e size v n xs) (hg:W.grownBy W' v.ownBlock) (hB:B <= W.1.size):vA B W W' :=
 Es hg B hB fun g e=>(h.lt g e).1
theorem zDb (ls:List (List Nat)) (k:Nat) (h:k<ls.length):(ls.take (k+1)).flatten=(ls.take k).flatten++ls[k]:=by
 rw [Su h,List.flatten_append];simp
theorem zDa (ls:List (List Nat)) (k:Nat):(ls.take k).flatten.length <= ls.flatten.length:=by
 have:(ls.take k).flatten++(ls.drop k).flatten=ls.flatten:=by rw [<- List.flatten_append,List.take_append_drop]
 rw [<- this,Ni];omega
theorem V6 {w:vw} {B m:Nat} {v:vx} {a b c:List Nat} (h:w.ownsRow B 22 1 v m (Oa a++Oa b)) (e:a++b=c):w.ownsRow B 22 1 v m (Oa c):=by
 rw [<- e,tX];exact h
def xz (l:List Oper) (i j:Nat):Bool:=match l[i]?,l[j]? with
 | some x,vE y=>x.apart l.toArray y
 | _,_=>false
def GN (P:Program) (o:Oper) (t:vz) (z:Array vx):Prop:=o.guard=vD /\ ∀ a w,(execOp a o).run P w= .ok (.value (.pointer (vE ⟨w.1.size,0,vD⟩))) (w.alloc (.cells z t))
section
variable {P:Program} {l:List Oper} {hs tail:List Nat} {Q:Exit -> Act -> vw -> Prop} {N j:Nat} {t:vz} {z:Array vx} {rest:List Nat} {i:Nat} {o:Oper} {za:Array Bool} {a:Act} {w:vw}
theorem YX {oj:Oper} (h:xz l i j=true) (ho:l[i]?=vE o) (Zh:l[j]?=vE oj):o.apart l.toArray oj=true:=by
 unfold xz at h;rw [ho,Zh] at h;exact h
end
theorem Z6 {w:vw} {base:Nat} {e:vz} {size:Nat} {v:vx} {n:Nat} {xs:List vx} {g:Nat} {t:vz} {cs:Array vx} (h:w.ownsRow base e size v n xs) (k:Blk w g t cs) (ht:t≠e):∀ q,v.ownBlock=vE q -> vE g=vE q -> False:=fun q hq hg=>by
 obtain rfl:=Za hg;obtain ⟨h1,h2⟩:=h;rcases h2 with ⟨rfl,-⟩ | ⟨q,cap,cur,rfl,-,hh,-⟩
 ·cases hq
 ·obtain rfl:q=g:=Za hq
  unfold Blk at k;rw [hh] at k;cases k
  exact ht rfl
theorem zEz {F F':Nat -> Prop} {w w':vw} (h:Moved F F' w w') {N:Nat} {V0:Nat -> Prop} (hN:N <= w.1.size) (hV:∀ b,b<N -> F b -> V0 b):∀ b,b<N -> F' b -> V0 b:=fun b hb hf=>by
 rcases h.foot b hf with e | e
 ·exact hV b hb e
 ·omega
structure zn (V0:Nat -> Prop) (N:Nat) (V:Nat -> Prop) (w:vw):Prop where
 size:N <= w.1.size
 lt:∀ b,V b -> b<w.1.size
 old:∀ b,b<N -> V b -> V0 b
theorem UJ {V0 V V':Nat -> Prop} {N:Nat} {w w':vw} (h:zn V0 N V w) (m:Moved V V' w w') (ta:∀ b,V' b -> b<w'.1.size):zn V0 N V' w':=⟨xb h.size m.size,ta,zEz m h.size h.old⟩
theorem su {V0 V:Nat -> Prop} {N:Nat} {w w':vw} (h:zn V0 N V w) (m:vA w.1.size w w'):zn V0 N V w':=⟨xb h.size m.size,fun b hb=>Kc (h.lt b hb) m.size,h.old⟩
theorem zDg {V:Nat -> Prop} {w:vw} (ta:∀ b,V b -> b<w.1.size):zn V w.1.size V w:=⟨zR,ta,fun _ _ h=>h⟩
theorem EH {V0 V V':Nat -> Prop} {N:Nat} {w w':vw} (h:zn V0 N V w) (m:Moved V V' w w'):Ji V0 N w w':=rT m h.size h.old
section
variable {P:Program} {l:List Oper} {hs tail:List Nat} {Q:Exit -> Act -> vw -> Prop} {V0 V:Nat -> Prop} {N j:Nat} {t:vz} {z:Array vx} {rest:List Nat} {i:Nat} {o:Oper} {za:Array Bool} {a:Act} {w:vw}
end
def qJ:List Nat -> List (List Nat)
 | []=>[[]]
 | j :: js=>qJ js++(qJ js).map (j :: ·)
theorem RP (f:Nat -> Bool):∀ js:List Nat,js.filter f∈qJ js
 | []=>by simp [qJ]
 | j :: js=>by
  rw [qJ,Np];cases h:f j
  ·rw [UG (by rw [h];exact Qy)]
   exact .inl (RP f js)
  ·rw [VG h]
   exact .inr (Ed.2 ⟨_,RP f js,rfl⟩)
def ni (L:Array Bool) (S:List Nat):Array Bool:=S.foldl (fun L j=>L.setIfInBounds j true) L
theorem xL:∀ (S:List Nat) (L:Array Bool) (i:Nat),(ni L S)[i]?=if i∈S then L[i]?.map (fun _=>true) else L[i]?
 | [],_,_=>by simp [ni]
 | j :: S,L,i=>by
  show (ni (L.setIfInBounds j true) S)[i]?=_
  rw [xL S,Array.getElem?_setIfInBounds];by_cases e:j=i
  ·subst e
   by_cases hj:j<L.size
   ·simp [hj]
   ·simp [hj]
  ·have e':¬i=j:=fun h=>e h.symm
   simp [e,e']
theorem UR {S:List Nat} {L:Array Bool} {i:Nat} (h:i ∉ S):(ni L S).setIfInBounds i true=ni (L.setIfInBounds i true) S:=by
 refine Array.ext_getElem? fun k=>?_
 have ib:∀ (S:List Nat) (L:Array Bool),(ni L S).size=L.size:=fun S=>by
  induction S with
  | nil=>intro L;rfl
  | cons j S ih=>intro L;show (ni (L.setIfInBounds j true) S).size=_;rw [ih];simp
 rw [Array.getElem?_setIfInBounds,xL,xL,Array.getElem?_setIfInBounds,ib];by_cases e:i=k
 ·subst e
  simp [h]
 ·simp [e]
theorem zA8 {J:List Nat} {f f':Nat -> Bool} {L:Array Bool} {j:Nat} (hj:j∈J) (h1:f' j=true) (h2:∀ k,k≠j -> f' k=f k):(ni L (J.filter f)).setIfInBounds j true=ni L (J.filter f'):=by
 refine Array.ext_getElem? fun k=>?_
 have ib:∀ (S:List Nat) (L:Array Bool),(ni L S).size=L.size:=fun S=>by
  induction S with
  | nil=>intro L;rfl
  | cons j S ih=>intro L;show (ni (L.setIfInBounds j true) S).size=_;rw [ih];simp
 rw [Array.getElem?_setIfInBounds,xL,xL,ib];by_cases e:j=k
 ·subst e
  simp only [if_true,Nl,hj,h1,true_and];by_cases hs:j<L.size
  ·simp [hs]
  ·simp [hs]
 ·have e':k≠j:=fun h=>e h.symm
  simp only [e,if_false,Nl,h2 k e']
structure JD (V:Nat -> Prop) (N:Nat) (w:vw) (js:List (Nat × vz × Array vx)) (f:Nat -> Bool) (gs:Nat -> Nat):Prop where
 blk:∀ x∈js,f x.1=true -> Blk w (gs x.1) x.2.1 x.2.2 /\ N <= gs x.1 /\ ¬V (gs x.1)
 dif:∀ x∈js,∀ y∈js,f x.1=true -> f y.1=true -> x.1≠y.1 -> gs x.1≠gs y.1
def Yn (gs:Nat -> Nat):Nat -> vx:=fun j=>.pointer (vE ⟨gs j,0,vD⟩)
def rG (gs:Nat -> Nat) (j g:Nat):Nat -> Nat:=fun k=>if k=j then g else gs k
theorem zGq (gs:Nat -> Nat) (j g:Nat):Yn (rG gs j g)=Ug (Yn gs) j (.pointer (vE ⟨g,0,vD⟩)):=by
 funext k
 unfold Yn rG Ug;split <;> rfl
def RF (l:List Oper) (hs tail js:List Nat):List Nat -> Array Bool -> Bool
 | [],L=>(qJ js).all (fun S=>js.all (fun j=>S.contains j)||(!(Region.ready .any l.toArray (ni L S)).isEmpty&&(Region.ready .any l.toArray (ni L S)).all fun k=>js.contains k&&!S.contains k))&&ZC l hs tail (ni L js)
 | i :: rest,L=>decide (i<l.length)&&!js.contains i&&(js.all fun j=>xz l i j) &&
   ((qJ js).all fun S=>Region.free .any l.toArray (ni L S) i&&(Region.ready .any l.toArray (ni L S)).contains i&&(!hs.contains i||(Region.ready .any l.toArray (ni L S)).all fun k=>k == i||(js.contains k&&!S.contains k))) &&
   RF l hs tail js rest (L.setIfInBounds i true)
def zK (l:List Oper) (js:List Nat):Bool:=decide js.Nodup&&js.all fun j=>decide (j<l.length)&&js.all fun k=>j == k||(Yd l j).isNone||Yd l j != Yd l k
def Oy (P:Program) (l:List Oper) (hs tail:List Nat) (Q:Exit -> Act -> vw -> Prop) (V0:Nat -> Prop) (N:Nat) (js:List (Nat × vz × Array vx)) (order:List Nat) (za:Array Bool) (V:Nat -> Prop) (a:Act) (w:vw):Prop :=
 Region.noSelect l.toArray=true -> RF l hs tail (js.map (·.1)) order za=true -> zK l (js.map (·.1))=true -> (∀ x∈js,∃ oj,l[x.1]?=vE oj /\ GN P oj x.2.1 x.2.2) ->
  ∀ (f:Nat -> Bool) (gs:Nat -> Nat) (w1:vw),vA w.1.size w w1 -> JD V N w1 js f gs ->
   yn P l.toArray Q (Ji V0 N) (order.length+((js.map (·.1)).filter fun j=>!f j).length+tail.length) (ni za ((js.map (·.1)).filter f)) (bg l (Yn gs) a ((js.map (·.1)).filter f)) w1
section
variable {P:Program} {l:List Oper} {hs tail:List Nat} {Q:Exit -> Act -> vw -> Prop} {V0 V:Nat -> Prop} {N:Nat} {js:List (Nat × vz × Array vx)} {rest:List Nat} {i:Nat} {o:Oper} {za:Array Bool} {a:Act} {w:vw}
theorem zDd:JD V N w js (fun _=>false) (fun _=>0):=⟨fun _ _ h=>(nomatch h),fun _ _ _ _ h=>(nomatch h)⟩
theorem zDc {V':Nat -> Prop} {f:Nat -> Bool} {gs:Nat -> Nat} {w1 w2:vw} (h:JD V N w1 js f gs) (hm:Moved V V' w1 w2):JD V' N w2 js f gs :=
 ⟨fun x hx hf=>let ⟨a,b,c⟩:=h.blk x hx hf;⟨a.moved hm c,b,Sd hm a.lt c⟩,h.dif⟩
theorem cL {id:Nat} (V0 V:Nat -> Prop) (N:Nat) (hs order:List Nat) (js:List (Nat × vz × Array vx)) (tail:List Nat) (hm:P.follows .mixedOrders=true)
  (ph:∀ x∈js,∃ oj,l[x.1]?=vE oj /\ GN P oj x.2.1 x.2.2)
  (Xa:(Region.noSelect l.toArray&&order.length+js.length+tail.length == l.length&&RF l hs tail (js.map (·.1)) order (List.replicate l.length false).toArray&&zK l (js.map (·.1)))=true)
  (h:Oy P l hs tail Q V0 N js order (List.replicate l.length false).toArray V a w.drew):(Code.region id l.toArray true).wp P Q a w:=by
 simp only [mc,qi] at Xa;refine qN (Ji V0 N) hm ?_;have:=h Xa.1.1.1 Xa.1.2 Xa.2 ph (fun _=>false) (fun _=>0) w.drew (Ca _ _) zDd
 have e0:(js.map (·.1)).filter (fun _=>!false)=js.map (·.1):=List.filter_eq_self.2 (fun _ _=>rfl)
 rw [List.filter_eq_nil_iff.2 (fun _ _=>Qy),e0,Jm] at this
 rw [<- Xa.1.1.2];rw [<- Xa.1.1.2] at this;exact this
theorem gL {order:List Nat} (h:∀ W,Hid (W=w) -> Ji V0 N w W -> Oy P l hs tail Q V0 N js order za V a W):Oy P l hs tail Q V0 N js order za V a w:=h w rfl ((Cc V0 N).refl w)
structure zA5 (l:List Oper) (hs js:List Nat) (i:Nat) (L:Array Bool):Prop where
 lt:i<l.length
 nj:i ∉ js
 ap:∀ j∈js,xz l i j=true
 fr:∀ f:Nat -> Bool,Region.free .any l.toArray (ni L (js.filter f)) i=true
 rd:∀ f:Nat -> Bool,(Region.ready .any l.toArray (ni L (js.filter f))).contains i=true
 hv:hs.contains i=true -> ∀ (f:Nat -> Bool),∀ k∈Region.ready .any l.toArray (ni L (js.filter f)),k=i \/ (k∈js /\ f k=false)
theorem cV {J:List Nat} (h:RF l hs tail J (i :: rest) za=true):zA5 l hs J i za /\ RF l hs tail J rest (za.setIfInBounds i true)=true:=by
 unfold RF at h;simp only [mc,Xk,Oo] at h;obtain ⟨⟨⟨⟨h1,h2⟩,h3⟩,h4⟩,h5⟩:=h;rw [fe] at h3 h4;have EE:=fun f:Nat -> Bool=>h4 _ (RP f J)
 simp only [mc,Bool.or_eq_true,Xk] at EE;refine ⟨⟨h1,fun hj=>?_,h3,fun f=>(EE f).1.1,fun f=>(EE f).1.2,fun hh f k hk=>?_⟩,h5⟩
 ·rw [bE.2 hj] at h2;cases h2
 ·rcases (EE f).2 with h6 | h6
  ·rw [hh] at h6;cases h6
  ·rw [fe] at h6
   have h7:=h6 k hk;simp only [Bool.or_eq_true,qi,mc,Xk,bE] at h7;rcases h7 with h7 | ⟨h7,h8⟩
   ·exact .inl h7
   ·refine .inr ⟨h7,?_⟩
    cases hf:f k
    ·rfl
    ·rw [bE.2 (Nl.2 ⟨h7,hf⟩)] at h8;cases h8
structure JsOk (l:List Oper) (J:List Nat):Prop where
 nodup:J.Nodup
 lt:∀ j∈J,j<l.length
 dst:∀ j∈J,∀ k∈J,j≠k -> ∀ t,Yd l j=vE t -> Yd l k≠vE t
theorem zES {J:List Nat} (h:zK l J=true):JsOk l J:=by
 unfold zK at h;simp only [mc,Oo] at h;have h2:=fe.1 h.2;simp only [mc,Oo] at h2;refine ⟨h.1,fun j hj=>(h2 j hj).1,fun j hj k hk Ta t e e'=>?_⟩
 have h3:=fe.1 (h2 j hj).2 k hk;simp only [Bool.or_eq_true,qi,Bf] at h3;rcases h3 with (h3 | h3) | h3
 ·exact Ta h3
 ·rw [e] at h3;cases h3
 ·exact h3 (e.trans e'.symm)
theorem LL {j:Nat} {oj:Oper} (h:l[j]?=vE oj):Yd l j=oj.dst:=by
 unfold Yd;rw [h]
 rfl
theorem vO (vs:Nat -> vx) (Qf:∀ cs b,o.op≠.select cs b) (ho:l[i]?=vE o):∀ (S:List Nat) (a:Act),(∀ j∈S,xz l i j=true) -> execOp (bg l vs a S).eval o=execOp a.eval o /\ (∀ ops:Array Oper,ops=l.toArray -> Region.wanted o (yielded ops (bg l vs a S).tmps)=Region.wanted o (yielded ops a.tmps))
 | [],_,_=>⟨rfl,fun _ _=>rfl⟩
 | j :: S,a,h=>by
  have hj:=h j (by simp)
  have h0:∃ oj,l[j]?=vE oj:=by
   unfold xz at hj;rw [ho] at hj;cases e:l[j]? with
   | none=>rw [e] at hj;cases hj
   | some oj=>exact ⟨oj,rfl⟩
  obtain ⟨oj,Zh⟩:=h0;obtain ⟨a1,a2,a3⟩:=Oper.apart_spec (YX hj ho Zh);have ih:=vO vs Qf ho S (a.put (Yd l j) (vs j)) fun k hk=>h k (by simp [hk])
  rw [LL Zh] at ih;refine ⟨?_,fun ops hops=>?_⟩
  ·show execOp (bg l vs (a.put (Yd l j) (vs j)) S).eval o=_
   rw [LL Zh];exact ih.1.trans (execOp_put _ Qf _ _ _ a3)
  ·show Region.wanted o (yielded ops (bg l vs (a.put (Yd l j) (vs j)) S).tmps)=_
   rw [LL Zh];refine (ih.2 ops hops).trans ?_;subst hops;exact wanted_put _ _ _ _ a3
theorem DV {S:List Nat} {vs:Nat -> vx} {v:vx} (ho:l[i]?=vE o) (h:∀ j∈S,xz l i j=true):(bg l vs a S).put o.dst v=bg l vs (a.put o.dst v) S:=by
 refine (AV l vs o.dst v S a fun j hj t e e'=>?_).symm
 have hj:=h j hj;cases Zh:l[j]? with
 | none=>unfold Yd at e';rw [Zh] at e';cases e'
 | some oj =>
  obtain ⟨a1,a2,a3⟩:=Oper.apart_spec (YX hj ho Zh);rw [LL Zh] at e';exact a2 t e e'
theorem GJ {J:List Nat} {f:Nat -> Bool} (h:∀ j∈J,xz l i j=true):∀ j∈J.filter f,xz l i j=true:=fun j hj=>h j (Nl.1 hj).1
theorem zIx {v:vx} (ho:l[i]?=vE o) (hw:Region.wanted o (yielded l.toArray a.tmps)=true) (hF:Hid (zn V0 N V w)) (hQ:∀ c a w,Q (.panic c) (a.put o.dst v) w -> Q (.panic c) a w)
  (Uc:∀ w',Ji V0 N w w' -> (execOp a.eval o).run P w'= .ok (.value v) w') (h:Oy P l hs tail Q V0 N js rest (za.setIfInBounds i true) V (a.put o.dst v) w):Oy P l hs tail Q V0 N js (i :: rest) za V a w:=by
 intro hn Xa hj ph f gs w1 hb Kk;obtain ⟨C,hr⟩:=cV Xa;have k:=h hn hr hj ph f gs w1 hb Kk;have cF:=C.lt;have e:=LB (h:=cF) ho;subst e;have Qf:∀ cs b,l[i].op≠.select cs b:=fun cs b=>Uu hn i l[i] cs b (by rw [Ln];exact ho)
 have hx:=vO (a:=a) (Yn gs) Qf ho _ (GJ (f:=f) C.ap);rw [<- UR (fun hm=>C.nj (Nl.1 hm).1),<- DV ho (GJ (f:=f) C.ap)] at k
 have:=xm (a:=bg l (Yn gs) a ((js.map (·.1)).filter f)) i (Cc V0 N) C.lt hn (C.fr f) (C.rd f) hQ (.inl ⟨by rw [hx.2 _ rfl];exact hw,fun w' DC=>by rw [hx.1];exact Uc w' ((Cc V0 N).trans _ _ _ (Sj hb hF.out.size) DC)⟩) k
 rwa [show (i :: rest).length+((js.map (·.1)).filter fun j=>!f j).length+tail.length=rest.length+((js.map (·.1)).filter fun j=>!f j).length+tail.length+1 by simp only [xg];omega]
theorem zIy (ho:l[i]?=vE o) (hw:Region.wanted o (yielded l.toArray a.tmps)=false) (hQ:∀ c a w,Q (.panic c) (a.put o.dst undef) w -> Q (.panic c) a w)
  (h:Oy P l hs tail Q V0 N js rest (za.setIfInBounds i true) V (a.put o.dst undef) w):Oy P l hs tail Q V0 N js (i :: rest) za V a w:=by
 intro hn Xa hj ph f gs w1 hb Kk;obtain ⟨C,hr⟩:=cV Xa;have k:=h hn hr hj ph f gs w1 hb Kk;have cF:=C.lt;have e:=LB (h:=cF) ho;subst e;have Qf:∀ cs b,l[i].op≠.select cs b:=fun cs b=>Uu hn i l[i] cs b (by rw [Ln];exact ho)
 have hx:=vO (a:=a) (Yn gs) Qf ho _ (GJ (f:=f) C.ap);rw [<- UR (fun hm=>C.nj (Nl.1 hm).1),<- DV ho (GJ (f:=f) C.ap)] at k
 have:=xm (a:=bg l (Yn gs) a ((js.map (·.1)).filter f)) i (Cc V0 N) C.lt hn (C.fr f) (C.rd f) hQ (.inr ⟨by rw [hx.2 _ rfl];exact hw,rfl⟩) k
 rwa [show (i :: rest).length+((js.map (·.1)).filter fun j=>!f j).length+tail.length=rest.length+((js.map (·.1)).filter fun j=>!f j).length+tail.length+1 by simp only [xg];omega]
theorem Ow {a b:Prop} (h:a) (s:Imp a b:=by
 (repeat ((first | (apply Imp.via (zIy rfl rfl (fun _ _ _ h=>h))) | (apply Imp.via (zIx (v:=?_) rfl rfl Yb (fun _ _ _ h=>h) ?hr);case hr=>(intro w' hR;(first | have Rn:=qT ((Cc _ _).trans _ _ _ ia hR) | skip);go_simp;try with_reducible rfl)));simp only [vG,zLa,zLb,zLc]))
 exact Imp.rfl'):b:=s h
theorem zEr {J:List (Nat × vz × Array vx)} {k:Nat} (h:k∈J.map (·.1)):∃ x∈J,x.1=k:=by
 obtain ⟨x,hx,e⟩:=Ed.1 h;exact ⟨x,hx,e⟩
theorem zB6 {J:List Nat} {f f':Nat -> Bool} {j:Nat} (hn:J.Nodup) (hj:j∈J) (h0:f j=false) (h1:f' j=true) (h2:∀ k,k≠j -> f' k=f k):(J.filter fun k=>!f k).length=(J.filter fun k=>!f' k).length+1:=by
 induction J with
 | nil=>cases hj
 | cons x J ih =>
  obtain ⟨hx,pC⟩:=List.nodup_cons.1 hn;by_cases e:x=j
  ·subst e
   have:J.filter (fun k=>!f k)=J.filter (fun k=>!f' k):=List.filter_congr fun k hk=>by rw [h2 k (by rintro rfl;exact hx hk)]
   rw [VG (by rw [h0];rfl),UG (by rw [h1];exact Qy),this]
   rfl
  ·have Tz:j∈J:=by
    rcases Dh.1 hj with h | h
    ·exact absurd h.symm e
    ·exact h
   have:=ih pC Tz;cases hf:f x
   ·rw [VG (by rw [hf];rfl),VG (by rw [h2 x e,hf];rfl)]
    simp only [xg];omega
   ·rw [UG (by rw [hf];exact Qy),UG (by rw [h2 x e,hf];exact Qy)]
    exact this
theorem zZ {order:List Nat} (hF:zn V0 N V w) (hj:zK l (js.map (·.1))=true) (ph:∀ x∈js,∃ oj,l[x.1]?=vE oj /\ GN P oj x.2.1 x.2.2) {f:Nat -> Bool} {gs:Nat -> Nat} {w1:vw} (hb:vA w.1.size w w1) (Kk:JD V N w1 js f gs) {k:Nat}
  (hk:k∈js.map (·.1)) (hf:f k=false) {fu:Nat} (hfu:order.length+((js.map (·.1)).filter fun j=>!f j).length+tail.length=fu+1)
  (ih:∀ (f':Nat -> Bool) (gs':Nat -> Nat) (w2:vw),((js.map (·.1)).filter fun j=>!f' j).length<((js.map (·.1)).filter fun j=>!f j).length -> vA w.1.size w w2 -> JD V N w2 js f' gs' ->
   yn P l.toArray Q (Ji V0 N) (order.length+((js.map (·.1)).filter fun j=>!f' j).length+tail.length) (ni za ((js.map (·.1)).filter f')) (bg l (Yn gs') a ((js.map (·.1)).filter f')) w2) :
  wpS P l Q (Ji V0 N) k fu (ni za ((js.map (·.1)).filter f)) (bg l (Yn gs) a ((js.map (·.1)).filter f)) w1:=by
 have J:=zES hj;obtain ⟨x,hx,rfl⟩:=zEr hk;obtain ⟨oj,Zh,gj,hmj⟩:=ph x hx;have ta:=J.lt _ hk;have e:=LB (h:=ta) Zh;subst e;refine ⟨ta,by simp [Region.wanted,gj],?_⟩
 unfold Oper.wp;rw [hmj];have ma:vA w1.1.size w1 (w1.alloc (.cells x.2.2 x.2.1)):=(Ca _ w1).alloc zR _;have hVlt:∀ b,V b -> b<w1.1.size:=fun b yi=>Kc (hF.lt b yi) hb.size
 refine ⟨Sj ma (xb hF.size hb.size),?_⟩;have Gv:=zB6 (f:=f) (f':=fun k=>if k=x.1 then true else f k) J.nodup hk hf (Na rfl) (fun k Ta=>ya Ta)
 have:=ih (fun k=>if k=x.1 then true else f k) (rG gs x.1 w1.1.size) (w1.alloc (.cells x.2.2 x.2.1)) (by omega) (pa hb ma) ⟨fun y hy hfy=>?_,fun y hy z hz hfy YB Ta=>?_⟩
 ·rw [<- zA8 (f:=f) (f':=fun k=>if k=x.1 then true else f k) hk (Na rfl) (fun k Ta=>ya Ta),zGq,
   CV l (Yn gs) x.1 _ f (fun k=>if k=x.1 then true else f k) _ a J.nodup hk hf (Na rfl) (fun k _ Ta=>ya Ta) (fun k fF Ta t e=>J.dst _ hk k fF (fun e=>Ta e.symm) t e),LL Zh] at this
  rwa [show fu=order.length+((js.map (·.1)).filter fun j=>!(if j=x.1 then true else f j)).length+tail.length by omega]
 ·by_cases e:y.1=x.1
  ·have exy:y=x:=by
    refine yJ fun Ta=>?_
    obtain ⟨i,hi,rfl⟩:=Hm hx;obtain ⟨i',bF,rfl⟩:=Hm hy;have hnd:=List.pairwise_iff_getElem.1 J.nodup;by_cases c:i<i'
    ·exact hnd i i' (by simpa using hi) (by simpa using bF) c (by simpa using e.symm)
    ·by_cases c':i'<i
     ·exact hnd i' i (by simpa using bF) (by simpa using hi) c' (by simpa using e)
     ·obtain rfl:i=i':=by omega
      exact Ta rfl
   subst exy;have eg:rG gs y.1 w1.1.size y.1=w1.1.size:=Na rfl;rw [eg];exact ⟨Blk.new w1 y.2.1 y.2.2,xb hF.size hb.size,fun hv=>Nat.lt_irrefl _ (hVlt _ hv)⟩
  ·have eg:rG gs x.1 w1.1.size y.1=gs y.1:=ya e
   rw [eg];rw [ya e] at hfy;obtain ⟨b1,b2,b3⟩:=Kk.blk y hy hfy;exact ⟨ja b1 ma,b2,b3⟩
 ·by_cases e1:y.1=x.1
  ·have e2:z.1≠x.1:=fun e2=>Ta (e1.trans e2.symm)
   rw [ya e2] at YB;have:=(Kk.blk z hz YB).1.lt;unfold rG;rw [Na e1,ya e2];omega
  ·rw [ya e1] at hfy
   have hyl:=(Kk.blk y hy hfy).1.lt;by_cases e2:z.1=x.1
   ·unfold rG
    rw [ya e1,Na e2];omega
   ·rw [ya e2] at YB
    unfold rG;rw [ya e1,ya e2];exact Kk.dif y hy z hz hfy YB Ta
theorem zAX {fuel:Nat} {L:Array Bool} {w:vw} (M:ie (Ji V0 N)) (Ta:Region.ready .any l.toArray L≠[]) (h:∀ k∈Region.ready .any l.toArray L,wpS P l Q (Ji V0 N) k fuel L a w):yn P l.toArray Q (Ji V0 N) (fuel+1) L a w :=
 ⟨fun h0=>absurd h0 Ta,fun k hk=>wpS_op M (h k hk)⟩
theorem zGP {L:Array Bool} (h:(Region.ready .any l.toArray L).contains i=true):Region.ready .any l.toArray L≠[]:=fun e=>by rw [e] at h;simp at h
theorem zIw (hh:hs.contains i=true) (ho:l[i]?=vE o) (hF:Hid (zn V0 N V w))
  (h:∀ (_:Region.noSelect l.toArray=true) (_:i<l.length),RF l hs tail (js.map (·.1)) rest (za.setIfInBounds i true)=true -> zK l (js.map (·.1))=true -> (∀ x∈js,∃ oj,l[x.1]?=vE oj /\ GN P oj x.2.1 x.2.2) -> (∀ j∈js.map (·.1),xz l i j=true) -> i ∉ js.map (·.1) ->
   ∀ (f:Nat -> Bool) (gs:Nat -> Nat) (w1:vw),vA w.1.size w w1 -> JD V N w1 js f gs ->
   wpS P l Q (Ji V0 N) i (rest.length+((js.map (·.1)).filter fun j=>!f j).length+tail.length) (ni za ((js.map (·.1)).filter f)) (bg l (Yn gs) a ((js.map (·.1)).filter f)) w1):Oy P l hs tail Q V0 N js (i :: rest) za V a w:=by
 intro hn Xa hj ph f gs w1 hb Kk;obtain ⟨C,hr⟩:=cV Xa;obtain ⟨m,hm⟩:=zEX (((js.map (·.1)).filter fun j=>!f j).length)
 induction m using Nat.strongRecOn generalizing f gs w1 with
 | ind m ih =>
  subst hm;rw [show (i :: rest).length+((js.map (·.1)).filter fun j=>!f j).length+tail.length=rest.length+((js.map (·.1)).filter fun j=>!f j).length+tail.length+1 by simp only [xg];omega]
  refine zAX (Cc V0 N) (zGP (C.rd f)) fun k hk=>?_
  rcases C.hv hh f k hk with rfl | ⟨hkj,hkf⟩
  ·exact h hn C.lt hr hj ph C.ap C.nj f gs w1 hb Kk
  ·refine zZ (order:=i :: rest) (tail:=tail) hF.out hj ph hb Kk hkj hkf (by simp only [xg];omega) fun f' gs' w2 ta Ba QT=>?_
   exact ih _ ta f' gs' w2 Ba QT rfl
theorem dL {f:FuncId} {vals:Array vx} (hh:hs.contains i=true) (ho:l[i]?=vE o) (hw:Region.wanted o (yielded l.toArray a.tmps)=true) (hF:Hid (zn V0 N V w))
  (Uc:∀ w,(execOp a.eval o).run P w= .ok (.enter f vals) w)
  (h:∀ w1,vA w.1.size w w1 -> vB P f vals w1 fun e w'=>∃ v V',e=vl v /\ Moved V V' w1 w' /\ (∀ b,V' b -> b<w'.1.size) /\ Oy P l hs tail Q V0 N js rest (za.setIfInBounds i true) V' (a.put o.dst v) w'):Oy P l hs tail Q V0 N js (i :: rest) za V a w:=by
 refine zIw hh ho hF fun hn hi hr hj ph TB hnj f' gs w1 hb Kk=>?_
 have e:=LB (h:=hi) ho;subst e;have Qf:∀ cs b,l[i].op≠.select cs b:=fun cs b=>Uu hn i l[i] cs b (by rw [Ln];exact ho)
 have hx:=vO (a:=a) (Yn gs) Qf ho _ (GJ (f:=f') TB);refine zIr hi (by rw [hx.2 _ rfl];exact hw) ((h w1 hb).mono ?_) (fun w=>by rw [hx.1];exact Uc w)
 rintro e w' ⟨v,V',rfl,hm,ta,hz⟩;refine ⟨v,rfl,EH (su hF.out hb) hm,?_⟩;have:=hz hn hr hj ph f' gs w' (Ca _ _) (zDc Kk hm)
 rwa [<- UR (fun hm=>hnj (Nl.1 hm).1),<- DV ho (GJ (f:=f') TB)] at this
theorem eL (jd:List (Option Tmp × Nat)) (hjd:((js.map (·.1)).map fun j=>(Yd l j,j))=jd) (hF:Hid (zn V0 N V w))
  (h:∀ (gs:Nat -> Nat) (w1:vw),vA w.1.size w w1 -> JD V N w1 js (fun _=>true) gs -> uq P l hs Q (Ji V0 N) tail (ni za (js.map (·.1))) (Nh a (Yn gs) jd) w1):Oy P l hs tail Q V0 N js [] za V a w:=by
 intro hn Xa hj ph f gs w1 hb Kk;unfold RF at Xa;rw [mc,fe] at Xa;obtain ⟨Xa,hk⟩:=Xa;obtain ⟨m,hm⟩:=zEX (((js.map (·.1)).filter fun j=>!f j).length)
 induction m using Nat.strongRecOn generalizing f gs w1 with
 | ind m ih =>
  subst hm;have h1:=Xa _ (RP f (js.map (·.1)))
  by_cases ui:∀ j∈js.map (·.1),f j=true
  ·have e1:(js.map (·.1)).filter f=js.map (·.1):=List.filter_eq_self.2 ui
   have e2:(js.map (·.1)).filter (fun j=>!f j)=[]:=List.filter_eq_nil_iff.2 fun j Tz=>by rw [ui j Tz];exact Qy
   rw [e1,e2,wQ,hjd];have:=h gs w1 hb ⟨fun x hx _=>Kk.blk x hx (ui _ (Ed.2 ⟨x,hx,rfl⟩)),fun x hx y hy _ _ Ta=>Kk.dif x hx y hy (ui _ (Ed.2 ⟨x,hx,rfl⟩)) (ui _ (Ed.2 ⟨y,hy,rfl⟩)) Ta⟩ hn hk
   simpa using this
  ·have hns:¬((js.map (·.1)).all fun j=>((js.map (·.1)).filter f).contains j)=true:=fun h0=>ui fun j Tz=>by
    have:=fe.1 h0 j Tz;exact (Nl.1 (bE.1 this)).2
   rw [Bool.or_eq_true] at h1;replace h1:=h1.resolve_left hns;rw [mc] at h1;obtain ⟨hne0,h2⟩:=h1;have Ta:Region.ready .any l.toArray (ni za ((js.map (·.1)).filter f))≠[]:=by simpa using hne0
   rw [fe] at h2;have Nk:0<((js.map (·.1)).filter fun j=>!f j).length:=by
    obtain ⟨j,Tz⟩:=Classical.not_forall.1 ui;obtain ⟨hj1,Uz⟩:=Classical.not_imp.1 Tz;exact List.length_pos_of_mem (Nl.2 ⟨hj1,by simp [Bool.eq_false_iff.2 Uz]⟩)
   obtain ⟨fu,hfu⟩:∃ fu,([]:List Nat).length+((js.map (·.1)).filter fun j=>!f j).length+tail.length=fu+1:=⟨((js.map (·.1)).filter fun j=>!f j).length+tail.length-1,by simp only [List.length_nil];omega⟩
   rw [hfu];refine zAX (Cc V0 N) Ta fun k fF=>?_
   have h3:=h2 k fF;simp only [mc,Xk,bE] at h3;have hkf:f k=false:=by
    cases hf:f k
    ·rfl
    ·have:=h3.2
     rw [bE.2 (Nl.2 ⟨h3.1,hf⟩)] at this;cases this
   exact zZ (order:=[]) (tail:=tail) hF.out hj ph hb Kk h3.1 hkf hfu fun f' gs' w2 ta Ba QT=>ih _ ta f' gs' w2 Ba QT rfl
end
def Cz (A:Option vy) (c t m:Nat):vx:=ve (if c=t then A else Option.map (fun x=>x.add t) A) (m-t) (c-t)
theorem zHz (L:Ma) (A:Option vy) (n c x y z:Nat) (w:vw) (hL:Lb L) (hx:x=L.a) (hy:y=L.a+L.b) (hz:z=L.a+L.b+L.b) (hn:z <= n) (Ld:n <= c) (hm:c <= maxLen) :
  vB prog 295 #[vf (jb L),ve A n c] w fun e w'=>e=vl (.tuple #[ve A x c,Cz A c x y,Cz A c y z,Cz A c z n]) /\ vA w.1.size w w':=by
 have jC:=hL.a;have Vz:=hL.b;have gm:(c:Int) <= 9223372036854775807:=by
  simp [maxLen] at hm
  omega
 have e1:(L.a:Int)+L.b=(y:Int):=by omega
 have e2:=ye y;have e3:(y:Int)+L.b=(z:Int):=by omega
 have e4:=ye z;have i0:(0:Int)<=x:=by omega
 have i1:(x:Int)<=y:=by omega
 have i2:(y:Int)<=z:=by omega
 have i3:(z:Int)<=n:=by omega
 have i4:(n:Int)<=c:=by omega
 have i5:(x:Int)<=c:=by omega
 have i6:(y:Int)<=c:=by omega
 have i7:(z:Int)<=c:=by omega
 have i8:(0:Int)<=y:=by omega
 have i9:(0:Int)<=z:=by omega
 have da:vA w.1.size w (w.alloc (.cells #[vd vn L.p,vd vq L.block,vd vq L.queries,vd vq L.k,vd vq L.n,vd vq L.secret,vd vq L.rows,vd vq L.a,vd vq L.b,vd vq L.b,vd vq L.b] 101)):=(Ca _ _).alloc zR _;have kl:=Blk.new w 101 #[vd vn L.p,vd vq L.block,vd vq L.queries,vd vq L.k,vd vq L.n,vd vq L.secret,vd vq L.rows,vd vq L.a,vd vq L.b,vd vq L.b,vd vq L.b];clear hL jC Vz hn hy hz Ld hm;subst hx;unfold jb Cz;obtain ⟨B1,Ad⟩:=zEX ((if c=L.a then A else Option.map (fun x=>x.add L.a) A))
 obtain ⟨B2,lh⟩:=zEX ((if c=y then A else Option.map (fun x=>x.add y) A))
 obtain ⟨B3,wu⟩:=zEX ((if c=z then A else Option.map (fun x=>x.add z) A))
 obtain ⟨n1,Fe⟩:=zEX (y-L.a);obtain ⟨n2,Vd⟩:=zEX (z-y);obtain ⟨n3,Um⟩:=zEX (n-z);obtain ⟨c1,td⟩:=zEX (c-L.a);obtain ⟨c2,Of⟩:=zEX (c-y);obtain ⟨c3,Vi⟩:=zEX (c-z);rw [<- Ad,<- lh,<- wu,<- Fe,<- Vd,<- Um,<- td,<- Of,<- Vi];have HX:=zH (And.intro Ad (And.intro lh (And.intro wu (And.intro Fe (And.intro Vd (And.intro Um (And.intro td (And.intro Of Vi))))))));clear Ad lh wu Fe Vd Um td Of Vi;go_enter func295,ntmps295
 go_upto_region 1 with fail
 generalize w.alloc _=w1 at kl da |-;have cl:=kl.cell;go_upto_region 4 with fail
 refine zd (Ub) [] [0,1,2,3,4,5,6,7,8,9,10,11,12,13,14,15,16,17] (by kernel_rfl) (by kernel_rfl) ?_
 refine Se (ra) ?_;intro Wc Ja ia;have Ka:=Tf Ja;refine Qb ?_;refine Jc ?_;obtain ⟨Ad,lh,wu,Fe,Vd,Um,td,Of,Vi⟩:=HX.out;rw [<- Ad,<- lh,<- wu,<- Fe,<- Vd,<- Um,<- td,<- Of,<- Vi];clear Ad lh wu Fe Vd Um td Of Vi;go_wp2;exact Tc (v:=.tuple #[ve A L.a c,ve B1 n1 c1,ve B2 n2 c2,ve B3 n3 c3]) (by simp [results,results295,go_sem]) rfl ⟨rfl,pa da Ka⟩
theorem zHy (L:Ma) (A:Option vy) (n c x y z:Nat) (w:vw) (hL:Lb L) (hx:x=L.a) (hy:y=L.a+L.b) (hz:z=L.a+L.b+L.b) (hn:z <= n) (Ld:n <= c) (hm:c <= maxLen) :
  vB prog 146 #[vf (jb L),ve A n c] w fun e w'=>e=vl (.tuple #[ve A x c,Cz A c x y,Cz A c y z,Cz A c z n]) /\ vA w.1.size w w':=by
 have jC:=hL.a;have Vz:=hL.b;have gm:(c:Int) <= 9223372036854775807:=by
  simp [maxLen] at hm
  omega
 have e1:(L.a:Int)+L.b=(y:Int):=by omega
 have e2:=ye y;have e3:(y:Int)+L.b=(z:Int):=by omega
 have e4:=ye z;have i0:(0:Int)<=x:=by omega
 have i1:(x:Int)<=y:=by omega
 have i2:(y:Int)<=z:=by omega
 have i3:(z:Int)<=n:=by omega
 have i4:(n:Int)<=c:=by omega
 have i5:(x:Int)<=c:=by omega
 have i6:(y:Int)<=c:=by omega
 have i7:(z:Int)<=c:=by omega
 have i8:(0:Int)<=y:=by omega
 have i9:(0:Int)<=z:=by omega
 have da:vA w.1.size w (w.alloc (.cells #[vd vn L.p,vd vq L.block,vd vq L.queries,vd vq L.k,vd vq L.n,vd vq L.secret,vd vq L.rows,vd vq L.a,vd vq L.b,vd vq L.b,vd vq L.b] 101)):=(Ca _ _).alloc zR _;have kl:=Blk.new w 101 #[vd vn L.p,vd vq L.block,vd vq L.queries,vd vq L.k,vd vq L.n,vd vq L.secret,vd vq L.rows,vd vq L.a,vd vq L.b,vd vq L.b,vd vq L.b];clear hL jC Vz hn hy hz Ld hm;subst hx;unfold jb Cz;obtain ⟨B1,Ad⟩:=zEX ((if c=L.a then A else Option.map (fun x=>x.add L.a) A))
 obtain ⟨B2,lh⟩:=zEX ((if c=y then A else Option.map (fun x=>x.add y) A))
 obtain ⟨B3,wu⟩:=zEX ((if c=z then A else Option.map (fun x=>x.add z) A))
 obtain ⟨n1,Fe⟩:=zEX (y-L.a);obtain ⟨n2,Vd⟩:=zEX (z-y);obtain ⟨n3,Um⟩:=zEX (n-z);obtain ⟨c1,td⟩:=zEX (c-L.a);obtain ⟨c2,Of⟩:=zEX (c-y);obtain ⟨c3,Vi⟩:=zEX (c-z);rw [<- Ad,<- lh,<- wu,<- Fe,<- Vd,<- Um,<- td,<- Of,<- Vi];have HX:=zH (And.intro Ad (And.intro lh (And.intro wu (And.intro Fe (And.intro Vd (And.intro Um (And.intro td (And.intro Of Vi))))))));clear Ad lh wu Fe Vd Um td Of Vi;go_enter func146,ntmps146
 go_upto_region 1 with fail
 generalize w.alloc _=w1 at kl da |-;have cl:=kl.cell;go_upto_region 4 with fail
 refine zd (Ub) [] [0,1,2,3,4,5,6,7,8,9,10,11,12,13,14,15,16,17] (by kernel_rfl) (by kernel_rfl) ?_
 refine Se (ra) ?_;intro Wc Ja ia;have Ka:=Tf Ja;refine Qb ?_;refine Jc ?_;obtain ⟨Ad,lh,wu,Fe,Vd,Um,td,Of,Vi⟩:=HX.out;rw [<- Ad,<- lh,<- wu,<- Fe,<- Vd,<- Um,<- td,<- Of,<- Vi];clear Ad lh wu Fe Vd Um td Of Vi;go_wp2;exact Tc (v:=.tuple #[ve A L.a c,ve B1 n1 c1,ve B2 n2 c2,ve B3 n3 c3]) (by simp [results,results146,go_sem]) rfl ⟨rfl,pa da Ka⟩
def Jx (L:Ma) (rows:List (List Nat)) (l1 l2 l3 l4:List Nat):Bool :=
 decide (rows.length=L.a+L.b+L.b+L.b)&&(rows.all (fun r=>tj r L.queries L.p)&&(tj l1 L.k L.p&&(tj l2 (L.k+L.block-2) L.p&&(tj l3 (L.block+2*L.queries-1) L.p&&tj l4 L.n zb))))
theorem zBl {l:List (List Nat)} {f:List Nat -> Bool} {i:Nat} (h:(l.take i).all f=true) (hi:i<l.length) (hx:f l[i]=true):(l.take (i+1)).all f=true:=by
 rw [Su hi,List.all_append,h,List.all_cons,hx]
 rfl
theorem zBk {l:List (List Nat)} {f:List Nat -> Bool} {i:Nat} (hi:i<l.length) (hx:f l[i]=false):l.all f=false:=by
 rw [jz];exact ⟨l[i],zf _,by rw [hx];decide⟩
theorem Y4 (L:Ma) (A0 A1 A2 A3 A4:Option vy) (n0 c0 n1 c1 n2 c2 n3 c3 n4 c4:Nat) (rows:List (List Nat)) (l1 l2 l3 l4:List Nat) (w:vw) (hL:Lb L)
  (h0:Jg w [ve A0 n0 c0] rows) (h1:RWd w [ve A1 n1 c1] l1) (h2:RWd w [ve A2 n2 c2] l2) (h3:RWd w [ve A3 n3 c3] l3) (h4:RWd w [ve A4 n4 c4] l4) :
  vB prog 57 #[vf (jb L),vf #[ve A0 n0 c0,ve A1 n1 c1,ve A2 n2 c2,ve A3 n3 c3,ve A4 n4 c4]] w fun e w'=>e=vl (.bool (Jx L rows l1 l2 l3 l4)) /\ vA w.1.size w w':=by
 have HC:=zH (fun w=>sY L w hL)
 have HT:=zH (fun w=>UF L.p L.block L.queries L.k L.n L.secret L.rows L.a L.b L.b L.b w hL.a hL.b hL.b hL.b)
 have Ip:=zH (fun w' (hb:vA w.1.size w w')=>QL A1 n1 c1 L.k L.p l1 w' (Bb hb h1))
 have ji:=zH (fun w' (hb:vA w.1.size w w')=>QL A2 n2 c2 (L.k+L.block-2) L.p l2 w' (Bb hb h2))
 have LD:=zH (fun w' (hb:vA w.1.size w w')=>QL A3 n3 c3 (L.block+2*L.queries-1) L.p l3 w' (Bb hb h3))
 have HE4:=zH (fun w' (hb:vA w.1.size w w')=>QL A4 n4 c4 L.n zb l4 w' (Bb hb h4))
 obtain ⟨Xz,a1,a2,r0⟩:=Gj h0;have gm:=um a1 a2;obtain ⟨ans,ha⟩:=zEX (Jx L rows l1 l2 l3 l4);rw [<- ha];unfold Jx at ha;rw [Xz] at ha;have HN:=zH Xz;obtain ⟨kl,kc,Ik,ib⟩:=Eh w 101 41 (jb L) #[ve A0 n0 c0,ve A1 n1 c1,ve A2 n2 c2,ve A3 n3 c3,ve A4 n4 c4];generalize tj l1 L.k L.p=b1 at *;generalize tj l2 (L.k+L.block-2) L.p=b2 at *;generalize tj l3 (L.block+2*L.queries-1) L.p=b3 at *;generalize tj l4 L.n zb=b4 at *;generalize L.k+L.block-2=m2 at *;generalize L.block+2*L.queries-1=m3 at *;generalize L.a+L.b+L.b+L.b=T at *;have HA:=zH ha;clear ha h0 h1 h2 h3 h4 hL a1 a2 Xz;unfold jb at *;unfold zb at HE4;go_enter func57,ntmps57
 go_wp2_with fail
 generalize (w.alloc _).alloc _=w1 at kl kc Ik ib |-;refine (HC.out _).mono ?_;rintro e w2 ⟨rfl,Ba⟩;have ks:=Blk.new w2 216 #[vd vq L.k,vd vq m2,vd vq m3];have uj:=(Ca w2.1.size w2).alloc zR (.cells #[vd vq L.k,vd vq m2,vd vq m3] 216);replace kl:=ja kl Ba;replace kc:=ja kc Ba;replace kl:=ja kl uj;replace kc:=ja kc uj;have da:=pa (pa Ik Ba) uj;go_upto_region 2 with fail
 generalize w2.alloc _=w3 at kl kc ks da |-;generalize w2.1.size=gs at ks |-;clear Ik Ba uj ib HC;have cl:=kl.cell;have cc:=kc.cell;have cs:=ks.cell;have ll:=kl.lt;have lc:=kc.lt;have ls:=ks.lt;by_cases hT:n0=T
 rotate_left
 ·have HF:=zH (show ans=false by rw [HA.out,db hT];rfl)
  have t1:((n0:Int)!=T)=true:=by rw [Bf];omega
  have t2:((n0:Int)==T)=false:=by rw [Gd];omega
  clear HA hT;refine Pg (Ub) (ra) [] [] [0,1,2,3,4,5,6,7,8,9,10,11,12,13,14,15,16,17,18,19,20,21,22,23,24,25] (by kernel_rfl) (by kernel_rfl) ?_
  refine Qg (ra) ?_;intro Wc ia;refine Je ?_;refine Dd (ra) rfl rfl rfl rfl (fun _ _ _ h=>h) (fun _=>by go_simp <;> rfl) (fun w' hR=>HT.out _) ?_
  refine zPU ?_;refine Je ?_;refine Kr rfl ?_;intro wd ke;replace ia:=(ra).trans _ _ _ ia ke;clear ke;go_wp2_with fail
  go_ret
  exact ⟨by rw [HF.out];rfl,pa da.drew ia⟩
 have t1:((n0:Int)!=T)=false:=by rw [iu];omega
 have t2:((n0:Int)==T)=true:=by rw [qi];omega
 have HB:=zH (show ans=(rows.all (fun r=>tj r L.queries L.p)&&(b1&&(b2&&(b3&&b4)))) by rw [HA.out,tb hT];rfl)
 clear HA hT;cases b1
 ·have HF:=zH (show ans=false by rw [HB.out];simp)
  refine Pg (Ub) (ra) [] [] [0,1,2,3,4,5,6,7,8,9,10,11,12,13,14,15,16,17,18,19,20,21,22,23,24,25] (by kernel_rfl) (by kernel_rfl) ?_
  refine Qg (ra) ?_;intro Wc ia;refine Je ?_;refine Dd (ra) rfl rfl rfl rfl (fun _ _ _ h=>h) (fun _=>by go_simp <;> rfl) (fun w' hR=>HT.out _) ?_
  refine zPU ?_;refine Je ?_;refine Dd (ra) rfl rfl rfl rfl (fun _ _ _ h=>h) (fun _=>by go_simp <;> rfl) (fun w' hR=>Ip.out _ (pa da.drew (pa ia hR))) ?_
  refine zPU ?_;refine Je ?_;refine Kr rfl ?_;intro wd ke;replace ia:=(ra).trans _ _ _ ia ke;clear ke;go_wp2_with fail
  go_ret
  exact ⟨by rw [HF.out];rfl,pa da.drew ia⟩
 cases b2
 ·have HF:=zH (show ans=false by rw [HB.out];simp)
  refine Pg (Ub) (ra) [] [] [0,1,2,3,4,5,6,7,8,9,10,11,12,13,14,15,16,17,18,19,20,21,22,23,24,25] (by kernel_rfl) (by kernel_rfl) ?_
  refine Qg (ra) ?_;intro Wc ia;refine Je ?_;refine Dd (ra) rfl rfl rfl rfl (fun _ _ _ h=>h) (fun _=>by go_simp <;> rfl) (fun w' hR=>HT.out _) ?_
  refine zPU ?_;refine Je ?_;refine Dd (ra) rfl rfl rfl rfl (fun _ _ _ h=>h) (fun _=>by go_simp <;> rfl) (fun w' hR=>Ip.out _ (pa da.drew (pa ia hR))) ?_
  refine zPU ?_;refine Je ?_;refine Dd (ra) rfl rfl rfl rfl (fun _ _ _ h=>h) (fun _=>by go_simp <;> rfl) (fun w' hR=>ji.out _ (pa da.drew (pa ia hR))) ?_
  refine zPU ?_;refine Je ?_;refine Kr rfl ?_;intro wd ke;replace ia:=(ra).trans _ _ _ ia ke;clear ke;go_wp2_with fail
  go_ret
  exact ⟨by rw [HF.out];rfl,pa da.drew ia⟩
 refine Pg (Ub) (ra) [] [] [0,1,2,3,4,5,6,7,8,9,10,11,12,13,14,15,16,17,18,19,20,21,22,23,24,25] (by kernel_rfl) (by kernel_rfl) ?_
 refine Qg (ra) ?_;intro Wc ia;refine Je ?_;refine Dd (ra) rfl rfl rfl rfl (fun _ _ _ h=>h) (fun _=>by go_simp <;> rfl) (fun w' hR=>HT.out _) ?_
 refine zPU ?_;refine Je ?_;refine Dd (ra) rfl rfl rfl rfl (fun _ _ _ h=>h) (fun _=>by go_simp <;> rfl) (fun w' hR=>Ip.out _ (pa da.drew (pa ia hR))) ?_
 refine zPU ?_;refine Je ?_;refine Dd (ra) rfl rfl rfl rfl (fun _ _ _ h=>h) (fun _=>by go_simp <;> rfl) (fun w' hR=>ji.out _ (pa da.drew (pa ia hR))) ?_
 refine zPU ?_;refine Je ?_;refine Kr rfl ?_;intro wd ke;replace ia:=(ra).trans _ _ _ ia ke;clear ke;replace kl:=kl.drew.below ia kl.lt;replace kc:=kc.drew.below ia kc.lt;replace ks:=ks.drew.below ia ks.lt;replace da:=pa da.drew ia;clear cl cc cs ll lc ls ia Ip ji HT;have cl:=kl.cell;have cc:=kc.cell;have cs:=ks.cell;have sR:=zH (LD.out _ da);cases b3
 ·have HF:=zH (show ans=false by rw [HB.out];simp)
  go_wp2_with fail
  refine sR.out.mono ?_;rintro e w5 ⟨rfl,Ya⟩;go_wp2;go_ret
  exact ⟨by rw [HF.out];rfl,pa da Ya⟩
 go_wp2_with fail
 refine sR.out.mono ?_;rintro e w5 ⟨rfl,Ya⟩;replace kl:=ja kl Ya;replace kc:=ja kc Ya;replace da:=pa da Ya;clear cl cc cs ks Ya sR LD;have cl:=kl.cell;have cc:=kc.cell;have tR:=zH (HE4.out _ da);cases b4
 ·have HF:=zH (show ans=false by rw [HB.out];simp)
  go_wp2_with fail
  refine tR.out.mono ?_;rintro e w6 ⟨rfl,sc⟩;go_wp2;go_ret
  exact ⟨by rw [HF.out];rfl,pa da sc⟩
 go_wp2_with fail
 refine tR.out.mono ?_;rintro e w6 ⟨rfl,sc⟩;replace kl:=ja kl sc;replace kc:=ja kc sc;replace da:=pa da sc;clear cl cc sc tR HE4;have He:=zH (show ans=rows.all (fun r=>tj r L.queries L.p) by rw [HB.out];simp)
 clear HB;have cc:=kc.cell;go_wp2_with fail
 clear cc;go_loopw [55] (fun y wr=>∃ i:Nat,i <= n0 /\ y=vd vq i /\ Hid ((rows.take i).all (fun r=>tj r L.queries L.p)=true) /\ Blk wr w.1.size 101 #[vd vn L.p,vd vq L.block,vd vq L.queries,vd vq L.k,vd vq L.n,vd vq L.secret,vd vq L.rows,vd vq L.a,vd vq L.b,vd vq L.b,vd vq L.b] /\ vA w.1.size w wr) (fun y _=>n0-(intOf y).toNat)
 case atStart=>exact ⟨0,Mb _,rfl,rfl,kl,da⟩
 case round =>
  clear kl kc da;obtain ⟨i,hi,rfl,HTk,kl,da⟩:=hrel;by_cases ta:i<n0
  ·have g1:(0:Int)<=i:=by omega
   have g2:(i:Int)<n0:=by omega
   have i1:i<rows.length:=by rw [HN.out];exact ta
   obtain ⟨x1,y1,B1,m1,k1,rfl,v1,d1,s1⟩:=Ju (r0.below jA da) i1;have HS:=zH (QL B1 m1 k1 L.queries L.p rows[i] wr s1);have cl:=kl.cell;clear s1;cases hx:tj rows[i] L.queries L.p
   ·have HF:=zH (He.out.trans (zBk i1 hx))
    rw [hx] at HS;clear hx HTk i1;go_wp2_with fail
    refine HS.out.mono ?_;rintro e w7 ⟨rfl,xd⟩;go_wp2;go_ret
    exact ⟨by rw [HF.out];rfl,pa da xd⟩
   ·have iB:=zH (zBl HTk.out i1 hx)
    rw [hx] at HS;clear hx HTk i1;go_wp2_with fail
    refine HS.out.mono ?_;rintro e w7 ⟨rfl,xd⟩;replace kl:=ja kl xd;replace da:=pa da xd;clear cl xd d1 v1;go_wp2
    go_roundw
    case rel=>exact ⟨i+1,by omega,by go_num,iB.out,kl,da⟩
    case measure=>simp [intOf];omega
  ·obtain rfl:i=n0:=by omega
   have HF:=zH (show ans=true by rw [He.out];have:=HTk.out;rwa [<- HN.out,Zr] at this)
   go_wp2;go_ret
   exact ⟨by rw [HF.out];rfl,da⟩
def kG (p:Nat) (a b:List Nat):List Nat:=Jq p a (Gr p b (Zf p 1))
def ju (p:Nat) (rows:List (List Nat)) (al:Nat):Nat -> List Nat
 | 0=>[]
 | i+1=>Jq p (ju p rows al i) (Gr p (rows.getD i []) (Og p al (i+1)))
def wt (p:Nat) (rows ws:List (List Nat)):Nat -> List Nat
 | 0=>[]
 | i+1=>Jq p (wt p rows ws i) (Rk p (ws.getD i []) (rows.getD i []))
def GH (p a b:Nat) (rows:List (List Nat)) (j:Nat):List Nat:=kG p (Rk p (rows.getD (a+j) []) (rows.getD (a+b+j) [])) (rows.getD (a+b+b+j) [])
def Zn (p a b:Nat) (rows:List (List Nat)) (be:Nat):Nat -> List Nat
 | 0=>[]
 | j+1=>Jq p (Zn p a b rows be j) (Gr p (GH p a b rows j) (Og p be (j+1)))
theorem YJ {rows:List (List Nat)} {M:Nat} (h:∀ r∈rows,r.length <= M) (i:Nat):(rows.getD i []).length <= M:=by
 rw [Cb];by_cases hi:i<rows.length
 ·rw [Xb hi];exact h _ (zf hi)
 ·rw [Co (by omega)];exact Mb _
theorem rY {p al M:Nat} {rows:List (List Nat)} (h:∀ r∈rows,r.length <= M):∀ i,(ju p rows al i).length <= M
 | 0=>Mb _
 | i+1=>by
  have h1:=Ex p (ju p rows al i) (Gr p (rows.getD i []) (Og p al (i+1)));have h2:=QK p (rows.getD i []) (Og p al (i+1));have h3:=rY (p:=p) (al:=al) h i;have h4:=YJ h i;rw [ju];omega
theorem o4 {p M m:Nat} {rows ws:List (List Nat)} (h:∀ r∈rows,r.length <= M) (h2:∀ r∈ws,r.length <= m):∀ i,(wt p rows ws i).length <= m-1+M
 | 0=>Mb _
 | i+1=>by
  have h3:=Ex p (wt p rows ws i) (Rk p (ws.getD i []) (rows.getD i []));have h4:=GM p (ws.getD i []) (rows.getD i []);have h5:=o4 (p:=p) h h2 i;have h6:=YJ h i;have h7:=YJ h2 i;rw [wt];omega
theorem zHF (p:Nat) (a b:List Nat):(kG p a b).length <= max a.length b.length:=by
 have h1:=Ex p a (Gr p b (Zf p 1));have h2:=QK p b (Zf p 1);unfold kG;omega
theorem zDi {p a b M:Nat} {rows:List (List Nat)} (h:∀ r∈rows,r.length <= M) (j:Nat):(GH p a b rows j).length <= M-1+M:=by
 have h1:=zHF p (Rk p (rows.getD (a+j) []) (rows.getD (a+b+j) [])) (rows.getD (a+b+b+j) []);have h2:=GM p (rows.getD (a+j) []) (rows.getD (a+b+j) []);have h3:=YJ h (a+j);have h4:=YJ h (a+b+j);have h5:=YJ h (a+b+b+j);unfold GH;omega
theorem Z7 {p a b be M:Nat} {rows:List (List Nat)} (h:∀ r∈rows,r.length <= M):∀ i,(Zn p a b rows be i).length <= M-1+M
 | 0=>Mb _
 | i+1=>by
  have h1:=Ex p (Zn p a b rows be i) (Gr p (GH p a b rows i) (Og p be (i+1)));have h2:=QK p (GH p a b rows i) (Og p be (i+1));have h3:=Z7 (p:=p) (a:=a) (b:=b) (be:=be) h i;have h4:=zDi (p:=p) (a:=a) (b:=b) h i;rw [Zn];omega
theorem wT {rows:List (List Nat)} {i:Nat} (h:i<rows.length):rows.getD i []=rows[i]:=by rw [Cb,Xb h];rfl
theorem zBC (x p B:Nat) (w:vw) (hc:w.cell? ⟨B,0,vD⟩=vE (vd vn p)) :
  vB prog 293 #[vd vn x, .pointer (vE ⟨B,0,vD⟩)] w fun e w'=>e=vl (.bool (decide (p <= x))) /\ vA w.1.size w w':=by
 obtain ⟨v,hv⟩:=zEX (decide (p <= x));have e1:decide ((p:Int)<=x)=v:=by rw [hv];by_cases h:p <= x <;> simp [h]
 rw [<- hv];have HV:=zH hv.symm;clear hv;go_enter func293,ntmps293
 go_wp2_with fail
 go_ret
 exact ⟨by first | rfl | (simp [HV.out]),Ca _ _⟩
theorem zBy (A:Option vy) (n c p B:Nat) (l:List Nat) (w:vw) (hl:RWd w [ve A n c] l) (hc:w.cell? ⟨B,0,vD⟩=vE (vd vn p)) :
  vB prog 278 #[ve A n c, .func (.func 293) #[] #[.pointer (vE ⟨B,0,vD⟩)]] w fun e w'=>∃ r:Int,e=vl (vd vq r) /\ decide (0 <= r)=!(l.all fun x=>decide (x<p)) /\ vA w.1.size w w':=by
 obtain ⟨rfl,h1,h2,ta,Ra⟩:=Nb hl;have gm:=um h1 h2;have lB:B<w.1.size:=Jf _ _ hc;have HX:=zH (fun x w' (hb:vA w.1.size w w')=>zBC x p B w' ((hb.cell (p:=⟨B,0,vD⟩) lB).trans hc))
 clear hl h1 h2 ta hc lB;obtain ⟨ans,ha⟩:=zEX (!(l.all fun x=>decide (x<p)))
 rw [<- ha];have HA:=zH ha;clear ha;go_enter func278,ntmps278
 go_wp2_with fail
 go_loopw [5,8] (fun _ y wr=>∃ i:Nat,i <= l.length /\ y=vd vq i /\ Hid ((l.take i).all (fun x=>decide (x<p))=true) /\ vA w.1.size w wr) (fun _ y _=>l.length-(intOf y).toNat)
 case atStart=>exact ⟨0,Mb _,rfl,rfl,Ca _ _⟩
 case round =>
  obtain ⟨i,hi,rfl,HT,Db⟩:=hrel;by_cases ta:i<l.length
  ·have g1:(0:Int)<=i:=by omega
   have g2:(i:Int)<l.length:=by omega
   obtain ⟨b,q,rfl,Gb,hc⟩:=Fg (Ra.below Db) ta;by_cases hx:p <= l.getD i 0
   ·have HF:=zH (show ans=true by rw [HA.out,PX ta hx];rfl)
    have HC:=zH (by have:=HX.out (l.getD i 0) wr Db;rw [tb hx] at this;exact this)
    generalize l.getD i 0=z at *;clear hx HT;go_wp2_with fail
    refine HC.out.mono ?_;rintro e w1 ⟨rfl,Ia⟩;go_wp2;go_ret
    exact ⟨_,rfl,by rw [HF.out];exact tb g1,pa Db Ia⟩
   ·have iB:=zH (QX HT.out ta hx)
    have HC:=zH (by have:=HX.out (l.getD i 0) wr Db;rw [db hx] at this;exact this)
    generalize l.getD i 0=z at *;clear hx HT;go_wp2_with fail
    refine HC.out.mono ?_;rintro e w1 ⟨rfl,Ia⟩;replace Db:=pa Db Ia;clear hc Ia Gb;go_wp2
    go_roundw
    case rel=>exact ⟨i+1,by omega,by go_num,iB.out,Db⟩
    case measure=>simp [intOf];omega
  ·obtain rfl:i=l.length:=by omega
   have HF:=zH (show ans=false by rw [HA.out];have:=HT.out;rw [Zr] at this;rw [this];rfl)
   go_wp2;go_ret
   exact ⟨_,rfl,by rw [HF.out];rfl,Db⟩
theorem zBx (A:Option vy) (n c p B:Nat) (l:List Nat) (w:vw) (hl:RWd w [ve A n c] l) (hc:w.cell? ⟨B,0,vD⟩=vE (vd vn p)) :
  vB prog 212 #[ve A n c, .func (.func 293) #[] #[.pointer (vE ⟨B,0,vD⟩)]] w fun e w'=>e=vl (.bool (!(l.all fun x=>decide (x<p)))) /\ vA w.1.size w w':=by
 have HI:=zH (zBy A n c p B l w hl hc);clear hl hc;generalize (!(l.all fun x=>decide (x<p)))=ans at *
 go_enter func212,ntmps212
 go_wp2_with fail
 refine HI.out.mono ?_;rintro e w1 ⟨r,rfl,hr,Ia⟩;go_wp2;go_ret
 exact ⟨by first | rfl | (simp [hr]),Ia⟩
theorem WN (L:Ma) (A:Option vy) (n c:Nat) (l:List Nat) (w:vw) (hl:RWd w [ve A n c] l) :
  vB prog 251 #[vf (jb L),ve A n c] w fun e w'=>e=vl (.bool (l.all fun x=>decide (x<L.p))) /\ vA w.1.size w w':=by
 unfold jb;have Ik:vA w.1.size w (w.alloc (.cells #[vd vn L.p,vd vq L.block,vd vq L.queries,vd vq L.k,vd vq L.n,vd vq L.secret,vd vq L.rows,vd vq L.a,vd vq L.b,vd vq L.b,vd vq L.b] 101)):=(Ca _ _).alloc zR _;have kb:=Blk.new w 101 #[vd vn L.p,vd vq L.block,vd vq L.queries,vd vq L.k,vd vq L.n,vd vq L.secret,vd vq L.rows,vd vq L.a,vd vq L.b,vd vq L.b,vd vq L.b];have HC:=zH (zBx A n c L.p w.1.size l (w.alloc (.cells #[vd vn L.p,vd vq L.block,vd vq L.queries,vd vq L.k,vd vq L.n,vd vq L.secret,vd vq L.rows,vd vq L.a,vd vq L.b,vd vq L.b,vd vq L.b] 101)) (Bb Ik hl) (by rw [kb.cell];rfl))
 clear hl kb;generalize (l.all fun x=>decide (x<L.p))=v at *
 go_enter func251,ntmps251
 go_wp2_with fail
 refine HC.out.mono ?_;rintro e w1 ⟨rfl,Ia⟩;go_wp2;go_ret
 exact ⟨by cases v <;> rfl,pa Ik Ia⟩
def yv (L:Ma) (a b c:List Nat):Bool :=
 decide (a.length=L.k)&&decide (b.length=L.k+L.block-1)&&decide (c.length=2*L.k-1)&&(a.all fun x=>decide (x<L.p))&&(b.all fun x=>decide (x<L.p))&&(c.all fun x=>decide (x<L.p))
theorem sZ (L:Ma) (A B C:Option vy) (n1 c1 n2 c2 n3 c3:Nat) (a b c:List Nat) (w:vw) (hL:Lb L) (ha:RWd w [ve A n1 c1] a) (hb:RWd w [ve B n2 c2] b) (hc:RWd w [ve C n3 c3] c) (hn:n1=a.length /\ n2=b.length /\ n3=c.length) :
  vB prog 247 #[vf (jb L),ve A n1 c1,ve B n2 c2,ve C n3 c3] w fun e w'=>e=vl (.bool (yv L a b c)) /\ vA w.1.size w w':=by
 obtain ⟨rfl,rfl,rfl⟩:=hn;have Ia:=hL.b1;have Ba:=hL.b2;have Yj:=hL.q1;have Eu:=hL.q2;have hk:=hL.k;have HA:=zH (fun w' (h:vA w.1.size w w')=>WN L A a.length c1 a w' (Bb h ha))
 have HB:=zH (fun w' (h:vA w.1.size w w')=>WN L B b.length c2 b w' (Bb h hb))
 have HC:=zH (fun w' (h:vA w.1.size w w')=>WN L C c.length c3 c w' (Bb h hc))
 obtain ⟨t1,tF⟩:=zEX (L.k+L.block);obtain ⟨t2,ht2⟩:=zEX (L.k+L.block-1);obtain ⟨t3,ht3⟩:=zEX (2*L.k);obtain ⟨t4,ht4⟩:=zEX (2*L.k-1);have e1:(L.k:Int)+L.block=(t1:Int):=by omega
 have e2:=ye t1;have e3:(t1:Int)-1=(t2:Int):=by omega
 have e4:=ye t2;have e5:(2:Int)*L.k=(t3:Int):=by omega
 have e6:=ye t3;have e7:(t3:Int)-1=(t4:Int):=by omega
 have e8:=ye t4;have HE:=zH (show yv L a b c=(decide (a.length=L.k)&&decide (b.length=t2)&&decide (c.length=t4)&&(a.all fun x=>decide (x<L.p))&&(b.all fun x=>decide (x<L.p))&&(c.all fun x=>decide (x<L.p))) by rw [ht2,ht4];rfl)
 clear tF ht2 ht3 ht4 Ia Ba Yj Eu hk hL ha hb hc;generalize (a.all fun x=>decide (x<L.p))=b1 at *
 generalize (b.all fun x=>decide (x<L.p))=b2 at *
 generalize (c.all fun x=>decide (x<L.p))=b3 at *
 obtain ⟨R,hR⟩:=zEX (yv L a b c);rw [<- hR] at HE |-;clear hR;generalize a.length=n1 at *;generalize b.length=n2 at *;generalize c.length=n3 at *;unfold jb at *;have da:vA w.1.size w (w.alloc (.cells #[vd vn L.p,vd vq L.block,vd vq L.queries,vd vq L.k,vd vq L.n,vd vq L.secret,vd vq L.rows,vd vq L.a,vd vq L.b,vd vq L.b,vd vq L.b] 101)):=(Ca _ _).alloc zR _;have kl:=Blk.new w 101 #[vd vn L.p,vd vq L.block,vd vq L.queries,vd vq L.k,vd vq L.n,vd vq L.secret,vd vq L.rows,vd vq L.a,vd vq L.b,vd vq L.b,vd vq L.b];by_cases h1:n1=L.k
 rotate_left
 ·have d1:((n1:Int)!=L.k)=true:=by simp;omega
  have HF:=zH (show R=false by rw [HE.out,db h1];rfl)
  clear h1 HE HA HB HC;go_enter func247,ntmps247
  go_wp2;go_ret
  exact ⟨by rw [HF.out];rfl,da⟩
 have d1:((n1:Int)!=L.k)=false:=by simp;omega
 by_cases h2:n2=t2
 rotate_left
 ·have d2:((n2:Int)!=t2)=true:=by simp;omega
  have HF:=zH (show R=false by rw [HE.out,db h2];simp)
  clear h1 h2 HE HA HB HC;go_enter func247,ntmps247
  go_wp2;go_ret
  exact ⟨by rw [HF.out];rfl,da⟩
 have d2:((n2:Int)!=t2)=false:=by simp;omega
 by_cases h3:n3=t4
 rotate_left
 ·have d3:((n3:Int)!=t4)=true:=by simp;omega
  have HF:=zH (show R=false by rw [HE.out,db h3];simp)
  clear h1 h2 h3 HE HA HB HC;go_enter func247,ntmps247
  go_wp2;go_ret
  exact ⟨by rw [HF.out];rfl,da⟩
 have d3:((n3:Int)!=t4)=false:=by simp;omega
 have HF:=zH (show R=(b1&&b2&&b3) by rw [HE.out,tb h1,tb h2,tb h3];rfl)
 clear h1 h2 h3 HE;go_enter func247,ntmps247
 go_wp2_with fail
 generalize w.alloc _=w1 at kl da |-;refine (HA.out _ da).mono ?_;rintro e w2 ⟨rfl,xa⟩;replace kl:=ja kl xa;replace da:=pa da xa;clear xa;cases b1
 ·go_wp2
  go_ret
  exact ⟨by rw [HF.out];rfl,da⟩
 have cl:=kl.cell;go_wp2_with fail
 refine (HB.out _ da).mono ?_;rintro e w3 ⟨rfl,xa⟩;replace kl:=ja kl xa;replace da:=pa da xa;clear xa cl;cases b2
 ·go_wp2
  go_ret
  exact ⟨by rw [HF.out];rfl,da⟩
 have cl:=kl.cell;go_wp2_with fail
 refine (HC.out _ da).mono ?_;rintro e w4 ⟨rfl,xa⟩;go_wp2;go_ret
 exact ⟨by rw [HF.out];simp,pa da xa⟩
def WK (p:Nat) (a b:List (List Nat)):Nat -> Nat
 | 0=>0
 | k+1=>(WK p a b k+ou p (a.getD k []) (b.getD k []) (a.getD k []).length)%p
theorem dW {w:vw} {base n:Nat} {v:vx} {l:List Nat} (h:w.ownsRow base 22 1 v n (Oa l)) (hl:∀ x∈l,x<18446744073709551616):∃ A c,v=ve A n c /\ RWd w [ve A n c] l:=by
 obtain ⟨A,c,rfl,-⟩:=de h;exact ⟨A,c,rfl,yt h hl⟩
theorem u6 {w:vw} {P:se} {S:PS} (h:gh w P S):∀ x∈Dj P,x<18446744073709551616:=by
 have hc:∀ {A:Option vy} {n c:Nat} {ls:List (List Nat)},RSl 1 RWd w [ve A n c] ls -> ∀ l∈ls,∀ x∈l,x<18446744073709551616:=fun hh l hl x hx=>by
  obtain ⟨i,hi,rfl⟩:=Hm hl;obtain ⟨b,q,A1,n1,c1,-,-,-,hr⟩:=Q4 (UI hh).2.2.2 hi;exact (Ny hr).2.2.2.1 x hx
 intro x hx;simp only [Dj,Np,Fo,List.mem_flatten] at hx;rcases hx with (((((rfl | hx) | hx) | hx) | ⟨l,hl,hx⟩) | hx) | ⟨l,hl,hx⟩
 ·exact h.root
 ·exact (Ny h.code).2.2.2.1 x hx
 ·exact (Ny h.linear).2.2.2.1 x hx
 ·exact (Ny h.quad).2.2.2.1 x hx
 ·exact hc h.cols l hl x hx
 ·exact (Ny h.salts).2.2.2.1 x hx
 ·exact hc h.paths l hl x hx
def Is (n size:Nat) (l:List Nat):List (List Nat):=(List.range n).map fun i=>(l.drop (i*size)).take size
def mq (L:Ma) (j:Nat) (x:List Nat):se :=
 let a:=1+L.k
 let b:=L.k+L.block-1
 let c:=2*L.k-1
 let t:=L.a+L.b+L.b+L.b+3
 {root:=x.getD 0 0,code:=(x.drop 1).take L.k,linear:=(x.drop a).take b,quad:=((x.drop a).drop b).take c,
  cols:=Is L.queries t (((x.drop a).drop b).drop c),salts:=((((x.drop a).drop b).drop c).drop (L.queries*t)).take L.queries,
  paths:=Is L.queries j (((((x.drop a).drop b).drop c).drop (L.queries*t)).drop L.queries) }
def RWF (C:vw -> Prop) (cs:List vx) (l:List Nat):Prop:=∀ u,C u -> RWd u cs l
structure Cut (C:vw -> Prop) (A:Option vy) (l h c:Nat) (A':Option vy) (n' c':Nat) (y:List Nat):Prop where
 eq:sliced A l h c 1=ve A' n' c'
 rd:RWF C [ve A' n' c'] y
theorem jW {w:vw} {g:Nat} {t:vz} {y0 y1 y2 y3 y4 y5 y6:vx} (k:Blk w g t #[y0,y1,y2,y3,y4,y5,y6]) (x0 x1 x2 x3 x4 x5 x6:vx):Blk (((((((w.setCell ⟨g,0,vD⟩ x0).setCell ⟨g,1,vD⟩ x1).setCell ⟨g,2,vD⟩ x2).setCell ⟨g,3,vD⟩ x3).setCell ⟨g,4,vD⟩ x4).setCell ⟨g,5,vD⟩ x5).setCell ⟨g,6,vD⟩ x6) g t #[x0,x1,x2,x3,x4,x5,x6]:=by
 have h:=(((((((k.set_ 0 x0).set_ 1 x1).set_ 2 x2).set_ 3 x3).set_ 4 x4).set_ 5 x5).set_ 6 x6)
 simpa using h
theorem lW {w:vw} {g:Nat} (x0 x1 x2 x3 x4 x5 x6:vx):w.grownBy (((((((w.setCell ⟨g,0,vD⟩ x0).setCell ⟨g,1,vD⟩ x1).setCell ⟨g,2,vD⟩ x2).setCell ⟨g,3,vD⟩ x3).setCell ⟨g,4,vD⟩ x4).setCell ⟨g,5,vD⟩ x5).setCell ⟨g,6,vD⟩ x6) (vE g):=by
 iterate 7 refine Wg ?_ (.inl rfl) _
 exact Ee w _
theorem pH (n s:Nat) (l:List Nat):(Is n s l).length=n:=by simp [Is]
theorem vS (n s:Nat) (l:List Nat) (i:Nat) (h:i<(Is n s l).length):(Is n s l)[i]=(l.drop (i*s)).take s:=by simp [Is]
theorem Y6 {w w':vw} {base B:Nat} {e:vz} {size:Nat} {v:vx} {n:Nat} {xs:List vx} (h:w.ownsRow base e size v n xs) (hg:w.grownBy w' (vE B)) (hB:B<base):w'.ownsRow base e size v n xs:=by
 obtain ⟨h1,h2⟩:=h;refine ⟨h1,?_⟩;rcases h2 with h2 | ⟨g,cap,cur,hv,Lk,hh,r⟩
 ·exact Or.inl h2
 ·exact Or.inr ⟨g,cap,cur,hv,Lk,by rw [hg.block g (Nt.1 hh).1 (fun e=>by have:=Za e;omega)];exact hh,r⟩
theorem zDJ:(prog.info? 28).map (fun i=>(i.zero,i.size,i.bytes))=vE (vE (ve vD 0 0),1,24):=by kernel_rfl
theorem zCD:zq prog 39 28 1 24 (ve vD 0 0):=by
 obtain ⟨i0,hi,Kh,kd,Qe⟩:=info_parts zDJ;exact ⟨underlying39,⟨i0,hi,Kh,kd,Qe⟩,rfl,by omega⟩
def tc (L:Ma) (j:Nat) (i:Nat):Nat × Nat :=
 if i=0 then (L.k,L.p) else if i=1 then (L.k+L.block-1,L.p) else if i=2 then (2*L.k-1,L.p)
 else if i<3+L.queries then (L.a+L.b+L.b+L.b+3,L.p) else if i=3+L.queries then (L.queries,Me) else (j,Me)
def Tg (L:Ma) (P:se) (i:Nat):List Nat :=
 if i=0 then P.code else if i=1 then P.linear else if i=2 then P.quad
 else if i<3+L.queries then P.cols.getD (i-3) [] else if i=3+L.queries then P.salts else P.paths.getD (i-4-L.queries) []
def BA (L:Ma) (j:Nat) (b:List Nat):se :=
 let u:=Oh (Me-1) b false
 let f:=xt (tc L j) u.2.1 u.2.2
 {root:=u.1,code:=f 0,linear:=f 1,quad:=f 2,cols:=(List.range L.queries).map fun i=>f (3+i),salts:=f (3+L.queries),paths:=(List.range L.queries).map fun i=>f (4+L.queries+i) }
def aG (L:Ma) (j:Nat) (b:List Nat):List Nat × Bool :=
 Uk (tc L j) (Oh (Me-1) b false).2.1 (Oh (Me-1) b false).2.2 (4+2*L.queries)
theorem VQ (L:Ma) (j:Nat):∀ i,i <= L.queries -> Pe (tc L j) (3+i)=L.k+(L.k+L.block-1)+(2*L.k-1)+i*(L.a+L.b+L.b+L.b+3)
 | 0,_=>by simp [Pe,tc]
 | i+1,h=>by
  have e:Pe (tc L j) (3+(i+1))=Pe (tc L j) (3+i)+(tc L j (3+i)).1:=rfl;rw [e,VQ L j i (by omega),Nat.succ_mul i]
  simp only [tc];rw [ya (by omega),ya (by omega),ya (by omega),Na (by omega)]
  omega
theorem zHJ (L:Ma) (j:Nat):Pe (tc L j) (4+L.queries)=L.k+(L.k+L.block-1)+(2*L.k-1)+L.queries*(L.a+L.b+L.b+L.b+3)+L.queries:=by
 have e:Pe (tc L j) (3+L.queries+1)=Pe (tc L j) (3+L.queries)+(tc L j (3+L.queries)).1:=rfl;rw [show 4+L.queries=3+L.queries+1 by omega,e,VQ L j _ zR]
 simp only [tc];rw [ya (by omega),ya (by omega),ya (by omega),ya (by omega),Na trivial]
theorem CW (L:Ma) (j:Nat):∀ i,i <= L.queries -> Pe (tc L j) (4+L.queries+i)=L.k+(L.k+L.block-1)+(2*L.k-1)+L.queries*(L.a+L.b+L.b+L.b+3)+L.queries+i*j
 | 0,_=>by rw [ss,zHJ];simp
 | i+1,h=>by
  have e:Pe (tc L j) (4+L.queries+(i+1))=Pe (tc L j) (4+L.queries+i)+(tc L j (4+L.queries+i)).1:=rfl;rw [e,CW L j i (by omega),Nat.succ_mul i]
  simp only [tc];rw [ya (by omega),ya (by omega),ya (by omega),ya (by omega),ya (by omega)]
  omega
theorem zHI (L:Ma) (j:Nat):tn L j=8*(1+Pe (tc L j) (4+2*L.queries)):=by
 rw [show 4+2*L.queries=4+L.queries+L.queries by omega,CW L j _ zR]
 unfold tn;rw [Nat.mul_add L.queries _ j,Nat.mul_add L.queries _ 1];omega
theorem GZ (n s:Nat) (l:List Nat) (i:Nat) (h:i<n):(Is n s l).getD i []=(l.drop (i*s)).take s:=by
 rw [Cb,Xb (by rw [pH];exact h),vS]
 rfl
theorem zFZ (L:Ma) (j:Nat) (b:List Nat) (n:Nat) (hn:n=1+Pe (tc L j) (4+2*L.queries)) (i:Nat) (hi:i<4+2*L.queries) :
  Tg L (mq L j (xe n b)) i=xe (tc L j i).1 ((b.drop 8).drop (8*Pe (tc L j) i)):=by
 have hm:=BW (tc L j) (4+2*L.queries) (i+1) (by omega)
 rw [Pe] at hm;have key:∀ s k,s+k <= n -> ((xe n b).drop s).take k=xe k (b.drop (8*s)):=fun s k h=>zIl n b s k h
 rw [fl];have e8:8+8*Pe (tc L j) i=8*(1+Pe (tc L j) i):=by omega
 rw [e8];by_cases h0:i=0
 ·subst h0
  have e:(tc L j 0).1=L.k:=rfl;rw [e] at hm |-;exact key 1 L.k (by simp only [Pe] at hm;omega)
 by_cases h1:i=1
 ·subst h1
  have e:(tc L j 1).1=L.k+L.block-1:=rfl;have es:Pe (tc L j) 1=L.k:=by simp [Pe,tc]
  rw [e,es] at hm |-;exact key (1+L.k) _ (by omega)
 by_cases h2:i=2
 ·subst h2
  have e:(tc L j 2).1=2*L.k-1:=rfl;have es:Pe (tc L j) 2=L.k+(L.k+L.block-1):=by simp [Pe,tc]
  rw [e,es] at hm |-;show (((xe n b).drop (1+L.k)).drop (L.k+L.block-1)).take (2*L.k-1)=_
  rw [fl];exact (key _ _ (by omega)).trans (by rw [Nat.add_assoc])
 by_cases h3:i<3+L.queries
 ·obtain ⟨q,rfl⟩:∃ q,i=3+q:=⟨i-3,by omega⟩
  have e:(tc L j (3+q)).1=L.a+L.b+L.b+L.b+3:=by simp only [tc];rw [ya h0,ya h1,ya h2,Na h3]
  rw [e,VQ L j q (by omega)] at hm |-
  have ep:Tg L (mq L j (xe n b)) (3+q)=(mq L j (xe n b)).cols.getD q []:=by
   simp only [Tg];rw [ya h0,ya h1,ya h2,Na h3,show 3+q-3=q by omega]
  rw [ep];show (Is _ _ ((((xe n b).drop (1+L.k)).drop (L.k+L.block-1)).drop (2*L.k-1))).getD q []=_
  rw [GZ _ _ _ _ (by omega),fl,fl,fl]
  exact (key _ _ (by omega)).trans (by simp only [Nat.add_assoc])
 by_cases h4:i=3+L.queries
 ·subst h4
  have e:(tc L j (3+L.queries)).1=L.queries:=by simp only [tc];rw [ya h0,ya h1,ya h2,ya h3,Na trivial]
  rw [e,VQ L j L.queries zR] at hm |-;have ep:Tg L (mq L j (xe n b)) (3+L.queries)=(mq L j (xe n b)).salts:=by
   simp only [Tg];rw [ya h0,ya h1,ya h2,ya h3,Na trivial]
  rw [ep];show ((((((xe n b).drop (1+L.k)).drop (L.k+L.block-1)).drop (2*L.k-1))).drop (L.queries*(L.a+L.b+L.b+L.b+3))).take L.queries=_
  rw [fl,fl,fl];exact (key _ _ (by omega)).trans (by simp only [Nat.add_assoc])
 ·obtain ⟨q,rfl⟩:∃ q,i=4+L.queries+q:=⟨i-4-L.queries,by omega⟩
  have e:(tc L j (4+L.queries+q)).1=j:=by simp only [tc];rw [ya h0,ya h1,ya h2,ya h3,ya h4]
  rw [e,CW L j q (by omega)] at hm |-
  have ep:Tg L (mq L j (xe n b)) (4+L.queries+q)=(mq L j (xe n b)).paths.getD q []:=by
   simp only [Tg];rw [ya h0,ya h1,ya h2,ya h3,ya h4,show 4+L.queries+q-4-L.queries=q by omega]
  rw [ep];show (Is _ _ (((((xe n b).drop (1+L.k)).drop (L.k+L.block-1)).drop (2*L.k-1)).drop (L.queries*(L.a+L.b+L.b+L.b+3)) |>.drop L.queries)).getD q []=_
  rw [GZ _ _ _ _ (by omega),fl,fl,fl,fl,fl]
  exact (key _ _ (by omega)).trans (by simp only [Nat.add_assoc])
theorem zF0 (L:Ma) (j:Nat) (b:List Nat) (i:Nat) (hi:i<4+2*L.queries):Tg L (BA L j b) i=xt (tc L j) (Oh (Me-1) b false).2.1 (Oh (Me-1) b false).2.2 i:=by
 by_cases h0:i=0
 ·subst h0;rfl
 by_cases h1:i=1
 ·subst h1;rfl
 by_cases h2:i=2
 ·subst h2;rfl
 by_cases h3:i<3+L.queries
 ·obtain ⟨q,rfl⟩:∃ q,i=3+q:=⟨i-3,by omega⟩
  simp only [Tg];rw [ya h0,ya h1,ya h2,Na h3,show 3+q-3=q by omega]
  simp [BA,Cb,show q<L.queries by omega]
 by_cases h4:i=3+L.queries
 ·subst h4
  simp only [Tg];rw [ya h0,ya h1,ya h2,ya h3,Na trivial]
  rfl
 ·obtain ⟨q,rfl⟩:∃ q,i=4+L.queries+q:=⟨i-4-L.queries,by omega⟩
  simp only [Tg];rw [ya h0,ya h1,ya h2,ya h3,ya h4,show 4+L.queries+q-4-L.queries=q by omega]
  simp [BA,Cb,show q<L.queries by omega]
theorem K4 {a b:List (List Nat)} (hl:a.length=b.length) (h:∀ i<a.length,a.getD i []=b.getD i []):a=b:=by
 refine mz hl fun i h1 h2=>?_
 have:=h i h1
 simpa [Cb,Xb h1,Xb h2] using this
theorem zGn (L:Ma) (P P':se) (hr:P.root=P'.root) (h1:P.cols.length=L.queries) (h2:P'.cols.length=L.queries) (h3:P.paths.length=L.queries) (h4:P'.paths.length=L.queries)
  (h:∀ i<4+2*L.queries,Tg L P i=Tg L P' i):P=P':=by
 have e0:=h 0 (by omega)
 have e1:=h 1 (by omega)
 have e2:=h 2 (by omega)
 have e3:P.cols=P'.cols:=K4 (by rw [h1,h2]) fun i hi=>by
  have:=h (3+i) (by omega)
  simp only [Tg] at this;rw [ya (by omega),ya (by omega),ya (by omega),Na (by omega),ya (by omega),ya (by omega),ya (by omega),Na (by omega),show 3+i-3=i by omega] at this
  exact this
 have e4:P.salts=P'.salts:=by
  have:=h (3+L.queries) (by omega)
  simp only [Tg] at this;rw [ya (by omega),ya (by omega),ya (by omega),ya (by omega),Na trivial,ya (by omega),ya (by omega),ya (by omega),ya (by omega),Na trivial] at this
  exact this
 have e5:P.paths=P'.paths:=K4 (by rw [h3,h4]) fun i hi=>by
  have:=h (4+L.queries+i) (by omega)
  simp only [Tg] at this;rw [ya (by omega),ya (by omega),ya (by omega),ya (by omega),ya (by omega),ya (by omega),ya (by omega),ya (by omega),ya (by omega),ya (by omega),show 4+L.queries+i-4-L.queries=i by omega] at this
  exact this
 cases P
 cases P'
 simp only [Tg] at e0 e1 e2
 simp_all
theorem MK (l:List Nat) (n:Nat) (p:Nat) (hl:l.length=n):Tk l (n:Int) p=true↔∀ x∈l,x<p:=by
 simp [Tk,hl]
theorem L4 (ls:List (List Nat)) (m n:Nat) (p:Nat) (hm:ls.length=m) (hl:∀ l∈ls,l.length=n):mw ls (m:Int) (n:Int) p=true↔∀ l∈ls,∀ x∈l,x<p:=by
 simp only [mw,mc,fe,hm,beq_self_eq_true,and_true];exact ⟨fun h l xl=>(MK l n p (hl l xl)).1 (h l xl),fun h l xl=>(MK l n p (hl l xl)).2 (h l xl)⟩
theorem zGb (L:Ma) (j:Nat) (P:se) (h1:P.cols.length=L.queries) (h3:P.paths.length=L.queries) (hl:∀ i<4+2*L.queries,(Tg L P i).length=(tc L j i).1) :
  ei L j P=true↔P.root<Me /\ ∀ i<4+2*L.queries,∀ x∈Tg L P i,x<(tc L j i).2:=by
 have hc:∀ l∈P.cols,∃ i<L.queries,l=Tg L P (3+i) /\ tc L j (3+i)=(L.a+L.b+L.b+L.b+3,L.p):=fun l xl=>by
  obtain ⟨i,hi,rfl⟩:=Hm xl;refine ⟨i,by omega,?_,?_⟩
  ·simp only [Tg]
   rw [ya (by omega),ya (by omega),ya (by omega),Na (by omega),show 3+i-3=i by omega,Cb,Xb hi]
   rfl
  ·simp only [tc]
   rw [ya (by omega),ya (by omega),ya (by omega),Na (by omega)]
 have hp:∀ l∈P.paths,∃ i<L.queries,l=Tg L P (4+L.queries+i) /\ tc L j (4+L.queries+i)=(j,Me):=fun l xl=>by
  obtain ⟨i,hi,rfl⟩:=Hm xl;refine ⟨i,by omega,?_,?_⟩
  ·simp only [Tg]
   rw [ya (by omega),ya (by omega),ya (by omega),ya (by omega),ya (by omega),show 4+L.queries+i-4-L.queries=i by omega,Cb,Xb hi]
   rfl
  ·simp only [tc]
   rw [ya (by omega),ya (by omega),ya (by omega),ya (by omega),ya (by omega)]
 have hs:Tg L P (3+L.queries)=P.salts /\ tc L j (3+L.queries)=(L.queries,Me):=by
  simp only [Tg,tc];rw [ya (by omega),ya (by omega),ya (by omega),ya (by omega),Na trivial,ya (by omega),ya (by omega),ya (by omega),ya (by omega),Na trivial]
  exact ⟨rfl,rfl⟩
 have l0:P.code.length=L.k:=hl 0 (by omega)
 have l1:P.linear.length=L.k+L.block-1:=hl 1 (by omega)
 have l2:P.quad.length=2*L.k-1:=hl 2 (by omega)
 have l3:P.salts.length=L.queries:=by have:=hl (3+L.queries) (by omega);rw [hs.1,hs.2] at this;exact this
 have l4:∀ l∈P.cols,l.length=L.a+L.b+L.b+L.b+3:=fun l xl=>by
  obtain ⟨i,hi,e,e2⟩:=hc l xl;have:=hl (3+i) (by omega)
  rw [<- e,e2] at this;exact this
 have l5:∀ l∈P.paths,l.length=j:=fun l xl=>by
  obtain ⟨i,hi,e,e2⟩:=hp l xl;have:=hl (4+L.queries+i) (by omega)
  rw [<- e,e2] at this;exact this
 unfold ei;simp only [mc,Xk,mu];rw [MK _ _ _ l0,MK _ _ _ l1,MK _ _ _ l2,MK _ _ _ l3,L4 _ _ _ _ h1 l4,L4 _ _ _ _ h3 l5];constructor
 ·rintro ⟨a0,a1,a2,a3,a4,a5,a6⟩
  refine ⟨by omega,fun i hi x hx=>?_⟩
  by_cases h0:i=0
  ·subst h0;exact a1 x hx
  by_cases OB:i=1
  ·subst OB;exact a2 x hx
  by_cases KH:i=2
  ·subst KH;exact a3 x hx
  by_cases Qx:i<3+L.queries
  ·obtain ⟨q,rfl⟩:∃ q,i=3+q:=⟨i-3,by omega⟩
   have hq:q<P.cols.length:=by omega
   obtain ⟨q',Sv,e,e2⟩:=hc _ (zf hq);have e3:Tg L P (3+q)=P.cols[q]:=by
    simp only [Tg];rw [ya h0,ya OB,ya KH,Na Qx,show 3+q-3=q by omega,Cb,Xb hq]
    rfl
   have e4:(tc L j (3+q)).2=L.p:=by simp only [tc];rw [ya h0,ya OB,ya KH,Na Qx]
   rw [e4];rw [e3] at hx;exact a4 _ (zf hq) x hx
  by_cases EE:i=3+L.queries
  ·subst EE
   rw [hs.2];rw [hs.1] at hx;exact a5 x hx
  ·obtain ⟨q,rfl⟩:∃ q,i=4+L.queries+q:=⟨i-4-L.queries,by omega⟩
   have hq:q<P.paths.length:=by omega
   have e3:Tg L P (4+L.queries+q)=P.paths[q]:=by
    simp only [Tg];rw [ya h0,ya OB,ya KH,ya Qx,ya EE,show 4+L.queries+q-4-L.queries=q by omega,Cb,Xb hq]
    rfl
   have e4:(tc L j (4+L.queries+q)).2=Me:=by simp only [tc];rw [ya h0,ya OB,ya KH,ya Qx,ya EE]
   rw [e4];rw [e3] at hx;exact a6 _ (zf hq) x hx
 ·rintro ⟨a0,a⟩
  refine ⟨by omega,a 0 (by omega),a 1 (by omega),a 2 (by omega),fun l xl x hx=>?_,fun x hx=>?_,fun l xl x hx=>?_⟩
  ·obtain ⟨i,hi,e,e2⟩:=hc l xl
   have:=a (3+i) (by omega) x (by rw [<- e];exact hx)
   rwa [e2] at this
  ·have:=a (3+L.queries) (by omega) x (by rw [hs.1];exact hx)
   rwa [hs.2] at this
  ·obtain ⟨i,hi,e,e2⟩:=hp l xl
   have:=a (4+L.queries+i) (by omega) x (by rw [<- e];exact hx)
   rwa [e2] at this
theorem zCc (L:Ma) (j:Nat) (b:List Nat) (n:Nat) (hp:0<L.p) (hb:b.length=tn L j) (hn:8*n=tn L j) :
  (ei L j (mq L j (xe n b))=true -> BA L j b=mq L j (xe n b) /\ aG L j b=([],false)) /\ (ei L j (mq L j (xe n b))=false -> (aG L j b).2=true):=by
 have hs:=zHI L j;have pC:n=1+Pe (tc L j) (4+2*L.queries):=by omega
 have Ze:∀ i,0<(tc L j i).2:=fun i=>by
  simp only [tc];split
  ·exact hp
  split
  ·exact hp
  split
  ·exact hp
  split
  ·exact hp
  split <;> exact (show 0<Me by decide)
 have sC:=zFZ L j b n pC;have hlen:∀ i<4+2*L.queries,(Tg L (mq L j (xe n b)) i).length=(tc L j i).1:=fun i hi=>by rw [sC i hi,FD]
 have YO:=zGb L j (mq L j (xe n b)) (pH _ _ _) (pH _ _ _) hlen;have yC:(mq L j (xe n b)).root=Qh (b.take 8):=by
  show (xe n b).getD 0 0=_
  rw [Cb,wJ n b 0 (by omega)]
  simp
 have h8:8 <= b.length:=by omega
 have hl8:8*Pe (tc L j) (4+2*L.queries) <= (b.drop 8).length:=by rw [Im];omega
 rw [yC] at YO;have oy:(∀ i<4+2*L.queries,∀ x∈Tg L (mq L j (xe n b)) i,x<(tc L j i).2)↔∀ i<4+2*L.queries,∀ x∈xe (tc L j i).1 ((b.drop 8).drop (8*Pe (tc L j) i)),x<(tc L j i).2 :=
  ⟨fun h i hi=>by rw [<- sC i hi];exact h i hi,fun h i hi=>by rw [sC i hi];exact h i hi⟩
 rw [oy] at YO;have hbig:0<Me:=by decide
 constructor
 ·intro h
  obtain ⟨hr,ha⟩:=YO.1 h;have hu:=LV (Me-1) b h8 (by omega)
  have Sc:=RQ (tc L j) (b.drop 8) Ze _ hl8 ha;constructor
  ·refine zGn L _ _ ?_ (by simp [BA]) (pH _ _ _) (by simp [BA]) (pH _ _ _) fun i hi=>?_
   ·rw [yC]
    show (Oh (Me-1) b false).1=_
    rw [hu]
   ·rw [zF0 L j b i hi,hu,sC i hi]
    exact zEf (tc L j) (b.drop 8) Ze _ i hi hl8 ha
  ·unfold aG
   rw [hu];simp only;rw [Sc,fl,List.drop_of_length_le (by omega)]
 ·intro h
  unfold aG;by_cases hr:Qh (b.take 8)<Me
  ·rw [LV (Me-1) b h8 (by omega)]
   refine U9 (tc L j) (b.drop 8) Ze _ hl8 fun ha=>?_
   rw [YO.2 ⟨hr,ha⟩] at h;cases h
  ·have:=A8 (Me-1) b h8 (by omega)
   rw [this];exact T9 _ _ _
def XU:se:=⟨0,[],[],[],[],[],[]⟩
def WU:PS:=⟨vD,0,0,vD,0,0,vD,0,0,vD,0,0,vD,0,0,vD,0,0⟩
theorem PK (w:vw):RWd w [ve vD 0 0] []:=⟨_,_,_,rfl,zR,by simp [maxLen],Rd.nil _ _ _,fun x hx=>by cases hx⟩
theorem p9 (w:vw):RSl 1 RWd w [ve vD 0 0] ([]:List (List Nat)):=⟨_,_,_,rfl,rfl,zR,by simp [maxLen],fun i hi=>absurd hi (by simp)⟩
theorem Z5 (w:vw):gh w XU WU:=⟨by decide,PK w,PK w,PK w,p9 w,PK w,p9 w⟩
structure Dst (w:vw) (B C4 C6 rt Q:Nat) (vals:Nat -> vx):Prop where
 pr:Blk w B 46 #[vd vn rt,vals 0,vals 1,vals 2,ve (vE ⟨C4,0,vD⟩) Q Q,vals (3+Q),ve (vE ⟨C6,0,vD⟩) Q Q]
 cols:Blk w C4 28 ((List.range Q).map fun i=>vals (3+i)).toArray
 paths:Blk w C6 28 ((List.range Q).map fun i=>vals (4+Q+i)).toArray
def jD (B C4 C6 Q i:Nat):vy:=if i=0 then ⟨B,1,vD⟩ else if i=1 then ⟨B,2,vD⟩ else if i=2 then ⟨B,3,vD⟩ else if i<3+Q then ⟨C4,i-3,vD⟩ else if i=3+Q then ⟨B,5,vD⟩ else ⟨C6,i-4-Q,vD⟩
def fo (vals:Nat -> vx) (i:Nat) (v:vx):Nat -> vx:=fun k=>if k=i then v else vals k
theorem BD (vals:Nat -> vx) (i:Nat) (v:vx):fo vals i v i=v:=Na rfl
theorem NW (vals:Nat -> vx) (i:Nat) (v:vx) {k:Nat} (h:k≠i):fo vals i v k=vals k:=ya h
theorem zH9 (vals:Nat -> vx) (i:Nat) (v u:vx):fo (fo vals i v) i u=fo vals i u:=by
 funext k
 unfold fo;split <;> rfl
theorem zH8 (vals:Nat -> vx) (i:Nat):fo vals i (vals i)=vals:=by
 funext k
 unfold fo;split
 ·subst_vars;rfl
 ·rfl
theorem zGp (B C4 C6 Q i:Nat):∃ b o,jD B C4 C6 Q i=⟨b,o,vD⟩ /\ (b=B \/ b=C4 \/ b=C6):=by
 unfold jD;split
 ·exact ⟨_,_,rfl, .inl rfl⟩
 split
 ·exact ⟨_,_,rfl, .inl rfl⟩
 split
 ·exact ⟨_,_,rfl, .inl rfl⟩
 split
 ·exact ⟨_,_,rfl, .inr (.inl rfl)⟩
 split
 ·exact ⟨_,_,rfl, .inl rfl⟩
 ·exact ⟨_,_,rfl, .inr (.inr rfl)⟩
theorem JV {Q k:Nat} (f:Nat -> vx) (h:k<Q):((List.range Q).map f).toArray[k]?=vE (f k):=by simp [h]
theorem Dst.at_ {w:vw} {B C4 C6 rt Q:Nat} {vals:Nat -> vx} (h:Dst w B C4 C6 rt Q vals) {i:Nat} (hi:i<4+2*Q):w.cell? (jD B C4 C6 Q i)=vE (vals i) /\ w.frozen? (jD B C4 C6 Q i)=false:=by
 unfold jD;by_cases h0:i=0
 ·subst h0;exact ⟨by simpa using h.pr.cell 1,h.pr.frozen 1⟩
 rw [ya h0];by_cases h1:i=1
 ·subst h1;exact ⟨by simpa using h.pr.cell 2,h.pr.frozen 2⟩
 rw [ya h1];by_cases h2:i=2
 ·subst h2;exact ⟨by simpa using h.pr.cell 3,h.pr.frozen 3⟩
 rw [ya h2];by_cases h3:i<3+Q
 ·rw [Na h3]
  refine ⟨?_,h.cols.frozen _⟩;rw [h.cols.cell,JV _ (by omega),show 3+(i-3)=i by omega]
 rw [ya h3];by_cases h4:i=3+Q
 ·subst h4;rw [Na rfl];exact ⟨by simpa using h.pr.cell 5,h.pr.frozen 5⟩
 rw [ya h4];refine ⟨?_,h.paths.frozen _⟩;rw [h.paths.cell,JV _ (by omega),show 4+Q+(i-4-Q)=i by omega]
theorem q8 (Q k:Nat) (f g:Nat -> vx) (v:vx) (hk:g k=v) (h:∀ i,i≠k -> g i=f i):((List.range Q).map f).toArray.setIfInBounds k v=((List.range Q).map g).toArray:=by
 apply Array.ext
 ·simp
 ·intro i h1 h2
  simp at h1 h2
  rw [Array.getElem_setIfInBounds (by simpa using h1)]
  split
  ·subst_vars;simp
  ·simp
   exact (h i (by omega)).symm
theorem AA (Q:Nat) (f g:Nat -> vx) (h:∀ i,i<Q -> g i=f i):((List.range Q).map f).toArray=((List.range Q).map g).toArray:=by
 congr 1
 exact pz fun i hi=>(h i (Oi.1 hi)).symm
theorem Dst.set_ {w:vw} {B C4 C6 rt Q:Nat} {vals:Nat -> vx} (h:Dst w B C4 C6 rt Q vals) (n1:B≠C4) (n2:B≠C6) (n3:C4≠C6) {i:Nat} (hi:i<4+2*Q) (v:vx):Dst (w.setCell (jD B C4 C6 Q i) v) B C4 C6 rt Q (fo vals i v):=by
 have u:=fun {k:Nat} (hk:k≠i)=>NW vals i v hk
 unfold jD;by_cases h0:i=0
 ·subst h0
  rw [Na rfl];refine ⟨?_,?_,?_⟩
  ·have:=h.pr.set_ 1 v
   rw [BD,u (k:=1) (by omega),u (k:=2) (by omega),u (k:=3+Q) (by omega)]
   simpa using this
  ·rw [<- AA Q (fun i=>vals (3+i)) _ fun i _=>u (by omega)]
   exact h.cols.far (p:=⟨B,1,vD⟩) (Ne.symm n1) v
  ·rw [<- AA Q (fun i=>vals (4+Q+i)) _ fun i _=>u (by omega)]
   exact h.paths.far (p:=⟨B,1,vD⟩) (Ne.symm n2) v
 rw [ya h0];by_cases h1:i=1
 ·subst h1
  rw [Na rfl];refine ⟨?_,?_,?_⟩
  ·have:=h.pr.set_ 2 v
   rw [BD,u (k:=0) (by omega),u (k:=2) (by omega),u (k:=3+Q) (by omega)]
   simpa using this
  ·rw [<- AA Q (fun i=>vals (3+i)) _ fun i _=>u (by omega)]
   exact h.cols.far (p:=⟨B,2,vD⟩) (Ne.symm n1) v
  ·rw [<- AA Q (fun i=>vals (4+Q+i)) _ fun i _=>u (by omega)]
   exact h.paths.far (p:=⟨B,2,vD⟩) (Ne.symm n2) v
 rw [ya h1];by_cases h2:i=2
 ·subst h2
  rw [Na rfl];refine ⟨?_,?_,?_⟩
  ·have:=h.pr.set_ 3 v
   rw [BD,u (k:=0) (by omega),u (k:=1) (by omega),u (k:=3+Q) (by omega)]
   simpa using this
  ·rw [<- AA Q (fun i=>vals (3+i)) _ fun i _=>u (by omega)]
   exact h.cols.far (p:=⟨B,3,vD⟩) (Ne.symm n1) v
  ·rw [<- AA Q (fun i=>vals (4+Q+i)) _ fun i _=>u (by omega)]
   exact h.paths.far (p:=⟨B,3,vD⟩) (Ne.symm n2) v
 rw [ya h2];by_cases h3:i<3+Q
 ·rw [Na h3]
  refine ⟨?_,?_,?_⟩
  ·rw [u (k:=0) (by omega),u (k:=1) (by omega),u (k:=2) (by omega),u (k:=3+Q) (by omega)]
   exact h.pr.far (p:=⟨C4,i-3,vD⟩) n1 v
  ·rw [<- q8 Q (i-3) (fun i=>vals (3+i)) _ v (by show fo vals i v (3+(i-3))=v;rw [show 3+(i-3)=i by omega,BD]) fun k hk=>u (by omega)]
   exact h.cols.set_ (i-3) v
  ·rw [<- AA Q (fun i=>vals (4+Q+i)) _ fun k _=>u (by omega)]
   exact h.paths.far (p:=⟨C4,i-3,vD⟩) (Ne.symm n3) v
 rw [ya h3];by_cases h4:i=3+Q
 ·subst h4
  rw [Na rfl];refine ⟨?_,?_,?_⟩
  ·have:=h.pr.set_ 5 v
   rw [BD,u (k:=0) (by omega),u (k:=1) (by omega),u (k:=2) (by omega)]
   simpa using this
  ·rw [<- AA Q (fun i=>vals (3+i)) _ fun i _=>u (by omega)]
   exact h.cols.far (p:=⟨B,5,vD⟩) (Ne.symm n1) v
  ·rw [<- AA Q (fun i=>vals (4+Q+i)) _ fun i _=>u (by omega)]
   exact h.paths.far (p:=⟨B,5,vD⟩) (Ne.symm n2) v
 rw [ya h4];refine ⟨?_,?_,?_⟩
 ·rw [u (k:=0) (by omega),u (k:=1) (by omega),u (k:=2) (by omega),u (k:=3+Q) (by omega)]
  exact h.pr.far (p:=⟨C6,i-4-Q,vD⟩) n2 v
 ·rw [<- AA Q (fun i=>vals (3+i)) _ fun k _=>u (by omega)]
  exact h.cols.far (p:=⟨C6,i-4-Q,vD⟩) n3 v
 ·rw [<- q8 Q (i-4-Q) (fun i=>vals (4+Q+i)) _ v (by show fo vals i v (4+Q+(i-4-Q))=v;rw [show 4+Q+(i-4-Q)=i by omega,BD]) fun k hk=>u (by omega)]
  exact h.paths.set_ (i-4-Q) v
theorem Dst.keep {w u:vw} {B C4 C6 rt Q:Nat} {vals:Nat -> vx} (h:Dst w B C4 C6 rt Q vals) (hB:u.1[B]?=w.1[B]?) (h4:u.1[C4]?=w.1[C4]?) (h6:u.1[C6]?=w.1[C6]?):Dst u B C4 C6 rt Q vals :=
 ⟨hB.trans h.pr,h4.trans h.cols,h6.trans h.paths⟩
theorem N7 (L:Ma) (j B C4 C6:Nat):(Ei L j B C4 0 C6 0).length=4+2*L.queries:=by simp [Ei,aj,Rf];omega
theorem zFP (L:Ma) (j B C4 C6:Nat) {i:Nat} (hi:i<4+2*L.queries) (h:i<(Ei L j B C4 0 C6 0).length):(Ei L j B C4 0 C6 0)[i]=⟨jD B C4 C6 L.queries i,(tc L j i).1,(tc L j i).2⟩:=by
 have l3:(aj L B).length=3:=rfl;have l4:(aj L B++Rf C4 0 L.queries (L.a+L.b+L.b+L.b+3) L.p).length=3+L.queries:=by simp [aj,Rf];omega
 have l5:(aj L B++Rf C4 0 L.queries (L.a+L.b+L.b+L.b+3) L.p++[(⟨⟨B,5,vD⟩,L.queries,Me⟩:jl)]).length=4+L.queries:=by simp [aj,Rf];omega
 simp only [Ei,jD,tc];by_cases h0:i=0
 ·subst h0;rfl
 by_cases h1:i=1
 ·subst h1;rfl
 by_cases h2:i=2
 ·subst h2;rfl
 simp only [ya h0,ya h1,ya h2];by_cases h3:i<3+L.queries
 ·simp only [Na h3]
  rw [Iq (by omega),Iq (by omega),Bx (by omega)]
  simp [Rf,l3]
 simp only [ya h3];by_cases h4:i=3+L.queries
 ·subst h4
  simp only [Na trivial];rw [Iq (by omega),Bx (by omega)]
  simp [l4]
 simp only [ya h4];rw [Bx (by omega)]
 simp only [Rf,Lj] at l5;simp only [Rf,List.getElem_map,List.getElem_range,Lj]
 congr 2
 omega
structure Ex4 (g B C4 C6:Nat) (w w':vw):Prop where
 os:w'.os=w.os
 tape:w'.tape=w.tape
 output:w'.output=w.output
 size:w.1.size <= w'.1.size
 block:∀ b,b<w.1.size -> b≠g -> b≠B -> b≠C4 -> b≠C6 -> w'.1[b]?=w.1[b]?
section
variable {g B C4 C6:Nat} {w w' Dl:vw}
theorem Ex4.refl (w:vw):Ex4 g B C4 C6 w w:=⟨rfl,rfl,rfl,zR,fun _ _ _ _ _ _=>rfl⟩
theorem Ex4.trans (h:Ex4 g B C4 C6 w w') (k:Ex4 g B C4 C6 w' Dl):Ex4 g B C4 C6 w Dl :=
 ⟨k.os.trans h.os,k.tape.trans h.tape,k.output.trans h.output,xb h.size k.size,fun b h1 h2 h3 h4 h5=>(k.block b (Kc h1 h.size) h2 h3 h4 h5).trans (h.block b h1 h2 h3 h4 h5)⟩
theorem Ex4.below {N:Nat} (h:vA N w w') (hN:w.1.size <= N):Ex4 g B C4 C6 w w':=⟨h.os,h.tape,h.output,h.size,fun b h1 _ _ _ _=>h.block b (by omega)⟩
theorem Ex4.grown (h:w.grownBy w' (vE g)):Ex4 g B C4 C6 w w':=⟨h.os,h.tape,h.output,h.size,fun b h1 h2 _ _ _=>h.block b h1 (fun e=>h2 (Za e))⟩
theorem Ex4.set_ (w:vw) {b o:Nat} (hb:b=B \/ b=C4 \/ b=C6) (v:vx):Ex4 g B C4 C6 w (w.setCell ⟨b,o,vD⟩ v) :=
 ⟨rfl,rfl,rfl,by simp [vF],fun k _ _ h2 h3 h4=>ug w _ v k (by rintro rfl;rcases hb with h | h | h <;> simp_all)⟩
theorem Ex4.to_below {N:Nat} (h:Ex4 g B C4 C6 w w') (hN:N <= w.1.size) (h1:N <= g) (h2:N <= B) (h3:N <= C4) (h4:N <= C6):vA N w w' :=
 ⟨h.os,h.tape,h.output,h.size,fun b hb=>h.block b (by omega) (by omega) (by omega) (by omega) (by omega)⟩
end
def Sw (lo:Nat) (w:vw) (v:vx) (l:List Nat):Prop:=∃ A n c,v=ve A n c /\ RWd w [ve A n c] l /\ ∀ ad,A=vE ad -> lo <= ad.block /\ ad.block<w.1.size
theorem zCZ {w:vw} {base lo:Nat} {e:vz} {v:vx} {n:Nat} {l:List Nat} (h:w.ownsRow base e 1 v n (Oa l)) (hl:∀ x∈l,x<18446744073709551616) (hb:lo <= base):Sw lo w v l:=by
 obtain ⟨A,c,rfl,h1,h2,h3,h4⟩:=de h;exact ⟨A,n,c,rfl,⟨A,n,c,rfl,h1,h2,h3,hl⟩,fun ad e=>⟨xb hb (h4 ad e).1,(h4 ad e).2⟩⟩
theorem zGL {w u:vw} {A:Option vy} {n:Nat} {xs:List vx} (h:Rd w 1 A n xs) (ha:∀ ad,A=vE ad -> u.1[ad.block]?=w.1[ad.block]?):Rd u 1 A n xs :=
 ⟨h.1,fun hn=>by
  obtain ⟨ad,e,hc⟩:=h.2 hn;refine ⟨ad,e,fun j x hj=>?_⟩
  have:=ha ad e;rw [<- hc j x hj];unfold World.cell?;rw [nS,this]⟩
theorem pZ {lo:Nat} {w u:vw} {v:vx} {l:List Nat} (h:Sw lo w v l) (hs:w.1.size <= u.1.size) (ha:∀ b,lo <= b -> b<w.1.size -> u.1[b]?=w.1[b]?):Sw lo u v l:=by
 obtain ⟨A,n,c,rfl,⟨A',n',c',he,h1,h2,h3,h4⟩,h5⟩:=h;simp at he
 obtain ⟨rfl,rfl,rfl⟩:=he;exact ⟨A,n,c,rfl,⟨A,n,c,rfl,h1,h2,zGL h3 fun ad e=>ha _ (h5 ad e).1 (h5 ad e).2,h4⟩,fun ad e=>⟨(h5 ad e).1,Kc (h5 ad e).2 hs⟩⟩
theorem oZ {lo g B C4 C6:Nat} {w u:vw} {v:vx} {l:List Nat} (h:Sw lo w v l) (ha:Ex4 g B C4 C6 w u) (hg:g<lo) (hB:B<lo) (h4:C4<lo) (h6:C6<lo):Sw lo u v l :=
 pZ h ha.size fun b h1 h2=>ha.block b h2 (by omega) (by omega) (by omega) (by omega)
theorem zO {lo:Nat} {w:vw} {A:Option vy} {n c:Nat} {l:List Nat} (h:Sw lo w (ve A n c) l):RWd w [ve A n c] l:=by
 obtain ⟨A',n',c',he,h1,-⟩:=h
 injection he with e1 e2 e3
 subst e1 e2 e3;exact h1
theorem r9 {lo C Q:Nat} {w:vw} {t:vz} {vals:Nat -> vx} {f:Nat -> List Nat} (h:Blk w C t ((List.range Q).map vals).toArray) (hf:∀ i,i<Q -> Sw lo w (vals i) (f i)) (hq:Q <= maxLen):RSl 1 RWd w [ve (vE ⟨C,0,vD⟩) Q Q] ((List.range Q).map f):=by
 refine ⟨_,_,_,rfl,by simp,zR,hq,fun i hi=>?_⟩
 have hiq:i<Q:=by simpa using hi
 obtain ⟨A,n,c,e,h1,-⟩:=hf i hiq;refine ⟨_,[vals i],rfl,rfl,fun j hj=>?_,?_⟩
 ·have e0:j=0:=by omega
  subst e0;have:=h.cell i;rw [JV _ hiq] at this;simp only [Pp,ss,List.getElem?_cons_zero];rw [<- this]
  congr 1
  unfold Addr.add;split
  ·subst_vars;rfl
  ·simp
 ·rw [e]
  simpa using h1
theorem VS {g B C4 C6:Nat} {w w':vw} (h:Ex4 g B C4 C6 w w') {p:vy} {v:vx} (hc:w.cell? p=vE v) (h1:p.block≠g) (h2:p.block≠B) (h3:p.block≠C4) (h4:p.block≠C6):w'.cell? p=vE v:=by
 rw [<- hc];have:=h.block p.block (Jf _ _ hc) h1 h2 h3 h4;simp only [World.cell?,this]
theorem TL {g B C4 C6 k:Nat} {w w':vw} {t:vz} {cs:Array vx} (h:Ex4 g B C4 C6 w w') (hb:Blk w k t cs) (h1:k≠g) (h2:k≠B) (h3:k≠C4) (h4:k≠C6):Blk w' k t cs:=(h.block k hb.lt h1 h2 h3 h4).trans hb
theorem zCI {g B C4 C6:Nat} {w0 w W:vw} (hW:Hid (W=w.drew)) (h:Ex4 g B C4 C6 w0 w):Ex4 g B C4 C6 w0 W:=by rw [hW.out];exact ⟨h.os,h.tape,h.output,h.size,h.block⟩
theorem zCz {w W:vw} {B C4 C6 rt Q:Nat} {vals:Nat -> vx} (hW:Hid (W=w.drew)) (h:Dst w B C4 C6 rt Q vals):Dst W B C4 C6 rt Q vals:=by rw [hW.out];exact ⟨h.pr,h.cols,h.paths⟩
theorem wr_hid {w W:vw} {g:Nat} {bd:Nat × Nat} {l:List Nat} {f:Bool} (hW:Hid (W=w.drew)) (h:WR w g bd l f):WR W g bd l f:=by rw [hW.out];exact h
theorem zCb {w u:vw} {g B C4 C6 rt Q:Nat} {bd:Nat × Nat} {l:List Nat} {f:Bool} (kz:Blk u B 46 #[vd vn rt,ve vD 0 0,ve vD 0 0,ve vD 0 0,ve (vE ⟨C4,0,vD⟩) Q Q,ve vD 0 0,ve (vE ⟨C6,0,vD⟩) Q Q])
  (lB:B<w.1.size) (ib:u.1.size=w.1.size) (Wm:WR u g bd l f) (hex:Ex4 g B C4 C6 w u) (hC:(C4=w.1.size /\ C6=w.1.size+1) \/ (C6=w.1.size /\ C4=w.1.size+1)) {CS:Array vx} (Sx:CS=((List.range Q).map fun _=>ve vD 0 0).toArray) :
  B<C4 /\ B<C6 /\ C4≠C6 /\ Dst ((u.alloc (.cells CS 28)).alloc (.cells CS 28)).drew B C4 C6 rt Q (fun _=>ve vD 0 0) /\
  WR ((u.alloc (.cells CS 28)).alloc (.cells CS 28)).drew g bd l f /\
  Ex4 g B C4 C6 w ((u.alloc (.cells CS 28)).alloc (.cells CS 28)).drew:=by
 have b1:=(Blk.new u 28 CS).alloc (.cells CS 28);have b2:=Blk.new (u.alloc (.cells CS 28)) 28 CS;have qe:(u.alloc (.cells CS 28)).1.size=w.1.size+1:=by simp [ib]
 rw [ib] at b1;rw [qe] at b2;have ma:vA u.1.size u ((u.alloc (.cells CS 28)).alloc (.cells CS 28)):=((Ca _ u).alloc zR _).alloc (by simp) _
 have hd:Dst ((u.alloc (.cells CS 28)).alloc (.cells CS 28)) B C4 C6 rt Q (fun _=>ve vD 0 0):=by
  subst Sx;rcases hC with ⟨rfl,rfl⟩ | ⟨rfl,rfl⟩
  ·exact ⟨(kz.alloc _).alloc _,b1,b2⟩
  ·exact ⟨(kz.alloc _).alloc _,b2,b1⟩
 exact ⟨by omega,by omega,by omega,⟨hd.pr.drew,hd.cols.drew,hd.paths.drew⟩,(Wm.below ma zR).drew,hex.trans (Ex4.below ma.drew zR)⟩
theorem zCa {w:vw} {g B C4 C6 rt Q:Nat} {bd:Nat × Nat} {l:List Nat} {f:Bool} (kB:Blk w B 46 #[vd vn rt,ve vD 0 0,ve vD 0 0,ve vD 0 0,ve vD 0 0,ve vD 0 0,ve vD 0 0])
  (hr:WR w g bd l f) (hg:g<B) (hbd:bd.2 <= g) (hC:(C4=w.1.size /\ C6=w.1.size+1) \/ (C6=w.1.size /\ C4=w.1.size+1)) {CS:Array vx} (Sx:CS=((List.range Q).map fun _=>ve vD 0 0).toArray) :
  B<C4 /\ B<C6 /\ C4≠C6 /\ Dst ((((w.setCell ⟨B,4,vD⟩ (ve (vE ⟨C4,0,vD⟩) Q Q)).setCell ⟨B,6,vD⟩ (ve (vE ⟨C6,0,vD⟩) Q Q)).alloc (.cells CS 28)).alloc (.cells CS 28)).drew B C4 C6 rt Q (fun _=>ve vD 0 0) /\
  WR ((((w.setCell ⟨B,4,vD⟩ (ve (vE ⟨C4,0,vD⟩) Q Q)).setCell ⟨B,6,vD⟩ (ve (vE ⟨C6,0,vD⟩) Q Q)).alloc (.cells CS 28)).alloc (.cells CS 28)).drew g bd l f /\
  Ex4 g B C4 C6 w ((((w.setCell ⟨B,4,vD⟩ (ve (vE ⟨C4,0,vD⟩) Q Q)).setCell ⟨B,6,vD⟩ (ve (vE ⟨C6,0,vD⟩) Q Q)).alloc (.cells CS 28)).alloc (.cells CS 28)).drew:=by
 have lB:=kB.lt;have kz:=(kB.set_ 4 (ve (vE ⟨C4,0,vD⟩) Q Q)).set_ 6 (ve (vE ⟨C6,0,vD⟩) Q Q);simp at kz
 have ib:((w.setCell ⟨B,4,vD⟩ (ve (vE ⟨C4,0,vD⟩) Q Q)).setCell ⟨B,6,vD⟩ (ve (vE ⟨C6,0,vD⟩) Q Q)).1.size=w.1.size:=by simp [vF]
 have Va:w.grownBy ((w.setCell ⟨B,4,vD⟩ (ve (vE ⟨C4,0,vD⟩) Q Q)).setCell ⟨B,6,vD⟩ (ve (vE ⟨C6,0,vD⟩) Q Q)) (vE B):=by
  iterate 2 refine Wg ?_ (.inl rfl) _
  exact Ee w _
 have Wm:=hr.grown Va fun k e=>by have:=Za e;omega
 have hex:Ex4 g B C4 C6 w ((w.setCell ⟨B,4,vD⟩ (ve (vE ⟨C4,0,vD⟩) Q Q)).setCell ⟨B,6,vD⟩ (ve (vE ⟨C6,0,vD⟩) Q Q)):=⟨Va.os,Va.tape,Va.output,Va.size,fun b h1 h2 h3 _ _=>Va.block b h1 fun e=>h3 (Za e)⟩
 exact zCb kz lB ib Wm hex hC Sx
theorem zGK (ud:Nat) (l:List Nat) (f:Bool):∀ x∈(Oh ud l f).2.1,x∈l:=by
 intro x hx;unfold Oh rk at hx;split at hx <;> split at hx <;> first | exact hx | exact List.mem_of_mem_drop hx
theorem B8 (ud:Nat) (l:List Nat) (f:Bool) (hl:∀ x∈l,x<256):(Oh ud l f).1<18446744073709551616:=by
 unfold Oh;split
 ·simp
 ·exact r8 (k:=8) hl
theorem v8 (ud:Nat):∀ (k:Nat) (l:List Nat) (f:Bool),(∀ x∈l,x<256) -> (∀ x∈(zh ud k l f).1,x<18446744073709551616) /\ ∀ x∈(zh ud k l f).2.1,x<256
 | 0,l,f,h=>⟨fun x hx=>by simp [zh] at hx,h⟩
 | k+1,l,f,h=>by
  obtain ⟨h1,h2⟩:=v8 ud k l f h;rw [zh];refine ⟨fun x hx=>?_,fun x hx=>h2 x (zGK _ _ _ x hx)⟩
  rcases Np.1 hx with hx | hx
  ·exact h1 x hx
  ·rw [Fo] at hx
   rw [hx];exact B8 _ _ _ h2
def Et (L:Ma) (j:Nat) (b:List Nat):se × Int:=if b.length=tn L j /\ aG L j b=([],false) then (BA L j b,0) else (XU,2)
def PDecF (w:vw) (D:se × Int) (e:Ending) (w':vw):Prop:=∃ S,e=vl (.tuple #[vf (Od D.1 S),vd vq D.2]) /\ (∀ u:vw,w'.1.size <= u.1.size -> (∀ b,w.1.size <= b -> b<w'.1.size -> u.1[b]?=w'.1[b]?) -> gh u D.1 S) /\ vA w.1.size w w'
theorem ps_bd {L:Ma} (hL:Lb L) (j:Nat) (hj:j <= 10) (i:Nat):0<(tc L j i).2 /\ (tc L j i).2 <= 18446744069414584321 /\ (tc L j i).1 <= 400003:=by
 have hp:0<L.p /\ L.p <= 18446744069414584321:=by
  have:=hL.p;simp [Fb] at this
  omega
 have h1:=hL.k;have h2:=hL.b2;have h3:=hL.q2;have h4:=hL.a;have h5:=hL.b;have h6:=hL.b1;simp only [tc,Me];split
 ·exact ⟨hp.1,hp.2,by show L.k <= _;omega⟩
 split
 ·exact ⟨hp.1,hp.2,by show L.k+L.block-1 <= _;omega⟩
 split
 ·exact ⟨hp.1,hp.2,by show 2*L.k-1 <= _;omega⟩
 split
 ·exact ⟨hp.1,hp.2,by show L.a+L.b+L.b+L.b+3 <= _;omega⟩
 split
 ·exact ⟨by show 0<18446744069414584321;omega,zR,by show L.queries <= _;omega⟩
 ·exact ⟨by show 0<18446744069414584321;omega,zR,by show j <= _;omega⟩
theorem zHa {P:Program} {t e:vz} {size bytes:Nat} {z:vx} (E:zq P t e size bytes z) (n:Nat) (hb:bytes*n <= 281474976710656) (hn:(n:Int) <= 9223372036854775807) (w:vw) :
  (Instr.makeSlice t (vd vq n) (vd vq n)).run P w= .ok (ve (vE ⟨w.1.size,0,vD⟩) n n) (w.alloc (.cells (madeCells z.cells (n*size)) e)):=by
 obtain ⟨ht,⟨i,hi,hz,hs,Wl⟩,JI,ib⟩:=E;have:=run_make (P:=P) w t e i z ht hi hz vq vq (n:Int) (n:Int) (by omega) (Int.le_refl _) (by rw [Wl,<- Uf];exact Int.ofNat_le.2 hb) hn
 rw [Bk,hs] at this;exact this
theorem zEm (n:Nat):madeCells (ve vD 0 0).cells (n*1)=((List.range n).map fun _=>ve vD 0 0).toArray:=by
 apply Array.toList_inj.1
 rw [show (ve vD 0 0).cells=#[ve vD 0 0] from rfl,toList_madeCells_one]
 exact mz (by simp) fun i h1 h2=>by simp
theorem zFt (L:Ma) (j:Nat) (A:Option vy) (n c:Nat) (b:List Nat) (w:vw) (hL:Lb L) (hn:L.n=2^j) (hj:j <= 10) (hr:Rd w 1 A n (U8 b)) (Ld:n <= c) (Xl:c <= maxLen) (Cu:n <= 1000000) (hb:∀ x∈b,x<256) :
  vB prog 96 #[vf (jb L),ve A n c] w (PDecF w (Et L j b)):=by
 have HS:=zH (fun w=>zHt L j w hL hn hj)
 have hlen:=hr.len1;rw [TI] at hlen;obtain ⟨D,hD⟩:=zEX (Et L j b);rw [<- hD];unfold Et at hD;rw [hlen] at hD;have gm:=vK Ld Xl;have q0:decide ((L.queries:Int)<0)=false:=db (by omega)
 by_cases z:n=tn L j
 rotate_left
 ·have d1:((n:Int) != (tn L j:Nat))=true:=by rw [Bf];omega
  rw [ya (fun h=>z h.1)] at hD
  have Hp:=zH hD;clear hD z hlen hr hb hL hn hj Ld Xl Cu;generalize tn L j=sz at *;unfold jb at HS |-;go_enter func96,ntmps96
  go_wp2_with fail
  refine (HS.out _).mono ?_;rintro e w1 ⟨rfl,hb⟩;obtain ⟨k1,k2,Jb⟩:=qG hb;have l2:=k2.lt;have c2:=k2.cell;have f2:=k2.frozen;clear hb k1;go_wp2_with fail
  have Vs:=lW (w:=w1) (g:=w.1.size+1) (vd vn 0) (ve vD 0 0) (ve vD 0 0) (ve vD 0 0) (ve vD 0 0) (ve vD 0 0) (ve vD 0 0);have kz:=jW k2 (vd vn 0) (ve vD 0 0) (ve vD 0 0) (ve vD 0 0) (ve vD 0 0) (ve vD 0 0) (ve vD 0 0);clear c2 f2 k2;generalize ((((((vF w1 _ _).setCell _ _).setCell _ _).setCell _ _).setCell _ _).setCell _ _).setCell _ _=Wf at Vs kz |-;have cz:=kz.cell;refine Tc (v:=.tuple #[vf #[vd vn 0,ve vD 0 0,ve vD 0 0,ve vD 0 0,ve vD 0 0,ve vD 0 0,ve vD 0 0],vd vq 2]) (by simp [results,results96,go_sem,cz]) rfl ?_
  rw [Hp.out];exact ⟨WU,rfl,fun u _ _=>Z5 u,Jb.trans (Es Vs w.1.size (by omega) (fun g e=>by have:=Za e;omega))⟩
 ·have d1:((n:Int) != (tn L j:Nat))=false:=by rw [iu];omega
  have HNR:=zH (fun w' (h:vA w.1.size w w')=>zEL A n c b w' (hr.below h) (by omega) hb)
  have HU0:=fun g bd w h=>p8 g bd (Me-1) b false w h
  obtain ⟨⟨rt,l0,f0⟩,hU⟩:∃ x,x=Oh (Me-1) b false:=⟨_,rfl⟩;simp only [<- hU] at HU0;have HU:=zH HU0;have HRU:=zH hU;clear HU0 hU;have hP:=zH (fun P S g b4 q4 b6 q6 w=>oV L j P S g b4 q4 b6 q6 w hL hn hj)
  have Dn:=zH hL;have HBD:=zH (ps_bd hL j hj);have HZ:=zH z;have HBB:=zH hb;have HDz:=zH hD;clear hD hlen hL hn hj hr Ld Xl hb z;generalize tn L j=sz at *;unfold jb at HS hP |-;go_enter func96,ntmps96
  go_wp2_with fail
  refine (HS.out _).mono ?_;rintro e w1 ⟨rfl,hb⟩;obtain ⟨k1,k2,Jb⟩:=qG hb;have Bd:=k2.lt;clear hb;go_wp2_with fail
  refine (HNR.out _ Jb).mono ?_;rintro e w2 ⟨g,bd,rfl,og,jg,Vo,Mg,Ba⟩;replace k1:=ja k1 Ba;replace k2:=ja k2 Ba;have lk1:=k1.lt;have lk2:=k2.lt;have Jv:=Jb.size;replace Jb:=pa Jb Ba;go_wp2_with fail
  refine (HU.out g bd _ og).mono ?_;rintro e w3 ⟨rfl,II,nI⟩;replace k1:=k1.grown nI (fun e=>by have:=Za e;omega)
  replace k2:=k2.grown nI (fun e=>by have:=Za e;omega)
  replace Jb:=Jb.trans (Es nI w.1.size (by omega) (fun k e=>by have:=Za e;omega))
  have ma:=(Ca w3.1.size w3).alloc zR (.cells #[vd vn rt,ve vD 0 0,ve vD 0 0,ve vD 0 0,ve vD 0 0,ve vD 0 0,ve vD 0 0] 46);have kB:=Blk.new w3 46 #[vd vn rt,ve vD 0 0,ve vD 0 0,ve vD 0 0,ve vD 0 0,ve vD 0 0,ve vD 0 0];have hgB:g<w3.1.size:=II.lt;replace k1:=ja k1 ma;replace k2:=ja k2 ma;replace II:=II.below ma zR;replace Jb:=pa Jb ma;have hbd:bd.2 <= g:=by obtain ⟨A,n,c,p,L,hb,dt,hA,hp⟩:=II;exact hA.2
  clear og Ba Mg lk1 lk2 ma nI;go_upto_region 5 with fail
  generalize w3.alloc _=w4 at k1 k2 II Jb kB |-;generalize w3.1.size=B at kB hgB |-;clear w3 w2;have lB:=kB.lt;have HQ:=zH Dn.out.q2;have Yj:=Dn.out.q2
  go_cut [7] (fun s7 wx=>s7= .pointer (vE ⟨B,0,vD⟩) /\ ∃ C4 C6,B<C4 /\ B<C6 /\ C4≠C6 /\ Dst wx B C4 C6 rt L.queries (fun _=>ve vD 0 0) /\ WR wx g bd l0 f0 /\ Ex4 g B C4 C6 w4 wx)
  case first =>
   obtain ⟨CS,Sx⟩:=zEX (((List.range L.queries).map fun _=>ve vD 0 0).toArray)
   have ph:=zHa zCD L.queries (by omega) (by omega)
   rw [zEm,<- Sx] at ph;have HCS:=zH Sx;have H1:=zH (fun (C4 C6:Nat) hC=>zCa (C4:=C4) (C6:=C6) kB II hgB hbd hC Sx)
   clear Sx;have c1:=k1.cell;have cB:=kB.cell;have fB:=kB.frozen;have l1:=k1.lt
   go_region
   ·go_wp2_with fail
    go_meet
    exact ⟨rfl,w4.1.size,w4.1.size+1,H1.out _ _ (.inl ⟨rfl,rfl⟩)⟩
   ·go_wp2_with fail
    go_meet
    exact ⟨rfl,w4.1.size+1,w4.1.size,H1.out _ _ (.inr ⟨rfl,rfl⟩)⟩
  case rest =>
   obtain ⟨rfl,C4,C6,n1,n2,n3,hd,og,hex⟩:=hcut;have Zj:=TL hex k1 (by omega) (by omega) (by omega) (by omega)
   have zl:=TL hex k2 (by omega) (by omega) (by omega) (by omega)
   have lC4:=hd.cols.lt;have lC6:=hd.paths.lt;have xa:=Jb.trans (hex.to_below (g:=g) (B:=B) (C4:=C4) (C6:=C6) (N:=w.1.size) Jb.size (by omega) (by omega) (by omega) (by omega))
   have Kl:=zH (hP.out ⟨rt,[],[],[],[],[],[]⟩ ⟨vD,0,0,vD,0,0,vD,0,0,vE ⟨C4,0,vD⟩,L.queries,L.queries,vD,0,0,vE ⟨C6,0,vD⟩,L.queries,L.queries⟩ B C4 0 C6 0 wc hd.pr rfl rfl hd.pr.lt rfl rfl ⟨zR,by simp [maxLen];omega⟩ ⟨zR,by simp [maxLen];omega⟩)
   have c1:=Zj.cell;clear hex k1 k2 Jb II kB;go_wp2_with fail
   refine Kl.out.mono ?_;rintro e W0 ⟨v,m,rfl,Aa,da⟩;replace zl:=zl.below da zl.lt;replace og:=og.below da zR;replace xa:=pa xa da;have hsz0:=da.size;have hd0:Dst W0 B C4 C6 rt L.queries (fun _=>ve vD 0 0):=hd.keep (da.block _ hd.pr.lt) (da.block _ lC4) (da.block _ lC6)
   clear c1 Zj hP Kl hd da;have hm:m=4+2*L.queries:=by have:=Aa.1;rw [rQ,N7] at this;omega
   subst hm;obtain ⟨r,cr,rfl,Zg,Wm⟩:=fJ Aa (by omega)
   have Ok:∀ i u,(pn (Ei L j B C4 0 C6 0))[i]?=vE u -> W0.cell? ⟨r,i,vD⟩=vE u:=fun i u hu=>by
    obtain ⟨ad,e,hc⟩:=(Rd.of_own Aa).2 (by omega)
    injection e with e
    subst e;have:=hc i u hu
    simpa [Sl] using this
   have HPT:=zH (fun k (hk:k<4+2*L.queries)=>by
    have hl:k<(Ei L j B C4 0 C6 0).length:=by rw [N7];exact hk
    have h:=qQ (Ei L j B C4 0 C6 0) k hl;rw [zFP L j B C4 C6 hk hl] at h;exact And.intro (Ok _ _ h.1) (And.intro (Ok _ _ h.2.1) (Ok _ _ h.2.2)))
   have HLO:=zH (show ∀ x∈l0,x<256 from og.bytes)
   clear Ok Aa;obtain ⟨M,hM⟩:=zEX (4+2*L.queries);rw [<- hM];have HM:=zH hM;have hM2:M <= 200:=by omega
   clear hM;generalize SH:tc L j=ps at *;have xo:=zH SH;clear SH;go_wp2_with fail
   go_loopw [37] (fun i wr=>∃ (k:Nat) (vals:Nat -> vx),k <= M /\ i=vd vq k /\ WR wr g bd (Uk ps l0 f0 k).1 (Uk ps l0 f0 k).2 /\ Dst wr B C4 C6 rt L.queries vals /\ Ex4 g B C4 C6 W0 wr /\ Hid ((∀ i,k <= i -> vals i=ve vD 0 0) /\ ∀ i<k,Sw W0.1.size wr (vals i) (xt ps l0 f0 i))) (fun i _=>M-(intOf i).toNat)
   case atStart=>exact ⟨0,_,Mb _,rfl,og,hd0,Ex4.refl _,fun _ _=>rfl,fun i h=>absurd h (by omega)⟩
   case round =>
    clear og hd0;obtain ⟨k,vals,hk,rfl,og,hd,hex,HV⟩:=hrel;by_cases ta:k<M
    ·obtain ⟨u0,u1,u2⟩:=HPT.out k (by have:=HM.out;omega)
     have c0:=VS hex u0 (by show r≠g;omega) (by show r≠B;omega) (by show r≠C4;omega) (by show r≠C6;omega)
     have c1:=VS hex u1 (by show r≠g;omega) (by show r≠B;omega) (by show r≠C4;omega) (by show r≠C6;omega)
     have c2:=VS hex u2 (by show r≠g;omega) (by show r≠B;omega) (by show r≠C4;omega) (by show r≠C6;omega)
     obtain ⟨pb,po,iU,Wq⟩:=zGp B C4 C6 L.queries k;rw [iU] at c0;obtain ⟨hbd1,hbd2,hbd3⟩:=(show 0<(ps k).2 /\ (ps k).2 <= 18446744069414584321 /\ (ps k).1 <= 400003 from HBD.out k)
     obtain ⟨size,qM⟩:=zEX ((ps k).1);obtain ⟨lim,mM⟩:=zEX ((ps k).2);obtain ⟨lk,hlk⟩:=zEX ((Uk ps l0 f0 k).1);obtain ⟨fk,hfk⟩:=zEX ((Uk ps l0 f0 k).2);rw [<- qM] at hbd3;rw [<- mM] at hbd1 hbd2;rw [<- qM] at c1;rw [<- mM] at c2;rw [<- hlk,<- hfk] at og;obtain ⟨lm,hlm⟩:=zEX (lim-1);have e1:(lim:Int)-1=(lm:Int):=by omega
     have e2:vn.wrap ((lim:Int)-1)=(lm:Int):=by rw [e1];exact Wk _ (by omega)
     have e3:vn.wrap (lm:Int)=lm:=Wk _ (by omega)
     have Bh:=zH (show Uk ps l0 f0 (k+1)=(zh lm size lk fk).2 by rw [Uk,<- qM,<- mM,<- hlk,<- hfk,<- hlm])
     have Cn:=zH (show xt ps l0 f0 k=(zh lm size lk fk).1 by rw [xt,<- qM,<- mM,<- hlk,<- hfk,<- hlm])
     have HNIL:=zH (HV.out.1 k zR);have AN:=zH iU;clear qM mM hlk hfk hlm iU u0 u1 u2;have hlkb:=zH (show ∀ x∈lk,x<256 from og.bytes)
     have g1:(0:Int)<=k:=by omega
     have g2:(k:Int)<M:=by omega
     have lr:r<wr.1.size:=Jf _ _ c0;have ma:=(Ca wr.1.size wr).alloc zR (.cells #[.pointer (vE ⟨pb,po,vD⟩),vd vq size,vd vn lim] 199);have kx:=Blk.new wr 199 #[.pointer (vE ⟨pb,po,vD⟩),vd vq size,vd vn lim];have hwk:=og.below ma zR;have hdk:Dst (wr.alloc (.cells #[.pointer (vE ⟨pb,po,vD⟩),vd vq size,vd vn lim] 199)) B C4 C6 rt L.queries vals:=hd.keep (ma.block _ hd.pr.lt) (ma.block _ hd.cols.lt) (ma.block _ hd.paths.lt);have hexk:=hex.trans (Ex4.below ma zR);have Us:g<W0.1.size:=by have:=n1;omega
     have hszw:=hex.size
     go_upto_block 2 with fail
     generalize wr.alloc _=wk at kx hwk hdk hexk ma |-;generalize Mk:wr.1.size=gx at kx ma lr hszw |-;have lx:=kx.lt;clear c0 c1 c2 og hd hex;have Ki:=zH Mk;clear Mk;have cx:=kx.cell;obtain ⟨N,hN⟩:=zEX (wk.1.size);rw [<- hN] at lx;have HN:=zH hN;have hkM:=zH (show k<4+2*L.queries by have:=HM.out;omega)
     have hNs:W0.1.size <= N:=by omega
     have hpb2:B <= pb /\ pb<W0.1.size:=by rcases Wq with h | h | h <;> omega
     have hbdl:=hbd;clear hN;go_wp2_with fail
     go_loopw [43] (fun i w2=>∃ (t:Nat) (v:vx),t <= size /\ i=vd vq t /\ WR w2 g bd (zh lm t lk fk).2.1 (zh lm t lk fk).2.2 /\ Dst w2 B C4 C6 rt L.queries (fo vals k v) /\ Ex4 g B C4 C6 wk w2 /\ w2.ownsRow N 22 1 v t (Oa (zh lm t lk fk).1)) (fun i _=>size-(intOf i).toNat)
     case atStart=>exact ⟨0,ve vD 0 0,Mb _,rfl,hwk,(by have h:=zH8 vals k;rw [HNIL.out] at h;rw [h];exact hdk),Ex4.refl _,⟨rfl, .inl ⟨rfl,rfl⟩⟩⟩
     case round =>
      clear hwk hdk cx;obtain ⟨t,v,ht,rfl,Yv,Yl,Zl,Aa⟩:=hrel;by_cases jm:t<size
      ·obtain ⟨Pz,hfp⟩:=Yl.at_ (i:=k) hkM.out
       rw [AN.out,BD] at Pz;have jn:=TL Zl kx (by omega) (by omega) (by omega) (by omega)
       have cx:=jn.cell;have lN:N <= wr.1.size:=by have:=Zl.size;have:=HN.out;omega
       have hrest:=zH (show ∀ x∈(zh lm t lk fk).2.1,x<256 from Yv.bytes)
       obtain ⟨⟨xs,l1,f1⟩,hxs⟩:∃ z,z=zh lm t lk fk:=⟨_,rfl⟩;rw [<- hxs] at Yv Aa;obtain ⟨⟨y,l2,f2⟩,hy⟩:∃ z,z=Oh lm l1 f1:=⟨_,rfl⟩;have HU1:=fun w h=>p8 g bd lm l1 f1 w h
       simp only [<- hy] at HU1;replace HU1:=zH HU1;have ig:=zH (show zh lm (t+1) lk fk=(xs++[y],l2,f2) by rw [zh,<- hxs];simp only;rw [<- hy])
       simp only at Yv Aa;clear hxs hy hrest hfp jn;have ng:gx≠g:=by omega
       have npg:pb≠g:=by omega
       have npN:pb<N:=by omega
       have hgN:g<N:=by omega
       have g3:(t:Int)<size:=by omega
       go_wp2_with fail
       refine NA (so g N) [10,11,12,14] [14] [0,1,2,3,4,5,6,7,8,9,10,11,12,13,14] (by kernel_rfl) (by kernel_rfl) ?_
       refine QA (Wb g N) ?_;intro Wc Ja ia;replace Aa:=mQ Ja Aa;replace Yv:=wr_hid Ja Yv;replace Yl:=zCz Ja Yl;replace Zl:=zCI Ja Zl;have lN':N <= Wc.1.size:=by have:=Zl.size;have:=HN.out;omega
       clear Ja;refine Fl ?_;refine Jt (Wb g N) rfl rfl rfl (fun _=>by go_simp <;> rfl) ((HU1.out _ Yv).mono ?_)
       rintro e w5 ⟨rfl,hw5,Zp⟩;refine ⟨_,rfl,fun _=>JB Zp lN',?_⟩
       replace ia:=(Wb g N).trans _ _ _ ia (JB Zp lN');refine zPU ?_;replace Aa:=Y6 Aa Zp hgN;replace Yl:Dst w5 B C4 C6 rt L.queries (fo vals k v):=Yl.keep (Zp.block _ Yl.pr.lt (fun e=>by have:=Za e;omega)) (Zp.block _ Yl.cols.lt (fun e=>by have:=Za e;omega)) (Zp.block _ Yl.paths.lt (fun e=>by have:=Za e;omega))
       replace Zl:=Zl.trans (Ex4.grown Zp);have lN5:N <= w5.1.size:=by have:=Zp.size;omega
       clear Zp cx Pz lN' lN;refine Ij (Wb g N) rfl rfl rfl ?_;go_simp;refine ⟨fun _=>Gk ((Ca _ _).alloc zR _) lN5,?_⟩
       have PE:=(Ca w5.1.size w5).alloc zR (.cells #[vd vn y] 22);have Ra:=Ew w5 (vd vn y) 22;replace Aa:=Mc Aa PE zR;replace Yl:Dst (w5.alloc (.cells #[vd vn y] 22)) B C4 C6 rt L.queries (fo vals k v):=Yl.keep (PE.block _ Yl.pr.lt) (PE.block _ Yl.cols.lt) (PE.block _ Yl.paths.lt);replace Zl:=Zl.trans (Ex4.below PE zR);replace hw5:=hw5.below PE zR;have lN6:=xb lN5 PE.size
       refine zPU ?_
       generalize w5.alloc _=w6 at Ra Aa Yl Zl hw5 lN6 |-;generalize w5.1.size=g5 at Ra |-;clear PE lN5 ia;have ia:=(Wb g N).refl w6;refine Ij (Wb g N) rfl rfl rfl ?_;refine Mw _ _ rfl OL rfl Aa rfl Ra (oq [y]) (by omega) lN6 ?_
       intro v' wn Rb Wa Dc;have Yc:∀ q,v.ownBlock=vE q -> N <= q:=fun q e=>(Aa.lt q e).1
       refine ⟨fun _=>Px Wa lN6 Yc,?_⟩
       have hdn:Dst wn B C4 C6 rt L.queries (fo vals k v):=Yl.keep (Wa.block _ Yl.pr.lt (fun e=>by have:=Yc _ e.symm;omega)) (Wa.block _ Yl.cols.lt (fun e=>by have:=Yc _ e.symm;omega)) (Wa.block _ Yl.paths.lt (fun e=>by have:=Yc _ e.symm;omega))
       have hwn:=hw5.grown Wa (fun q e=>by have:=Yc q e;omega)
       have QO:Ex4 g B C4 C6 wk wn:=⟨Wa.os.trans Zl.os,Wa.tape.trans Zl.tape,Wa.output.trans Zl.output,xb Zl.size Wa.size,fun b h1 h2 h3 h4 h5=>(Wa.block b (by have:=Zl.size;omega) (fun e=>by have:=Yc b e.symm;have:=HN.out;omega)).trans (Zl.block b h1 h2 h3 h4 h5)⟩
       obtain ⟨Av,cv,hv',-⟩:=de Rb;subst hv';obtain ⟨hcn,YE⟩:=hdn.at_ (i:=k) hkM.out;rw [AN.out,BD] at hcn;rw [AN.out] at YE;clear Aa Wa Dc Yl hw5 Zl Ra Yc ia;have ia:=(Wb g N).refl wn
       refine zPU ?_
       refine Fl ?_;refine Ij (Wb g N) rfl rfl rfl ?_;go_simp;refine ⟨fun h=>Bool.noConfusion h,?_⟩
       have Ib:wn.grownBy (wn.setCell ⟨pb,po,vD⟩ (ve Av (t+1) cv)) (vE pb):=Wg (p:=⟨pb,po,vD⟩) (Ee wn _) (.inl rfl) _;have hdz:=hdn.set_ (by omega) (by omega) n3 (i:=k) hkM.out (ve Av (t+1) cv)
       rw [AN.out,zH9] at hdz;replace hwn:=hwn.grown Ib (fun q e=>by have:=Za e;omega)
       replace QO:=QO.trans (Ex4.set_ wn (o:=po) Wq (ve Av (t+1) cv));replace Rb:=Y6 Rb Ib npN;clear hcn YE ia hdn Ib;generalize wn.setCell _ _=wz at hdz hwn QO Rb |-;have ia:=(Wb g N).refl wz;refine Fl ?_;refine OA ?_;go_wp2
       go_roundw
       case rel=>exact ⟨t+1,ve Av (t+1) cv,by omega,by go_num,by rw [ig.out];exact hwn,hdz,QO,by rw [ig.out];exact V6 (a:=xs) (b:=[y]) Rb rfl⟩
       case measure=>simp [intOf];omega
      ·obtain rfl:t=size:=by omega
       have HWS:=zH (show ∀ x∈(zh lm t lk fk).1,x<18446744073709551616 from (v8 lm t lk fk hlkb.out).1)
       have hexz:=hexk.trans Zl;have zo:=zH (show (∀ i,k+1 <= i -> fo vals k v i=ve vD 0 0) /\ ∀ i<k+1,Sw W0.1.size wr (fo vals k v i) (xt ps l0 f0 i) from ⟨fun i hi=>by rw [NW vals k v (by omega)];exact HV.out.1 i (by omega),fun i hi=>by
        rcases Sg i k with h5 | h5
        ·rw [NW vals k v (by omega)]
         exact oZ (oZ (HV.out.2 i h5) (Ex4.below (g:=g) (B:=B) (C4:=C4) (C6:=C6) ma (by have:=Ki.out;omega)) Us (by omega) (by omega) (by omega)) Zl Us (by omega) (by omega) (by omega)
        ·have e:i=k:=by omega
         subst e;rw [BD,Cn.out];exact zCZ Aa HWS.out hNs⟩)
       have jn:=TL Zl kx (by omega) (by omega) (by omega) (by omega)
       have cx:=jn.cell;clear Aa;go_wp2
       go_roundw
       case rel=>exact ⟨k+1,fo vals k v,by omega,by go_num,by rw [Bh.out];exact Yv,Yl,hexz,zo.out⟩
       case measure=>simp [intOf];omega
    ·obtain rfl:k=M:=by omega
     have HDN:=zH (zCo g bd _ _ wr og);have k2z:=TL hex zl (by omega) (by omega) (by omega) (by omega)
     have Wj:=xa.trans (hex.to_below (N:=w.1.size) xa.size (by omega) (by omega) (by omega) (by omega))
     have hsw:=hex.size;have MG:=zH (show rt<18446744073709551616 by have:=B8 (Me-1) b false HBB.out;rw [<- HRU.out] at this;exact this)
     have ig:=zH (show aG L j b=Uk ps l0 f0 k by unfold aG;rw [<- HRU.out,xo.out,HM.out])
     have HRP:=zH (show BA L j b={ root:=rt,code:=xt ps l0 f0 0,linear:=xt ps l0 f0 1,quad:=xt ps l0 f0 2,cols:=(List.range L.queries).map fun i=>xt ps l0 f0 (3+i),salts:=xt ps l0 f0 (3+L.queries),paths:=(List.range L.queries).map fun i=>xt ps l0 f0 (4+L.queries+i) } by unfold BA;rw [<- HRU.out,xo.out])
     obtain ⟨lz,hlz⟩:=zEX ((Uk ps l0 f0 k).1);obtain ⟨fz,YB⟩:=zEX ((Uk ps l0 f0 k).2);rw [<- hlz,<- YB] at HDN;have dB:=zH (show aG L j b=(lz,fz) by rw [ig.out,hlz,YB])
     clear hlz YB og;obtain ⟨A0,m0,c0,e0,r0⟩:=HV.out.2 0 (by have:=HM.out;omega)
     obtain ⟨A1,m1,c1,e1,r1⟩:=HV.out.2 1 (by have:=HM.out;omega)
     obtain ⟨A2,m2,c2,e2,r2⟩:=HV.out.2 2 (by have:=HM.out;omega)
     obtain ⟨A3,m3,c3,e3,r3⟩:=HV.out.2 (3+L.queries) (by have:=HM.out;omega)
     have kp:=hd.pr;rw [e0,e1,e2,e3] at kp;have Xw:=zH (HV.out.2 0 (by have:=HM.out;omega))
     have Jp:=zH (HV.out.2 1 (by have:=HM.out;omega))
     have Bq:=zH (HV.out.2 2 (by have:=HM.out;omega))
     have HF3:=zH (HV.out.2 (3+L.queries) (by have:=HM.out;omega))
     rw [e0] at Xw;rw [e1] at Jp;rw [e2] at Bq;rw [e3] at HF3;clear e0 e1 e2 e3 r0 r1 r2 r3;go_wp2_with fail
     refine HDN.out.mono ?_;rintro e w9 ⟨rfl,kk,rfl⟩;have OI:=kp.drewN kk;have KI:=k2z.drewN kk;have kcz:=hd.cols.drewN kk;have kqz:=hd.paths.drewN kk;have Wl:=zL Wj kk;have hag:∀ b:Nat,(wr.drewN kk).1[b]?=wr.1[b]?:=fun _=>rfl
     have hsy:(wr.drewN kk).1.size=wr.1.size:=rfl;have HAG:=zH (And.intro hag hsy);clear hag hsy kp k2z hd Wj;generalize wr.drewN kk=wz at OI KI kcz kqz Wl HAG |-;have cp:=OI.cell;have cr2:=KI.cell;have fr2:=KI.frozen;have lp:=OI.lt;cases mh:(!fz&&lz.isEmpty)
     ·have Hp:=zH (show D=(XU,2) by
       rw [HDz.out,ya];rintro ⟨-,h⟩;rw [dB.out] at h
       injection h with h1 h2
       subst h1 h2;simp at mh)
      clear mh;go_wp2_with fail
      have Vs:=lW (w:=wz) (g:=w.1.size+1) (vd vn 0) (ve vD 0 0) (ve vD 0 0) (ve vD 0 0) (ve vD 0 0) (ve vD 0 0) (ve vD 0 0);have kz:=jW KI (vd vn 0) (ve vD 0 0) (ve vD 0 0) (ve vD 0 0) (ve vD 0 0) (ve vD 0 0) (ve vD 0 0);clear cr2 fr2 KI cp;generalize ((((((vF wz _ _).setCell _ _).setCell _ _).setCell _ _).setCell _ _).setCell _ _).setCell _ _=Wf at Vs kz |-;have cz:=kz.cell;refine Tc (v:=.tuple #[vf #[vd vn 0,ve vD 0 0,ve vD 0 0,ve vD 0 0,ve vD 0 0,ve vD 0 0,ve vD 0 0],vd vq 2]) (by simp [results,results96,go_sem,cz]) rfl ?_
      rw [Hp.out];exact ⟨WU,rfl,fun u _ _=>Z5 u,Wl.trans (Es Vs w.1.size (by omega) (fun g e=>by have:=Za e;omega))⟩
     ·have Hp:=zH (show D=(BA L j b,0) by
       have h1:fz=false /\ lz=[]:=by simpa using mh
       rw [HDz.out,Na ⟨HZ.out,by rw [dB.out,h1.1,h1.2]⟩])
      clear mh;go_wp2_with fail
      have Vs:=lW (w:=wz) (g:=w.1.size+1) (vd vn rt) (ve A0 m0 c0) (ve A1 m1 c1) (ve A2 m2 c2) (ve (vE ⟨C4,0,vD⟩) L.queries L.queries) (ve A3 m3 c3) (ve (vE ⟨C6,0,vD⟩) L.queries L.queries);have kz:=jW KI (vd vn rt) (ve A0 m0 c0) (ve A1 m1 c1) (ve A2 m2 c2) (ve (vE ⟨C4,0,vD⟩) L.queries L.queries) (ve A3 m3 c3) (ve (vE ⟨C6,0,vD⟩) L.queries L.queries);clear cr2 fr2 KI cp;generalize ((((((vF wz _ _).setCell _ _).setCell _ _).setCell _ _).setCell _ _).setCell _ _).setCell _ _=Wf at Vs kz |-;have cz:=kz.cell;refine Tc (v:=.tuple #[vf #[vd vn rt,ve A0 m0 c0,ve A1 m1 c1,ve A2 m2 c2,ve (vE ⟨C4,0,vD⟩) L.queries L.queries,ve A3 m3 c3,ve (vE ⟨C6,0,vD⟩) L.queries L.queries],vd vq 0]) (by simp [results,results96,go_sem,cz]) rfl ?_
      rw [Hp.out,HRP.out];have lP:=Vs.size;have Zo:=xa.size;have h4:w.1.size <= C4:=by omega
      have h6:w.1.size <= C6:=by omega
      have k4:=kcz.grown Vs (fun e=>by have:=Za e;omega)
      have k6:=kqz.grown Vs (fun e=>by have:=Za e;omega)
      have keep:∀ (u:vw),Wf.1.size <= u.1.size -> (∀ b,w.1.size <= b -> b<Wf.1.size -> u.1[b]?=Wf.1[b]?) -> ∀ (v:vx) (l:List Nat),Sw W0.1.size wr v l -> Sw W0.1.size u v l:=fun u hu ha v l h=>pZ h (xb (by rw [<- HAG.out.2];exact lP) hu) fun b h1 h2=>(ha b (xb Zo h1) (Kc h2 (by rw [<- HAG.out.2];exact lP))).trans ((Vs.block b (by rw [HAG.out.2];exact h2) (fun e=>by have:=Za e;omega)).trans (HAG.out.1 b))
      refine ⟨⟨A0,m0,c0,A1,m1,c1,A2,m2,c2,vE ⟨C4,0,vD⟩,L.queries,L.queries,A3,m3,c3,vE ⟨C6,0,vD⟩,L.queries,L.queries⟩,rfl,fun u hu ha=>?_,Wl.trans (Es Vs w.1.size (by omega) (fun g e=>by have:=Za e;omega))⟩
      have hqm:L.queries <= maxLen:=by simp [maxLen];omega
      exact ⟨MG.out,zO (keep u hu ha _ _ Xw.out),zO (keep u hu ha _ _ Jp.out),zO (keep u hu ha _ _ Bq.out),
       r9 ((ha C4 h4 k4.lt).trans k4) (fun i (hi:i<L.queries)=>keep u hu ha _ _ (HV.out.2 (3+i) (by have:=HM.out;omega))) hqm,
       zO (keep u hu ha _ _ HF3.out),
       r9 ((ha C6 h6 k6.lt).trans k6) (fun i (hi:i<L.queries)=>keep u hu ha _ _ (HV.out.2 (4+L.queries+i) (by have:=HM.out;omega))) hqm⟩
def Gs (l:List Nat):List Nat:=l.flatMap fun x=>Ie x 8
theorem oS:∀ (l:List Nat),(Gs l).length=8*l.length
 | []=>rfl
 | x :: r=>by
  have e:Gs (x :: r)=Ie x 8++Gs r:=rfl;rw [e,Ni,qK,oS r,xg];omega
theorem KY:∀ (k n:Nat),∀ x∈Ie n k,x<256
 | 0,_,x,h=>by simp [Ie] at h
 | k+1,n,x,h=>by
  rw [Ie,Dh] at h;rcases h with h | h
  ·omega
  ·exact KY k _ x h
theorem zBF (l:List Nat):∀ x∈Gs l,x<256:=by
 intro x hx;obtain ⟨y,-,h⟩:=List.mem_flatMap.1 hx;exact KY 8 y x h
theorem zAA:∀ (k n:Nat),Qh (Ie n k)=n%256^k
 | 0,n=>by simp [Ie,Qh,Nat.mod_one]
 | k+1,n=>by
  rw [Ie,Qh,zAA k,If,ze (256^k) 256,Nat.mod_mul]
theorem zAM:∀ (l:List Nat),(∀ x∈l,x<18446744073709551616) -> xe l.length (Gs l)=l
 | [],_=>rfl
 | x :: r,h=>by
  have e:Gs (x :: r)=Ie x 8++Gs r:=rfl;have hl:(Ie x 8).length=8:=qK 8 x;rw [xg,xe,e,List.take_append_of_le_length (by omega),WG (by omega),List.drop_append_of_le_length (by omega),List.drop_of_length_le (by omega),List.nil_append,zAM r fun y hy=>h y (by simp [hy]),zAA]
  have h1:=h x (by simp)
  have h2:(256:Nat)^8=18446744073709551616:=by decide
  rw [h2,Kj h1]
theorem OJ {l r:List Nat} {n:Nat} (h:l.length=n):(l++r).drop n=r:=by
 rw [List.drop_append_of_le_length (by omega),List.drop_of_length_le (by omega),List.nil_append]
theorem bR {l r:List Nat} {n:Nat} (h:l.length=n):(l++r).take n=l:=by
 rw [List.take_append_of_le_length (by omega),WG (by omega)]
theorem uS (s:Nat):∀ (ls:List (List Nat)) (r:List Nat),(∀ l∈ls,l.length=s) -> Is ls.length s (ls.flatten++r)=ls
 | [],r,_=>rfl
 | l :: ls,r,h=>by
  have hl:=h l (by simp)
  have ih:=uS s ls r fun x hx=>h x (by simp [hx])
  apply mz (by rw [pH])
  intro i h1 h2;rw [vS];cases i with
  | zero =>
   rw [Nat.zero_mul,List.drop_zero,List.flatten_cons,zx,List.take_append_of_le_length (by omega),WG (by omega)]
   rfl
  | succ i =>
   have h3:i<(Is ls.length s (ls.flatten++r)).length:=by rw [pH];simpa using h2
   have e:=vS ls.length s (ls.flatten++r) i h3;simp only [ih] at e;have ed:(l++(ls.flatten++r)).drop ((i+1)*s)=(ls.flatten++r).drop (i*s):=by
    rw [show (i+1)*s=s+i*s by rw [Nat.succ_mul,Nat.add_comm],<- fl,OJ hl]
   rw [Ig,e,List.flatten_cons,zx,ed]
theorem AO (s:Nat):∀ (ls:List (List Nat)),(∀ l∈ls,l.length=s) -> ls.flatten.length=ls.length*s
 | [],_=>by simp
 | l :: ls,h=>by
  rw [List.flatten_cons,Ni,AO s ls fun x hx=>h x (by simp [hx]),h l (by simp),xg,Nat.succ_mul]
  omega
structure JR (L:Ma) (j:Nat) (P:se):Prop where
 code:P.code.length=L.k
 linear:P.linear.length=L.k+L.block-1
 quad:P.quad.length=2*L.k-1
 cols:P.cols.length=L.queries
 col:∀ l∈P.cols,l.length=L.a+L.b+L.b+L.b+3
 salts:P.salts.length=L.queries
 paths:P.paths.length=L.queries
 path:∀ l∈P.paths,l.length=j
theorem ZM {l:List Nat} {n p:Nat} (h:Tk l (n:Int) p=true):l.length=n:=by
 simp only [Tk,mc,qi] at h;omega
theorem N4 {ls:List (List Nat)} {m n p:Nat} (h:mw ls (m:Int) (n:Int) p=true):ls.length=m /\ ∀ l∈ls,l.length=n:=by
 simp only [mw,mc,qi,fe] at h;exact ⟨by omega,fun l hl=>ZM (h.1 l hl)⟩
theorem Q3 {L:Ma} {j:Nat} {P:se} (h:ei L j P=true):JR L j P:=by
 unfold ei at h;simp only [mc] at h;obtain ⟨-,h1,h2,h3,h4,h5,h6⟩:=h;have a4:=N4 h4;have a6:=N4 h6;exact ⟨ZM h1,ZM h2,ZM h3,a4.1,a4.2,ZM h5,a6.1,a6.2⟩
theorem ZU {L:Ma} {j:Nat} {P:se} (h:JR L j P):8*(Dj P).length=tn L j:=by
 have h4:=AO _ P.cols h.col;have h6:=AO _ P.paths h.path;rw [h.cols] at h4;rw [h.paths] at h6;have h1:=h.code;have h2:=h.linear;have h3:=h.quad;have h5:=h.salts;unfold Dj tn;simp only [Ni,xg,List.length_nil];rw [Nat.mul_add L.queries (L.a+L.b+L.b+L.b+3+1) j,Nat.mul_add L.queries (L.a+L.b+L.b+L.b+3) 1];omega
theorem zER {L:Ma} {j:Nat} {P:se} (h:JR L j P):mq L j (Dj P)=P:=by
 have hn:Dj P=P.root :: (P.code++(P.linear++(P.quad++(P.cols.flatten++(P.salts++P.paths.flatten))))):=by simp [Dj]
 have d1:(Dj P).drop 1=P.code++(P.linear++(P.quad++(P.cols.flatten++(P.salts++P.paths.flatten)))):=by rw [hn];rfl
 have d2:(Dj P).drop (1+L.k)=P.linear++(P.quad++(P.cols.flatten++(P.salts++P.paths.flatten))):=by rw [<- fl,d1,OJ h.code]
 have hf:=AO _ P.cols h.col;rw [h.cols] at hf;have e4:Is L.queries (L.a+L.b+L.b+L.b+3) (P.cols.flatten++(P.salts++P.paths.flatten))=P.cols:=by
  rw [<- h.cols];exact uS _ _ _ h.col
 have e6:Is L.queries j P.paths.flatten=P.paths:=by
  have:=uS j P.paths [] h.path;rw [List.append_nil] at this;rw [<- h.paths];exact this
 unfold mq;simp only [d1,d2,OJ h.linear,OJ h.quad,bR h.code,bR h.linear,bR h.quad,OJ hf,bR h.salts,OJ h.salts,e4,e6];rw [hn];cases P
 rfl
theorem zB9 (L:Ma) (j:Nat) (P:se) (hp:0<L.p) (hP:∀ x∈Dj P,x<18446744073709551616) (h:ei L j P=true):Et L j (Gs (Dj P))=(P,0) /\ (Gs (Dj P)).length=tn L j:=by
 have hl:=Q3 h;have hb:(Gs (Dj P)).length=tn L j:=by rw [oS,ZU hl]
 have h8:=ZU hl;have hw:=zAM (Dj P) hP;obtain ⟨h1,-⟩:=zCc L j (Gs (Dj P)) (Dj P).length hp hb h8;rw [hw,zER hl] at h1;obtain ⟨a1,a2⟩:=h1 h;refine ⟨?_,hb⟩;unfold Et;rw [Na ⟨hb,a2⟩,a1]
theorem zEQ (P:se):Dj P=P.root :: (rH P).flatten:=by simp [Dj,rH]
def EncF (w:vw) (ns:List Nat) (e:Ending) (w':vw):Prop :=
 ∃ g c,e=vl (.tuple #[ve (vE ⟨g,4,vD⟩) (8*ns.length) (c-4),vd vq 0]) /\ w'.ownsRow w.1.size 5 1 (ve (vE ⟨g,0,vD⟩) (8*ns.length+4) c) (8*ns.length+4) (U8 (Ie ns.length 4++Gs ns)) /\ 8*ns.length+4 <= c /\ c <= maxLen /\ vA w.1.size w w'
theorem zAe (L:Ma) (j:Nat) (hL:Lb L) (hj:j <= 10) (hT:L.a+3*L.b <= 40):tn L j <= 48000:=by
 have h1:=hL.k;have h2:=hL.b2;have h3:=hL.q2;have hm:L.queries*(L.a+L.b+L.b+L.b+3+1+j) <= 64*54:=Nat.mul_le_mul h3 (by omega)
 unfold tn;omega
theorem zFv (L:Ma) (j:Nat) (P:se) (S:PS) (w:vw) (hL:Lb L) (hn:L.n=2^j) (hj:j <= 10) (hT:L.a+3*L.b <= 40) (h:gh w P S) (hv:ei L j P=true) :
  vB prog 46 #[vf (jb L),vf (Od P S)] w (EncF w (Dj P)):=by
 have da:vA w.1.size w ((w.alloc (.cells (jb L) 101)).alloc (.cells (Od P S) 46)):=((Ca _ w).alloc zR _).alloc (by simp) _
 have HV:=zH (kV L j P S _ hL hn hj (yV h da));rw [hv] at HV;have hl:=Q3 hv;obtain ⟨e4,a4,m4,r4⟩:=UI h.cols;obtain ⟨e6,a6,m6,r6⟩:=UI h.paths;have z4:S.n4=L.queries:=by rw [e4];exact hl.cols
 have z6:S.n6=L.queries:=by rw [e6];exact hl.paths
 have hq:=hL.q1;obtain ⟨b4,q4,tu⟩:=r4.base (by omega) (by omega)
 obtain ⟨b6,q6,uu⟩:=r6.base (by omega) (by omega)
 have hN:(Dj P).length <= 6000:=by have:=ZU hl;have:=zAe L j hL hj hT;omega
 have HN:=zH hN;have HPT:=zH (fun (w':vw) (kg:Blk w' (w.1.size+1) 46 (Od P S))=>oV L j P S (w.1.size+1) b4 q4 b6 q6 w' hL hn hj kg z4 z6 kg.lt tu uu ⟨a4,m4⟩ ⟨a6,m6⟩)
 have HPI:=zH (fun (w':vw) (kg:Blk w' (w.1.size+1) 46 (Od P S)) (Rc:gh w' P S)=>M7 (L:=L) (j:=j) kg Rc (by rw [<- e4];exact z4) (by rw [<- e6];exact z6) tu uu)
 have Kp:=zH (fun w' (hb:vA w.1.size w w')=>yV h hb)
 have HC:=zH (zEQ P);have Zb:=zH (u6 h);have Ze:0<(Ei L j (w.1.size+1) b4 q4 b6 q6).length:=by simp [Ei,aj]
 have Wq:(Ei L j (w.1.size+1) b4 q4 b6 q6).length <= 200:=by have:=hL.q2;simp [Ei,aj,Rf];omega
 clear hN hv hl e4 a4 m4 r4 e6 a6 m6 r6 z4 z6 tu uu h hq hL hn hj hT;generalize Ei L j (w.1.size+1) b4 q4 b6 q6=ps at *;generalize rH P=ls at *;generalize Dj P=ns at *;unfold jb Od at *;go_enter func46,ntmps46
 go_wp2_with fail
 refine HV.out.mono ?_;rintro e w1 ⟨rfl,hb⟩;obtain ⟨k1,k2,Jb⟩:=qG hb;have xo:=zH (HPI.out w1 k2 (Kp.out w1 Jb));have c2:=k2.cell;have sh:=Jb.size;have EC:=k2.lt;clear hb HV HPI;go_upto_region 4 with fail
 have ma:=(Ca w1.1.size w1).alloc zR (.cells #[vd vn P.root] 22);have Aa:=zFf w1 w1.1.size (vd vn P.root) zR;have qe:(w1.alloc (.cells #[vd vn P.root] 22)).1.size=w1.1.size+1:=by simp
 replace k1:=ja k1 ma;replace k2:=ja k2 ma;have Gb:=pa Jb ma;clear c2;generalize w1.alloc _=w2 at ma Aa qe k1 k2 Gb |-;have c1:=k1.cell;have ox:=zH (HPT.out w2 k2);clear HPT;go_wp2_with fail
 refine ox.out.mono ?_;rintro e w3 ⟨v,n,rfl,ZO,Sa⟩;have mg:n=ps.length:=by have:=ZO.1;rw [rQ] at this;omega
 obtain ⟨r,cr,rfl,Zg,Wm⟩:=fJ ZO (by omega)
 have Ok:∀ i u,(pn ps)[i]?=vE u -> w3.cell? ⟨r,i,vD⟩=vE u:=fun i u hu=>by
  obtain ⟨ad,e,hc⟩:=(Rd.of_own ZO).2 (by omega)
  injection e with e
  subst e;have:=hc i u hu
  simpa [Sl] using this
 have aB:=zH Ok;replace Aa:w3.ownsRow w1.1.size 22 1 _ 1 (Oa [P.root]):=Mc Aa Sa zR;have hb13:vA w1.1.size w1 w3:=ma.trans (Sa.mono (by omega))
 have rF:=Sa.size;replace Gb:=pa Gb Sa;clear Ok ZO c1 k1 k2 ma Sa ox Kp;subst mg;have gm:(ps.length:Int) <= 200:=by omega
 generalize P.root=rt at *;go_wp2_with fail
 go_loopw [6,20] (fun v i wr=>∃ k m:Nat,k <= ps.length /\ i=vd vq k /\ wr.ownsRow w1.1.size 22 1 v m (Oa (rt :: (ls.take k).flatten)) /\ vA w1.1.size w1 wr /\ w3.grownBy wr (vE w1.1.size) /\ (∀ q,v.ownBlock=vE q -> vE w1.1.size=vE q \/ w3.1.size <= q)) (fun _ i _=>ps.length-(intOf i).toNat)
 case atStart=>exact ⟨0,1,Mb _,rfl,Aa,hb13,Ee _ _,fun q e=>by injection e with e;subst e;exact .inl rfl⟩
 case round =>
  clear Aa hb13;obtain ⟨k,m,hk,rfl,Aa,Db,Va,Yc⟩:=hrel;by_cases ta:k<ps.length
  ·have jm:k<ls.length:=by rw [<- xo.out.1];exact ta
   obtain ⟨b,o,A,nn,cc,RL,hc,Vf⟩:=mV (xo.out.2 k ta jm) Db;obtain ⟨u0,u1,u2⟩:=qQ ps k ta;have c0:=Va.cell (aB.out _ _ u0) (by show vE r≠vE w1.1.size;intro e;have:=Za e;omega)
   have c1:=Va.cell (aB.out _ _ u1) (by show vE r≠vE w1.1.size;intro e;have:=Za e;omega)
   have c2:=Va.cell (aB.out _ _ u2) (by show vE r≠vE w1.1.size;intro e;have:=Za e;omega)
   rw [RL] at c0;have HF:=zH (zDb ls k jm);have hle:=zDa ls (k+1);rw [HF.out,Ni] at hle;have hm:m+nn <= 6000:=by
    have h1:=Aa.1;have h2:=(Ny Vf).1;have h3:=HN.out;rw [HC.out] at h3;rw [tt] at h1;simp only [xg] at h1 h3;omega
   have Dm:=zH jm;clear u0 u1 u2 RL hle;generalize ps[k].size=size at *;generalize ps[k].lim=lim at *;have lb:b<wr.1.size:=Jf _ _ hc;have lr:r<wr.1.size:=Jf _ _ c0;have g1:(0:Int)<=k:=by omega
   have g2:(k:Int)<ps.length:=by omega
   have ma:=(Ca wr.1.size wr).alloc zR (.cells #[.pointer (vE ⟨b,o,vD⟩),vd vq size,vd vn lim] 199);have hrw2:=Bb ma Vf;have hs5:=Db.size;go_wp2_with (at_builtin;refine uk rfl _ _ rfl OL rfl (Aa.alloc _) rfl (Ny hrw2).2.2.2.2 (oq _) (by omega) (by simp;omega) ?_)
   intro v' wn Rb Wa Dc;have hB:=zFe (Aa.alloc _) Wa (by simp;omega)
   have Jh:=(Db.trans (ma.mono (by omega))).trans hB
   have Sc:=fV (Nf Va ma Va.size) Yc Wa (by
    rcases Dc with e | e
    ·exact .inl e
    ·exact .inr ⟨_,e,by simp⟩)
   replace Rb:wn.ownsRow w1.1.size 22 1 v' (m+nn) (Oa (rt :: (ls.take (k+1)).flatten)):=V6 (a:=rt :: (ls.take k).flatten) (b:=ls[k]) Rb (by rw [HF.out];rfl)
   clear Aa Wa Dc hB Vf hrw2 ma c0 c1 c2 hc Va Yc Db lb lr;go_wp2
   go_roundw
   case rel=>exact ⟨k+1,m+nn,by omega,by go_num,Rb,Jh,Sc.1,Sc.2⟩
   case measure=>simp [intOf];omega
  ·have ek:k=ls.length:=by rw [<- xo.out.1];omega
   have HCC:=zH HC.out;rw [ek,Zr,<- HC.out] at Aa;have hm:m=ns.length:=by have:=Aa.1;rw [tt] at this;omega
   subst hm;obtain ⟨A,c,rfl,h1,h2,Ra,-⟩:=de Aa;have Nk:0<ns.length:=by rw [HC.out];simp
   have Hk:=HN.out;have HLs:=zH (zIk vD A 0 0 ns.length c [] ns wr (Rd.nil _ _ _) (fun u hu=>by cases hu) Ra Zb.out (by omega))
   have Wj:vA w.1.size w wr:=Jb.trans (Db.mono sh);clear ek Aa Ra Va Yc;go_wp2_with fail
   refine HLs.out.mono ?_;rintro e w5 ⟨v5,rfl,hv5,Ya⟩;obtain ⟨n5,hn5⟩:=zEX (0+4+8*ns.length);rw [<- hn5] at hv5;obtain ⟨g5,c5,rfl,-,-⟩:=fJ hv5 (by omega)
   have HOW:=zH (tA hv5 Wj.size);obtain ⟨h5,h6⟩:n5 <= c5 /\ c5 <= maxLen:=by
    obtain ⟨A',c',he,h5,h6,-⟩:=de hv5
    injection he with _ _ e3
    subst e3;exact ⟨h5,h6⟩
   have HI:=zH (zIj vD 0 0 0 [] w5 (Rd.nil _ _ _) (fun u hu=>by cases hu) (by omega) (by omega) (by omega))
   have e8:n5-4=8*ns.length:=by omega
   have v1:(4:Int)<n5:=by omega
   have v2:(4:Int)<c5:=by omega
   have v3:(n5:Int)<=c5:=by omega
   have HE8:=zH (And.intro h5 (And.intro h6 (And.intro hn5 e8)));replace Wj:=pa Wj Ya;clear hn5 hv5 h5 h6 Ya Nk Hk e8;go_wp2_with fail
   refine HI.out.mono ?_;rintro e w6 ⟨v6,rfl,hv6,sc⟩;obtain ⟨A6,c6,rfl,-⟩:=de hv6;have HOZ:=zH (Mc HOW.out sc zR);replace Wj:=pa Wj sc;clear hv6 sc;go_wp2
   go_ret2
   obtain ⟨h5,h6,hn5,e8⟩:=HE8.out;have e9:n5=8*ns.length+4:=by omega
   have ho:=HOZ.out;have ed:([]++(U8 (Ie ns.length 4)++U8 (ns.flatMap fun x=>Ie x 8)))=U8 (Ie ns.length 4++Gs ns):=by
    rw [List.nil_append,dH]
    rfl
   rw [ed,e9] at ho;exact ⟨g5,c5,by rw [<- e8];rfl,ho,by omega,h6,Wj⟩
end Go.Proofs.YteoghgbnielkpaaGreat
