/- A part of the proof. No condition. -/
import Derived.Test.YteoghgbnielkpaaGreatTH6

set_option maxRecDepth 100000
set_option maxHeartbeats 8000000
set_option linter.unusedVariables false
set_option linter.unusedSimpArgs false
namespace Go.Proofs.YteoghgbnielkpaaGreat
open Go.RowKit
open Tryz
open Go renaming World->vw, Value->vx, Addr->vy, TypeId->vz, Calls->vB
open Go.Value renaming int->vd, slice->ve, agg->vf
open Go.IntKind renaming u64->vn, i64->vq
open Go.Ending renaming returned->vl
open Go.RowKit renaming Below->vA
open Go.Act renaming put->vG
open Option renaming none->vD, some->vE
def QK (x:NewIn) (e:Ending):Prop:=∃ (y0 y1 y2 y3 y4 y5 y6 y7 y8 y9 ue:Int) (b s:Bool),e=vl (.tuple #[vf #[vd vn y0,vd vq y1,vd vq y2,vd vq y3,vd vq y4,vd vq y5,vd vq y6,vd vq y7,vd vq y8,vd vq y9,vd vq ue], .bool b, .bool s]) /\ (b=true -> ∃ L,Rb L /\ ak L x /\ L.n <= 64 /\ L.a+3*L.b <= 40 /\ #[vd vn y0,vd vq y1,vd vq y2,vd vq y3,vd vq y4,vd vq y5,vd vq y6,vd vq y7,vd vq y8,vd vq y9,vd vq ue]=Db L)
theorem wT {y0 y1 y2 y3 y4 y5 y6 y7 y8 y9 ue:Int} {L:Ra} (h:#[vd vn y0,vd vq y1,vd vq y2,vd vq y3,vd vq y4,vd vq y5,vd vq y6,vd vq y7,vd vq y8,vd vq y9,vd vq ue]=Db L):y0=L.p /\ y1=L.block /\ y2=L.queries /\ y3=L.k /\ y4=L.n /\ y5=L.secret /\ y6=L.rows /\ y7=L.a /\ y8=L.b /\ y9=L.b /\ ue=L.b:=by
 simpa [Db] using h
structure rB (p:Nat) (pub vars:Int) (rows:List Ya) (ws:List Nat) (s:Bool):Prop where
 tab:Zc p pub vars rows=true
 asg:Gh p vars ws=true
 small:YI rows
 few:rows.length <= 12
 sat:qw p rows ws=s
theorem zE1 (p:Nat) (pub vars:Int) (A B:Option vy) (n c m d:Nat) (rows:List Ya) (ws:List Nat) (bl bw qs:Int) (coin seed:Int) (real:Bool) (w:vw) (hr:RSl 3 oe w [ve A n c] rows) (hw:RWd w [ve B m d] ws) (hp:p<18446744073709551616) :
  vB prog 13 #[vf #[vd vn p,vd vq pub,vd vq vars,ve A n c,vd vq bl,vd vq bw,vd vq qs,ve B m d,vd vn coin, .bool real,vd vn seed]] w fun e w'=>(QK ⟨p,pub,vars,rows.length,bl,bw,qs⟩ e /\ (∀ v s,e=vl (.tuple #[v, .bool true, .bool s]) -> rB p pub vars rows ws s)) /\ vA w.1.size w w':=by
 have HR:=zH (fun w' (hb:vA w.1.size w w')=>zE0 12 p pub vars A B n c m d rows ws bl bw qs w' (Dg Bg _ _ _ _ hb hr) (Bb hb hw) hp)
 have HS:=zH (fun ht ha w' (hb:vA w.1.size w w')=>zE2 p pub vars A B n c m d rows ws w' (Dg Bg _ _ _ _ hb hr) (Bb hb hw) ht ha)
 obtain ⟨A',n',c',he,-⟩:=hr;simp at he
 obtain ⟨rfl,rfl,rfl⟩:=he;have da:vA w.1.size w ((w.alloc (.cells #[vd vn p,vd vq pub,vd vq vars,ve A n c,vd vq bl,vd vq bw,vd vq qs,ve B m d,vd vn coin, .bool real,vd vn seed] 32)).alloc (.cells #[vd vn 0,vd vq 0,vd vq 0,vd vq 0,vd vq 0,vd vq 0,vd vq 0,vd vq 0,vd vq 0,vd vq 0,vd vq 0] 35)):=((za _ w).alloc zR _).alloc (by simp) _
 go_enter func13,ntmps13
 go_wp2_with fail
 refine (HR.out _ da).mono ?_;rintro e w1 ⟨⟨AJ,XH⟩,hb⟩;obtain ⟨k1,k2,Fb⟩:=oK hb;have l2:=k2.lt;clear hb;obtain ⟨y0,y1,y2,y3,y4,y5,y6,y7,y8,y9,ue,b,rfl,hL⟩:=AJ;cases b
 ·have HE:=zH (show QK ⟨p,pub,vars,rows.length,bl,bw,qs⟩ (vl (.tuple #[vf #[vd vn y0,vd vq y1,vd vq y2,vd vq y3,vd vq y4,vd vq y5,vd vq y6,vd vq y7,vd vq y8,vd vq y9,vd vq ue], .bool false, .bool false])) from ⟨_,_,_,_,_,_,_,_,_,_,_,_,_,rfl,fun h=>by cases h⟩)
  clear hL XH;obtain ⟨c2,f2⟩:=k2.cells';go_wp2_with fail
  obtain ⟨wf,dc,bI,Ox⟩:=gD k2 Fb y0 y1 y2 y3 y4 y5 y6 y7 y8 y9 ue;rw [dc];clear dc;have kW:=bI.alloc (.cells #[vd vn y0,vd vq y1,vd vq y2,vd vq y3,vd vq y4,vd vq y5,vd vq y6,vd vq y7,vd vq y8,vd vq y9,vd vq ue] 35);have hW:=Ox.alloc Ox.size (.cells #[vd vn y0,vd vq y1,vd vq y2,vd vq y3,vd vq y4,vd vq y5,vd vq y6,vd vq y7,vd vq y8,vd vq y9,vd vq ue] 35);have Ao:=kW.cell;exact ed (v:=.tuple #[vf #[vd vn y0,vd vq y1,vd vq y2,vd vq y3,vd vq y4,vd vq y5,vd vq y6,vd vq y7,vd vq y8,vd vq y9,vd vq ue], .bool false, .bool false]) (by simp [results,results13,go_sem,Ao]) rfl ⟨⟨HE.out,fun v s h=>by simp at h⟩,hW⟩
 ·obtain ⟨L,ib,hLp,rE⟩:=hL rfl
  obtain ⟨rfl,rfl,rfl,rfl,rfl,rfl,rfl,rfl,rfl,rfl,rfl⟩:=wT rE;have HT:=zH (XH _ rfl);have HO:=zH ib;have HLp:=zH hLp;have na:=ib.a;have nb:=ib.b;clear hL XH ib hLp rE;obtain ⟨c1,f1⟩:=k1.cells';obtain ⟨c2,f2⟩:=k2.cells';by_cases z1:64<L.n
  ·have HE:=zH (show QK ⟨p,pub,vars,rows.length,bl,bw,qs⟩ (vl (.tuple #[vf #[vd vn L.p,vd vq L.block,vd vq L.queries,vd vq L.k,vd vq L.n,vd vq L.secret,vd vq L.rows,vd vq L.a,vd vq L.b,vd vq L.b,vd vq L.b], .bool false, .bool false])) from ⟨_,_,_,_,_,_,_,_,_,_,_,_,_,rfl,fun h=>by cases h⟩)
   have d1:decide ((64:Int)<L.n)=true:=yb (by omega)
   have d2:decide (64<L.n)=true:=yb z1;go_wp2_with fail
   obtain ⟨wf,dc,bI,Ox⟩:=NP k2 Fb L;rw [dc];clear dc;have kW:=bI.alloc (.cells #[vd vn L.p,vd vq L.block,vd vq L.queries,vd vq L.k,vd vq L.n,vd vq L.secret,vd vq L.rows,vd vq L.a,vd vq L.b,vd vq L.b,vd vq L.b] 35);have hW:=Ox.alloc Ox.size (.cells #[vd vn L.p,vd vq L.block,vd vq L.queries,vd vq L.k,vd vq L.n,vd vq L.secret,vd vq L.rows,vd vq L.a,vd vq L.b,vd vq L.b,vd vq L.b] 35);have Ao:=kW.cell;exact ed (v:=.tuple #[vf #[vd vn L.p,vd vq L.block,vd vq L.queries,vd vq L.k,vd vq L.n,vd vq L.secret,vd vq L.rows,vd vq L.a,vd vq L.b,vd vq L.b,vd vq L.b], .bool false, .bool false]) (by simp [results,results13,go_sem,Ao]) rfl ⟨⟨HE.out,fun v s h=>by simp at h⟩,hW⟩
  ·have d1:decide ((64:Int)<L.n)=false:=xb (by omega)
   have d2:decide (64<L.n)=false:=xb z1;have sp:=zH (fun w=>N5 L.p L.block L.queries L.k L.n L.secret L.rows L.a L.b L.b L.b w na nb nb nb)
   revert sp
   generalize hT:L.a+L.b+L.b+L.b=T;intro sp;by_cases z2:40<T
   ·have HE:=zH (show QK ⟨p,pub,vars,rows.length,bl,bw,qs⟩ (vl (.tuple #[vf #[vd vn L.p,vd vq L.block,vd vq L.queries,vd vq L.k,vd vq L.n,vd vq L.secret,vd vq L.rows,vd vq L.a,vd vq L.b,vd vq L.b,vd vq L.b], .bool false, .bool false])) from ⟨_,_,_,_,_,_,_,_,_,_,_,_,_,rfl,fun h=>by cases h⟩)
    have d3:decide ((40:Int)<T)=true:=yb (by omega)
    have d4:decide (40<T)=true:=yb z2;have HTT:=zH hT;clear hT;go_wp2_with fail
    refine (sp.out _).mono ?_;rintro e w3 ⟨rfl,Ua⟩;have Up:=(k2.alloc (.cells #[vd vn L.p,vd vq L.block,vd vq L.queries,vd vq L.k,vd vq L.n,vd vq L.secret,vd vq L.rows,vd vq L.a,vd vq L.b,vd vq L.b,vd vq L.b] 35)).below Ua (by simp;omega)
    have Yf:=(k1.alloc (.cells #[vd vn L.p,vd vq L.block,vd vq L.queries,vd vq L.k,vd vq L.n,vd vq L.secret,vd vq L.rows,vd vq L.a,vd vq L.b,vd vq L.b,vd vq L.b] 35)).below Ua (by simp;omega)
    have aA:=(Blk.new w1 35 #[vd vn L.p,vd vq L.block,vd vq L.queries,vd vq L.k,vd vq L.n,vd vq L.secret,vd vq L.rows,vd vq L.a,vd vq L.b,vd vq L.b,vd vq L.b]).below Ua (by simp)
    have rS:=ma (Fb.alloc Fb.size _) Ua;have l3:w.1.size+1<w3.1.size:=Up.lt;have l4:w.1.size<w3.1.size:=by omega
    have l5:w1.1.size<w3.1.size:=aA.lt;have n1:w1.1.size≠w.1.size+1:=by omega
    clear c1 f1 c2 f2 k1 k2 Fb Ua;obtain ⟨c1,f1⟩:=Yf.cells';obtain ⟨c2,f2⟩:=Up.cells';obtain ⟨c5,f5⟩:=aA.cells';go_wp2;obtain ⟨wf,dc,kW,hW⟩:=NP Up rS L;rw [dc];clear dc;have Ao:=kW.cell;exact ed (v:=.tuple #[vf #[vd vn L.p,vd vq L.block,vd vq L.queries,vd vq L.k,vd vq L.n,vd vq L.secret,vd vq L.rows,vd vq L.a,vd vq L.b,vd vq L.b,vd vq L.b], .bool false, .bool false]) (by simp [results,results13,go_sem,Ao]) rfl ⟨⟨HE.out,fun v s h=>by simp at h⟩,hW⟩
   ·have HE:=zH (show ∀ s,QK ⟨p,pub,vars,rows.length,bl,bw,qs⟩ (vl (.tuple #[vf #[vd vn L.p,vd vq L.block,vd vq L.queries,vd vq L.k,vd vq L.n,vd vq L.secret,vd vq L.rows,vd vq L.a,vd vq L.b,vd vq L.b,vd vq L.b], .bool true, .bool s])) from fun s=>⟨_,_,_,_,_,_,_,_,_,_,_,_,_,rfl,fun _=>⟨L,HO.out,HLp.out,by omega,by omega,rfl⟩⟩)
    have d3:decide ((40:Int)<T)=false:=xb (by omega)
    have d4:decide (40<T)=false:=xb z2;have HTT:=zH hT;clear hT;go_wp2_with fail
    refine (sp.out _).mono ?_;rintro e w3 ⟨rfl,Ua⟩;have Up:=(k2.alloc (.cells #[vd vn L.p,vd vq L.block,vd vq L.queries,vd vq L.k,vd vq L.n,vd vq L.secret,vd vq L.rows,vd vq L.a,vd vq L.b,vd vq L.b,vd vq L.b] 35)).below Ua (by simp;omega)
    have Yf:=(k1.alloc (.cells #[vd vn L.p,vd vq L.block,vd vq L.queries,vd vq L.k,vd vq L.n,vd vq L.secret,vd vq L.rows,vd vq L.a,vd vq L.b,vd vq L.b,vd vq L.b] 35)).below Ua (by simp;omega)
    have aA:=(Blk.new w1 35 #[vd vn L.p,vd vq L.block,vd vq L.queries,vd vq L.k,vd vq L.n,vd vq L.secret,vd vq L.rows,vd vq L.a,vd vq L.b,vd vq L.b,vd vq L.b]).below Ua (by simp)
    have rS:=ma (Fb.alloc Fb.size _) Ua;have l3:w.1.size+1<w3.1.size:=Up.lt;have l4:w.1.size<w3.1.size:=by omega
    have l5:w1.1.size<w3.1.size:=aA.lt;have n1:w1.1.size≠w.1.size+1:=by omega
    clear c1 f1 c2 f2 k1 k2 Fb Ua;obtain ⟨c1,f1⟩:=Yf.cells';obtain ⟨c2,f2⟩:=Up.cells';obtain ⟨c5,f5⟩:=aA.cells';go_wp2;refine Cd (om (w.1.size+1)) [7,8] [0,1,2,3,4,5,6,7,8,9,10] (by kernel_rfl) (by kernel_rfl) ?_
    refine De (Je (w.1.size+1)) ?_;intro Wc Ha ea;refine Zn ?_;have hwc:vA w.1.size w Wc:=by rw [Ha.out];exact rS.drew
    have kwc:=Up.drew;rw [<- Ha.out] at kwc;refine Gc (Je (w.1.size+1)) rfl rfl rfl (fun _=>by go_simp <;> rfl) ((HS.out HT.out.1 HT.out.2.1 _ hwc).mono ?_)
    rintro e w4 ⟨rfl,zb⟩;refine ⟨_,rfl,jw zb,?_⟩;replace ea:=(Je (w.1.size+1)).trans _ _ _ ea (jw zb);refine zPU ?_;replace kwc:=ia kwc zb;replace hwc:=ma hwc zb;clear c1 f1 c2 f2 c5 f5 Yf Up aA;obtain ⟨c2,f2⟩:=kwc.cells';refine Ye (Je (w.1.size+1)) rfl rfl rfl ?_;go_simp;refine ⟨zFN _ (vd vn L.p) (vd vq L.block) (vd vq L.queries) (vd vq L.k) (vd vq L.n) (vd vq L.secret) (vd vq L.rows) (vd vq L.a) (vd vq L.b) (vd vq L.b) (vd vq L.b),?_⟩;obtain ⟨wf,dc,kW,hW⟩:=NP kwc hwc L;rw [dc];clear dc ea Ha c2 f2;have ea:=(Je (w.1.size+1)).refl wf;refine Zn ?_;refine Qc ?_;go_wp2;have Ao:=kW.cell;exact ed (v:=.tuple #[vf #[vd vn L.p,vd vq L.block,vd vq L.queries,vd vq L.k,vd vq L.n,vd vq L.secret,vd vq L.rows,vd vq L.a,vd vq L.b,vd vq L.b,vd vq L.b], .bool true, .bool (qw p rows ws)]) (by simp [results,results13,go_sem,Ao]) rfl ⟨⟨HE.out _,fun v s h=>by
     simp at h
     exact ⟨HT.out.1,HT.out.2.1,HT.out.2.2.1,by have:=HT.out.2.2.2;omega,h.2⟩⟩,hW⟩
def Vn (l:List Nat) (n:Int) (p:Nat):Bool:=l.all (fun x=>decide (x<p))&&((l.length:Int) == n)
def uF (ls:List (List Nat)) (m n:Int) (p:Nat):Bool:=ls.all (fun l=>Vn l n p)&&((ls.length:Int) == m)
theorem jW {l:List Nat} {p j:Nat} (hj:j<l.length) (h:p <= l.getD j 0):l.all (fun x=>decide (x<p))=false:=by
 refine bz.2 ⟨l[j],wg hj,?_⟩;simp [Jb,oc hj] at h
 simp
 omega
theorem lW {l:List Nat} {p:Nat} (h:∀ k<l.length,l.getD k 0<p):l.all (fun x=>decide (x<p))=true:=by
 refine Xd.2 fun x hx=>?_
 obtain ⟨k,hk,rfl⟩:=uo hx;have:=h k hk;simp [Jb,oc hk] at this
 simpa using this
theorem LX {l:List Nat} {p j:Nat} (h:∀ k<j,l.getD k 0<p) (hj:¬p <= l.getD j 0):∀ k<j+1,l.getD k 0<p:=fun k hk=>by
 rcases Hg k j with h1 | h1
 ·exact h k h1
 ·have e:k=j:=by omega
  rw [e];omega
theorem ug {w:vw} {A:Option vy} {n c:Nat} {l:List Nat} (h:RWd w [ve A n c] l):n=l.length /\ n <= c /\ c <= maxLen /\ (∀ x∈l,x<18446744073709551616) /\ Rd w 1 A n (Ia l):=by
 obtain ⟨A',n',c',he,h1,h2,h3,h4⟩:=h;simp at he
 obtain ⟨rfl,rfl,rfl⟩:=he;have:=h3.len1;rw [So] at this;exact ⟨this.symm,h1,h2,h4,h3⟩
theorem dQ {w:vw} {A:Option vy} {l:List Nat} (h:Rd w 1 A l.length (Ia l)) {j:Nat} (hj:j<l.length):∃ b q,A=vE ⟨b,q,vD⟩ /\ b<w.1.size /\ w.cell? ⟨b,q+j,vD⟩=vE (vd vn ((l.getD j 0:Nat):Int)):=by
 obtain ⟨b,q,e,hb,hc⟩:=Cy h (by omega)
 refine ⟨b,q,e,hb,?_⟩;rw [hc j hj,YD hj,Jb,oc hj]
 rfl
theorem uy {n c:Nat} (h1:n <= c) (h2:c <= maxLen):(n:Int) <= 9223372036854775807:=by
 simp [maxLen] at h2
 omega
theorem ZQ (A:Option vy) (n c:Nat) (l:List Nat) (p:Nat) (w:vw) (hl:RWd w [ve A n c] l) :
  vB prog 56 #[ve A n c,vd vn p] w fun e w'=>e=vl (.bool (l.all (fun x=>decide (x<p)))) /\ w=w':=by
 obtain ⟨rfl,h1,h2,-,Ma⟩:=ug hl;have gm:=uy h1 h2;clear hl h1 h2;go_enter func56,ntmps56
 go_wp2_with fail
 go_loop [9] (fun i=>∃ j:Nat,j <= l.length /\ i=vd vq j /\ Hid (∀ k<j,l.getD k 0<p)) (fun i=>l.length-(intOf i).toNat)
 case atStart=>exact ⟨0,Lb _,rfl,fun k hk=>by omega⟩
 case round =>
  obtain ⟨j,hj,rfl,HB⟩:=hrel;by_cases ra:j<l.length
  ·obtain ⟨b,q,rfl,Gb,hc⟩:=dQ Ma ra
   have HL:=zH ra;have g1:(0:Int)<=j:=by omega
   have g2:(j:Int)<l.length:=by omega
   revert hc
   generalize hy:l.getD j 0=y;intro hc;have HY:=zH hy;clear hy Ma;by_cases z:p <= y
   ·have HZ:=zH (jW (p:=p) ra (by rw [HY.out];exact z))
    have d1:decide ((p:Int)<=y)=true:=yb (by omega)
    go_wp2;go_ret
    exact ⟨by rw [HZ.out];rfl,rfl⟩
   ·have HZ:=zH (LX HB.out (by rw [HY.out];exact z))
    have d1:decide ((p:Int)<=y)=false:=xb (by omega)
    go_wp2
    go_round
    case rel=>exact ⟨j+1,by omega,by go_num,HZ.out⟩
    case measure=>simp [intOf];omega
  ·have e:j=l.length:=by omega
   have HA:=zH (lW (l:=l) (p:=p) (fun k hk=>HB.out k (by omega)))
   clear Ma;go_wp2;go_ret
   exact ⟨by rw [HA.out];rfl,rfl⟩
theorem zAd {j:Nat} (hj:j<64):Lib.bitLen (2^j)=j+1:=by
 obtain ⟨h1,h2,h3⟩:=Lib.bitLenAux_bounds 64 (2^j) (Nat.pow_lt_pow_right (by omega) hj) (Nat.ne_of_gt (Nat.pow_pos (by omega)))
 have e:Lib.bitLen (2^j)=Lib.bitLenAux 64 (2^j):=rfl;rw [e];generalize Lib.bitLenAux 64 (2^j)=k at *;have h4:=(Nat.pow_lt_pow_iff_right (a:=2) (by omega)).1 h3
 have h5:=(Nat.pow_le_pow_iff_right (a:=2) (by omega)).1 h2
 omega
theorem pP {j n:Nat} (h:n=2^j) (hn:n <= 1024):j <= 10:=by
 rcases Hg 10 j with h1 | h1
 ·have:2^11 <= 2^j:=Zr (by omega) h1
  omega
 ·exact h1
theorem zCy (L:Ra) (j:Nat) (w:vw) (hn:L.n=2^j) (hj:j <= 10) :
  vB prog 191 #[vf (Db L)] w fun e w'=>e=vl (vd vq j) /\ vA w.1.size w w':=by
 have hN:L.n <= 1024:=by rw [hn];exact Zr (n:=2) (by omega) hj
 have HL:=zH (fun w=>zCv (L.n:Int) w (by omega) (by omega))
 rw [Lk,hn,zAd (by omega),<- hn] at HL
 have e1:vn.wrap (L.n:Int)=L.n:=Ek _ (by omega)
 have i1:(j:Int) <= 10:=by omega
 have e2:((j+1:Nat):Int)-1=(j:Int):=by omega
 unfold Db;clear hn;go_enter func191,ntmps191
 go_wp2_with fail
 refine (HL.out _).mono ?_;rintro e w1 ⟨rfl,rfl⟩;go_wp2;go_ret
 exact ⟨by simp,(za _ _).alloc zR _⟩
structure ProofR where
 root:Nat
 code:List Nat
 linear:List Nat
 quad:List Nat
 cols:List (List Nat)
 salts:List Nat
 paths:List (List Nat)
structure PS where
 A1:Option vy
 n1:Nat
 c1:Nat
 A2:Option vy
 n2:Nat
 c2:Nat
 A3:Option vy
 n3:Nat
 c3:Nat
 A4:Option vy
 n4:Nat
 c4:Nat
 A5:Option vy
 n5:Nat
 c5:Nat
 A6:Option vy
 n6:Nat
 c6:Nat
def Ld (P:ProofR) (S:PS):Array vx:=#[vd vn P.root,ve S.A1 S.n1 S.c1,ve S.A2 S.n2 S.c2,ve S.A3 S.n3 S.c3,ve S.A4 S.n4 S.c4,ve S.A5 S.n5 S.c5,ve S.A6 S.n6 S.c6]
structure Gj (w:vw) (P:ProofR) (S:PS):Prop where
 root:P.root<18446744073709551616
 code:RWd w [ve S.A1 S.n1 S.c1] P.code
 linear:RWd w [ve S.A2 S.n2 S.c2] P.linear
 quad:RWd w [ve S.A3 S.n3 S.c3] P.quad
 cols:RSl 1 RWd w [ve S.A4 S.n4 S.c4] P.cols
 salts:RWd w [ve S.A5 S.n5 S.c5] P.salts
 paths:RSl 1 RWd w [ve S.A6 S.n6 S.c6] P.paths
theorem Iu {w w':vw} {P:ProofR} {S:PS} (h:Gj w P S) (hb:vA w.1.size w w'):Gj w' P S :=
 ⟨h.root,Bb hb h.code,Bb hb h.linear,Bb hb h.quad,Dg dI _ _ _ _ hb h.cols,Bb hb h.salts,Dg dI _ _ _ _ hb h.paths⟩
theorem Ri {w:vw} {A:Option vy} {n c:Nat} {ls:List (List Nat)} (h:RSl 1 RWd w [ve A n c] ls):n=ls.length /\ n <= c /\ c <= maxLen /\ RdL w 1 RWd A ls:=by
 obtain ⟨A',n',c',he,hlen,He,yf,Ma⟩:=h;simp at he
 obtain ⟨rfl,rfl,rfl⟩:=he;exact ⟨hlen.symm,He,yf,Ma⟩
theorem xF {w:vw} {A:Option vy} {ls:List (List Nat)} (h:RdL w 1 RWd A ls) {j:Nat} (hj:j<ls.length):∃ b q A1 n1 c1,A=vE ⟨b,q,vD⟩ /\ b<w.1.size /\ w.cell? ⟨b,q+j,vD⟩=vE (ve A1 n1 c1) /\ RWd w [ve A1 n1 c1] ls[j]:=by
 obtain ⟨b,q,rfl⟩:=h.base (by omega) (by omega)
 obtain ⟨cs,Jl,hc,hr⟩:=h.get hj;have xk:=hr;obtain ⟨A1,n1,c1,rfl,-⟩:=hr;have c0:=hc 0 (by omega)
 simp at c0
 exact ⟨b,q,A1,n1,c1,rfl,mf _ _ c0,c0,xk⟩
def wm:Nat:=18446744069414584321
def Rn (L:Ra) (j:Nat) (P:ProofR):Bool :=
 !(decide (wm <= P.root))&&(Vn P.code (L.k:Int) L.p&&(Vn P.linear ((L.k+L.block-1:Nat):Int) L.p&&(Vn P.quad ((2*L.k-1:Nat):Int) L.p &&
  (uF P.cols (L.queries:Int) ((L.a+L.b+L.b+L.b+3:Nat):Int) L.p&&(Vn P.salts (L.queries:Int) wm&&uF P.paths (L.queries:Int) (j:Int) wm)))))
theorem zCa:(prog.info? 199).map (fun i=>(i.zero,i.size,i.bytes))=vE (vE (vf #[.pointer vD,vd vq 0,vd vn 0]),3,24):=by kernel_rfl
theorem sR:Jt prog 194 199 3 24 (vf #[.pointer vD,vd vq 0,vd vn 0]):=by
 obtain ⟨i0,hi,sj,Nd,Bf⟩:=info_parts zCa;exact ⟨underlying194,⟨i0,hi,sj,Nd,Bf⟩,rfl,by omega⟩
structure Dl where
 ptr:vy
 size:Nat
 lim:Nat
def Uo (l:List Dl):List vx:=l.flatMap fun x=>[.pointer (vE x.ptr),vd vq x.size,vd vn x.lim]
theorem lU (l m:List Dl):Uo (l++m)=Uo l++Uo m:=by simp [Uo]
theorem N4 (l:List Dl):(Uo l).length=l.length*3:=by
 induction l with
 | nil=>rfl
 | cons x l ih=>simp [Uo] at ih |-;omega
def To (L:Ra) (g:Nat):List Dl:=[⟨⟨g,1,vD⟩,L.k,L.p⟩,⟨⟨g,2,vD⟩,L.k+L.block-1,L.p⟩,⟨⟨g,3,vD⟩,2*L.k-1,L.p⟩]
def Th (b q n size lim:Nat):List Dl:=(List.range n).map fun i=>⟨⟨b,q+i,vD⟩,size,lim⟩
theorem J4 (b q n size lim:Nat):Th b q (n+1) size lim=Th b q n size lim++[⟨⟨b,q+n,vD⟩,size,lim⟩]:=by simp [Th,List.range_succ]
def Hu (L:Ra) (j g b4 q4 b6 q6:Nat):List Dl :=
 To L g++Th b4 q4 L.queries (L.a+L.b+L.b+L.b+3) L.p++[⟨⟨g,5,vD⟩,L.queries,wm⟩]++Th b6 q6 L.queries j wm
theorem zDG (w:vw) (base:Nat) (x1 x2 x3 x4 x5 x6 x7 x8 x9:vx) (hb:base <= w.1.size) :
  (w.alloc (.cells #[x1,x2,x3,x4,x5,x6,x7,x8,x9] 199)).ownsRow base 199 3 (ve (vE ⟨w.1.size,0,vD⟩) 3 3) 3 [x1,x2,x3,x4,x5,x6,x7,x8,x9] :=
 ⟨rfl, .inr ⟨w.1.size,3,_,rfl,hb,heap_alloc_new w _,by omega,by simp [maxLen],rfl,rfl⟩⟩
theorem UK {B:Nat} {w0 w1 w2:vw} (h1:vA B w0 w1) (h2:vA w1.1.size w1 w2) (hB:B <= w1.1.size:=by omega):vA B w0 w2:=h1.trans (h2.mono hB)
theorem cU {w W:vw} {base:Nat} {e:vz} {size:Nat} {v:vx} {n:Nat} {xs:List vx} (hW:Hid (W=w.drew)) (h:w.ownsRow base e size v n xs):W.ownsRow base e size v n xs:=by rw [hW.out];exact h
theorem bR {B:Nat} {w0 w W:vw} (hW:Hid (W=w.drew)) (h:vA B w0 w):vA B w0 W:=by rw [hW.out];exact h.drew
theorem iP {w:vw} {base:Nat} {e:vz} {size:Nat} {v:vx} {n:Nat} {xs:List vx} (h:w.ownsRow base e size v n xs) (hn:0<n):∃ r c,v=ve (vE ⟨r,0,vD⟩) n c /\ base <= r /\ r<w.1.size:=by
 rcases h.2 with ⟨-,h0⟩ | ⟨r,c,cur,hv,hb,hh,-⟩
 ·omega
 ·exact ⟨r,c,hv,hb,(Pu.1 hh).1⟩
theorem xU (w:vw) (x y z:vx) (t:vz):Rd (w.alloc (.cells #[x,y,z] t)) 3 (vE ⟨w.1.size,0,vD⟩) 1 [x,y,z]:=by
 refine ⟨rfl,fun _=>⟨_,rfl,fun j u hj=>?_⟩⟩
 match j,hj with
 | 0,hj=>simp at hj;subst hj;simp [Addr.add]
 | 1,hj=>simp at hj;subst hj;simp [Addr.add]
 | 2,hj=>simp at hj;subst hj;simp [Addr.add]
theorem bU (a:vy) (n m:Int):∀ u∈[Value.pointer (vE a),vd vq n,vd vn m],u.oneCell'=true:=by
 intro u hu;simp at hu
 rcases hu with rfl | rfl | rfl <;> rfl
theorem zEc (L:Ra) (P:ProofR) (S:PS) (g:Nat) (w:vw) (kg:Blk w g 46 (Ld P S)) (h:¬(S.n4=L.queries /\ S.n6=L.queries)) :
  vB prog 106 #[vf (Db L), .pointer (vE ⟨g,0,vD⟩)] w fun e w'=>e=vl (ve vD 0 0) /\ vA w.1.size w w':=by
 unfold Db;unfold Ld at kg;have da:vA w.1.size w (w.alloc (.cells #[vd vn L.p,vd vq L.block,vd vq L.queries,vd vq L.k,vd vq L.n,vd vq L.secret,vd vq L.rows,vd vq L.a,vd vq L.b,vd vq L.b,vd vq L.b] 101)):=(za _ _).alloc zR _;have kl:=Blk.new w 101 #[vd vn L.p,vd vq L.block,vd vq L.queries,vd vq L.k,vd vq L.n,vd vq L.secret,vd vq L.rows,vd vq L.a,vd vq L.b,vd vq L.b,vd vq L.b];have Oi:=ia kg da;by_cases z:S.n4=L.queries
 ·have d1:((S.n4:Int)!=L.queries)=false:=by rw [pk];omega
  have d2:((S.n6:Int)!=L.queries)=true:=by rw [Df];omega
  clear z h;go_enter func106,ntmps106
  go_wp2_with fail
  revert da kl Oi
  generalize w.alloc _=w0;intro da kl Oi;have c0:=kl.cell;have cg:=Oi.cell;have l0:=kl.lt;have lg:=Oi.lt;refine Cd (Tb) [] [0,1,2,3,4,5,6,7,8,9,10,11,12,13,14,15,16,17] (by kernel_rfl) (by kernel_rfl) ?_
  refine Cw (pa) ?_;intro Wc ea;refine Ob ?_;refine Qc ?_;go_wp2;go_ret
  exact ⟨rfl,ma da.drew ea⟩
 ·have d1:((S.n4:Int)!=L.queries)=true:=by rw [Df];omega
  clear z h;go_enter func106,ntmps106
  go_wp2_with fail
  revert da kl Oi
  generalize w.alloc _=w0;intro da kl Oi;have c0:=kl.cell;have cg:=Oi.cell;have l0:=kl.lt;have lg:=Oi.lt;refine Cd (Tb) [] [0,1,2,3,4,5,6,7,8,9,10,11,12,13,14,15,16,17] (by kernel_rfl) (by kernel_rfl) ?_
  refine Cw (pa) ?_;intro Wc ea;refine Ob ?_;refine Qc ?_;go_wp2;go_ret
  exact ⟨rfl,ma da.drew ea⟩
theorem zEa (L:Ra) (j:Nat) (P:ProofR) (S:PS) (g b4 q4 b6 q6:Nat) (w:vw) (hL:Rb L) (hn:L.n=2^j) (hj:j <= 10) (kg:Blk w g 46 (Ld P S)) (h4:S.n4=L.queries) (h6:S.n6=L.queries)
  (hg:g<w.1.size) (IB:S.A4=vE ⟨b4,q4,vD⟩) (JB:S.A6=vE ⟨b6,q6,vD⟩) (Lp:S.n4 <= S.c4 /\ S.c4 <= maxLen) (yE:S.n6 <= S.c6 /\ S.c6 <= maxLen) :
  vB prog 106 #[vf (Db L), .pointer (vE ⟨g,0,vD⟩)] w fun e w'=>∃ v n,e=vl v /\ w'.ownsRow w.1.size 199 3 v n (Uo (Hu L j g b4 q4 b6 q6)) /\ vA w.1.size w w':=by
 have HLv:=zH (fun w=>zCy L j w hn hj)
 have HT:=zH (fun w=>AI L.p L.block L.queries L.k L.n L.secret L.rows L.a L.b L.b L.b w hL.a hL.b hL.b hL.b)
 have b1:=hL.b1;have b2:=hL.b2;have b3:=hL.q1;have b5:=hL.q2;have b6':=hL.k;have hT:L.a+L.b+L.b+L.b <= 400000:=by have:=hL.a;have:=hL.b;omega
 have HP:Hid (Hu L j g b4 q4 b6 q6=To L g++Th b4 q4 L.queries (L.a+L.b+L.b+L.b+3) L.p++[⟨⟨g,5,vD⟩,L.queries,wm⟩]++Th b6 q6 L.queries j wm):=rfl;rw [HP.out];clear HP;revert HT hT
 generalize L.a+L.b+L.b+L.b=T;intro HT hT;have e3:vq.wrap ((T:Int)+3)=((T+3:Nat):Int):=by rw [Vi _ (by omega) (by omega)];omega
 have e4:(T:Int)+3=((T+3:Nat):Int):=by omega
 have e5:vq.wrap ((T+3:Nat):Int)=((T+3:Nat):Int):=Vi _ (by omega) (by omega)
 have eX1:vq.wrap ((L.k:Int)+L.block)=(L.k:Int)+L.block:=Vi _ (by omega) (by omega)
 have eX2:vq.wrap ((L.k:Int)+L.block-1)=((L.k+L.block-1:Nat):Int):=by rw [Vi _ (by omega) (by omega)];omega
 have eX3:(L.k:Int)+L.block-1=((L.k+L.block-1:Nat):Int):=by omega
 have eX4:vq.wrap ((L.k+L.block-1:Nat):Int)=((L.k+L.block-1:Nat):Int):=Vi _ (by omega) (by omega)
 have eY1:vq.wrap (2*(L.k:Int))=2*(L.k:Int):=Vi _ (by omega) (by omega)
 have eY2:vq.wrap (2*(L.k:Int)-1)=((2*L.k-1:Nat):Int):=by rw [Vi _ (by omega) (by omega)];omega
 have eY3:2*(L.k:Int)-1=((2*L.k-1:Nat):Int):=by omega
 have eY4:vq.wrap ((2*L.k-1:Nat):Int)=((2*L.k-1:Nat):Int):=Vi _ (by omega) (by omega)
 have HP3:Hid (To L g=[⟨⟨g,1,vD⟩,L.k,L.p⟩,⟨⟨g,2,vD⟩,L.k+L.block-1,L.p⟩,⟨⟨g,3,vD⟩,2*L.k-1,L.p⟩]):=rfl;revert e3 e4 e5 eX2 eX3 eX4 eY2 eY3 eY4 HP3
 generalize T+3=T3;generalize L.k+L.block-1=x;generalize 2*L.k-1=y;intro e3 e4 e5 eX2 eX3 eX4 eY2 eY3 eY4 HP3;have d1:((S.n4:Int)!=L.queries)=false:=by rw [pk];omega
 have d2:((S.n6:Int)!=L.queries)=false:=by rw [pk];omega
 have H4:=zH h4;have H6:=zH h6;have HQ:=zH b5;clear b1 b2 b3 b5 b6' hL hn hj hT h4 h6;unfold Db at HLv |-;unfold Ld at kg;rw [IB,JB] at kg;have da:vA w.1.size w (w.alloc (.cells #[vd vn L.p,vd vq L.block,vd vq L.queries,vd vq L.k,vd vq L.n,vd vq L.secret,vd vq L.rows,vd vq L.a,vd vq L.b,vd vq L.b,vd vq L.b] 101)):=(za _ _).alloc zR _;have kl:=Blk.new w 101 #[vd vn L.p,vd vq L.block,vd vq L.queries,vd vq L.k,vd vq L.n,vd vq L.secret,vd vq L.rows,vd vq L.a,vd vq L.b,vd vq L.b,vd vq L.b];have Oi:=ia kg da;clear kg IB JB;go_enter func106,ntmps106
 go_wp2_with fail
 revert da kl Oi
 generalize w.alloc _=w0;intro da kl Oi;have c0:=kl.cell;have cg:=Oi.cell;have l0:=kl.lt;have lg:=Oi.lt;refine Cd (Tb) [] [0,1,2,3,4,5,6,7,8,9,10,11,12,13,14,15,16,17] (by kernel_rfl) (by kernel_rfl) ?_
 refine Cw (pa) ?_;intro Wc ea;refine Ob ?_;refine Qc ?_;replace kl:=kl.drew.below ea kl.lt;replace Oi:=Oi.drew.below ea Oi.lt;replace da:=ma da.drew ea;clear c0 cg l0 lg ea;have c0:=kl.cell;have cg:=Oi.cell;have l0:=kl.lt;have lg:=Oi.lt;go_wp2_with fail
 refine Cd (Tb) [30] [0,1,2,3,4,5,6,7,8,9,10,11,12,13,14,15,16,17,18,19,20,21,22,23,24,25,26,27,28,29,30,31] (by kernel_rfl) (by kernel_rfl) ?_
 refine Cw (pa) ?_;intro Wc ea;refine Ob ?_;refine Ye (pa) rfl rfl rfl ?_;go_simp;refine ⟨(za _ _).alloc zR _,?_⟩;have Rj:w.1.size+1 <= Wc.1.size:=by have:=Below.size ea;simp at this;omega
 have xa:=zDG Wc (w.1.size+1) (.pointer (vE ⟨g,1,vD⟩)) (vd vq L.k) (vd vn L.p) (.pointer (vE ⟨g,2,vD⟩)) (vd vq x) (vd vn L.p) (.pointer (vE ⟨g,3,vD⟩)) (vd vq y) (vd vn L.p) Rj;replace ea:=pa.trans _ _ _ ea ((za Wc.1.size Wc).alloc zR (.cells #[.pointer (vE ⟨g,1,vD⟩),vd vq L.k,vd vn L.p, .pointer (vE ⟨g,2,vD⟩),vd vq x,vd vn L.p, .pointer (vE ⟨g,3,vD⟩),vd vq y,vd vn L.p] 199));clear Rj;revert xa ea
 refine zPU ?_
 generalize Wc.alloc _=w2;generalize Wc.1.size=gr;intro xa ea;refine Ob ?_;refine Qc ?_;replace kl:=kl.drew.below ea kl.lt;replace Oi:=Oi.drew.below ea Oi.lt;replace da:=ma da.drew ea;clear c0 cg l0 lg ea;have c0:=kl.cell;have cg:=Oi.cell;have hlw:w.1.size+1 <= w2.1.size:=kl.lt;have Yx:g<w.1.size:=hg;have Tw:Hid ([.pointer (vE ⟨g,1,vD⟩),vd vq L.k,vd vn L.p, .pointer (vE ⟨g,2,vD⟩),vd vq x,vd vn L.p, .pointer (vE ⟨g,3,vD⟩),vd vq y,vd vn L.p]=Uo (To L g)):=by rw [HP3.out];rfl
 rw [Tw.out] at xa;have m4:=uy Lp.1 Lp.2;have m6:=uy yE.1 yE.2;clear Lp yE Tw HP3;go_wp2_with fail
 go_loopw [5,62] (fun v i wr=>∃ k:Nat,k <= S.n4 /\ i=vd vq k /\ wr.ownsRow (w.1.size+1) 199 3 v (3+k) (Uo (To L g++Th b4 q4 k T3 L.p)) /\ vA (w.1.size+1) w2 wr) (fun _ i _=>S.n4-(intOf i).toNat)
 case atStart=>exact ⟨0,Lb _,rfl,by simpa [Th] using xa,za _ _⟩
 case round =>
  clear xa c0 cg;obtain ⟨k,hk,rfl,xa,Zd⟩:=hrel;obtain ⟨r,cr,rfl,Of,Ll⟩:=iP xa (by omega)
  have Wk:=kl.below Zd (by omega)
  have Qe:=Oi.below Zd (by omega)
  have c0:=Wk.cell;have cg:=Qe.cell;have l0:=Wk.lt;have lg:=Qe.lt;have n1:w.1.size≠r:=by omega
  have n2:g≠r:=by omega
  by_cases ra:k<S.n4
  ·have g1:(0:Int)<=k:=by omega
   have g2:(k:Int)<S.n4:=by omega
   go_wp2_with fail
   refine Cd (om r) [8,13,14] [0,1,2,3,4,5,6,7,10,11,8,9,12,13,14,15] (by kernel_rfl) (by kernel_rfl) ?_
   refine De (Je r) ?_;intro Wc Ha ea;replace xa:=cU Ha xa;replace Zd:=bR Ha Zd;clear Ha;refine Zn ?_;refine Gc (Je r) rfl rfl rfl (fun _=>by go_simp <;> rfl) ((HT.out _).mono ?_)
   rintro e w4 ⟨rfl,zb⟩;refine ⟨_,rfl,jw zb,?_⟩;replace ea:=(Je r).trans _ _ _ ea (jw zb);refine zPU ?_;replace xa:=Xb xa zb zR;have DL:w.1.size+1 <= Wc.1.size:=by have:=Zd.size;omega
   replace Zd:=UK Zd zb DL;clear zb DL;refine Zn ?_;refine Ye (Je r) rfl rfl rfl ?_;go_simp;refine ⟨jw ((za _ _).alloc zR _),?_⟩;have ja:=(za w4.1.size w4).alloc zR (.cells #[.pointer (vE ⟨b4,q4+k,vD⟩),vd vq T3,vd vn L.p] 199);have Ma:=xU w4 (.pointer (vE ⟨b4,q4+k,vD⟩)) (vd vq T3) (vd vn L.p) 199;replace ea:=(Je r).trans _ _ _ ea (jw ja);replace xa:=Xb xa ja zR;replace Zd:=UK Zd ja (by have:=Zd.size;omega)
   have Rj:w.1.size+1 <= (w4.alloc (.cells #[.pointer (vE ⟨b4,q4+k,vD⟩),vd vq T3,vd vn L.p] 199)).1.size:=by have:=Zd.size;omega
   revert Ma ea xa Zd Rj
   refine zPU ?_
   generalize w4.alloc _=We;generalize w4.1.size=ge;intro Ma ea xa Zd Rj;refine Ye (Je r) rfl rfl rfl ?_;refine Ew _ _ rfl sR rfl xa rfl Ma (bU _ _ _) (by have:=H4.out;have:=HQ.out;omega) Rj ?_
   intro v' wn Kb Va Zb;refine ⟨Va,?_⟩;replace ea:=(Je r).trans _ _ _ ea Va;replace Zd:=Zd.trans (qz Va (w.1.size+1) Rj (fun z hz=>by have Bf:r=z:=db hz;omega))
   refine zPU ?_
   refine Zn ?_;refine Qc ?_;go_wp2
   go_roundw
   case rel =>
    refine ⟨k+1,by omega,by go_num,?_,Zd⟩
    rw [J4,<- fB,lU];exact Kb
   case measure=>simp [intOf];omega
  ·have ek:k=S.n4:=by omega
   have mo:Hid (To L g++Th b4 q4 k T3 L.p=To L g++Th b4 q4 L.queries T3 L.p):=by rw [ek,H4.out];rfl
   rw [mo.out] at xa;clear mo;have EK:=zH ek;clear ek;go_wp2_with fail
   refine Cd (om r) [7,8] [0,1,2,3,4,5,6,7,8,9] (by kernel_rfl) (by kernel_rfl) ?_
   refine De (Je r) ?_;intro Wc Ha ea;replace xa:=cU Ha xa;replace Zd:=bR Ha Zd;clear Ha;refine Zn ?_;refine Ye (Je r) rfl rfl rfl ?_;go_simp;refine ⟨jw ((za _ _).alloc zR _),?_⟩;have ja:=(za Wc.1.size Wc).alloc zR (.cells #[.pointer (vE ⟨g,5,vD⟩),vd vq L.queries,vd vn 18446744069414584321] 199);have Ma:=xU Wc (.pointer (vE ⟨g,5,vD⟩)) (vd vq L.queries) (vd vn 18446744069414584321) 199;replace ea:=(Je r).trans _ _ _ ea (jw ja);replace xa:=Xb xa ja zR;replace Zd:=UK Zd ja (by have:=Zd.size;omega)
   have Rj:w.1.size+1 <= (Wc.alloc (.cells #[.pointer (vE ⟨g,5,vD⟩),vd vq L.queries,vd vn 18446744069414584321] 199)).1.size:=by have:=Zd.size;omega
   revert Ma ea xa Zd Rj
   refine zPU ?_
   generalize Wc.alloc _=We;generalize Wc.1.size=ge;intro Ma ea xa Zd Rj;refine Ye (Je r) rfl rfl rfl ?_;refine Ew _ _ rfl sR rfl xa rfl Ma (bU _ _ _) (by have:=H4.out;have:=HQ.out;have:=EK.out;omega) Rj ?_
   intro v' wn Kb Va Zb;refine ⟨Va,?_⟩;replace ea:=(Je r).trans _ _ _ ea Va;replace Zd:=Zd.trans (qz Va (w.1.size+1) Rj (fun z hz=>by have Bf:r=z:=db hz;omega))
   refine zPU ?_
   refine Zn ?_;refine Qc ?_;obtain ⟨PRE,Mx⟩:=zEX (To L g++Th b4 q4 L.queries T3 L.p++[(⟨⟨g,5,vD⟩,L.queries,wm⟩:Dl)]);have zY:wn.ownsRow (w.1.size+1) 199 3 v' (3+k+1) (Uo PRE):=by rw [Mx,lU];exact Kb
   have HPRE:=zH Mx;clear xa Kb ea Va Zb Ma Rj c0 cg n1 n2 l0 lg Wk Qe Mx;have ot:=kl.below Zd (by omega)
   have bA:=Oi.below Zd (by omega)
   have c0:=ot.cell;have cg:=bA.cell;go_wp2_with fail
   go_loopw [5,95] (fun v i wr=>∃ k2:Nat,k2 <= S.n6 /\ i=vd vq k2 /\ wr.ownsRow (w.1.size+1) 199 3 v (3+k+1+k2) (Uo (PRE++Th b6 q6 k2 j wm)) /\ vA (w.1.size+1) w2 wr) (fun _ i _=>S.n6-(intOf i).toNat)
   case atStart=>exact ⟨0,Lb _,rfl,by simpa [Th] using zY,Zd⟩
   case round =>
    clear zY c0 cg Zd ot bA;obtain ⟨k2,hk2,rfl,xa,Zd⟩:=hrel;clear Of Ll;obtain ⟨r,cr2,rfl,Of,Ll⟩:=iP xa (by omega)
    have Wk:=kl.below Zd (by omega)
    have Qe:=Oi.below Zd (by omega)
    have c0:=Wk.cell;have cg:=Qe.cell;have l0:=Wk.lt;have lg:=Qe.lt;have n1:w.1.size≠r:=by omega
    have n2:g≠r:=by omega
    by_cases xf:k2<S.n6
    ·have g1:(0:Int)<=k2:=by omega
     have g2:(k2:Int)<S.n6:=by omega
     go_wp2_with fail
     refine Cd (om r) [8,10,11] [0,1,2,3,4,5,6,7,8,9,10,11,12] (by kernel_rfl) (by kernel_rfl) ?_
     refine De (Je r) ?_;intro Wc Ha ea;replace xa:=cU Ha xa;replace Zd:=bR Ha Zd;clear Ha;refine Zn ?_;refine Gc (Je r) rfl rfl rfl (fun _=>by go_simp <;> rfl) ((HLv.out _).mono ?_)
     rintro e w4 ⟨rfl,zb⟩;refine ⟨_,rfl,jw zb,?_⟩;replace ea:=(Je r).trans _ _ _ ea (jw zb);refine zPU ?_;replace xa:=Xb xa zb zR;have DL:w.1.size+1 <= Wc.1.size:=by have:=Zd.size;omega
     replace Zd:=UK Zd zb DL;clear zb DL;refine Zn ?_;refine Ye (Je r) rfl rfl rfl ?_;go_simp;refine ⟨jw ((za _ _).alloc zR _),?_⟩;have ja:=(za w4.1.size w4).alloc zR (.cells #[.pointer (vE ⟨b6,q6+k2,vD⟩),vd vq j,vd vn 18446744069414584321] 199);have Ma:=xU w4 (.pointer (vE ⟨b6,q6+k2,vD⟩)) (vd vq j) (vd vn 18446744069414584321) 199;replace ea:=(Je r).trans _ _ _ ea (jw ja);replace xa:=Xb xa ja zR;replace Zd:=UK Zd ja (by have:=Zd.size;omega)
     have Rj:w.1.size+1 <= (w4.alloc (.cells #[.pointer (vE ⟨b6,q6+k2,vD⟩),vd vq j,vd vn 18446744069414584321] 199)).1.size:=by have:=Zd.size;omega
     revert Ma ea xa Zd Rj
     refine zPU ?_
     generalize w4.alloc _=We;generalize w4.1.size=ge;intro Ma ea xa Zd Rj;refine Ye (Je r) rfl rfl rfl ?_;refine Ew _ _ rfl sR rfl xa rfl Ma (bU _ _ _) (by have:=H4.out;have:=HQ.out;have:=EK.out;have:=H6.out;omega) Rj ?_
     intro v' wn Kb Va Zb;refine ⟨Va,?_⟩;replace ea:=(Je r).trans _ _ _ ea Va;replace Zd:=Zd.trans (qz Va (w.1.size+1) Rj (fun z hz=>by have Bf:r=z:=db hz;omega))
     refine zPU ?_
     refine Zn ?_;refine Qc ?_;go_wp2
     go_roundw
     case rel =>
      refine ⟨k2+1,by omega,by go_num,?_,Zd⟩
      rw [J4,<- fB,lU];exact Kb
     case measure=>simp [intOf];omega
    ·have ZG:k2=S.n6:=by omega
     have mo:Hid (PRE++Th b6 q6 k2 j wm=To L g++Th b4 q4 L.queries T3 L.p++[(⟨⟨g,5,vD⟩,L.queries,wm⟩:Dl)]++Th b6 q6 L.queries j wm):=by rw [ZG,H6.out,HPRE.out];rfl
     rw [mo.out] at xa;clear mo ZG;go_wp2;go_ret
     exact ⟨_,_,rfl,Xk xa (by omega),da.trans (Zd.mono (by omega))⟩
def oN (P:ProofR):List (List Nat):=[P.code,P.linear,P.quad]++P.cols++[P.salts]++P.paths
def nw (x:Dl) (l:List Nat):Bool:=((l.length:Int)==x.size)&&l.all (fun n=>decide (n<x.lim))
def Cs (ps:List Dl) (ls:List (List Nat)):Bool:=(List.zip ps ls).all fun z=>nw z.1 z.2
theorem jP (x:Dl) (l:List Nat):nw x l=Vn l (x.size:Int) x.lim:=by unfold nw Vn;rw [Bool.and_comm]
theorem SQ {a b:List Dl} {c d:List (List Nat)} (h:a.length=c.length):Cs (a++b) (c++d)=(Cs a c&&Cs b d):=by
 unfold Cs;rw [List.zip_append h,List.all_append]
theorem eW {ps:List Dl} {ls:List (List Nat)} (h:ps.length=ls.length) (hg:∀ i (h1:i<ps.length) (h2:i<ls.length),nw ps[i] ls[i]=true):Cs ps ls=true:=by
 unfold Cs;rw [Xd];intro z hz;obtain ⟨i,hi,rfl⟩:=uo hz;have h1:i<ps.length:=by simp at hi;omega
 have h2:i<ls.length:=by simp at hi;omega
 simpa using hg i h1 h2
theorem dW {ps:List Dl} {ls:List (List Nat)} {i:Nat} (h1:i<ps.length) (h2:i<ls.length) (hg:nw ps[i] ls[i]=false):Cs ps ls=false:=by
 unfold Cs;rw [bz];refine ⟨(ps[i],ls[i]),?_,by rw [hg];exact Bool.noConfusion⟩
 have:(List.zip ps ls)[i]'(by simp;omega)=(ps[i],ls[i]):=by simp
 rw [<- this];exact wg _
theorem iU (b q n size lim:Nat):(Th b q n size lim).length=n:=by simp [Th]
theorem cW (b q size lim:Nat) (ls:List (List Nat)):Cs (Th b q ls.length size lim) ls=ls.all (fun l=>Vn l (size:Int) lim):=by
 cases h:ls.all (fun l=>Vn l (size:Int) lim) with
 | true =>
  refine eW (iU _ _ _ _ _) fun i h1 h2=>?_
  rw [jP];have:=Xd.1 h ls[i] (wg h2)
  simpa [Th] using this
 | false =>
  obtain ⟨l,hl,hb⟩:=bz.1 h;obtain ⟨i,hi,rfl⟩:=uo hl;refine dW (i:=i) (by rw [iU];exact hi) hi ?_
  rw [jP];have aj:Vn ls[i] (size:Int) lim=false:=by simpa using hb
  simpa [Th] using aj
theorem I9 (x:Dl) (l:List Nat):Cs [x] [l]=nw x l:=by simp [Cs]
theorem F9 (L:Ra) (g:Nat) (a b c:List Nat):Cs (To L g) [a,b,c]=(Vn a (L.k:Int) L.p&&(Vn b ((L.k+L.block-1:Nat):Int) L.p&&Vn c ((2*L.k-1:Nat):Int) L.p)):=by
 simp only [Cs,To,List.zip_cons_cons,List.zip_nil_right,List.all_cons,List.all_nil,Bool.and_true,jP]
theorem zEv (L:Ra) (j g b4 q4 b6 q6:Nat) (P:ProofR) (h4:P.cols.length=L.queries) (h6:P.paths.length=L.queries) (hr:decide (wm <= P.root)=false) :
  Rn L j P=Cs (Hu L j g b4 q4 b6 q6) (oN P):=by
 unfold Hu oN Rn;rw [SQ,SQ,SQ]
 ·rw [<- h4,cW,h4,<- h6,cW,h6,I9,jP,F9,hr]
  unfold uF;rw [h4,h6];simp only [beq_self_eq_true,Bool.and_true,Bool.not_false,Bool.true_and,Bool.and_assoc]
 ·simp [To]
 ·simp [To,Th,h4]
 ·simp [To,Th,h4]
theorem zEt {L:Ra} {j:Nat} {P:ProofR} (h:¬(P.cols.length=L.queries /\ P.paths.length=L.queries)):Rn L j P=false:=by
 by_cases h4:P.cols.length=L.queries
 ·have h6:((P.paths.length:Int)==L.queries)=false:=by rw [pd];omega
  simp [Rn,uF,h6]
 ·have h6:((P.cols.length:Int)==L.queries)=false:=by rw [pd];omega
  simp [Rn,uF,h6]
theorem zEw {L:Ra} {j:Nat} {P:ProofR} (h:decide (wm <= P.root)=true):Rn L j P=false:=by
 unfold Rn;rw [h]
 rfl
def WM (w:vw) (x:Dl) (l:List Nat):Prop:=∃ b o A n c,x.ptr=⟨b,o,vD⟩ /\ w.cell? ⟨b,o,vD⟩=vE (ve A n c) /\ RWd w [ve A n c] l
def XI (w:vw) (ps:List Dl) (ls:List (List Nat)):Prop:=ps.length=ls.length /\ ∀ i (h1:i<ps.length) (h2:i<ls.length),WM w ps[i] ls[i]
theorem I4 {w w':vw} {x:Dl} {l:List Nat} (h:WM w x l) (hb:vA w.1.size w w'):WM w' x l:=by
 obtain ⟨b,o,A,n,c,e,hc,hr⟩:=h;exact ⟨b,o,A,n,c,e,Wv hb hc,Bb hb hr⟩
theorem jU {w:vw} {a b:List Dl} {c d:List (List Nat)} (h:XI w a c) (k:XI w b d):XI w (a++b) (c++d):=by
 refine ⟨by rw [Kf,Kf,h.1,k.1],fun i h1 h2=>?_⟩
 rcases Hg i a.length with hi | hi
 ·rw [Tu hi,Tu (by rw [<- h.1];exact hi)]
  exact h.2 i hi (by rw [<- h.1];exact hi)
 ·rw [PD hi,PD (by rw [<- h.1];exact hi)]
  have e:i-a.length=i-c.length:=by rw [h.1]
  have:=k.2 (i-a.length) (by simp at h1;omega) (by rw [Kf] at h2;rw [h.1];have:=h.1;omega)
  simpa [e] using this
theorem K4 {w:vw} {b q size lim:Nat} {ls:List (List Nat)} (h:RdL w 1 RWd (vE ⟨b,q,vD⟩) ls):XI w (Th b q ls.length size lim) ls:=by
 refine ⟨iU _ _ _ _ _,fun i h1 h2=>?_⟩
 obtain ⟨b',q',A,n,c,hA,-,hc,hr⟩:=xF h h2
 injection hA with hA
 injection hA with e1 e2
 subst e1;subst e2;exact ⟨b,q+i,A,n,c,by simp [Th],hc,hr⟩
theorem zEb {w:vw} {L:Ra} {j g b4 q4 b6 q6:Nat} {P:ProofR} {S:PS} (kg:Blk w g 46 (Ld P S)) (h:Gj w P S) (h4:P.cols.length=L.queries) (h6:P.paths.length=L.queries) (IB:S.A4=vE ⟨b4,q4,vD⟩) (JB:S.A6=vE ⟨b6,q6,vD⟩) :
  XI w (Hu L j g b4 q4 b6 q6) (oN P):=by
 have r4:=(Ri h.cols).2.2.2;have r6:=(Ri h.paths).2.2.2;rw [IB] at r4;rw [JB] at r6;have one:∀ (i:Nat) (s lim:Nat) (l:List Nat) (A:Option vy) (n c:Nat),(Ld P S)[i]?=vE (ve A n c) -> RWd w [ve A n c] l -> WM w ⟨⟨g,i,vD⟩,s,lim⟩ l :=
  fun i s lim l A n c hi hr=>⟨g,i,A,n,c,rfl,(kg.cell i).trans hi,hr⟩
 refine jU (jU (jU ?_ ?_) ?_) ?_
 ·refine ⟨rfl,fun i h1 h2=>?_⟩
  match i,h1 with
  | 0,_=>exact one 1 _ _ _ _ _ _ rfl h.code
  | 1,_=>exact one 2 _ _ _ _ _ _ rfl h.linear
  | 2,_=>exact one 3 _ _ _ _ _ _ rfl h.quad
 ·rw [<- h4];exact K4 r4
 ·refine ⟨rfl,fun i h1 h2=>?_⟩
  match i,h1 with
  | 0,_=>exact one 5 _ _ _ _ _ _ rfl h.salts
 ·rw [<- h6];exact K4 r6
theorem L4:∀ (l:List Dl) (k:Nat) (h:k<l.length),(Uo l)[k*3]?=vE (.pointer (vE l[k].ptr)) /\ (Uo l)[k*3+1]?=vE (vd vq (l[k].size:Int)) /\ (Uo l)[k*3+2]?=vE (vd vn (l[k].lim:Int))
 | x :: l,0,_=>⟨rfl,rfl,rfl⟩
 | x :: l,k+1,h=>by
  have:=L4 l k (by simpa using h)
  have e:Uo (x :: l)=[.pointer (vE x.ptr),vd vq x.size,vd vn x.lim]++Uo l:=rfl;rw [e];refine ⟨?_,?_,?_⟩
  ·rw [Su (by simp;omega)]
   have e1:(k+1)*3 - [Value.pointer (vE x.ptr),vd vq x.size,vd vn x.lim].length=k*3:=by simp;omega
   rw [e1];exact this.1
  ·rw [Su (by simp;omega)]
   have e1:(k+1)*3+1 - [Value.pointer (vE x.ptr),vd vq x.size,vd vn x.lim].length=k*3+1:=by simp;omega
   rw [e1];exact this.2.1
  ·rw [Su (by simp;omega)]
   have e1:(k+1)*3+2 - [Value.pointer (vE x.ptr),vd vq x.size,vd vn x.lim].length=k*3+2:=by simp;omega
   rw [e1];exact this.2.2
theorem p4 (L:Ra) (j:Nat) (P:ProofR) (S:PS) (w:vw) (hL:Rb L) (hn:L.n=2^j) (hj:j <= 10) (h:Gj w P S) :
  vB prog 105 #[vf (Db L),vf (Ld P S)] w fun e w'=>e=vl (.bool (Rn L j P)) /\ vA w.1.size w w':=by
 have da:vA w.1.size w ((w.alloc (.cells (Db L) 101)).alloc (.cells (Ld P S) 46)):=((za _ w).alloc zR _).alloc (by simp) _
 have kg:Blk ((w.alloc (.cells (Db L) 101)).alloc (.cells (Ld P S) 46)) (w.1.size+1) 46 (Ld P S):=by
  have:=Blk.new (w.alloc (.cells (Db L) 101)) 46 (Ld P S)
  simpa using this
 have Kc:=Iu h da;obtain ⟨e4,a4,m4,r4⟩:=Ri h.cols;obtain ⟨e6,a6,m6,r6⟩:=Ri h.paths;by_cases z:S.n4=L.queries /\ S.n6=L.queries
 rotate_left
 ·have HZ:=zH (zEt (L:=L) (j:=j) (P:=P) (by rw [<- e4,<- e6];exact z))
  have HP:=zH (zEc L P S (w.1.size+1) _ kg z);clear z e4 a4 m4 r4 e6 a6 m6 r6 Kc kg h hn hj hL;unfold Db Ld at *;have SE:=fun (w:vw) (a:Option vy) (n c:Nat)=>Lib.run_eql_slice_nil (P:=prog) w 194 199 a n c 0 0 underlying194
  go_enter func105,ntmps105
  go_wp2_with fail
  refine HP.out.mono ?_;rintro e w1 ⟨rfl,hb⟩;go_wp2;go_ret
  exact ⟨by rw [HZ.out];rfl,ma da hb⟩
 obtain ⟨z4,z6⟩:=z;have hq:=hL.q1;obtain ⟨b4,q4,IB⟩:=r4.base (by omega) (by omega)
 obtain ⟨b6,q6,JB⟩:=r6.base (by omega) (by omega)
 have HP:=zH (zEa L j P S (w.1.size+1) b4 q4 b6 q6 _ hL hn hj kg z4 z6 kg.lt IB JB ⟨a4,m4⟩ ⟨a6,m6⟩);have Zs:=zEb (L:=L) (j:=j) kg Kc (by rw [<- e4];exact z4) (by rw [<- e6];exact z6) IB JB
 cases hr:decide (wm <= P.root)
 rotate_left
 ·have HZ:=zH (zEw (L:=L) (j:=j) (P:=P) hr)
  have d1:decide ((18446744069414584321:Int)<=P.root)=true:=yb (by have:=of_decide_eq_true hr;unfold wm at this;omega)
  have d2:decide (18446744069414584321 <= P.root)=true:=hr;clear hr Zs IB JB z4 z6 e4 a4 m4 r4 e6 a6 m6 r6 Kc h hq hL hn hj;have Af:0<(Hu L j (w.1.size+1) b4 q4 b6 q6).length:=by simp [Hu,To]
  generalize Hu L j (w.1.size+1) b4 q4 b6 q6=ps at *;unfold Db Ld at *;have SE:=fun (w:vw) (a:Option vy) (n c:Nat)=>Lib.run_eql_slice_nil (P:=prog) w 194 199 a n c 0 0 underlying194
  go_enter func105,ntmps105
  go_wp2_with fail
  refine HP.out.mono ?_;rintro e w1 ⟨v,n,rfl,xa,hb⟩;have kg1:=ia kg hb;have cg:=kg1.cell;clear kg;have Ag:0<n:=by have:=xa.1;rw [N4] at this;omega
  obtain ⟨r,cr,rfl,Of,Ll⟩:=iP xa Ag;go_wp2;go_ret
  exact ⟨by rw [HZ.out];rfl,ma da hb⟩
 have HZ:=zH (zEv L j (w.1.size+1) b4 q4 b6 q6 P (by rw [<- e4];exact z4) (by rw [<- e6];exact z6) hr)
 have d1:decide ((18446744069414584321:Int)<=P.root)=false:=xb (by have:=of_decide_eq_false hr;unfold wm at this;omega)
 have d2:decide (18446744069414584321 <= P.root)=false:=hr;have Af:0<(Hu L j (w.1.size+1) b4 q4 b6 q6).length:=by simp [Hu,To]
 have dy:(Hu L j (w.1.size+1) b4 q4 b6 q6).length <= 200:=by have:=hL.q2;simp [Hu,To,Th];omega
 rw [HZ.out];clear HZ hr IB JB z4 z6 e4 a4 m4 r4 e6 a6 m6 r6 Kc h hq hL hn hj;generalize Hu L j (w.1.size+1) b4 q4 b6 q6=ps at *;generalize oN P=ls at *;unfold Db Ld at *;have SE:=fun (w:vw) (a:Option vy) (n c:Nat)=>Lib.run_eql_slice_nil (P:=prog) w 194 199 a n c 0 0 underlying194
 go_enter func105,ntmps105
 go_wp2_with fail
 refine HP.out.mono ?_;rintro e w1 ⟨v,n,rfl,xa,hb⟩;have kg1:=ia kg hb;have cg:=kg1.cell;have hps1:XI w1 ps ls:=⟨Zs.1,fun i h1 h2=>I4 (Zs.2 i h1 h2) hb⟩
 replace da:=ma da hb;clear kg kg1 Zs HP hb;have Ag:n=ps.length:=by have:=xa.1;rw [N4] at this;omega
 obtain ⟨r,cr,rfl,Of,Ll⟩:=iP xa (by omega)
 have dt:∀ i u,(Uo ps)[i]?=vE u -> w1.cell? ⟨r,i,vD⟩=vE u:=fun i u hu=>by
  obtain ⟨ad,e,hc⟩:=(Rd.of_own xa).2 (by omega)
  injection e with e
  subst e;have:=hc i u hu
  simpa [pn] using this
 have GK:=zH dt;clear dt xa;subst Ag;have Uy:=zH hps1;clear hps1;have gm:(ps.length:Int) <= 200:=by omega
 go_wp2_with fail
 go_loopw [19] (fun i wr=>∃ k:Nat,k <= ps.length /\ i=vd vq k /\ vA w1.1.size w1 wr /\ Hid (∀ i (h1:i<ps.length) (h2:i<ls.length),i<k -> nw ps[i] ls[i]=true)) (fun i _=>ps.length-(intOf i).toNat)
 case atStart=>exact ⟨0,Lb _,rfl,za _ _,fun i h1 h2 h3=>by omega⟩
 case round =>
  clear cg;obtain ⟨k,hk,rfl,Ab,HG⟩:=hrel;by_cases ra:k<ps.length
  ·have xf:k<ls.length:=by rw [<- Uy.out.1];exact ra
   obtain ⟨b,o,A,nn,cc,eptr,hc,Kg⟩:=I4 (Uy.out.2 k ra xf) Ab;obtain ⟨u0,u1,u2⟩:=L4 ps k ra;have c0:=Wv Ab (GK.out _ _ u0);have c1:=Wv Ab (GK.out _ _ u1);have c2:=Wv Ab (GK.out _ _ u2);rw [eptr] at c0;clear u0 u1 u2;have AK:Hid (nw ps[k] ls[k]=(((ls[k].length:Int) == (ps[k].size:Int))&&ls[k].all (fun n=>decide (n<ps[k].lim)))):=rfl
   have HB:=zH (fun w (h:RWd w [ve A nn cc] ls[k])=>ZQ A nn cc ls[k] ps[k].lim w h)
   have rp:=zH ra;have Hk:=zH xf;obtain ⟨enn,hcc1,hcc2,-,-⟩:=ug Kg;have gnn:=uy hcc1 hcc2;have ENN:=zH enn;clear enn hcc1 hcc2 eptr;have JV:=zH (fun (hh:nw ps[k] ls[k]=false)=>dW ra xf hh)
   have RM:=zH (fun (hh:nw ps[k] ls[k]=true)=>(fun i (h1:i<ps.length) (h2:i<ls.length) (h3:i<k+1)=>(by
    rcases Hg i k with h5 | h5
    ·exact HG.out i h1 h2 h5
    ·have e:i=k:=by omega
     subst e;exact hh:nw ps[i] ls[i]=true)))
   revert c1 c2 AK HB
   generalize ps[k].size=size;generalize ps[k].lim=lim;generalize ai:ls[k].all (fun n=>decide (n<lim))=bb
   intro c1 c2 AK HB;clear ai;have lb:b<wr.1.size:=mf _ _ hc;have lr:r<wr.1.size:=mf _ _ c0;have g1:(0:Int)<=k:=by omega
   have g2:(k:Int)<ps.length:=by omega
   have ja:=(za wr.1.size wr).alloc zR (.cells #[.pointer (vE ⟨b,o,vD⟩),vd vq size,vd vn lim] 199);have kx:=Blk.new wr 199 #[.pointer (vE ⟨b,o,vD⟩),vd vq size,vd vn lim];by_cases zs:nn=size
   rotate_left
   ·have y1:((nn:Int)!=size)=true:=by rw [Df];omega
    have HF:=zH (JV.out (AK.out.trans (by rw [<- ENN.out,show ((nn:Int)==size)=false by rw [pd];omega];rfl)))
    clear zs;go_wp2_with fail
    replace Kg:=Bb ja Kg;replace hc:=Wv ja hc;replace Ab:=ma Ab ja;replace lb:b<(wr.alloc (.cells #[.pointer (vE ⟨b,o,vD⟩),vd vq size,vd vn lim] 199)).1.size:=mf _ _ hc;clear c0 c1 c2 lr ja;revert kx Kg hc Ab lb
    generalize wr.alloc _=w7;generalize wr.1.size=gx;intro kx Kg hc Ab lb;have cx:=kx.cell;have lx:=kx.lt;refine Cd (Tb) [15] [0,1,2,3,4,5,6,7,8,9,10,11,12,13,14,15,16,17] (by kernel_rfl) (by kernel_rfl) ?_
    refine Cw (pa) ?_;intro Wc ea;refine Ob ?_;refine Qc ?_;go_wp2;go_ret
    exact ⟨by rw [HF.out];rfl,ma (ma da Ab.drew) ea⟩
   have y1:((nn:Int)!=size)=false:=by rw [pk];omega
   have HGG:=zH (show nw ps[k] ls[k]=bb from AK.out.trans (by rw [<- ENN.out,show ((nn:Int)==size)=true by rw [Hh];omega];rfl))
   clear zs AK;go_wp2_with fail
   replace Kg:=Bb ja Kg;replace hc:=Wv ja hc;replace Ab:=ma Ab ja;replace lb:b<(wr.alloc (.cells #[.pointer (vE ⟨b,o,vD⟩),vd vq size,vd vn lim] 199)).1.size:=mf _ _ hc;clear c0 c1 c2 lr ja;revert kx Kg hc Ab lb
   generalize wr.alloc _=w7;generalize wr.1.size=gx;intro kx Kg hc Ab lb;have cx:=kx.cell;have lx:=kx.lt;refine Cd (Tb) [15] [0,1,2,3,4,5,6,7,8,9,10,11,12,13,14,15,16,17] (by kernel_rfl) (by kernel_rfl) ?_
   refine Cw (pa) ?_;intro Wc ea;refine Ob ?_;refine Gc (pa) rfl rfl rfl (fun _=>by go_simp <;> rfl) ((HB.out _ (Bb ea Kg)).mono ?_)
   rintro e w8 ⟨rfl,rfl⟩;refine ⟨_,rfl,pa.refl _,?_⟩;replace ea:=(pa).trans _ _ _ ea (pa.refl _);refine zPU ?_;cases bb
   ·have HF:=zH (JV.out HGG.out)
    refine Ob ?_;refine Qc ?_;go_wp2;go_ret
    exact ⟨by rw [HF.out];rfl,ma (ma da Ab.drew) ea⟩
   ·refine Ob ?_
    refine Qc ?_;go_wp2
    go_roundw
    case rel=>exact ⟨k+1,by omega,by go_num,ma Ab.drew ea,RM.out HGG.out⟩
    case measure=>simp [intOf];omega
  ·have HT:=zH (eW Uy.out.1 fun i h1 h2=>HG.out i h1 h2 (by omega))
   go_wp2;go_ret
   exact ⟨by rw [HT.out];rfl,ma da Ab⟩
theorem zAj:prog.cellsOf 30=8:=by kernel_rfl
theorem zAl:prog.cellsOf 27=3:=by kernel_rfl
structure kQ (w:vw) (p:Nat) (pub vars:Int) (A B:Option vy) (n c m d:Nat) (rows:List Ya) (ws:List Nat):Prop where
 p:p<18446744073709551616
 rows:RSl 3 oe w [ve A n c] rows
 ws:RWd w [ve B m d] ws
theorem zBy {w:vw} {cs:List vx} (hl:cs.length=8) (h:Fits prog w 30 cs):∃ (p:Nat) (pub vars:Int) (A B:Option vy) (n c m d:Nat) (rows:List Ya) (ws:List Nat) (bl bw qs:Int),cs=(jN p pub vars (ve A n c) bl bw qs (ve B m d)).toList /\ kQ w p pub vars A B n c m d rows ws:=by
 match cs,hl with
 | [x0,x1,x2,x3,x4,x5,x6,x7],_ =>
  obtain ⟨t,y,ht,h1,h2,h3,h4⟩:=zBu rfl (ym (i:=0) underlying30 rfl rfl zAo h);have hx:=ym (i:=1) underlying30 rfl rfl zAl h;obtain ⟨a,ha,-⟩:=lJ nx (ym (i:=0) underlying27 rfl rfl SG hx);obtain ⟨b,hb,-⟩:=lJ nx (ym (i:=1) underlying27 rfl rfl SG hx);obtain ⟨e,he,-⟩:=lJ nx (ym (i:=2) underlying27 rfl rfl SG hx);obtain ⟨ws,hw⟩:=zBv underlying28 underlying22 XK (ym (i:=2) underlying30 rfl rfl zAq h);simp at ht ha hb he hw
  obtain ⟨rfl,rfl,rfl,rfl⟩:=ht;subst ha hb he;obtain ⟨A,n,c,rfl⟩:=RSl.slc h4;have iF:=hw;obtain ⟨B,m,d,he,-⟩:=hw;simp at he
  subst he;exact ⟨t.p,t.pub,t.vars,A,B,n,c,m,d,t.rows,ws,a,b,e,rfl,h1,h4,iF⟩
def rF (l:List (Int × Nat)) (j:Nat):Int:=if j=0 then -1 else (l.getD (j-1) (0,0)).1
theorem zCz {p:Nat} {n:Int} {l:List (Int × Nat)} {j:Nat} (hb:∀ k<j,Wq p n l k=false) :
  Wq p n l j=(decide ((l.getD j (0,0)).1 <= rF l j)||decide (n <= (l.getD j (0,0)).1)||(l.getD j (0,0)).2 == 0||decide (p <= (l.getD j (0,0)).2)):=by
 have h1:-1 <= rF l j:=by
  unfold rF;split
  ·omega
  ·have h:=hb (j-1) (by omega)
   unfold Wq at h;simp only [Bool.or_eq_false_iff,qv] at h;omega
 unfold Wq;have e:(decide ((l.getD j (0,0)).1<0)||(decide (0<j)&&decide ((l.getD j (0,0)).1 <= (l.getD (j-1) (0,0)).1)))=decide ((l.getD j (0,0)).1 <= rF l j):=by
  rw [Bool.eq_iff_iff];simp only [Bool.or_eq_true,Cc,Bo];unfold rF at h1 |-;split
  ·omega
  ·rename_i h0
   rw [La h0] at h1;omega
 rw [<- e];cases decide ((l.getD j (0,0)).1<0) <;> cases decide (n <= (l.getD j (0,0)).1) <;> simp
theorem eU (p:Nat) (pub n:Int) (rows:vx) (A:Option vy) (len c:Nat) (l:List (Int × Nat)) (w:vw) (hl:RLin w [ve A len c] l) (hs:slc rows) :
  vB prog 277 #[sc p pub n rows,ve A len c] w fun e w'=>e=vl (.bool (yh p n l)) /\ vA w.1.size w w':=by
 obtain ⟨A',n',c',he,hlen,He,yf,Ma⟩:=hl;simp at he
 obtain ⟨rfl,rfl,rfl⟩:=he;obtain ⟨As,ns,cs,rfl⟩:=hs;subst hlen;unfold sc;have kt:=Blk.new w 25 #[vd vn p,vd vq pub,vd vq n,ve As ns cs];have da:vA w.1.size w (w.alloc (.cells #[vd vn p,vd vq pub,vd vq n,ve As ns cs] 25)):=(za _ _).alloc zR _;have g0:(l.length:Int) <= 9223372036854775807:=by
  have h4:=yf;simp [maxLen] at h4
  omega
 go_enter func277,ntmps277
 go_wp2_with fail
 generalize w.alloc _=w1 at kt da |-;go_loopw [5,10] (fun u i wr=>∃ (j:Nat) (la:Int),j <= l.length /\ i=vd vq j /\ u=vd vq la /\ Hid (la=rF l j) /\ Blk wr w.1.size 25 #[vd vn p,vd vq pub,vd vq n,ve As ns cs] /\ vA w.1.size w wr /\ Hid (∀ k<j,Wq p n l k=false))
  (fun _ i _=>l.length-(intOf i).toNat)
 case atStart=>exact ⟨0,-1,Lb _,rfl,rfl,rfl,kt,da,fun k hk=>by omega⟩
 case round =>
  clear kt da;obtain ⟨j,la,hj,rfl,rfl,WA,kt,da,HB⟩:=hrel;by_cases ra:j<l.length
  ·have HL:=zH ra
   obtain ⟨b,q,rfl⟩:=Ma.base (by omega) (by omega)
   have Ov:=Ma.below lF da;obtain ⟨c1,c2⟩:=RLin.at_ Ov ra;have Gb:=mf _ _ c1;simp only at Gb;have g1:(0:Int)<=j:=by omega
   have g2:(j:Int)<l.length:=by omega
   have HD:=zH (zCz HB.out);have HNX:=zH (show (l.getD j (0,0)).1=rF l (j+1) by simp [rF])
   rw [<- WA.out] at HD;revert c1 c2 HD HNX
   generalize (l.getD j (0,0)).1=x;generalize (l.getD j (0,0)).2=y;intro c1 c2 HD HNX;have ct:=kt.cell;have lt:=kt.lt;clear Ma Ov WA;by_cases z1:x <= la
   ·have d1:=yb z1
    go_wp2_with fail
    go_ret
    exact ⟨by rw [qy HL.out (HD.out.trans (by simp [d1]))];rfl,da.alloc da.size _⟩
   ·have d1:=xb z1
    by_cases z2:n <= x
    ·have d2:=yb z2
     go_wp2_with fail
     go_ret
     exact ⟨by rw [qy HL.out (HD.out.trans (by simp [d1,d2]))];rfl,da.alloc da.size _⟩
    ·have d2:=xb z2
     by_cases z4:y=0
     ·have HY:=zH z4
      subst z4;go_wp2_with fail
      go_ret
      exact ⟨by rw [qy HL.out (HD.out.trans (by simp [d1,d2]))];rfl,da.alloc da.size _⟩
     ·have d4:((y:Int) == 0)=false:=by rw [pd];omega
      have d4':(y == 0)=false:=by rw [pd];exact z4
      by_cases z5:p <= y
      ·have d5:decide ((p:Int)<=y)=true:=yb (by omega)
       have d5':=yb z5;go_wp2_with fail
       go_ret
       exact ⟨by rw [qy HL.out (HD.out.trans (by simp [d1,d2,d4',d5']))];rfl,da.alloc da.size _⟩
      ·have d5:decide ((p:Int)<=y)=false:=xb (by omega)
       have d5':=xb z5;have HE:=zH (show Wq p n l j=false from HD.out.trans (by simp [d1,d2,d4',d5']))
       clear d4' d5';go_wp2_with fail
       go_roundw
       case rel=>exact ⟨j+1,x,by omega,by go_num,rfl,HNX.out,kt.alloc _,da.alloc da.size _,GR HB.out HE.out⟩
       case measure=>simp [intOf];omega
  ·obtain rfl:l.length=j:=by omega
   go_wp2;go_ret
   exact ⟨by rw [kZ HB.out];rfl,da⟩
theorem zD0 (p:Nat) (pub vars:Int) (rows:vx) (r:Ya) (x y z:vx) (w:vw) (hx:RLin w [x] r.a) (hy:RLin w [y] r.b) (hz:RLin w [z] r.c) (hs:slc rows) :
  vB prog 211 #[sc p pub vars rows,vf #[x,y,z]] w fun e w'=>e=vl (.bool (Qm p vars r)) /\ vA w.1.size w w':=by
 obtain ⟨A1,n1,c1,rfl⟩:=RSl.slc hx;obtain ⟨A2,n2,c2,rfl⟩:=RSl.slc hy;obtain ⟨A3,n3,c3,rfl⟩:=RSl.slc hz;have HX:=zH (fun w' (hb:vA w.1.size w w')=>eU p pub vars rows _ _ _ r.a w' (gh _ _ _ _ hb hx) hs)
 have HY:=zH (fun w' (hb:vA w.1.size w w')=>eU p pub vars rows _ _ _ r.b w' (gh _ _ _ _ hb hy) hs)
 have HZ:=zH (fun w' (hb:vA w.1.size w w')=>eU p pub vars rows _ _ _ r.c w' (gh _ _ _ _ hb hz) hs)
 obtain ⟨As,ns,cs,rfl⟩:=hs;have hR:Qm p vars r=(yh p vars r.a&&yh p vars r.b&&yh p vars r.c):=rfl;rw [hR];clear hR hx hy hz;generalize yh p vars r.a=b1 at *;generalize yh p vars r.b=b2 at *;generalize yh p vars r.c=b3 at *;unfold sc at *;obtain ⟨kt,kr,da,-⟩:=Ih w 25 211 #[vd vn p,vd vq pub,vd vq vars,ve As ns cs] #[ve A1 n1 c1,ve A2 n2 c2,ve A3 n3 c3];go_enter func211,ntmps211
 go_wp2_with fail
 generalize (w.alloc _).alloc _=w0 at kt kr da |-;refine (HX.out _ da).mono ?_;rintro e w1 ⟨rfl,Ca⟩;replace kt:=ia kt Ca;replace kr:=ia kr Ca;replace da:=ma da Ca;clear Ca;have ct:=kt.cell;have cr:=kr.cell;cases b1
 ·go_wp2
  go_ret
  exact ⟨rfl,da⟩
 go_wp2_with fail
 refine (HY.out _ da).mono ?_;rintro e w2 ⟨rfl,Aa⟩;replace kt:=ia kt Aa;replace kr:=ia kr Aa;replace da:=ma da Aa;clear Aa ct cr;have ct:=kt.cell;have cr:=kr.cell;cases b2
 ·go_wp2
  go_ret
  exact ⟨rfl,da⟩
 go_wp2_with fail
 refine (HZ.out _ da).mono ?_;rintro e w3 ⟨rfl,Ua⟩;go_wp2;go_ret
 exact ⟨by simp,ma da Ua⟩
theorem zBh (p:Nat) (w:vw) (hp:Ib p=false) :
  vB prog 214 #[fv p] w fun e w'=>e=vl (.bool false) /\ vA w.1.size w w':=by
 unfold Ib at hp;simp only [Bool.or_eq_false_iff,pd] at hp;obtain ⟨⟨⟨⟨⟨⟨h1,h2⟩,h3⟩,h4⟩,h5⟩,h6⟩,h7⟩:=hp;have d1:((p:Int) == 17)=false:=by rw [pd];omega
 have d2:((p:Int) == 97)=false:=by rw [pd];omega
 have d3:((p:Int) == 193)=false:=by rw [pd];omega
 have d4:((p:Int) == 257)=false:=by rw [pd];omega
 have d5:((p:Int) == 12289)=false:=by rw [pd];omega
 have d6:((p:Int) == 65537)=false:=by rw [pd];omega
 have d7:((p:Int) == 18446744069414584321)=false:=by rw [pd];omega
 clear h1 h2 h3 h4 h5 h6 h7;unfold fv;go_enter func214,ntmps214
 go_wp2_with fail
 go_ret
 exact ⟨rfl,(za _ _).alloc zR _⟩
theorem zBi (p:Nat) (w:vw):vB prog 214 #[fv p] w fun e w'=>e=vl (.bool (Ib p)) /\ vA w.1.size w w':=by
 cases h:Ib p
 ·exact zBh p w h
 ·exact Eo p w h
theorem zD2 (p:Nat) (pub vars:Int) (rows:vx) (w:vw) (hs:slc rows) :
  vB prog 210 #[sc p pub vars rows] w fun e w'=>e=vl (.bool (Ib p&&!decide (pub<0)&&!decide (vars <= pub)&&!decide (65536<vars))) /\ vA w.1.size w w':=by
 have HV:=zH (fun w=>zBi p w)
 obtain ⟨As,ns,cs,rfl⟩:=hs;generalize Ib p=b0 at *;unfold sc fv at *;have kt:=Blk.new w 25 #[vd vn p,vd vq pub,vd vq vars,ve As ns cs];have da:vA w.1.size w (w.alloc (.cells #[vd vn p,vd vq pub,vd vq vars,ve As ns cs] 25)):=(za _ _).alloc zR _;go_enter func210,ntmps210
 go_wp2_with fail
 generalize w.alloc _=w0 at kt da |-;refine (HV.out _).mono ?_;rintro e w1 ⟨rfl,Ca⟩;replace kt:=ia kt Ca;replace da:=ma da Ca;clear Ca;have ct:=kt.cell;cases b0
 ·go_wp2
  go_ret
  exact ⟨rfl,da⟩
 by_cases z1:pub<0
 ·have d1:decide (0 <= pub)=false:=xb (by omega)
  have e1:=yb z1;go_wp2;go_ret
  exact ⟨by simp [e1],da⟩
 have d1:decide (0 <= pub)=true:=yb (by omega)
 have e1:=xb z1;by_cases z2:vars <= pub
 ·have d2:decide (pub<vars)=false:=xb (by omega)
  have e2:=yb z2;go_wp2;go_ret
  exact ⟨by simp [e2],da⟩
 have d2:decide (pub<vars)=true:=yb (by omega)
 have e2:=xb z2;by_cases z3:65536<vars
 ·have d3:decide (vars <= 65536)=false:=xb (by omega)
  have e3:=yb z3;go_wp2;go_ret
  exact ⟨by simp [e3],da⟩
 have d3:decide (vars <= 65536)=true:=yb (by omega)
 have e3:=xb z3;go_wp2;go_ret
 exact ⟨by simp [e1,e2,e3],da⟩
theorem WL (p:Nat) (pub vars:Int) (A:Option vy) (n c:Nat) (rows:List Ya) (w:vw) (hr:RSl 3 oe w [ve A n c] rows) :
  vB prog 115 #[sc p pub vars (ve A n c)] w fun e w'=>e=vl (.bool (Zc p pub vars rows)) /\ vA w.1.size w w':=by
 have HS:=zH (fun w=>zD2 p pub vars (ve A n c) w ⟨_,_,_,rfl⟩)
 have HR:=zH (fun r x y z w hx hy hz=>zD0 p pub vars (ve A n c) r x y z w hx hy hz ⟨_,_,_,rfl⟩)
 obtain ⟨A',n',c',he,hlen,He,yf,Ma⟩:=hr;simp at he
 obtain ⟨rfl,rfl,rfl⟩:=he;subst hlen;have g0:(rows.length:Int) <= 9223372036854775807:=by
  have h4:=yf;simp [maxLen] at h4
  omega
 have E:=zH (show Zc p pub vars rows=((Ib p&&!decide (pub<0)&&!decide (vars <= pub)&&!decide (65536<vars))&&!decide ((16384:Int)<rows.length)&&rows.all (Qm p vars)) from rfl)
 revert HS E
 generalize Zc p pub vars rows=ans;generalize (Ib p&&!decide (pub<0)&&!decide (vars <= pub)&&!decide (65536<vars))=b0;intro HS E;unfold sc at *;have kt:=Blk.new w 25 #[vd vn p,vd vq pub,vd vq vars,ve A rows.length c];have da:vA w.1.size w (w.alloc (.cells #[vd vn p,vd vq pub,vd vq vars,ve A rows.length c] 25)):=(za _ _).alloc zR _;go_enter func115,ntmps115
 go_wp2_with fail
 generalize w.alloc _=w0 at kt da |-;refine (HS.out _).mono ?_;rintro e w1 ⟨rfl,Ca⟩;replace kt:=ia kt Ca;replace da:=ma da Ca;clear Ca;have ct:=kt.cell;cases b0
 ·go_wp2
  go_ret
  exact ⟨by rw [E.out];simp,da⟩
 by_cases z4:(16384:Int)<rows.length
 ·have d4:=yb z4
  go_wp2;go_ret
  exact ⟨by rw [E.out];simp [d4],da⟩
 have d4:=xb z4;have E2:=zH (show ans=rows.all (Qm p vars) by rw [E.out,d4];simp)
 clear E;go_wp2_with fail
 clear ct;go_loopw [17] (fun i wr=>∃ j:Nat,j <= rows.length /\ i=vd vq j /\ Blk wr w.1.size 25 #[vd vn p,vd vq pub,vd vq vars,ve A rows.length c] /\ vA w.1.size w wr /\ Hid (∀ k<j,∀ h:k<rows.length,Qm p vars rows[k]=true))
  (fun i _=>rows.length-(intOf i).toNat)
 case atStart=>exact ⟨0,Lb _,rfl,kt,da,fun k hk=>by omega⟩
 case round =>
  clear kt da;obtain ⟨j,hj,rfl,kt,da,HB⟩:=hrel;by_cases ra:j<rows.length
  ·have HL:=zH ra
   obtain ⟨b,q,rfl⟩:=Ma.base (by omega) (by omega)
   obtain ⟨cs,-,hc,x,y,z,rfl,Yc,de,Nd⟩:=(Ma.below Bg da).get ra;have h0:wr.cell? ⟨b,q+j*3,vD⟩=vE x:=hc 0 (by omega)
   have h1:wr.cell? ⟨b,q+j*3+1,vD⟩=vE y:=hc 1 (by omega)
   have h2:wr.cell? ⟨b,q+j*3+2,vD⟩=vE z:=hc 2 (by omega)
   have i1:(0:Int)<=j:=by omega
   have i2:(j:Int)<rows.length:=by omega
   have Gb:=mf _ _ h0;simp only at Gb;have HC:=zH (fun w' (hb:vA wr.1.size wr w')=>HR.out rows[j] x y z w' (gh _ _ _ _ hb Yc) (gh _ _ _ _ hb de) (gh _ _ _ _ hb Nd))
   obtain ⟨A1,n1,c1,rfl⟩:=RSl.slc Yc;obtain ⟨A2,n2,c2,rfl⟩:=RSl.slc de;obtain ⟨A3,n3,c3,rfl⟩:=RSl.slc Nd;have ja:=(za wr.1.size wr).alloc zR (.cells #[ve A1 n1 c1,ve A2 n2 c2,ve A3 n3 c3] 211);have ct:=kt.cell;have lt:=kt.lt;clear hc Yc de Nd;go_wp2_with fail
   refine (HC.out _ ja).mono ?_;rintro e w3 ⟨rfl,Ua⟩;have zb:=ma ja Ua;replace kt:=ia kt zb;replace da:=ma da zb;clear ja Ua zb h0 h1 h2 ct lt;cases bo:Qm p vars rows[j]
   ·have HO:=zH bo
    clear bo;go_wp2;go_ret
    exact ⟨by rw [E2.out,bz.2 ⟨rows[j],wg HL.out,fun h=>Bool.noConfusion (HO.out.symm.trans h)⟩];rfl,da⟩
   ·have HO:=zH bo
    clear bo;go_wp2
    go_roundw
    case rel =>
     refine ⟨j+1,by omega,by go_num,kt,da,fun k hk h=>?_⟩
     by_cases e:k<j
     ·exact HB.out k e h
     ·obtain rfl:k=j:=by omega
      exact HO.out
    case measure=>simp [intOf];omega
  ·obtain rfl:rows.length=j:=by omega
   go_wp2;go_ret
   exact ⟨by rw [E2.out,Xd.2 fun r hr=>by obtain ⟨k,hk,rfl⟩:=uo hr;exact HB.out k hk hk];rfl,da⟩
theorem lP (n k:Nat) (w:vw) (hn:n <= 1000000000) (hk:0<k) (hk2:k <= 1000000000) :
  vB prog 117 #[vd vq n,vd vq k] w fun e w'=>e=vl (vd vq (((n+k-1) / k:Nat):Int)) /\ w'=w:=by
 have e1:(n:Int)+k=((n+k:Nat):Int):=by omega
 obtain ⟨s,hs⟩:=zEX (n+k);obtain ⟨t,ht⟩:=zEX (n+k-1);obtain ⟨r,hr⟩:=zEX (t / k);have e2:(s:Int)-1=(t:Int):=by omega
 rw [<- hs] at e1;rw [<- ht,<- hr];have e3:(t:Int) / (k:Int)=r:=by rw [hr];rfl
 have e4:(t:Int).tdiv (k:Int)=r:=by rw [hr];rfl
 have e5:=Ce s;have e6:=Ce t;have Sq:r <= t:=by rw [hr];exact jz _ _
 have e7:=Ce r;have q1:(0:Int)<k:=by omega
 have q2:¬((k:Int)=0):=by omega
 have q3:¬(k=0):=by omega
 clear hs ht hr Sq;go_enter func117,ntmps117
 go_wp2_with fail
 go_ret
 exact ⟨rfl,rfl⟩
def XJ (bl bw qs:Int):Prop:=bl<2 \/ 256<bl \/ bl.toNat &&& (bl.toNat-1)≠0 \/ qs<1 \/ 64<qs \/ (bw≠1 /\ bw≠2 /\ bw≠4 /\ bw≠8)
theorem zC9 {p:Nat} {pub vars:Int} {nr:Nat} {bl bw qs:Int} (h:XJ bl bw qs):aw ⟨p,pub,vars,nr,bl,bw,qs⟩=1:=Qa h
theorem zD8 (bl bw qs:Int) (w:vw) (h:XJ bl bw qs) :
  vB prog 116 #[vf #[vd vq bl,vd vq bw,vd vq qs]] w fun e w'=>e=vl (.bool false) /\ vA w.1.size w w':=by
 have da:vA w.1.size w (w.alloc (.cells #[vd vq bl,vd vq bw,vd vq qs] 27)):=(za _ _).alloc zR _;by_cases hw:bw≠1 /\ bw≠2 /\ bw≠4 /\ bw≠8
 ·obtain ⟨h1,h2,h3,h4⟩:=hw
  have d1:(bw != 1)=true:=by rw [Df];exact h1
  have d2:(bw != 2)=true:=by rw [Df];exact h2
  have d3:(bw != 4)=true:=by rw [Df];exact h3
  have d4:(bw != 8)=true:=by rw [Df];exact h4
  clear h h1 h2 h3 h4;go_enter func116,ntmps116
  go_wp2_with fail
  go_ret
  exact ⟨rfl,da⟩
 have BC:bw=1 \/ bw=2 \/ bw=4 \/ bw=8:=by omega
 by_cases z1:bl<2
 ·have d1:decide (2 <= bl)=false:=xb (by omega)
  clear h hw;rcases BC with rfl | rfl | rfl | rfl <;>
  ·go_enter func116,ntmps116
   go_wp2_with fail
   go_ret
   exact ⟨rfl,da⟩
 have d1:decide (2 <= bl)=true:=yb (by omega)
 by_cases z2:256<bl
 ·have d2:decide (bl <= 256)=false:=xb (by omega)
  clear h hw;rcases BC with rfl | rfl | rfl | rfl <;>
  ·go_enter func116,ntmps116
   go_wp2_with fail
   go_ret
   exact ⟨rfl,da⟩
 have d2:decide (bl <= 256)=true:=yb (by omega)
 obtain ⟨b,rfl⟩:=Kk (show 0 <= bl by omega)
 unfold XJ at h;rw [Lk] at h;have hand:=aN ⟨b,by omega⟩ (by show 2 <= b;omega)
 simp only at hand;have i1:(1:Int)<=b:=by omega
 have i2:(0:Int)<=b-1:=by omega
 have i3:(b:Int) <= 256:=by omega
 by_cases z3:b &&& (b-1)=0
 ·rw [z3] at hand
  have hq:¬(1 <= qs /\ qs <= 64):=by omega
  clear h hw z3;by_cases z4:qs<1
  ·have d4:decide (1 <= qs)=false:=xb (by omega)
   rcases BC with rfl | rfl | rfl | rfl <;>
   ·go_enter func116,ntmps116
    go_wp2_with fail
    go_ret
    exact ⟨rfl,da⟩
  ·have d4:decide (1 <= qs)=true:=yb (by omega)
   have d5:decide (qs <= 64)=false:=xb (by omega)
   rcases BC with rfl | rfl | rfl | rfl <;>
   ·go_enter func116,ntmps116
    go_wp2_with fail
    go_ret
    exact ⟨rfl,da⟩
 ·obtain ⟨v,hv⟩:=zEX (b &&& (b-1))
  rw [<- hv] at hand z3;have d3:((v:Int) == 0)=false:=by rw [pd];omega
  clear h hw hv z3;rcases BC with rfl | rfl | rfl | rfl <;>
  ·go_enter func116,ntmps116
   go_wp2_with fail
   go_ret
   exact ⟨rfl,da⟩
theorem zD9 (b bw q:Nat) (w:vw) (h0:2 <= b) (h1:b <= 256) (h2:b &&& (b-1)=0) (h3:1 <= q) (h4:q <= 64) (BC:bw=1 \/ bw=2 \/ bw=4 \/ bw=8) :
  vB prog 116 #[vf #[vd vq b,vd vq bw,vd vq q]] w fun e w'=>e=vl (.bool true) /\ vA w.1.size w w':=by
 have hand:=aN ⟨b,by omega⟩ (by show 2 <= b;omega)
 simp only at hand;rw [h2] at hand;have i1:(1:Int)<=b:=by omega
 have i2:(0:Int)<=b-1:=by omega
 have i3:(b:Int) <= 256:=by omega
 have d1:decide ((2:Int)<=b)=true:=yb (by omega)
 have d2:decide ((b:Int) <= 256)=true:=yb (by omega)
 have d4:decide ((1:Int)<=q)=true:=yb (by omega)
 have d5:decide ((q:Int) <= 64)=true:=yb (by omega)
 clear h0 h1 h2 h3 h4;have da:vA w.1.size w (w.alloc (.cells #[vd vq b,vd vq bw,vd vq q] 27)):=(za _ _).alloc zR _;rcases BC with rfl | rfl | rfl | rfl <;>
 ·go_enter func116,ntmps116
  go_wp2_with fail
  go_ret
  exact ⟨rfl,da⟩
section
variable (p:Nat) (pub vars:Int) (A:Option vy) (n c:Nat) (rows:List Ya) (bl bw qs:Int) (w:vw)
theorem zDV (hr:RSl 3 oe w [ve A n c] rows) (ht:Zc p pub vars rows=true) (sH:XJ bl bw qs) :
  vB prog 55 (Vp p pub vars A n c bl bw qs) w fun e w'=>e=vl (.tuple #[vf Qf,vd vq 1]) /\ vA w.1.size w w':=by
 have HV:=zH (fun w' (hb:vA w.1.size w w')=>WL p pub vars A n c rows w' (Dg Bg _ _ _ _ hb hr))
 have HP:=zH (fun w=>zD8 bl bw qs w sH)
 rw [ht] at HV;clear hr ht sH;unfold Vp sc Qf at *;obtain ⟨kt,kx,kz,da,-⟩:=rn w 25 27 101 #[vd vn p,vd vq pub,vd vq vars,ve A n c] #[vd vq bl,vd vq bw,vd vq qs] #[vd vn 0,vd vq 0,vd vq 0,vd vq 0,vd vq 0,vd vq 0,vd vq 0,vd vq 0,vd vq 0,vd vq 0,vd vq 0];go_enter func55,ntmps55
 go_wp2_with fail
 generalize ((w.alloc _).alloc _).alloc _=w0 at kt kx kz da |-;refine (HV.out _ da).mono ?_;rintro e w1 ⟨rfl,Ca⟩;replace kt:=ia kt Ca;replace kx:=ia kx Ca;replace kz:=ia kz Ca;replace da:=ma da Ca;have cx:=kx.cell;clear Ca;go_wp2_with fail
 refine (HP.out _).mono ?_;rintro e w2 ⟨rfl,Aa⟩;replace kz:=ia kz Aa;replace da:=ma da Aa;clear Aa cx;have cz:=kz.cell;have fz:=kz.frozen;go_wp2_with fail
 obtain ⟨wf,dc,kW,hW⟩:=Ct kz da;rw [dc];clear dc cz fz kz da;have c4:=kW.cell;exact ed (v:=.tuple #[vf #[vd vn 0,vd vq 0,vd vq 0,vd vq 0,vd vq 0,vd vq 0,vd vq 0,vd vq 0,vd vq 0,vd vq 0,vd vq 0],vd vq 1]) (by simp [results,results55,go_sem,c4]) rfl ⟨rfl,hW⟩
end
theorem fK {w:vw} (g i:Nat) (v:vx):w.grownBy (w.setCell ⟨g,i,vD⟩ v) (vE g):=Mf (p:=⟨g,i,vD⟩) (Vd w _) (.inl rfl) _
def WK (w:vw) (g i:Nat):Nat:=match w.cell? ⟨g,i,vD⟩ with | some (vd _ n)=>n.toNat | _=>0
theorem zDX (p U V:Nat) (A:Option vy) (n c:Nat) (rows:List Ya) (b bw q:Nat) (w:vw) (hr:RSl 3 oe w [ve A n c] rows) (ht:Zc p U V rows=true)
  (h0:2 <= b) (h1:b <= 256) (h2:b &&& (b-1)=0) (h3:1 <= q) (h4:q <= 64) (hw:bw=1 \/ bw=2 \/ bw=4 \/ bw=8) :
  vB prog 55 (Vp p U V A n c b bw q) w fun e w'=>QD ⟨p,U,V,rows.length,b,bw,q⟩ e /\ vA w.1.size w w':=by
 have ib:=TF ht;obtain ⟨Ed,hp⟩:=Nb ib;have HV:=zH (fun w' (hb:vA w.1.size w w')=>WL p U V A n c rows w' (Dg Bg _ _ _ _ hb hr))
 have HPa:=zH (fun w=>zD9 b bw q w h0 h1 h2 h3 h4 hw)
 rw [ht] at HV;have XH:U<V /\ V <= 65536 /\ rows.length <= 16384:=by
  unfold Zc at ht;simp only [Cc,il,qv] at ht;omega
 obtain ⟨t1,t2,t3⟩:=XH;obtain ⟨A',n',c',he,hlen,He,yf,-⟩:=hr;simp at he
 obtain ⟨rfl,rfl,rfl⟩:=he;subst hlen;have hbw8:bw <= 8 /\ 1 <= bw:=by omega
 obtain ⟨k,hk⟩:=zEX (b+q);obtain ⟨kk,Us⟩:=zEX (2*k);obtain ⟨s,hs⟩:=zEX (V-1-U);obtain ⟨v1,Mi⟩:=zEX (V-1);obtain ⟨pm,Ys⟩:=zEX (p-1);have ek:(b:Int)+q=(k:Int):=by omega
 have ek1:=Ce k;have ZG:(2:Int)*k=(kk:Int):=by omega
 have ek3:=Ce kk;have ev:(V:Int)-1=(v1:Int):=by omega
 have ev2:=Ce v1;have es:(v1:Int)-U=(s:Int):=by omega
 have es2:=Ce s;have ep:vn.wrap ((p:Int)-1)=(pm:Int):=by rw [Ys];exact Hy p 1 (by omega) hp
 have ep2:(p:Int)-1=(pm:Int):=by omega
 have ep3:vn.wrap (pm:Int)=pm:=Ek _ (by omega)
 have j1:kk <= 640:=by omega
 have j2:6 <= kk:=by omega
 have hb256:vn.wrap (b:Int)=b:=Ek b (by omega)
 have HB:=zH (And.intro h0 h1);have HQ:=zH (And.intro h3 h4);have HK:=zH hk;have HS:=zH hs;have HT:=zH (And.intro ib (And.intro t1 (And.intro t2 t3)));have HP:=zH (show pm=p-1 /\ 17 <= p from ⟨Ys,Ed⟩)
 have HG:=zH (fun N NN hN Yh=>UZ (p:=p) (U:=U) (V:=V) (nr:=rows.length) (bw:=bw) (N:=N) (NN:=NN) h0 h1 h2 h3 h4 hw Ys hN Yh)
 have Sg:=zH h2;have Kt:=zH hbw8;have HW:=zH hw;have HKK:=zH (show kk=2*(b+q) by omega)
 have gm:(rows.length:Int) <= 16384:=by omega
 have u1:(rows.length+b-1) / b <= 100000:=jb (jz _ _) (by omega)
 have u2:(s+b-1) / b <= 100000:=jb (jz _ _) (by omega)
 have HU:=zH (fun w=>lP rows.length b w (by omega) (by omega) (by omega))
 have Ym:=zH (fun w=>lP s b w (by omega) (by omega) (by omega))
 obtain ⟨ub,ZH⟩:=zEX ((rows.length+b-1) / b);obtain ⟨ua,YH⟩:=zEX ((s+b-1) / b);rw [<- ZH] at HU u1;rw [<- YH] at Ym u2;have HUB:=zH ZH;have HUA:=zH YH;clear ZH YH h0 h1 h2 h3 h4 hk hs Us ib hp Ed ht t1 t2 t3 Ys hw hbw8 Mi;unfold Vp sc at *;obtain ⟨kt,kx,kz,da,-⟩:=rn w 25 27 101 #[vd vn p,vd vq U,vd vq V,ve A rows.length c] #[vd vq b,vd vq bw,vd vq q] #[vd vn 0,vd vq 0,vd vq 0,vd vq 0,vd vq 0,vd vq 0,vd vq 0,vd vq 0,vd vq 0,vd vq 0,vd vq 0];go_enter func55,ntmps55
 go_wp2_with fail
 generalize ((w.alloc _).alloc _).alloc _=w0 at kt kx kz da |-;refine (HV.out _ da).mono ?_;rintro e w1 ⟨rfl,Ca⟩;replace kt:=ia kt Ca;replace kx:=ia kx Ca;replace kz:=ia kz Ca;replace da:=ma da Ca;have cx:=kx.cell;clear Ca;go_wp2_with fail
 refine (HPa.out _).mono ?_;rintro e w2 ⟨rfl,Aa⟩;replace kt:=ia kt Aa;replace kx:=ia kx Aa;replace kz:=ia kz Aa;replace da:=ma da Aa;clear Aa cx;have cx:=kx.cell;have ct:=kt.cell;go_wp2_with fail
 have ja:=(za w2.1.size w2).alloc zR (.cells #[vd vn p,vd vq b,vd vq q,vd vq k,vd vq 1,vd vq 0,vd vq 0,vd vq 0,vd vq 0,vd vq 0,vd vq 0] 101);have k6:=Blk.new w2 101 #[vd vn p,vd vq b,vd vq q,vd vq k,vd vq 1,vd vq 0,vd vq 0,vd vq 0,vd vq 0,vd vq 0,vd vq 0];have FH:w.1.size+1+1<w2.1.size:=kz.lt;replace kt:=ia kt ja;replace kx:=ia kx ja;replace kz:=ia kz ja;replace da:=ma da ja;clear ja cx ct;generalize w2.alloc _=w3 at kt kx kz da k6 |-;generalize w2.1.size=g6 at k6 FH |-;go_loopw [35] (fun _ wr=>∃ N:Nat,Hid ((∃ z,N=2^z) /\ N<2*kk) /\ N <= 1280 /\ 0<N /\ Blk wr w.1.size 25 #[vd vn p,vd vq U,vd vq V,ve A rows.length c] /\ Blk wr (w.1.size+1) 27 #[vd vq b,vd vq bw,vd vq q] /\ Blk wr (w.1.size+1+1) 101 #[vd vn 0,vd vq 0,vd vq 0,vd vq 0,vd vq 0,vd vq 0,vd vq 0,vd vq 0,vd vq 0,vd vq 0,vd vq 0] /\ Blk wr g6 101 #[vd vn p,vd vq b,vd vq q,vd vq k,vd vq N,vd vq 0,vd vq 0,vd vq 0,vd vq 0,vd vq 0,vd vq 0] /\ vA w.1.size w wr) (fun _ wr=>1300-WK wr g6 4)
 case atStart=>exact ⟨1,⟨⟨0,rfl⟩,by omega⟩,by omega,by omega,kt,kx,kz,k6,da⟩
 case round =>
  clear kt kx kz k6 da;obtain ⟨N,HN,Rk,Ji,kt,kx,kz,k6,da⟩:=hrel;have cM:WK wr g6 4=N:=by unfold WK;rw [k6.cell];simp
  by_cases ra:N<kk
  ·have q1:(N:Int)<kk:=by omega
   obtain ⟨N2,hN⟩:=zEX (2*N);have e1:(N:Int)*2=(N2:Int):=by omega
   have e2:=Ce N2;have HN3:Hid ((∃ z,N2=2^z) /\ N2<2*kk):=by
    obtain ⟨⟨z,hz⟩,-⟩:=HN.out;exact ⟨⟨z+1,by rw [hN,hz,Ig,Fe]⟩,by omega⟩
   have hN4:N2 <= 1280:=by omega
   have hN5:0<N2:=by omega
   have Bi:=zH hN;have HCM:=zH cM;clear hN cM;have c6:=k6.cell;have f6:=k6.frozen;go_wp2_with fail
   have hg:=fK (w:=wr) g6 4 (vd vq N2);replace k6:=k6.set_ 4 (vd vq N2);simp at k6
   replace kt:=ze kt hg;replace kx:=ze kx hg;replace kz:=ze kz hg;replace da:=Dd da hg;clear hg c6 f6
   go_roundw
   case rel=>exact ⟨N2,HN3,hN4,hN5,kt,kx,kz,k6,da⟩
   case measure =>
    have c2:WK (wr.setCell ⟨g6,4,vD⟩ (vd vq N2)) g6 4=N2:=by unfold WK;rw [k6.cell];simp
    rw [c2,HCM.out];have:=Bi.out;omega
  ·have q1:¬((N:Int)<kk):=by omega
   clear cM;obtain ⟨NN,Yh⟩:=zEX (bw*N);have hNNl:NN <= 10240:=by rw [Yh];exact Nat.mul_le_mul Kt.out.1 Rk
   have hNN0:0<NN:=by rw [Yh];exact Nat.mul_pos (by have:=Kt.out;omega) Ji
   have e1:(N:Int)*bw=(NN:Int):=by rw [Yh,ig,Yj]
   have e2:=Ce NN;have eN:vn.wrap (NN:Int)=NN:=Ek _ (by omega)
   have XN:(∃ z,N=2^z) /\ 2*(b+q) <= N /\ (1 <= 2*(b+q) -> N<2*(2*(b+q))):=by
    have h:=HN.out;rw [HKK.out] at h;exact ⟨h.1,by rw [<- HKK.out];omega,fun _=>h.2⟩
   replace HG:=zH (HG.out _ _ XN Yh);have HNP:Hid (∃ z,NN=2^z):=by
    obtain ⟨z,hz⟩:=XN.1;rcases HW.out with h | h | h | h <;> rw [Yh,h,hz]
    ·exact ⟨z,by omega⟩
    ·exact ⟨z+1,by rw [Ig,Fe]⟩
    ·exact ⟨z+2,by rw [Nat.pow_add,Fe]⟩
    ·exact ⟨z+3,by rw [Nat.pow_add,Fe]⟩
   have HNK:Hid (2*k <= NN):=by
    have h1:N <= NN:=by rw [Yh];exact Nat.le_mul_of_pos_left _ (by have:=Kt.out;omega)
    have:=XN.2.1;have:=HK.out;show 2*k <= NN
    omega
   clear XN HN Yh Rk Ji ra;have Ow:Hid (∀ {er:Int},(if pm%b≠0 \/ pm%NN≠0 \/ pm <= NN then (7:Int) else if 1024<NN then 3 else 0)=er -> er=aw ⟨p,U,V,rows.length,b,bw,q⟩):=fun h=>h.symm.trans (HG.out.2).symm
   have c6:=k6.cell;have f6:=k6.frozen;have cx:=kx.cell;have lx:=kx.lt;go_upto_region 7 with fail
   have hg:=fK (w:=wr) g6 4 (vd vq NN);replace k6:=k6.set_ 4 (vd vq NN);simp at k6
   replace kt:=ze kt hg;replace kx:=ze kx hg;replace kz:=ze kz hg;replace da:=Dd da hg;clear hg c6 f6 cx lx e1 e2;generalize wr.setCell _ _=w4 at kt kx kz k6 da |-;have c6:=k6.cell;have ct:=kt.cell;have cz:=kz.cell;have fz:=kz.frozen;have q1:(0:Int)<b:=by have:=HB.out;omega
   have q2:¬((b:Int)=0):=by omega
   have q3:¬(b=0):=by omega
   have q4:(0:Int)<NN:=by omega
   have q5:¬((NN:Int)=0):=by omega
   have q6:¬(NN=0):=by omega
   have r1:(pm:Int)%(b:Int)=((pm%b:Nat):Int):=rfl;have r2:(pm:Int)%(NN:Int)=((pm%NN:Nat):Int):=rfl;have r3:(pm:Int).tmod (b:Int)=((pm%b:Nat):Int):=rfl;have r4:(pm:Int).tmod (NN:Int)=((pm%NN:Nat):Int):=rfl;obtain ⟨x1,Yc⟩:=zEX (pm%b);obtain ⟨x2,fh⟩:=zEX (pm%NN);rw [<- Yc] at r1 r3;rw [<- fh] at r2 r4;have cB:=zH Yc.symm;have jm:=zH fh.symm;clear Yc fh;have fin:∀ (er:Int),er=7 \/ er=3 -> er=aw ⟨p,U,V,rows.length,b,bw,q⟩ -> QD ⟨p,U,V,rows.length,b,bw,q⟩ (vl (.tuple #[vf Qf,vd vq er])):=fun er h h'=>⟨_,_,rfl, .inl ⟨by omega,rfl,h'⟩⟩
   have FIN:=zH fin;clear fin;have KW:=zH (Ct kz da);by_cases z1:x1=0
   ·subst z1
    by_cases z2:x2=0
    ·subst z2
     by_cases z3:pm <= NN
     ·have y1:decide ((pm:Int)<=NN)=true:=yb (by omega)
      have y2:decide (pm <= NN)=true:=yb z3;go_wp2_with fail
      obtain ⟨wf,dc,kW,hW⟩:=KW.out;rw [dc];clear dc cz fz KW;have c4:=kW.cell;exact ed (v:=.tuple #[vf Qf,vd vq 7]) (by simp [results,results55,go_sem,c4,Qf]) rfl ⟨FIN.out 7 (.inl rfl) (Ow.out (by rw [Qa (.inr (.inr z3))])),hW⟩
     ·have y1:decide ((pm:Int)<=NN)=false:=xb (by omega)
      have y2:decide (pm <= NN)=false:=xb z3;by_cases z4:1024<NN
      ·have y3:decide ((1024:Int)<NN)=true:=yb (by omega)
       have y4:decide (1024<NN)=true:=yb z4;go_wp2_with fail
       obtain ⟨wf,dc,kW,hW⟩:=KW.out;rw [dc];clear dc cz fz KW;have c4:=kW.cell;exact ed (v:=.tuple #[vf Qf,vd vq 3]) (by simp [results,results55,go_sem,c4,Qf]) rfl ⟨FIN.out 3 (.inr rfl) (Ow.out (by rw [La (by rw [cB.out,jm.out];omega),Qa z4])),hW⟩
      ·have y3:decide ((1024:Int)<NN)=false:=xb (by omega)
       have y4:decide (1024<NN)=false:=xb z4;have HZ3:=zH z3;have HZ4:=zH z4;have f6:=k6.frozen;have l6:=k6.lt;have n1:w.1.size≠g6:=by omega
       clear KW cz fz FIN;go_upto_region 14 with fail
       have hg:w4.grownBy ((w4.setCell ⟨g6,5,vD⟩ (vd vq s)).setCell ⟨g6,6,vD⟩ (vd vq rows.length)) (vE g6):=by
        iterate 2 refine Mf ?_ (.inl rfl) _
        exact Vd w4 _
       replace k6:=(k6.set_ 5 (vd vq s)).set_ 6 (vd vq rows.length);simp at k6
       replace kt:=ze kt hg;replace kx:=ze kx hg;replace kz:=ze kz hg;replace da:=Dd da hg;clear hg c6 f6 ct l6;generalize (w4.setCell _ _).setCell _ _=w5 at kt kx kz k6 da |-;have c6:=k6.cell;have f6:=k6.frozen;have l6:=k6.lt;go_wp2_with fail
       refine (Ym.out _).mono ?_;rintro e w6 ⟨rfl,rfl⟩;go_upto_region 15 with fail
       have hg:=fK (w:=w6) g6 7 (vd vq ua);replace k6:=k6.set_ 7 (vd vq ua);simp at k6
       replace kt:=ze kt hg;replace kx:=ze kx hg;replace kz:=ze kz hg;replace da:=Dd da hg;clear hg c6 f6 l6;generalize w6.setCell _ _=w7 at kt kx kz k6 da |-;go_wp2_with fail
       go_loopw [8] (fun y wr=>∃ (i:Nat) (x1 x2 x3:Int),1 <= i /\ i <= 4 /\ y=vd vq i /\ Hid ((1<i -> x1=ub) /\ (2<i -> x2=ub) /\ (3<i -> x3=ub)) /\ Blk wr (w.1.size+1+1) 101 #[vd vn 0,vd vq 0,vd vq 0,vd vq 0,vd vq 0,vd vq 0,vd vq 0,vd vq 0,vd vq 0,vd vq 0,vd vq 0] /\ Blk wr g6 101 #[vd vn p,vd vq b,vd vq q,vd vq k,vd vq NN,vd vq s,vd vq rows.length,vd vq ua,vd vq x1,vd vq x2,vd vq x3] /\ vA w.1.size w wr) (fun y _=>4-(intOf y).toNat)
       case atStart=>exact ⟨1,0,0,0,by omega,by omega,rfl,⟨by omega,by omega,by omega⟩,kz,k6,da⟩
       case round =>
        clear kt kx kz k6 da;obtain ⟨i,x1,x2,x3,Np,hi4,rfl,Zm,kz,k6,da⟩:=hrel;have c6:=k6.cell;have f6:=k6.frozen;have l6:=k6.lt;by_cases ra:i<4
        ·have hi:i=1 \/ i=2 \/ i=3:=by omega
         rcases hi with rfl | rfl | rfl
         ·go_wp2_with fail
          refine (HU.out _).mono ?_;rintro e w8 ⟨rfl,rfl⟩;go_wp2_with fail
          have hg:=fK (w:=w8) g6 8 (vd vq ub);replace k6:=k6.set_ 8 (vd vq ub);simp at k6
          replace kz:=ze kz hg;replace da:=Dd da hg;clear hg c6 f6 l6
          go_roundw
          case rel=>exact ⟨2,(ub:Int),x2,x3,by omega,by omega,rfl,⟨by have:=Zm.out;omega,by have:=Zm.out;omega,by have:=Zm.out;omega⟩,kz,k6,da⟩
          case measure=>simp [intOf]
         ·go_wp2_with fail
          refine (HU.out _).mono ?_;rintro e w8 ⟨rfl,rfl⟩;go_wp2_with fail
          have hg:=fK (w:=w8) g6 9 (vd vq ub);replace k6:=k6.set_ 9 (vd vq ub);simp at k6
          replace kz:=ze kz hg;replace da:=Dd da hg;clear hg c6 f6 l6
          go_roundw
          case rel=>exact ⟨3,x1,(ub:Int),x3,by omega,by omega,rfl,⟨by have:=Zm.out;omega,by have:=Zm.out;omega,by have:=Zm.out;omega⟩,kz,k6,da⟩
          case measure=>simp [intOf]
         ·go_wp2_with fail
          refine (HU.out _).mono ?_;rintro e w8 ⟨rfl,rfl⟩;go_wp2_with fail
          have hg:=fK (w:=w8) g6 10 (vd vq ub);replace k6:=k6.set_ 10 (vd vq ub);simp at k6
          replace kz:=ze kz hg;replace da:=Dd da hg;clear hg c6 f6 l6
          go_roundw
          case rel=>exact ⟨4,x1,x2,(ub:Int),by omega,by omega,rfl,⟨by have:=Zm.out;omega,by have:=Zm.out;omega,by have:=Zm.out;omega⟩,kz,k6,da⟩
          case measure=>simp [intOf]
        ·obtain rfl:i=4:=by omega
         obtain ⟨e1,e2,e3⟩:=Zm.out;obtain rfl:=e1 (by omega)
         obtain rfl:=e2 (by omega)
         obtain rfl:=e3 (by omega)
         have cz:=kz.cell;have fz:=kz.frozen;have lz:=kz.lt;clear Zm e1 e2 e3;go_wp2_with fail
         obtain ⟨wf,dc,kW,hW⟩:=gD kz da p b q k NN s rows.length ua ub ub ub;rw [dc];clear dc cz fz c6 f6 kz da lz l6;have c4:=kW.cell;have HL:Rb ⟨p,b,q,k,NN,s,rows.length,ua,ub⟩:=by
          have hB:=HB.out;have hQ:=HQ.out;have hT:=HT.out;refine ⟨hT.1,hB.1,hB.2,hQ.1,hQ.2,HK.out,HNP.out,by show NN <= 1024;have:=HZ4.out;omega,by have:=HS.out;show s <= 65536;omega,hT.2.2.2,u2,u1,Sg.out,?_,?_,?_,HNK.out,HUA.out,HUB.out⟩
          ·show (p-1)%b=0
           rw [<- HP.out.1];exact cB.out
          ·show (p-1)%NN=0
           rw [<- HP.out.1];exact jm.out
          ·show NN<p-1
           rw [<- HP.out.1];have:=HZ3.out;omega
         have Qy:ak ⟨p,b,q,k,NN,s,rows.length,ua,ub⟩ ⟨p,U,V,rows.length,b,bw,q⟩:=by
          have e1:((V:Int)-1-(U:Int)).toNat=s:=by have:=HS.out;have:=HT.out;omega
          refine ⟨rfl,?_,(Ow.out (by rw [La (by rw [cB.out,jm.out];have:=HZ3.out;omega),La HZ4.out])).symm,by show (0:Int) <= U;omega,by have:=HT.out;show (U:Int)<V;omega⟩
          have e5:NewIn.n ⟨p,U,V,rows.length,b,bw,q⟩=NN:=HG.out.1.symm;unfold RO;simp only [Lk,e1];rw [e5,HK.out,HUA.out,HUB.out]
         exact ed (v:=.tuple #[vf (Db ⟨p,b,q,k,NN,s,rows.length,ua,ub⟩),vd vq 0]) (by simp [results,results55,go_sem,c4,Db]) rfl ⟨⟨_,_,rfl, .inr ⟨rfl,_,HL,Qy,rfl⟩⟩,hW⟩
    ·have y1:((x2:Int) != 0)=true:=by rw [Df];omega
     have y2:(x2 != 0)=true:=by rw [Df];exact z2
     go_wp2_with fail
     obtain ⟨wf,dc,kW,hW⟩:=KW.out;rw [dc];clear dc cz fz KW;have c4:=kW.cell;exact ed (v:=.tuple #[vf Qf,vd vq 7]) (by simp [results,results55,go_sem,c4,Qf]) rfl ⟨FIN.out 7 (.inl rfl) (Ow.out (by rw [Qa (.inr (.inl (by rw [jm.out];exact z2)))])),hW⟩
   ·have y1:((x1:Int) != 0)=true:=by rw [Df];omega
    have y2:(x1 != 0)=true:=by rw [Df];exact z1
    go_wp2_with fail
    obtain ⟨wf,dc,kW,hW⟩:=KW.out;rw [dc];clear dc cz fz KW;have c4:=kW.cell;exact ed (v:=.tuple #[vf Qf,vd vq 7]) (by simp [results,results55,go_sem,c4,Qf]) rfl ⟨FIN.out 7 (.inl rfl) (Ow.out (by rw [Qa (.inl (by rw [cB.out];exact z1))])),hW⟩
theorem zDU (p:Nat) (pub vars:Int) (A:Option vy) (n c:Nat) (rows:List Ya) (bl bw qs:Int) (w:vw) (hr:RSl 3 oe w [ve A n c] rows) (ht:Zc p pub vars rows=true) :
  vB prog 55 (Vp p pub vars A n c bl bw qs) w fun e w'=>QD ⟨p,pub,vars,rows.length,bl,bw,qs⟩ e /\ vA w.1.size w w':=by
 by_cases sH:XJ bl bw qs
 ·exact (zDV p pub vars A n c rows bl bw qs w hr ht sH).mono fun _ _ h=>⟨⟨_,_,h.1, .inl ⟨by decide,rfl,(zC9 sH).symm⟩⟩,h.2⟩
 ·have UE:0 <= pub /\ pub<vars:=by
   have h:=ht;unfold Zc at h;simp only [Cc,il,qv] at h;omega
  unfold XJ at sH;obtain ⟨U,rfl⟩:=Kk UE.1;obtain ⟨V,rfl⟩:=Kk (show 0 <= vars by omega)
  obtain ⟨b,rfl⟩:=Kk (show 0 <= bl by omega)
  obtain ⟨q,rfl⟩:=Kk (show 0 <= qs by omega)
  obtain ⟨v,rfl⟩:=Kk (show 0 <= bw by omega)
  rw [Lk] at sH;exact zDX p U V A n c rows b v q w hr ht (by omega) (by omega) (by omega) (by omega) (by omega) (by omega)
end Go.Proofs.YteoghgbnielkpaaGreat
