/- A part of the proof. No condition. -/
import Derived.Test.YteoghgbnielkpaaGreatPP17

set_option maxRecDepth 100000
set_option maxHeartbeats 8000000
set_option linter.unusedVariables false
set_option linter.unusedSimpArgs false
namespace Go.Proofs.YteoghgbnielkpaaGreat
open Go.RowKit Go.Maps
open Tryz
open Go renaming World->vu, Value->vw, Addr->vx, TypeId->vy, Calls->vA
open Go.Value renaming int->vd, slice->ve, agg->vf
open Go.IntKind renaming u64->vo, i64->vq
open Go.Ending renaming returned->vn
open Go.RowKit renaming Below->vz
open Go.World renaming setCell->vE
open Go.Act renaming put->vF
open Option renaming none->vB, some->vD
def iG (q r:Qn):Bool:=decide (q.lab=r.lab)&&decide (q.ans=r.ans)&&decide (q.el=r.el)
theorem zGy (q r:Qn) (A B:Option vx) (n c m d:Nat) (w:vu) (h1:RWd w [ve A n c] q.el) (h2:RWd w [ve B m d] r.el) :
  vA prog 190 #[vf #[vd vo q.lab,ve A n c,vd vo q.ans],vf #[vd vo r.lab,ve B m d,vd vo r.ans]] w fun e w'=>e=vn (.bool (iG q r)) /\ vz w.1.size w w':=by
 obtain ⟨k1,k2,hb,Db⟩:=Xf w 95 95 #[vd vo q.lab,ve A n c,vd vo q.ans] #[vd vo r.lab,ve B m d,vd vo r.ans];have HS:=zH (fun w1 (hb:vz w.1.size w w1)=>ZX A B n c m d q.el r.el w1 (Wa hb h1) (Wa hb h2))
 obtain ⟨x1,ld⟩:=zEX (decide (q.lab=r.lab));obtain ⟨x2,yf⟩:=zEX (decide (q.ans=r.ans));obtain ⟨x3,Hm⟩:=zEX (decide (q.el=r.el));have hq:iG q r=(x1&&x2&&x3):=by unfold iG;rw [ld,yf,Hm]
 rw [hq];rw [<- Hm] at HS;have e1:((q.lab:Int)==r.lab)=x1:=by rw [ld];exact Bool.eq_iff_iff.2 zT
 have e2:((q.ans:Int)==r.ans)=x2:=by rw [yf];exact Bool.eq_iff_iff.2 zT
 clear ld yf Hm hq h1 h2 Db;go_enter func190,ntmps190
 go_upto_region 1 with fail
 generalize (w.alloc _).alloc _=w1 at k1 k2 hb |-;have c1:=k1.cell;have c2:=k2.cell;cases x1
 ·go_wp2
  go_ret
  exact ⟨rfl,hb⟩
 cases x2
 ·go_wp2
  go_ret
  exact ⟨rfl,hb⟩
 go_wp2_with fail
 refine (HS.out w1 hb).mono ?_;rintro e w2 ⟨rfl,kk,rfl⟩;replace hb:=KE hb kk;go_wp2;go_ret
 exact ⟨zS,hb⟩
def jG (a b:List Qn):Bool:=decide (a.length=b.length)&&(List.range a.length).all fun i=>match a[i]?,b[i]? with | some q,vD r=>iG q r | _,_=>true
theorem zGz (a b:List Qn) (A B:Option vx) (n c m d:Nat) (w:vu) (h1:Md w [ve A n c] a) (h2:Md w [ve B m d] b) :
  vA prog 92 #[ve A n c,ve B m d] w fun e w'=>e=vn (.bool (jG a b)) /\ vz w.1.size w w':=by
 obtain ⟨A',n',c',he,du,Nd,Be,ra⟩:=h1;simp at he
 obtain ⟨rfl,rfl,rfl⟩:=he;obtain ⟨B',m',d',he,Jr,EP,bz,rb⟩:=h2;simp at he
 obtain ⟨rfl,rfl,rfl⟩:=he;have gm:=ti Nd Be;have gm2:=ti EP bz;have HA:=zH du;have HB:=zH Jr;clear Nd Be EP bz;by_cases hn:n=m
 rotate_left
 ·have t1:((n:Int)!=m)=true:=by rw [dk];omega
  have HF:=zH (show jG a b=false by unfold jG;rw [Xb zO,Bool.false_and])
  clear hn du Jr;rw [HF.out];go_enter func92,ntmps92
  go_wp2;go_ret
  exact ⟨rfl,Kb _ _⟩
 subst hn;have t1:((n:Int)!=n)=false:=by simp
 have HS:=zH (show jG a b=((List.range n).all fun i=>match a[i]?,b[i]? with | some q,vD r=>iG q r | _,_=>true) by unfold jG;rw [du,Jr,xc rfl,Bool.true_and])
 clear du Jr gm2;go_enter func92,ntmps92
 go_wp2_with fail
 go_loopw [5] (fun y wr=>∃ i:Nat,i <= n /\ y=vd vq i /\ Hid (∀ k,k<i -> ∀ q r,a[k]?=vD q -> b[k]?=vD r -> iG q r=true) /\ vz w.1.size w wr) (fun y _=>n-(intOf y).toNat)
 case atStart=>exact ⟨0,Qb _,rfl,fun k hk=>zO,Kb _ _⟩
 case round =>
  obtain ⟨i,hi,rfl,HT,tb⟩:=hrel;by_cases ya:i<n
  ·have g1:(0:Int)<=i:=by omega
   have g2:(i:Int)<n:=by omega
   obtain ⟨b1,q1,A1,n1,Lh,l1,a1,qe,lu,rfl,x0,x1,x2,Gd,tk,Nq⟩:=uQ (ra.below pN tb) (show i<a.length by rw [HA.out];exact ya)
   obtain ⟨b2,q2,A2,n2,ai,l2,a2,re,hre,rfl,y0,y1,y2,Fg,Pk,Su⟩:=uQ (rb.below pN tb) (show i<b.length by rw [HB.out];exact ya)
   obtain ⟨rfl,rfl,-,-⟩:=Nq;obtain ⟨rfl,rfl,-,-⟩:=Su;have HC:=zH (fun w1 (hb:vz wr.1.size wr w1)=>zGy qe re A1 A2 n1 Lh n2 ai w1 (Wa hb Gd) (Wa hb Fg))
   have rJ:=zH lu;have HRE:=zH hre;have tc:=zH ya;clear Gd Fg lu hre ya;go_wp2_with fail
   refine Pd (Rc) [8] [0,1,2,3,4,5,6,7,8,9] zK zK ?_;refine oe (Da) ?_;intro Wc Ga ja;have HW:=zH (show vz wr.1.size wr Wc by rw [Ga.out];exact (Kb _ _).drew)
   clear Ga;refine Mc ?_;refine ud Da rfl rfl rfl ((HC.out Wc HW.out).mono ?_);rintro e w2 ⟨rfl,Fa⟩;refine ⟨_,rfl,Fa,?_⟩;replace ja:=zM Da ja (Fa);refine zPU ?_;have Rb:=zH (ta tb (ta HW.out Fa));clear Fa HC HW;refine Mc ?_;refine Vc ?_;clear ja x0 x1 x2 y0 y1 y2;cases hs:iG qe re
   ·have HF:=zH (show jG a b=false by
     rw [HS.out];exact zBQ tc.out (by simp only [rJ.out,HRE.out,hs]))
    clear hs;go_wp2;go_ret
    exact ⟨by rw [HF.out];rfl,Rb.out⟩
   ·have rA:=zH hs
    clear hs;go_wp2
    go_roundw
    case rel =>
     refine ⟨i+1,tc.out,by go_num,fun k hk q r hq hr=>?_,Rb.out⟩
     by_cases e:k<i
     ·exact HT.out k e q r hq hr
     ·obtain rfl:k=i:=by omega
      rw [rJ.out] at hq;rw [HRE.out] at hr;cases hq
      cases hr
      exact rA.out
    case measure=>have:=tc.out;simp [intOf];omega
  ·obtain rfl:n=i:=by omega
   have HF:=zH (show jG a b=true by
    rw [HS.out];refine zBR fun k hk=>?_
    rw [Ec (show k<a.length by rw [HA.out];exact hk),Ec (show k<b.length by rw [HB.out];exact hk)]
    exact HT.out k hk _ _ (Ec (by rw [HA.out];exact hk)) (Ec (by rw [HB.out];exact hk)))
   go_wp2;go_ret
   exact ⟨by rw [HF.out];rfl,tb⟩
theorem zHq (real:Bool) (xe:Nat) (h:xe<18446744073709551616):Um (Rx real xe) 0:=by
 cases real
 ·exact ⟨fun _ q hq=>by simp [Rx] at hq,fun q hq=>by simp [Rx] at hq,by simp [Rx,Nf],by simpa [Rx] using h⟩
 ·exact ⟨fun _ q hq=>by simp [Rx] at hq,fun q hq=>by simp [Rx] at hq,by simp [Rx,Nf],by simp [Rx]⟩
theorem zIe {O:Jb} {k:Nat} (h:Um O k) (L:Tb) (dg:Nat) (pub:List Nat):Vm (WC O L dg pub) (k+1) 0 :=
 OT (s:=⟨O,20,0⟩) (c:=0) ⟨h,by show (20:Nat)<18446744073709551616;omega,zR⟩ 1 _
theorem zIf {s:Tr} {k c:Nat} (h:Vm s k c) (root:Nat):Vm (Fu s root) (k+4) 3 :=
 VN (VN (VN (OT h 2 [root])))
theorem zHG (q:Qn):iG q q=true:=by simp [iG]
theorem zHH (a:List Qn):jG a a=true:=by
 unfold jG;simp only [decide_true,Bool.true_and,oh,Mj];intro i hi;rw [Ec hi];exact zHG _
theorem zB6 (w:vu) (t1 t2 t3 t4 t5:vy) (Qc Zc Zd Of Di:Array vw) :
  Blk (((((w.alloc (.cells Qc t1)).alloc (.cells Zc t2)).alloc (.cells Zd t3)).alloc (.cells Of t4)).alloc (.cells Di t5)) w.1.size t1 Qc /\ Blk (((((w.alloc (.cells Qc t1)).alloc (.cells Zc t2)).alloc (.cells Zd t3)).alloc (.cells Of t4)).alloc (.cells Di t5)) (w.1.size+1) t2 Zc /\ Blk (((((w.alloc (.cells Qc t1)).alloc (.cells Zc t2)).alloc (.cells Zd t3)).alloc (.cells Of t4)).alloc (.cells Di t5)) (w.1.size+1+1) t3 Zd /\ Blk (((((w.alloc (.cells Qc t1)).alloc (.cells Zc t2)).alloc (.cells Zd t3)).alloc (.cells Of t4)).alloc (.cells Di t5)) (w.1.size+1+1+1) t4 Of /\ Blk (((((w.alloc (.cells Qc t1)).alloc (.cells Zc t2)).alloc (.cells Zd t3)).alloc (.cells Of t4)).alloc (.cells Di t5)) (w.1.size+1+1+1+1) t5 Di /\
   vz w.1.size w (((((w.alloc (.cells Qc t1)).alloc (.cells Zc t2)).alloc (.cells Zd t3)).alloc (.cells Of t4)).alloc (.cells Di t5)) /\ (((((w.alloc (.cells Qc t1)).alloc (.cells Zc t2)).alloc (.cells Zd t3)).alloc (.cells Of t4)).alloc (.cells Di t5)).1.size=w.1.size+5:=by
 obtain ⟨h1,h2,h3,h4,h5,h6⟩:=fH w t1 t2 t3 t4 Qc Zc Zd Of;refine ⟨h1.alloc _,h2.alloc _,h3.alloc _,h4.alloc _,?_,h5.alloc zO _,zS⟩;have:=Blk.new ((((w.alloc (.cells Qc t1)).alloc (.cells Zc t2)).alloc (.cells Zd t3)).alloc (.cells Of t4)) t5 Di;rw [h6] at this;exact this
theorem boxes6 (w:vu) (t1 t2 t3 t4 t5 t6:vy) (Qc Zc Zd Of Di PC:Array vw) :
  Blk ((((((w.alloc (.cells Qc t1)).alloc (.cells Zc t2)).alloc (.cells Zd t3)).alloc (.cells Of t4)).alloc (.cells Di t5)).alloc (.cells PC t6)) w.1.size t1 Qc /\ Blk ((((((w.alloc (.cells Qc t1)).alloc (.cells Zc t2)).alloc (.cells Zd t3)).alloc (.cells Of t4)).alloc (.cells Di t5)).alloc (.cells PC t6)) (w.1.size+1) t2 Zc /\ Blk ((((((w.alloc (.cells Qc t1)).alloc (.cells Zc t2)).alloc (.cells Zd t3)).alloc (.cells Of t4)).alloc (.cells Di t5)).alloc (.cells PC t6)) (w.1.size+1+1) t3 Zd /\ Blk ((((((w.alloc (.cells Qc t1)).alloc (.cells Zc t2)).alloc (.cells Zd t3)).alloc (.cells Of t4)).alloc (.cells Di t5)).alloc (.cells PC t6)) (w.1.size+1+1+1) t4 Of /\ Blk ((((((w.alloc (.cells Qc t1)).alloc (.cells Zc t2)).alloc (.cells Zd t3)).alloc (.cells Of t4)).alloc (.cells Di t5)).alloc (.cells PC t6)) (w.1.size+1+1+1+1) t5 Di /\ Blk ((((((w.alloc (.cells Qc t1)).alloc (.cells Zc t2)).alloc (.cells Zd t3)).alloc (.cells Of t4)).alloc (.cells Di t5)).alloc (.cells PC t6)) (w.1.size+1+1+1+1+1) t6 PC /\
   vz w.1.size w ((((((w.alloc (.cells Qc t1)).alloc (.cells Zc t2)).alloc (.cells Zd t3)).alloc (.cells Of t4)).alloc (.cells Di t5)).alloc (.cells PC t6)) /\ ((((((w.alloc (.cells Qc t1)).alloc (.cells Zc t2)).alloc (.cells Zd t3)).alloc (.cells Of t4)).alloc (.cells Di t5)).alloc (.cells PC t6)).1.size=w.1.size+6:=by
 obtain ⟨h1,h2,h3,h4,h5,h6,h7⟩:=zB6 w t1 t2 t3 t4 t5 Qc Zc Zd Of Di;refine ⟨h1.alloc _,h2.alloc _,h3.alloc _,h4.alloc _,h5.alloc _,?_,h6.alloc zO _,zS⟩;have:=Blk.new (((((w.alloc (.cells Qc t1)).alloc (.cells Zc t2)).alloc (.cells Zd t3)).alloc (.cells Of t4)).alloc (.cells Di t5)) t6 PC;rw [h7] at this;exact this
structure PvIn.Good (x:PvIn):Prop where
 L:Ad x.L
 n:x.L.n=2^x.dd
 dd:x.dd <= 10
 ms:yE x.L x.m x.crs
 c1:x.l1.length=x.L.k /\ ∀ y∈x.l1,y<x.L.p
 c2:x.l2.length=x.L.k+x.L.block-2 /\ ∀ y∈x.l2,y<x.L.p
 c3:x.l3.length=x.L.block+2*x.L.queries-1 /\ ∀ y∈x.l3,y<x.L.p
 c4:x.l4.length=x.L.n /\ fe x.l4=true
section
variable {x:PvIn}
theorem PvIn.ref_cols (h:x.Good):RM x.L (XL x.L x.m x.crs x.l1 x.l2 x.l3)=x.cols:=by
 rw [zGi h.L h.ms.rl.symm h.ms.mr h.ms.rr h.c3.1];exact (zCr h.L _ (Z8 _ _ _ _ _ _)).symm
theorem PvIn.ref_code (h:x.Good) (al:Nat):XG x.L x.m x.crs x.l1 al=x.code al:=(zCo h.L h.ms h.c1.1 h.c1.2 al).symm
theorem PvIn.coef (h:x.Good) (rh:Nat):QA x.L x.pub rh x.rows=Qs x.L x.pub rh x.rows:=zCp (zQ (Cc h.L.p)) _ _ _
theorem PvIn.coef_len (h:x.Good) (rh:Nat):(Qs x.L x.pub rh x.rows).length=x.m.length:=(YU _ _ _ _).trans h.ms.ml.symm
theorem PvIn.ref_lin (h:x.Good) (rh:Nat):YG x.L (Qs x.L x.pub rh x.rows) x.m x.crs x.l2=x.lin rh:=by
 unfold PvIn.lin;rw [PvIn.coef h];exact (zEG h.L h.ms (fun _ hr=>ZU _ hr) (PvIn.coef_len h rh) h.c2.1 h.c2.2).symm
theorem PvIn.ref_quad (h:x.Good) (be:Nat):ZG x.L x.m x.crs x.l3 be=x.quad be:=(zGx h.L h.ms h.c3.1 be).symm
end
theorem zHc (x:Nat) (A:Option vx) (n c:Nat) (l:List Nat) (w:vu) (hl:RWd w [ve A n c] l) (hlen:l.length <= 1000000) :
  vA prog 166 #[vd vo x,ve A n c] w fun e w'=>∃ v,e=vn v /\ w'.ownsRow w.1.size 22 1 v (n+1) (Qa (x :: l)) /\ vz w.1.size w w':=by
 obtain ⟨rfl,h1,h2,ya,Na⟩:=Pb hl;clear hl ya h1 h2;have da:=zA w (.cells #[vd vo x] 22);have qB:(w.alloc (.cells #[vd vo x] 22)).ownsRow w.1.size 22 1 (ve (vD ⟨w.1.size,0,vB⟩) 1 1) 1 (Qa [x]):=⟨rfl, .inr ⟨w.1.size,1,_,rfl,zR,heap_alloc_new w _,zR,by simp [maxLen],rfl,rfl⟩⟩
 have xW:=Na.below da;go_enter func166,ntmps166
 go_wp2_with (at_builtin;refine Wd rfl _ _ rfl Qt rfl qB rfl xW (De _) zO (zQ da.size) ?_)
 intro v' w2 oa Ma Cb;go_wp2;go_ret
 exact ⟨_,rfl,by rw [Nat.add_comm];exact Qi (a:=[x]) oa rfl,da.trans (ie qB Ma (zQ da.size))⟩
theorem zCV {l:List Nat} (h:fe l=true) {i:Nat} (hi:i<l.length):fe [l.getD i 0]=true:=by
 unfold fe at *;rw [Hc,Ec hi];have:=oh.1 h l[i] (Qe hi)
 simpa using this
theorem zCU {x:Nat} (h:fe [x]=true):x<18446744073709551616:=by
 have:x<nc:=by simpa [fe] using h
 exact rm this
theorem tQ {O:Jb} {k:Nat} (h:Um O k) (lab:Nat) (qs:List (List Nat)):∀ i,i <= qs.length -> Um (Nc O lab (qs.take i)) (k+i)
 | 0,_=>h
 | i+1,hi=>by
  rw [wO O lab qs i zO];exact OX (tQ h lab qs i zO) _ _
theorem zAF {N base n:Nat} {w:vu} {gb:Option Nat} {e:vy} {x:vw} {l:List Nat} (h:w.ownsRow base e 1 x n (Qa l)) (hl:∀ y∈l,y<18446744073709551616) (hN:N <= base) (hg:∀ b,x.ownBlock=vD b -> vD b≠gb):sh N gb w x l:=fun u hu=>by
 have ho:=Ye (u:=u) h fun b hb=>hu b (jb hN (h.lt b hb).1) (h.lt b hb).2 (hg b hb)
 obtain ⟨A,c,rfl,-⟩:=Yb ho;exact Sf ho hl
theorem zFC (w:vu) (x:vw) (t:vy) (base:Nat) (hb:base <= w.1.size):(w.alloc (.cells #[x] t)).ownsRow base t 1 (ve (vD ⟨w.1.size,0,vB⟩) 1 1) 1 [x] :=
 ⟨rfl, .inr ⟨w.1.size,1,_,rfl,hb,heap_alloc_new w _,zR,by simp [maxLen],rfl,rfl⟩⟩
theorem zDN {N:Nat} {w:vu} {v x:vw} {l:List Nat} (h:sh N v.ownBlock w x l):gh N w v [x] [l]:=⟨rfl,fun i h1 h2=>by
 obtain rfl:i=0:=by simp at h1;omega
 exact h⟩
theorem zFF {w w':vu} {base:Nat} {e:vy} {size:Nat} {v:vw} {n:Nat} {xs:List vw} {u:Option Nat} (h:w.ownsRow base e size v n xs) (hg:w.grownBy w' u) (db:∀ q,v.ownBlock=vD q -> u=vD q -> False):w'.ownsRow base e size v n xs:=by
 obtain ⟨h1,h2⟩:=h;refine ⟨h1,?_⟩;rcases h2 with h2 | ⟨g,cap,cur,hv,Cm,hh,r⟩
 ·exact Or.inl h2
 ·exact Or.inr ⟨g,cap,cur,hv,Cm,by rw [hg.block g (Yx.1 hh).1 (fun e=>db g (by rw [hv];rfl) e.symm)];exact hh,r⟩
theorem zEU {i ia ic nh:Nat} (h1:ia=2*i) (h2:ic=2*(i+1)) (h:i+1 <= nh):2*nh-(intOf (vd vq ic)).toNat<2*nh-(intOf (vd vq ia)).toNat:=by
 simp only [intOf,En];omega
def aZ (w:vu) (K:Nat -> Prop) (d:Nat) (O1:Jb) (L1:List Nat) (lv vs:vw) (wq:vu):Prop :=
 ∃ (j:Nat) (ls:List (List Nat)) (Oj:Jb) (lj:List Nat) (A':Option vx) (n' c':Nat) (KX:Nat -> Prop) (M:Nat) (cs:List vw),
  (lj.length=2^j /\ (∀ x∈lj,x<18446744073709551616) /\ wq.ownsRow (w.1.size+2) 22 1 lv (2^j) (Qa lj) /\ ∀ b,lv.ownBlock=vD b -> vs.ownBlock≠vD b) /\
  (Um Oj M /\ M+2*2^j <= 204096) /\ (rn d O1 L1=ls++rn j Oj lj /\ Zv d O1 L1=Zv j Oj lj /\ ls.length+j <= 10) /\
  (wq.ownsRow (w.1.size+2) 28 1 vs (ls.length+1) cs /\ gh (w.1.size+2) wq vs cs (ls++[lj])) /\
  (Blk wq w.1.size 65 #[.bool Oj.ideal,vd vo Oj.st,vd vq Oj.dr,ve A' n' c',ve vB 0 0,ve vB 0 0] /\ Blk wq (w.1.size+1) 65 #[.bool false,vd vo 0,vd vq 0,ve vB 0 0,ve vB 0 0,ve vB 0 0]) /\
  (Hd KX wq (fun u=>Md u [ve A' n' c'] Oj.qs) /\ (∀ b,KX b -> (K b /\ b<w.1.size) \/ w.1.size+2 <= b) /\ ∀ b,vs.ownBlock=vD b -> ¬KX b) /\ vz w.1.size w wq
theorem zGG {K:Nat -> Prop} {O:Jb} {k:Nat} (h:Um O k) (hk:k <= 100000) (A B A0:Option vx) (n c m e n0 c0:Nat) (leaves:List (List Nat)) (salts:List Nat) (d:Nat) (w:vu)
  (hl:Kd w [ve A n c] leaves) (hs:RWd w [ve B m e] salts) (hq:Hd K w fun u=>Md u [ve A0 n0 c0] O.qs) (hd:d <= 10) (hn:leaves.length=2^d) (nu:salts.length=leaves.length) (hse:fe salts=true) (hle:∀ l∈leaves,fe l=true) (eu:∀ l∈leaves,l.length <= 100000) :
  vA prog 76 #[vf (Bf O (ve A0 n0 c0)),ve A n c,ve B m e] w fun e w'=>∃ At nt ct A' n' c',e=vn (.tuple #[ve At nt ct,vf (Bf (Zv d (Nc O 16 (Ni leaves salts)) (bf O 16 (Ni leaves salts))) (ve A' n' c')),vd vq 0]) /\
   Hd (fun b=>w.1.size <= b) w' (fun u=>Kd u [ve At nt ct] (rn d (Nc O 16 (Ni leaves salts)) (bf O 16 (Ni leaves salts)))) /\ Hd (fun b=>K b \/ w.1.size <= b) w' (fun u=>Md u [ve A' n' c'] (Zv d (Nc O 16 (Ni leaves salts)) (bf O 16 (Ni leaves salts))).qs) /\ vz w.1.size w w':=by
 obtain ⟨ko,kr,da,Db⟩:=Xf w 65 65 (Bf O (ve A0 n0 c0)) #[.bool false,vd vo 0,vd vq 0,ve vB 0 0,ve vB 0 0,ve vB 0 0];have HR:=zH hl;obtain ⟨rfl,kd,ef,-⟩:=Ig hl;have gm:=ti kd ef;obtain ⟨eI,jf,Oe,-,hrs⟩:=Pb hs;have gm2:=ti jf Oe;obtain ⟨nn,pg⟩:=zEX (leaves.length);have az:m=nn:=by omega
 subst az;have bA:=zH (fun w=>by have:=Q9 m w;rw [show FB m=true by rw [pg,hn];exact RS hd] at this;exact this)
 have HEs:=zH (fun w1 (hb:vz w.1.size w w1)=>by have:=MR B m e salts w1 (Wa hb hs);rw [hse] at this;exact this)
 have Pm:=zH (fun A1 n1 c1 l w1 (hm:l∈leaves) (Gi:RWd w1 [ve A1 n1 c1] l)=>by have:=MR A1 n1 c1 l w1 Gi;rw [hle l hm] at this;exact this)
 obtain ⟨qs,hqs⟩:=zEX (Ni leaves salts);have hql:qs.length=m:=by rw [hqs,pg];simp [Ni]
 have nE:=zH (show qs.take m=qs from EC zO)
 have Ho:=zH (show ∀ x∈(List.range m).map fun i=>Ae (Nc O 16 (qs.take i)) 16 (qs.getD i []),x<18446744073709551616 from fun x hx=>by
  obtain ⟨i,hi,rfl⟩:=ee.1 hx;exact rm (iF (tQ h 16 qs i (zQ (Mj.1 hi))).ans _ _))
 have HQG:=zH (show ∀ i,i<m -> qs.getD i []=salts.getD i 0 :: leaves.getD i [] from fun i hi=>by rw [hqs];simp [Ni,Hc,show i<leaves.length by omega])
 have HOk:=zH (fun i (hi:i <= m)=>tQ h 16 qs i zO)
 have hm1024:m <= 1024:=by rw [pg,hn];exact jb (Jt zO hd) zD
 have Hj:=zH (show ∀ i,i<m -> (leaves.getD i []).length <= 100000 from fun i hi=>by
  rw [Hc,Ec (show i<leaves.length by omega)]
  exact eu _ (Qe _))
 have Xz:=zH (fun i (hi:i<m) KX A1 n1 c1 Bx mx dx w1 (qi:Hd KX w1 fun u=>Md u [ve A1 n1 c1] (Nc O 16 (qs.take i)).qs) (hx:RWd w1 [ve Bx mx dx] (qs.getD i [])) =>
  YR (K:=KX) (Nc O 16 (qs.take i)) (HOk.out i (Nat.le_of_lt hi)).fair A1 Bx n1 c1 mx dx 16 (qs.getD i []) w1 qi hx zD (by rw [HQG.out i hi];simp) (HOk.out i (Nat.le_of_lt hi)).st (Bl (HOk.out i (Nat.le_of_lt hi)).le zO) (by rw [HQG.out i hi,Yh];have:=Hj.out i hi;omega))
 have Mf:=zH (show ∀ i,i<m -> Nc O 16 (qs.take (i+1))=Qd (Nc O 16 (qs.take i)) 16 (qs.getD i []) from fun i hi=>wO O 16 qs i zO)
 obtain ⟨f,hf⟩:∃ f:Nat -> Nat,f=fun i=>Ae (Nc O 16 (qs.take i)) 16 (qs.getD i []):=⟨_,rfl⟩
 have HFV:=zH (show bf O 16 qs=(List.range m).map f by unfold bf;rw [hql,hf])
 rw [<- hf] at Ho;have HF:=zH (fun i=>show f i=Ae (Nc O 16 (qs.take i)) 16 (qs.getD i []) by rw [hf])
 have Gw:=zH (fun x A1 n1 c1 l w1 (hx:RWd w1 [ve A1 n1 c1] l) (hlen:l.length <= 1000000)=>zHc x A1 n1 c1 l w1 hx hlen)
 have Pq:=zH hrs;have HES:=zH (show ∀ i,i<m -> fe [salts.getD i 0]=true from fun i hi=>zCV hse zO)
 have HMS:=zH eI;have Lf:=zH pg;have HD:=zH (And.intro hd hn);have eJ:=zH (show k <= 100000 /\ m <= 1024 from ⟨hk,hm1024⟩)
 have Ft:=zH hq;have d1:((m:Int)!=m)=false:=by simp
 rw [<- hqs];rw [<- pg] at HR kd gm |-;rw [HFV.out];clear h hk hl hs hq hse hle eu hqs hql hf hrs eI pg hd hn nu Db kd ef jf Oe;unfold Bf at *;go_enter func76,ntmps76
 go_upto_region 1 with fail
 generalize (w.alloc _).alloc _=w1 at ko kr da |-;go_wp2_with fail
 refine (bA.out w1).mono ?_;rintro e _ ⟨rfl,rfl⟩;go_wp2_with fail
 refine (HEs.out w1 da).mono ?_;rintro e w2 ⟨rfl,Fa⟩;replace ko:=pa ko Fa;replace kr:=pa kr Fa;replace da:=ta da Fa;clear Fa bA HEs;have KO:=zH ko;have KR:=zH kr;have HB:=zH da;clear ko kr da;go_wp2_with fail
 go_loopw [9] (fun y wr=>∃ i:Nat,i <= m /\ y=vd vq i /\ vz w2.1.size w2 wr) (fun y _=>m-(intOf y).toNat)
 case atStart=>exact ⟨0,Qb _,rfl,Kb _ _⟩
 case round =>
  obtain ⟨i,hi,rfl,tb⟩:=hrel;by_cases ya:i<m
  ·have g1:(0:Int)<=i:=by omega
   have g2:(i:Int)<m:=by omega
   obtain ⟨b1,q1,A1,n1,c1,eA,tk,Zm,Ue,xf⟩:=Xv (Gk (ta HB.out tb) HR.out) (show i<leaves.length by rw [<- Lf.out];exact ya)
   have HEi:=zH (Pm.out A1 n1 c1 (leaves.getD i []) wr (by rw [Hc,Ec (show i<leaves.length by rw [<- Lf.out];exact ya)];exact Qe _) xf)
   have tc:=zH ya;subst eA;clear xf Ue ya;go_wp2_with fail
   refine (HEi.out).mono ?_;rintro e w3 ⟨rfl,Ra⟩;replace tb:=ta tb Ra;clear Ra Zm;go_wp2
   go_roundw
   case rel=>exact ⟨i+1,tc.out,by go_num,tb⟩
   case measure=>have:=tc.out;simp [intOf];omega
  ·obtain rfl:m=i:=by omega
   have ko:=KO.out.below tb KO.out.lt;have kr:=KR.out.below tb KR.out.lt;have da:=ta HB.out tb;have hd0:Hd (fun b=>K b /\ b<w.1.size) wr fun u=>Md u [ve A0 n0 c0] O.qs:=sb (wk Ft.out) (yc da)
   clear tb ya hi KO KR HB Ft Pm;go_wp2_with fail
   go_loopw [10,11] (fun vl y wr=>∃ (i:Nat) (A':Option vx) (n' c':Nat) (KX:Nat -> Prop),i <= i /\ i <= m /\ y=vd vq i /\ wr.ownsRow (w.1.size+2) 22 1 vl i (Qa ((List.range i).map f)) /\
    Blk wr w.1.size 65 #[.bool (Nc O 16 (qs.take i)).ideal,vd vo ((Nc O 16 (qs.take i)).st:Int),vd vq ((Nc O 16 (qs.take i)).dr:Int),ve A' n' c',ve vB 0 0,ve vB 0 0] /\ Blk wr (w.1.size+1) 65 #[.bool false,vd vo 0,vd vq 0,ve vB 0 0,ve vB 0 0,ve vB 0 0] /\
    Hd KX wr (fun u=>Md u [ve A' n' c'] (Nc O 16 (qs.take i)).qs) /\ Hid (∀ b,KX b -> (K b /\ b<w.1.size) \/ w.1.size+2 <= b) /\ Hid (∀ b,vl.ownBlock=vD b -> ¬KX b) /\ vz w.1.size w wr) (fun _ y _=>m-(intOf y).toNat)
   case atStart=>exact ⟨0,A0,n0,c0,_,zR,Qb _,rfl,⟨rfl, .inl ⟨rfl,rfl⟩⟩,ko,kr,hd0,zH (fun b hb=>.inl hb),zH (fun b (hb:(ve vB 0 0).ownBlock=vD b)=>nomatch hb),da⟩
   case round =>
    clear ko kr hd0 da;obtain ⟨i,A1,n1,c1,KX,-,hi,rfl,oa,ko,kr,tj,Vi,Qm,da⟩:=hrel;by_cases ya:i<m
    ·have g1:(0:Int)<=i:=by omega
     have g2:(i:Int)<m:=by omega
     obtain ⟨Oi,oK⟩:=zEX (Nc O 16 (qs.take i));obtain ⟨On,pK⟩:=zEX (Nc O 16 (qs.take (i+1)));obtain ⟨xi,Ov⟩:=zEX (f i);have vG:=zH (fun KX A1 n1 c1 Bx mx dx w1 qi hx=>Xz.out i ya KX A1 n1 c1 Bx mx dx w1 qi hx)
     rw [<- Mf.out i ya,<- HF.out i,<- oK,<- pK,<- Ov,HQG.out i ya] at vG;rw [<- oK] at ko tj;obtain ⟨KW,iK⟩:∃ KW:Nat -> Prop,KW=fun b=>KX b /\ b<wr.1.size:=⟨_,rfl⟩
     have DK:=wk tj;rw [<- iK] at DK;have zG:=zH (show ∀ b,KW b -> KX b /\ b<wr.1.size by rw [iK];exact fun b hb=>hb)
     have Ru:=zH (show ∀ b,u10.ownBlock=vD b -> b<wr.1.size /\ ¬KX b from fun b hb=>⟨(oa.lt b hb).2,Qm.out b hb⟩)
     clear iK;obtain ⟨b1,q1,A3,n3,c3,eA,tk,Wy,mn,ft⟩:=Xv (Gk da HR.out) (show i<leaves.length by rw [<- Lf.out];exact ya)
     have zW:=Pq.out.below da;rw [HMS.out] at zW;obtain ⟨b2,q2,eB,Pk,pP⟩:=Hf zW (show i<salts.length by rw [<- HMS.out];exact ya)
     obtain ⟨sx,qI⟩:=zEX (salts.getD i 0);obtain ⟨lf,hlf⟩:=zEX (leaves.getD i []);rw [<- qI] at pP;rw [<- hlf] at ft;have hlfl:lf.length <= 1000000:=by rw [hlf];have:=Hj.out i ya;omega
     rw [<- qI,<- hlf] at vG;have Hs:=zH (fun w1 (hb:vz wr.1.size wr w1)=>Gw.out sx A3 n3 c3 lf w1 (Wa hb ft) hlfl)
     have Uh:=zH (show ∀ x∈sx :: lf,x<18446744073709551616 from ik (by rw [qI];exact zCU (HES.out i ya)) (Pb ft).2.2.2.1)
     have AJ:=zH (show (List.range i).map f++[xi]=(List.range (i+1)).map f by rw [Ov];exact OB f i)
     subst eA eB;have tc:=zH ya;have HOn:=zH pK;obtain ⟨NQ,Dd⟩:=zEX (wr.1.size);have lq0:w.1.size<NQ:=by rw [Dd];exact ko.lt
     have lq1:w.1.size+1<NQ:=by rw [Dd];exact kr.lt
     have lqa:b1<NQ:=by rw [Dd];exact tk
     have lqb:b2<NQ:=by rw [Dd];exact Pk
     have nx0:¬Fc w.1.size:=id;have nxa:¬Fc b1:=id;have nxb:¬Fc b2:=id;have se:=zH Dd;have co:=ko.cell;have KO:=zH ko;have KR:=zH kr;have HB:=zH da;have Pu:=zH DK;have iE:=zH oa;clear ft mn zW qI hlf hlfl ya oK pK Ov Dd ko kr da tj DK oa tk Pk hi;go_wp2_with fail
     refine fw (Fc) (Fc) (NQ) [9,10,16] [0,1,2,3,4,5,6,7,8,9,10,11,12,13] [(14,65,#[.bool false,vd vo 0,vd vq 0,ve vB 0 0,ve vB 0 0,ve vB 0 0])] [15,16] zK (Mw.2 ⟨⟨_,rfl,rfl,fun a w=>by go_simp <;> rfl⟩,Ht _⟩) zK ?_
     refine jw ?_;intro Wc Ga ja;have La:Hid (Ui Fc NQ Fc Wc):=zH (by rw [Ga.out,se.out];exact ⟨zR,fun _ h=>h.elim,fun _ _ h=>h⟩)
     have Jf:=zH (show vz wr.1.size wr Wc by rw [Ga.out];exact (Kb _ _).drew)
     have oc:=zH (show vz w.1.size w Wc by rw [Ga.out];exact HB.out.drew)
     have Ko:=zH (show Blk Wc _ _ _ by rw [Ga.out];exact KO.out.drew)
     have Kc:=zH (show Blk Wc _ _ _ by rw [Ga.out];exact KR.out.drew)
     have kh:=zH (sb Pu.out (show Yd _ _ Wc by rw [Ga.out];exact Ln))
     have Rm:=zH (show Wc.ownsRow _ _ _ _ _ _ by rw [Ga.out];exact Ye iE.out fun _ _=>rfl)
     clear Ga HB KO KR Pu iE;refine yi ?_;refine Nz (f:=?_) (vals:=?_) rfl rfl rfl La ?_ (fun wF Xa=>?_)
     rotate_left 3
     replace Jf:=zH (ta Jf.out Xa);replace oc:=zH (ta oc.out Xa);replace Ko:=zH (Ko.out.below Xa Ko.out.lt);replace Kc:=zH (Kc.out.below Xa Kc.out.lt);replace kh:=zH (sb kh.out (yc Xa));replace Rm:=zH (Za Rm.out Xa zR);replace ja:=zM (mc Fc NQ) ja (ze Xa La.out.size);replace La:=zH (Te La.out Xa);refine (Hs.out wF Jf.out).mono ?_
     rotate_left
     ·intro w_;go_simp <;> rfl
     rintro e wC ⟨vs,rfl,tl,Ca⟩;clear Xa;refine ⟨_,Yf Fc wF wC,rfl,Rh Ca,zm La.out Ca,?_⟩;replace ja:=zM (mc Fc NQ) ja (jk La.out (Rh Ca));replace La:=zH (Kl La.out (Rh Ca) (zm La.out Ca));refine zPU ?_;obtain ⟨Bx,dx,rfl,-⟩:=Yb tl;have HW:=zH (Sf tl Uh.out);have He:=zH (ta oc.out Ca);have XI:=zH (ta Jf.out Ca);have xC:=zH (Ko.out.below Ca Ko.out.lt);have Yj:=zH (Kc.out.below Ca Kc.out.lt);have Mp:=zH (sb kh.out (yc Ca));have lJ:=zH (Za Rm.out Ca zR);have bD:∀ b,Yf Fc wF wC b -> wr.1.size <= b:=fun b hb=>hb.elim (fun e=>e.elim) fun e=>jb Jf.out.size e.1
     generalize Yf Fc wF wC=V3 at La bD |-;have nv0:¬V3 w.1.size:=fun e=>by have:=bD _ e;have:=se.out;omega
     clear tl Ca oc Jf Ko Kc kh Rm;refine yi ?_;refine Nz (f:=?_) (vals:=?_) rfl rfl rfl La ?_ (fun wF Xa=>?_)
     rotate_left 3
     replace He:=zH (ta He.out Xa);replace XI:=zH (ta XI.out Xa);replace xC:=zH (xC.out.below Xa xC.out.lt);replace Yj:=zH (Yj.out.below Xa Yj.out.lt);replace Mp:=zH (sb Mp.out (yc Xa));replace lJ:=zH (Za lJ.out Xa zR);replace HW:=zH (Wa Xa HW.out);replace ja:=zM (mc Fc NQ) ja (ze Xa La.out.size);replace La:=zH (Te La.out Xa);refine (vG.out KW A1 n1 c1 Bx _ dx wF Mp.out HW.out).mono ?_
     rotate_left
     ·intro w_;go_simp <;> rfl
     rintro e wD ⟨A2,n2,c2,rfl,hd4,Ca⟩;clear Xa;refine ⟨_,Yf V3 wF wD,rfl,Rh Ca,zm La.out Ca,?_⟩;replace ja:=zM (mc Fc NQ) ja (jk La.out (Rh Ca));replace La:=zH (Kl La.out (Rh Ca) (zm La.out Ca));refine zPU ?_;obtain ⟨KY,zv⟩:∃ KY:Nat -> Prop,KY=fun b=>(KW b \/ wF.1.size <= b) /\ b<wD.1.size:=⟨_,rfl⟩
     have Xy:=wk hd4;rw [<- zv] at Xy;have yn:=zH Xy;have Jh:=zH (ta He.out Ca);have BA:=zH (xC.out.below Ca xC.out.lt);have Ii:=zH (Yj.out.below Ca Yj.out.lt);have Dw:=zH (Za lJ.out Ca zR);have tG:=zH (show wr.1.size <= wF.1.size from XI.out.size)
     have gK:∀ b,KY b -> b<wr.1.size \/ Yf V3 wF wD b:=fun b hb=>by
      rw [zv] at hb;exact hb.1.elim (fun e=>.inl (zG.out b e).2) fun e=>.inr (.inr ⟨e,hb.2⟩)
     have eO:=zH (show ∀ b,KY b -> (K b /\ b<w.1.size) \/ w.1.size+2 <= b from fun b hb=>by
      rw [zv] at hb;exact hb.1.elim (fun e=>Vi.out b (zG.out b e).1) fun e=>.inr (by have:=tG.out;have:=se.out;omega))
     have gU:=zH (show ∀ b,u10.ownBlock=vD b -> ¬KY b from fun b hb e=>by
      rw [zv] at e;exact e.1.elim (fun e=>(Ru.out b hb).2 (zG.out b e).1) fun e=>by have:=(Ru.out b hb).1;have:=tG.out;omega)
     have iU:=zH (show ∀ b,KY b -> b<wD.1.size by rw [zv];exact fun b hb=>hb.2)
     generalize Yf V3 wF wD=V4 at La gK |-;clear hd4 Xy Ca He XI xC Yj Mp lJ zv HW;refine yi ?_;refine iw [(vD 13,14)] rfl La (fun Ym wE Wb Ng=>?_)
     have uV:=Ng.blk _ (.head _) rfl;clear Ng;unfold Jm Zl;simp only [List.foldl];dsimp only at uV
     generalize Ym 14=g14 at uV  |-;obtain ⟨k14,hg14,NW⟩:=uV;replace Jh:=zH (ta Jh.out Wb);replace BA:=zH (BA.out.below Wb BA.out.lt);replace Ii:=zH (Ii.out.below Wb Ii.out.lt);replace yn:=zH (sb yn.out (yc Wb));replace Dw:=zH (Za Dw.out Wb zR);replace ja:=zM (mc Fc NQ) ja (ze Wb La.out.size);replace La:=zH (Te La.out Wb)
     refine zPU ?_
     have LDE:=zH Wb.size;have pX:¬KY g14:=fun e=>(gK _ e).elim (fun h=>by have:=se.out;omega) NW
     have gH:=k14.cell;have f14:=k14.frozen;clear Wb;refine Ip ?_;refine ke (mc Fc NQ) rfl rfl rfl ?_;go_simp;refine ⟨ze (LD hg14 [.bool On.ideal,vd vo On.st,vd vq On.dr,ve A2 n2 c2,ve vB 0 0,ve vB 0 0] 0 _) zR,?_⟩
     refine zPU ?_
     refine Vc ?_;have oG:=Jg [.bool On.ideal,vd vo On.st,vd vq On.dr,ve A2 n2 c2,ve vB 0 0,ve vB 0 0] k14 rfl;have xo:=(If (g:=g14) (b:=w.1.size) zO [.bool On.ideal,vd vo On.st,vd vq On.dr,ve A2 n2 c2,ve vB 0 0,ve vB 0 0] 0 wE).trans BA.out;have xr:=(If (g:=g14) (b:=w.1.size+1) zO [.bool On.ideal,vd vo On.st,vd vq On.dr,ve A2 n2 c2,ve vB 0 0,ve vB 0 0] 0 wE).trans Ii.out;have xb:=aj (xs:=[.bool On.ideal,vd vo On.st,vd vq On.dr,ve A2 n2 c2,ve vB 0 0,ve vB 0 0]) (g:=g14) Jh.out zO;have xd:=sb yn.out (Pj (g:=g14) pX [.bool On.ideal,vd vo On.st,vd vq On.dr,ve A2 n2 c2,ve vB 0 0,ve vB 0 0] wE);have xw:=Ye Dw.out (u:=Pc wE g14 [.bool On.ideal,vd vo On.st,vd vq On.dr,ve A2 n2 c2,ve vB 0 0,ve vB 0 0] 0) fun b hb=>If (fun e=>by have:=(Ru.out b hb).1;have:=se.out;omega) _ 0 wE
     have vM:wE.1.size <= (Pc wE g14 [.bool On.ideal,vd vo On.st,vd vq On.dr,ve A2 n2 c2,ve vB 0 0,ve vB 0 0] 0).1.size:=by simp [Pc,vE]
     simp only [Pc,Re,Nat.reduceAdd] at oG xo xr xb xd xw vM;generalize vE (vE (vE (vE (vE (vE (wE) _ _) _ _) _ _) _ _) _ _) _ _=w5 at oG xo xr xb xd xw vM |-;have pG:Blk w5 g14 _ _:=oG;have yo:Blk w5 w.1.size _ _:=xo;have yr:Blk w5 (w.1.size+1) _ _:=xr;clear oG xo xr gH f14 k14 Jh BA Ii yn Dw ja co gK;obtain ⟨N5,pj⟩:=zEX (w5.1.size);have l14:g14<N5:=by rw [pj];exact pG.lt
     have l50:w.1.size<N5:=by rw [pj];exact yo.lt
     have l51:w.1.size+1<N5:=by rw [pj];exact yr.lt
     obtain ⟨VO,bx⟩:∃ VO:Nat -> Prop,VO=fun b=>u10.ownBlock=vD b:=⟨_,rfl⟩
     obtain ⟨VR,eF⟩:∃ VR:Nat -> Prop,VR=fun b=>u10.ownBlock=vD b \/ b=w.1.size:=⟨_,rfl⟩
     have vr14:¬VR g14:=by rw [eF];exact fun e=>e.elim (fun e=>by have:=(Ru.out _ e).1;have:=se.out;omega) fun e=>zO
     have HVR:=zH (show VR w.1.size by rw [eF];exact .inr rfl)
     have Vu:=zH (show (∀ b,VO b -> VR b) /\ (∀ b,VO b -> b<wr.1.size /\ w.1.size+2 <= b) /\ ∀ b,u10.ownBlock=vD b -> VO b by
      rw [bx,eF];exact ⟨fun b hb=>.inl hb,fun b hb=>⟨(Ru.out b hb).1,(xw.lt b hb).1⟩,fun b hb=>hb⟩)
     have PG:=zH (show wr.1.size <= w5.1.size by have:=LDE.out;have:=tG.out;have:=se.out;omega)
     have Zz:=zH (show ∀ b,KY b -> b<w5.1.size /\ ¬VO b from fun b hb=>⟨by have:=iU.out b hb;have:=LDE.out;omega,by rw [bx];exact fun e=>gU.out b e hb⟩)
     have aA:=zH pj;have gH:=pG.cell;have K14:=zH pG;have KO5:=zH yo;have KR5:=zH yr;have Kp:=zH xb;have Tz:=zH xd;have HO5:=zH xw;clear pj bx eF pG yo yr xb xd xw vM;go_upto_region 13 with fail
     refine fw (VR) (VO) (N5) [2,3,6] [0,1,4,2,3] [] [5,6] zK (Ht _) zK ?_;refine jw ?_;intro Wc Ga ja;have La:Hid (Ui VR N5 VO Wc):=zH (by rw [Ga.out,aA.out];exact ⟨zR,fun b hb=>We (Vu.out.2.1 b hb).1 PG.out,fun b _ h=>Vu.out.1 b h⟩)
     have Kh:=zH (show vz w.1.size w Wc by rw [Ga.out];exact Kp.out.drew)
     have Jk:=zH (show Blk Wc _ _ _ by rw [Ga.out];exact KO5.out.drew)
     have Xh:=zH (show Blk Wc _ _ _ by rw [Ga.out];exact KR5.out.drew)
     have Om:=zH (sb Tz.out (show Yd _ _ Wc by rw [Ga.out];exact Ln))
     have Et:=zH (show Wc.ownsRow _ _ _ _ _ _ by rw [Ga.out];exact Ye HO5.out fun _ _=>rfl)
     clear Ga Kp KO5 KR5 Tz HO5 K14;refine yi ?_;refine YN rfl rfl rfl La (fun wF Xa=>?_)
     replace Kh:=zH (ta Kh.out Xa);replace Jk:=zH (Jk.out.below Xa Jk.out.lt);replace Xh:=zH (Xh.out.below Xa Xh.out.lt);replace Om:=zH (sb Om.out (yc Xa));replace Et:=zH (Za Et.out Xa zR);replace ja:=zM (mc VR N5) ja (ze Xa La.out.size);replace La:=zH (Te La.out Xa);have ma:=zA wF (.cells #[vd vo xi] 22);have Na:=gg wF (vd vo xi) 22;refine ⟨ve (vD ⟨wF.1.size,0,vB⟩) 1 1,wF.alloc (.cells #[vd vo xi] 22),Yf VO wF (wF.alloc (.cells #[vd vo xi] 22)),by go_simp <;> rfl,Rh ma,zm La.out ma,?_⟩
     have Rs:=La.out.size;replace Kh:=zH (ta Kh.out ma);replace Jk:=zH (Jk.out.below ma Jk.out.lt);replace Xh:=zH (Xh.out.below ma Xh.out.lt);replace Om:=zH (sb Om.out (yc ma));replace Et:=zH (Za Et.out ma zR);replace ja:=zM (mc VR N5) ja (jk La.out (Rh ma));replace La:=zH (Kl La.out (Rh ma) (zm La.out ma))
     refine zPU ?_
     generalize wF.alloc _=wP at ma Na Kh Jk Xh Om Et ja La |-;have rk:∀ b,Yf VO wF wP b -> VO b \/ N5 <= b:=fun b hb=>hb.elim .inl fun e=>.inr (jb Rs e.1)
     have Hr:∀ b,u10.ownBlock=vD b -> Yf VO wF wP b:=fun b hb=>.inl (Vu.out.2.2 b hb)
     have Ok:w.1.size+2 <= wP.1.size:=Xh.out.lt;have hPG:N5 <= wP.1.size:=jb Rs ma.size;generalize Yf VO wF wP=V1 at La rk Hr |-;generalize wF.1.size=gA at Na Rs |-;have oa:=Et.out;clear ma Xa Et;refine OQ rfl rfl rfl _ _ rfl (Qt) rfl rfl La (oa) (Na) (De [xi]) zO (by first | exact zR | omega) (Hr) (fun wF v' w' Xa Ua ff Qk=>?_)
     replace Kh:=zH (ta Kh.out Xa);replace Jk:=zH (Jk.out.below Xa Jk.out.lt);replace Xh:=zH (Xh.out.below Xa Xh.out.lt);replace Om:=zH (sb Om.out (yc Xa));replace ja:=zM (mc VR N5) ja (ze Xa La.out.size);replace La:=zH (Te La.out Xa);replace ja:=zM (mc VR N5) ja (jk La.out ff);replace La:=zH (Kl La.out ff Qk)
     refine zPU ?_
     have nVo:¬V1 w.1.size:=fun e=>(rk _ e).elim (fun e=>by have:=(Vu.out.2.1 _ e).2;omega) fun e=>zO
     have nVr:¬V1 (w.1.size+1):=fun e=>(rk _ e).elim (fun e=>by have:=(Vu.out.2.1 _ e).2;omega) fun e=>zO
     have ay:=zH (PM Kh.out ff fun b hb=>(rk b hb).elim (fun e=>by have:=(Vu.out.2.1 _ e).2;omega) fun e=>zO)
     have Gt:=zH (Jk.out.moved ff nVo);have CA:=zH (Xh.out.moved ff nVr);have aE:=zH (sb Om.out (MA ff fun b hb e=>(rk b e).elim (Zz.out b hb).2 fun e=>by have:=(Zz.out b hb).1;have:=aA.out;omega))
     have HKO:=zH (show ∀ b,v'.ownBlock=vD b -> ¬KY b from fun b hb hk=>(ff.foot b (.inr hb)).elim (fun e=>(rk b e).elim (Zz.out b hk).2 fun e=>by have:=(Zz.out b hk).1;have:=aA.out;omega) fun e=>by have:=(Zz.out b hk).1;have:=aA.out;have:=Xa.size;omega)
     have dA:=zH (show _ from Qi (b:=[xi]) Ua AJ.out)
     obtain ⟨Av,cv,rfl,-⟩:=Yb Ua;obtain ⟨V2,ax⟩:∃ V2:Nat -> Prop,V2=fun b=>V1 b \/ (ve Av (i+1) cv).ownBlock=vD b:=⟨_,rfl⟩
     rw [<- ax] at La ff |-;clear ax oa Na Ua Hr Ok Kh Jk Xh Om ff Qk Xa rk;refine yi ?_;refine iw [] rfl La (fun Ym wE Wb Ng=>?_)
     clear Ng;unfold Jm
     try simp only [List.foldl]
     replace ay:=zH (ta ay.out Wb);replace Gt:=zH (Gt.out.below Wb Gt.out.lt);replace CA:=zH (CA.out.below Wb CA.out.lt);replace aE:=zH (sb aE.out (yc Wb));replace dA:=zH (Za dA.out Wb zR);replace ja:=zM (mc VR N5) ja (ze Wb La.out.size);replace La:=zH (Te La.out Wb)
     refine zPU ?_
     have co:=Gt.out.cell;have fo:=Gt.out.frozen;clear Wb;refine Ip ?_;refine ke (mc VR N5) rfl rfl rfl ?_;go_simp;refine ⟨VE HVR.out [.bool On.ideal,vd vo On.st,vd vq On.dr,ve A2 n2 c2,ve vB 0 0,ve vB 0 0] _,?_⟩
     refine zPU ?_
     refine Vc ?_;have zo:=Jg [.bool On.ideal,vd vo On.st,vd vq On.dr,ve A2 n2 c2,ve vB 0 0,ve vB 0 0] Gt.out rfl;have zr:=(If (g:=w.1.size) (b:=w.1.size+1) zO [.bool On.ideal,vd vo On.st,vd vq On.dr,ve A2 n2 c2,ve vB 0 0,ve vB 0 0] 0 wE).trans CA.out;have zb:=aj (xs:=[.bool On.ideal,vd vo On.st,vd vq On.dr,ve A2 n2 c2,ve vB 0 0,ve vB 0 0]) (g:=w.1.size) ay.out zR;have zd:=sb aE.out (Pj (g:=w.1.size) (fun e=>(eO.out _ e).elim (fun e=>by have:=e.2;omega) fun e=>zO) [.bool On.ideal,vd vo On.st,vd vq On.dr,ve A2 n2 c2,ve vB 0 0,ve vB 0 0] wE)
     have zw:=Ye dA.out (u:=Pc wE w.1.size [.bool On.ideal,vd vo On.st,vd vq On.dr,ve A2 n2 c2,ve vB 0 0,ve vB 0 0] 0) fun b hb=>If (fun e=>by have:=(dA.out.lt b hb).1;omega) _ 0 wE
     simp only [Pc,Re,Nat.reduceAdd] at zo zr zb zd zw;generalize vE (vE (vE (vE (vE (vE (wE) _ _) _ _) _ _) _ _) _ _) _ _=w9 at zo zr zb zd zw |-;have DN:=zH (And.intro zo (And.intro zr (And.intro zb (And.intro zd zw))));clear zo zr zb zd zw co fo ja gH ay Gt CA aE dA La;go_wp2
     go_roundw
     case rel =>
      obtain ⟨zo,zr,zb,zd,zw⟩:=DN.out;refine ⟨i+1,A2,n2,c2,KY,zR,tc.out,by go_num,zw,?_,zr,?_,eO,HKO,zb⟩
      ·rw [<- HOn.out];exact zo
      ·rw [<- HOn.out];exact zd
     case measure=>have:=tc.out;simp [intOf];omega
    ·obtain rfl:m=i:=by omega
     obtain ⟨Al,cl,rfl,-⟩:=Yb oa;obtain ⟨O1,xH⟩:=zEX (Nc O 16 qs);rw [nE.out,<- xH] at ko tj;have jJ:=zH xH;obtain ⟨L1,hL1⟩:=zEX ((List.range m).map f);rw [<- hL1] at oa Ho;have dj:=zH (show L1.length=2^d by rw [hL1];simp;rw [Lf.out];exact HD.out.2)
     have jU:=zH hL1;have oA:=zH (show Um O1 (k+m) by rw [xH,<- nE.out];exact HOk.out m zR)
     have KO:=zH ko;have KR:=zH kr;have HB:=zH da;have Pu:=zH tj;have iE:=zH oa;clear xH hL1 ya hi ko kr da tj oa Xz Gw HQG Mf HF Pq HMS Hj HES;have hwr2:w.1.size+2 <= wr.1.size:=KR.out.lt;go_wp2_with fail
     have ma:=zA wr (.cells #[ve Al m cl] 28);have hout:=zFC wr (ve Al m cl) 28 (w.1.size+2) hwr2;have qW:=iE.out.lt;have kO:=KO.out.below ma KO.out.lt;have kR:=KR.out.below ma KR.out.lt;have hB:=ta HB.out ma;have hD:=sb (wk Pu.out) (yc ma);have hW:=Za iE.out ma zR;have LU:aZ w K d O1 L1 (ve Al m cl) (ve (vD ⟨wr.1.size,0,vB⟩) 1 1) (wr.alloc (.cells #[ve Al m cl] 28)):=by
      have Oe:m=2^d:=by rw [Lf.out];exact HD.out.2
      refine ⟨d,[],O1,L1,A1,n1,c1,_,k+m,[ve Al m cl],⟨dj.out,Ho.out,by rw [<- Oe];exact hW,fun b hb e=>?_⟩,⟨oA.out,by rw [<- Oe];have:=eJ.out;omega⟩,⟨rfl,rfl,by simpa using HD.out.1⟩,⟨hout,zDN (zAF hW Ho.out zR fun b hb e=>?_)⟩,⟨kO,kR⟩,⟨hD,fun b hb=>Vi.out b hb.1,fun b hb e=>?_⟩,hB⟩
      ·have h1:=(qW b hb).2
       have h2:wr.1.size=b:=Nb e;omega
      ·have h1:=(qW b hb).2
       have h2:b=wr.1.size:=Nb e;omega
      ·have h2:wr.1.size=b:=Nb hb
       have:=e.2;omega
     generalize wr.alloc _=w6 at LU |-;clear ma hout qW kO kR hB hD hW KO KR HB Pu iE;go_loopw [10,14] (fun lv vs wq=>aZ w K d O1 L1 lv vs wq) (fun lv _ _=>RN lv)
     case atStart=>exact LU
     case round =>
      clear LU;obtain ⟨j,ls,Oj,lj,A2,n2,c2,KX2,M,cs,⟨bn,dp,xq,Dx⟩,⟨sK,hM⟩,⟨bF,cF,xF⟩,⟨tl,Ta⟩,⟨ko,kr⟩,⟨tj,hX1,hX2⟩,da⟩:=hrel;obtain ⟨Av,cv,rfl,-⟩:=Yb xq;rcases Jn j with hj0 | hj0
      ·subst hj0
       rw [Nat.pow_zero] at xq bn;have sJ:=zH (show Hd (fun b=>w.1.size+2 <= b) wr (fun u=>Kd u [u14] (ls++[lj])) from fun u a=>sH (bP Ta a.size fun b h1 h2 _=>a.block b h1 h2) (Ye tl fun b hb=>a.block b (tl.lt b hb).1 (tl.lt b hb).2))
       obtain ⟨Ao,co,rfl,-⟩:=Yb tl;have HT1:=zH (show rn d O1 L1=ls++[lj] from bF)
       have qy:=zH (show Zv d O1 L1=Oj from cF)
       have Wu:=zH hX1;have Pu:=zH tj;have kx:=ko;have kD:¬KX2 (w.1.size+1):=fun e=>(hX1 _ e).elim (fun e=>by have:=e.2;omega) fun e=>zO
       clear bn dp xq Dx sK hM bF cF xF tl Ta ko tj hX1 hX2;rw [Nat.pow_zero];go_wp2_with fail
       have sr:=kx.cell;have Wr:=kx.lt;have Xr:w.1.size≠w.1.size+1:=by omega
       refine Pd (Ji (w.1.size+1)) [3] [0,1,2,3,4] zK zK ?_;refine oe (de (w.1.size+1)) ?_;intro Wc Ga ja;have Yg:=zH (show Blk Wc _ _ _ by rw [Ga.out];exact kr.drew)
       have Jf:=zH (show vz w.1.size w Wc by rw [Ga.out];exact da.drew)
       have Zq:=Yg.out.cell;have Er:=Yg.out.frozen;replace Pu:=zH (sb Pu.out (show Yd _ _ Wc by rw [Ga.out];exact Ln))
       replace sJ:=zH (sb sJ.out (show Yd _ _ Wc by rw [Ga.out];exact Ln))
       clear Ga;refine Hk ?_;refine ke (de (w.1.size+1)) rfl rfl rfl ?_;go_simp;refine ⟨Ez [.bool Oj.ideal,vd vo Oj.st,vd vq Oj.dr,ve A2 n2 c2,ve vB 0 0,ve vB 0 0] 0 _,?_⟩
       refine zPU ?_
       have kf:=Jg [.bool Oj.ideal,vd vo Oj.st,vd vq Oj.dr,ve A2 n2 c2,ve vB 0 0,ve vB 0 0] Yg.out rfl;have Oc:=aj (xs:=[.bool Oj.ideal,vd vo Oj.st,vd vq Oj.dr,ve A2 n2 c2,ve vB 0 0,ve vB 0 0]) (g:=w.1.size+1) Jf.out zO;have qj:∀ K:Nat -> Prop,¬K (w.1.size+1) -> Yd K Wc (Pc Wc (w.1.size+1) [.bool Oj.ideal,vd vo Oj.st,vd vq Oj.dr,ve A2 n2 c2,ve vB 0 0,ve vB 0 0] 0):=fun K h=>Pj h _ _
       simp only [Pc,Re,Nat.reduceAdd] at kf Oc qj;generalize vE (vE (vE (vE (vE (vE (Wc) _ _) _ _) _ _) _ _) _ _) _ _=wf at kf Oc qj |-;have cf:=kf.cell;clear sr Wr Xr Zq Er ja;have ja:=(de (w.1.size+1)).refl wf;refine Hk ?_;refine Vc ?_;clear ja;have Ir:=sb Pu.out (qj _ kD);have jL:=sb sJ.out (qj _ zO);go_wp2;refine Uc (by simp [results,results76,go_sem,cf];rfl) rfl ⟨Ao,ls.length+1,co,A2,n2,c2,?_,?_,?_,Oc⟩
       ·rw [<- jJ.out,<- jU.out,qy.out]
       ·rw [<- jJ.out,<- jU.out,HT1.out]
        exact Vn jL fun b hb=>zO
       ·rw [<- jJ.out,<- jU.out,qy.out]
        exact Vn Ir fun b hb=>(Wu.out b hb).elim (fun e=>.inl e.1) fun e=>.inr zO
      ·obtain ⟨j',rfl⟩:∃ j',j=j'+1:=⟨j-1,zO⟩
       obtain ⟨nh,dz⟩:=zEX (2^j');obtain ⟨nl,Lr⟩:=zEX (2^(j'+1));have Ce:nl=2*nh:=by rw [Lr,dz,Zg,xg]
       have hnh0:0<nh:=by rw [dz];exact Nat.two_pow_pos j'
       have hnlm:nl <= 102048:=by rw [<- Lr] at hM;omega
       rw [<- Lr] at bn xq hM |-;obtain ⟨ps,Rk⟩:=zEX (Ze lj);have Yi:ps.length=nh:=by rw [Rk,GL,bn,Ce];omega
       obtain ⟨gf,QK⟩:∃ gf:Nat -> Nat,gf=fun i=>Ae (Nc Oj 17 (ps.take i)) 17 (ps.getD i []):=⟨_,rfl⟩
       have HGF:=zH (fun i=>show gf i=Ae (Nc Oj 17 (ps.take i)) 17 (ps.getD i []) by rw [QK])
       have mE:=zH (show ∀ i,i<nh -> ps.getD i []=[lj.getD (2*i) 0,lj.getD (2*i+1) 0] from fun i hi=>by rw [Rk];exact T8 lj i (by rw [bn,Ce];omega))
       have iA:=zH (fun i (hi:i <= nh)=>tQ sK 17 ps i zO)
       have im:=zH (show ∀ i,i<nh -> Nc Oj 17 (ps.take (i+1))=Qd (Nc Oj 17 (ps.take i)) 17 (ps.getD i []) from fun i hi=>wO Oj 17 ps i zO)
       have jA:=zH (show bf Oj 17 ps=(List.range nh).map gf by unfold bf;rw [Yi,QK])
       have pJ:=zH (show ps.take nh=ps from EC zO)
       have HPH:=zH (fun i (hi:i<nh) KX A1 n1 c1 Bx mx dx w1 (qi:Hd KX w1 fun u=>Md u [ve A1 n1 c1] (Nc Oj 17 (ps.take i)).qs) (hx:RWd w1 [ve Bx mx dx] (ps.getD i [])) =>
        YR (K:=KX) (Nc Oj 17 (ps.take i)) (iA.out i (Nat.le_of_lt hi)).fair A1 Bx n1 c1 mx dx 17 (ps.getD i []) w1 qi hx zD (by rw [mE.out i hi];simp) (iA.out i (Nat.le_of_lt hi)).st (Bl (iA.out i (Nat.le_of_lt hi)).le zO) (by rw [mE.out i hi];simp))
       unfold Bf at HPH;obtain ⟨wL,hwL⟩:=zEX (wr);rw [<- hwL] at xq tl Ta ko kr tj da;have gl1:decide ((1:Int)<nl)=true:=xc zO;obtain ⟨P,hP⟩:∃ P:Nat -> Prop,P=fun b=>w.1.size+2 <= b /\ b<wL.1.size:=⟨_,rfl⟩
       have hdL:=wk tj;have HLV:=zH xq;have OG:=zH tl;have Vz:=zH Ta;have HP:=zH hP;have HSTA:=zH (And.intro sK (And.intro hM (And.intro bF (And.intro cF xF))));have HLO:=zH Dx;have BM:=zH dp;have Wg:=zH hX2;have Wu:=zH hX1;have HNH:=zH (And.intro dz (And.intro Ce bn));have HPSD:=zH Rk;have LL2:=zH (show w.1.size+2 <= wL.1.size from kr.lt)
       clear Ce Dx sK hM bF cF xF Ta dz Lr Rk Yi QK hX1 hX2 hP xq tl bn dp;rw [hwL] at ko kr da;go_wp2_with fail
       rw [<- hwL] at ko kr da;rw [<- hwL];clear gl1;go_loopw [15,16] (fun ab y wq=>∃ (i:Nat) (A':Option vx) (n' c':Nat) (KY:Nat -> Prop),i <= nh /\ y=vd vq ((2*i:Nat):Int) /\ wq.ownsRow wL.1.size 22 1 ab i (Qa ((List.range i).map gf)) /\
        Blk wq w.1.size 65 #[.bool (Nc Oj 17 (ps.take i)).ideal,vd vo ((Nc Oj 17 (ps.take i)).st:Int),vd vq ((Nc Oj 17 (ps.take i)).dr:Int),ve A' n' c',ve vB 0 0,ve vB 0 0] /\ Blk wq (w.1.size+1) 65 #[.bool false,vd vo 0,vd vq 0,ve vB 0 0,ve vB 0 0,ve vB 0 0] /\
        Hd KY wq (fun u=>Md u [ve A' n' c'] (Nc Oj 17 (ps.take i)).qs) /\ Hid (∀ b,KY b -> (K b /\ b<w.1.size) \/ w.1.size+2 <= b) /\ Hid (∀ b,ab.ownBlock=vD b -> ¬KY b) /\ Hid (∀ b,u14.ownBlock=vD b -> ¬KY b) /\ Yd P wL wq /\ vz w.1.size w wq) (fun _ y _=>2*nh-(intOf y).toNat)
       case atStart =>
        refine ⟨0,A2,n2,c2,_,Qb _,rfl,⟨rfl, .inl ⟨rfl,rfl⟩⟩,ko,kr,hdL,zH (fun b hb=>Wu.out b hb.1),zH (fun b (hb:(ve vB 0 0).ownBlock=vD b)=>nomatch hb),zH (fun b hb e=>Wg.out b hb e.1),SU,da⟩
       case round =>
        clear ko kr tj hdL da hwL;obtain ⟨i,A3,n3,c3,KX3,hi,rfl,oa,ko,kr,tj,Vi,Qm,xG,Ss,da⟩:=hrel;by_cases ya:i<nh
        ·obtain ⟨ia,Yo⟩:=zEX (2*i)
         obtain ⟨ib,yx⟩:=zEX (2*i+1);obtain ⟨-,Ce,bn⟩:=HNH.out;have g1:(0:Int)<=ia:=by omega
         have g2:(ia:Int)<nl:=by omega
         have g3:(0:Int)<=ib:=by omega
         have g4:(ib:Int)<nl:=by omega
         have e1:vq.wrap ((ia:Int)+1)=(ib:Int):=by rw [Bi];omega
         have e1':wrap64 ((ia:Int)+1)=(ib:Int):=by unfold wrap64;omega
         have hi6:i <= 102048:=by omega
         obtain ⟨Oi,oK⟩:=zEX (Nc Oj 17 (ps.take i));obtain ⟨On,pK⟩:=zEX (Nc Oj 17 (ps.take (i+1)));obtain ⟨xi,Ov⟩:=zEX (gf i);have vG:=zH (fun KX A1 n1 c1 Bx mx dx w1 qi hx=>HPH.out i ya KX A1 n1 c1 Bx mx dx w1 qi hx)
         rw [<- im.out i ya,<- HGF.out i,<- oK,<- pK,<- Ov,mE.out i ya,<- yx,<- Yo] at vG;rw [<- oK] at ko tj;have hlvq:=Ye HLV.out (u:=wr) fun b hb=>Ss.block b (by rw [HP.out];exact HLV.out.lt b hb) (HLV.out.lt b hb).2
         obtain ⟨A4,c4,eL,-,-,hrL,-⟩:=Yb hlvq
         injection eL with eL eL2 eL3
         subst eL eL3;rw [<- bn] at hrL;obtain ⟨bL,qL,eA,tk,Wy⟩:=Hf hrL (show ia<lj.length by omega)
         obtain ⟨bL2,qL2,Xm,-,pP⟩:=Hf hrL (show ib<lj.length by omega)
         rw [eA] at Xm
         injection Xm with Xm
         injection Xm with e3 e4
         subst e3 e4;obtain ⟨za,hza⟩:=zEX (lj.getD ia 0);obtain ⟨zb,uL⟩:=zEX (lj.getD ib 0);have Uh:=zH (show ∀ x∈[za,zb],x<18446744073709551616 from ik (by rw [hza];exact CI BM.out zO) (ik (by rw [uL];exact CI BM.out zO) fun _ h=>nomatch h))
         rw [<- hza] at Wy vG;rw [<- uL] at pP vG;obtain ⟨KW,iK⟩:∃ KW:Nat -> Prop,KW=fun b=>KX3 b /\ b<wr.1.size:=⟨_,rfl⟩
         have DK:=wk tj;rw [<- iK] at DK;have zG:=zH (show ∀ b,KW b -> KX3 b /\ b<wr.1.size by rw [iK];exact fun b hb=>hb)
         have Ru:=zH (show ∀ b,u15.ownBlock=vD b -> b<wr.1.size /\ ¬KX3 b from fun b hb=>⟨(oa.lt b hb).2,Qm.out b hb⟩)
         have HAGH:=zH (show Hd P wr (fun u=>Yd P wL u) from fun u a=>IC Ss a)
         have lh:=zH (show (∀ b,P b -> b<wL.1.size) /\ wL.1.size <= wr.1.size /\ (∀ b,P b -> w.1.size+2 <= b) from ⟨by rw [HP.out];exact fun b hb=>hb.2,Ss.size,by rw [HP.out];exact fun b hb=>hb.1⟩)
         have HV14:=zH (show ∀ b,u14.ownBlock=vD b -> b<wr.1.size from fun b hb=>We (OG.out.lt b hb).2 Ss.size)
         have AJ:=zH (show (List.range i).map gf++[xi]=(List.range (i+1)).map gf by rw [Ov];exact OB gf i)
         have HIA:=zH (And.intro Yo ya);have HOn:=zH pK;rw [<- Yo];subst eA;obtain ⟨NQ,Dd⟩:=zEX (wr.1.size);have lq0:w.1.size<NQ:=by rw [Dd];exact ko.lt
         have lq1:w.1.size+1<NQ:=by rw [Dd];exact kr.lt
         have lqa:bL<NQ:=by rw [Dd];exact tk
         have nx0:¬Fc w.1.size:=id;have nxa:¬Fc bL:=id;have se:=zH Dd;have co:=ko.cell;have KO:=zH ko;have KR:=zH kr;have HB:=zH da;have Pu:=zH DK;have iE:=zH oa;clear iK hlvq hrL hza uL ya oK pK Ov Dd ko kr da tj DK oa tk hi Yo yx Ss Ce bn;go_wp2_with fail
         refine fw (Fc) (Fc) (NQ) [10,11,17] [0,1,2,3,4,5,6,7,8,9,10,11,12,13,14] [(15,65,#[.bool false,vd vo 0,vd vq 0,ve vB 0 0,ve vB 0 0,ve vB 0 0])] [16,17] zK (Mw.2 ⟨⟨_,rfl,rfl,fun a w=>by go_simp <;> rfl⟩,Ht _⟩) zK ?_
         refine jw ?_;intro Wc Ga ja;have La:Hid (Ui Fc NQ Fc Wc):=zH (by rw [Ga.out,se.out];exact ⟨zR,fun _ h=>h.elim,fun _ _ h=>h⟩)
         have Jf:=zH (show vz wr.1.size wr Wc by rw [Ga.out];exact (Kb _ _).drew)
         have oc:=zH (show vz w.1.size w Wc by rw [Ga.out];exact HB.out.drew)
         have Ko:=zH (show Blk Wc _ _ _ by rw [Ga.out];exact KO.out.drew)
         have Kc:=zH (show Blk Wc _ _ _ by rw [Ga.out];exact KR.out.drew)
         have kh:=zH (sb Pu.out (show Yd _ _ Wc by rw [Ga.out];exact Ln))
         have Jp:=zH (sb HAGH.out (show Yd _ _ Wc by rw [Ga.out];exact Ln))
         have Rm:=zH (show Wc.ownsRow _ _ _ _ _ _ by rw [Ga.out];exact Ye iE.out fun _ _=>rfl)
         clear Ga HB KO KR Pu iE HAGH;refine yi ?_;refine YN rfl rfl rfl La (fun wF Xa=>?_)
         replace Jf:=zH (ta Jf.out Xa);replace oc:=zH (ta oc.out Xa);replace Ko:=zH (Ko.out.below Xa Ko.out.lt);replace Kc:=zH (Kc.out.below Xa Kc.out.lt);replace kh:=zH (sb kh.out (yc Xa));replace Jp:=zH (sb Jp.out (yc Xa));replace Rm:=zH (Za Rm.out Xa zR);replace ja:=zM (mc Fc NQ) ja (ze Xa La.out.size);replace La:=zH (Te La.out Xa);have ma:=zA wF (.cells #[vd vo za,vd vo zb] 22);have htw:=aT wF za zb;refine ⟨ve (vD ⟨wF.1.size,0,vB⟩) 2 2,wF.alloc (.cells #[vd vo za,vd vo zb] 22),Yf Fc wF (wF.alloc (.cells #[vd vo za,vd vo zb] 22)),by go_simp <;> rfl,Rh ma,zm La.out ma,?_⟩
         have hV3:=La.out.size;replace Jf:=zH (ta Jf.out ma);replace oc:=zH (ta oc.out ma);replace Ko:=zH (Ko.out.below ma Ko.out.lt);replace Kc:=zH (Kc.out.below ma Kc.out.lt);replace kh:=zH (sb kh.out (yc ma));replace Jp:=zH (sb Jp.out (yc ma));replace Rm:=zH (Za Rm.out ma zR);replace ja:=zM (mc Fc NQ) ja (jk La.out (Rh ma));replace La:=zH (Kl La.out (Rh ma) (zm La.out ma))
         refine zPU ?_
         generalize wF.alloc _=wP at ma htw Jf oc Ko Kc kh Jp Rm ja La |-;have HW:=zH (Sf htw Uh.out);have bD:∀ b,Yf Fc wF wP b -> wr.1.size <= b:=fun b hb=>hb.elim (fun e=>e.elim) fun e=>jb (zQ se.out) e.1
         generalize Yf Fc wF wP=V3 at La bD |-;generalize wF.1.size=gA at HW htw ma hV3 |-;clear ma htw Xa hV3;refine yi ?_;refine Nz (f:=?_) (vals:=?_) rfl rfl rfl La ?_ (fun wF Xa=>?_)
         rotate_left 3
         replace Jf:=zH (ta Jf.out Xa);replace oc:=zH (ta oc.out Xa);replace Ko:=zH (Ko.out.below Xa Ko.out.lt);replace Kc:=zH (Kc.out.below Xa Kc.out.lt);replace kh:=zH (sb kh.out (yc Xa));replace Jp:=zH (sb Jp.out (yc Xa));replace Rm:=zH (Za Rm.out Xa zR);replace HW:=zH (Wa Xa HW.out);replace ja:=zM (mc Fc NQ) ja (ze Xa La.out.size);replace La:=zH (Te La.out Xa);refine (vG.out KW A3 n3 c3 (vD ⟨gA,0,vB⟩) 2 2 wF kh.out HW.out).mono ?_
         rotate_left
         ·intro w_;go_simp <;> rfl
         rintro e wD ⟨A5,n5,c5,rfl,hd4,Ca⟩;clear Xa;refine ⟨_,Yf V3 wF wD,rfl,Rh Ca,zm La.out Ca,?_⟩;replace ja:=zM (mc Fc NQ) ja (jk La.out (Rh Ca));replace La:=zH (Kl La.out (Rh Ca) (zm La.out Ca));refine zPU ?_;have He:=oc;have XI:=Jf;have xC:=Ko;have Yj:=Kc;have Mp:=kh;have HA3:=Jp;have lJ:=Rm;clear oc Jf Ko Kc kh Jp Rm;obtain ⟨KY,zv⟩:∃ KY:Nat -> Prop,KY=fun b=>(KW b \/ wF.1.size <= b) /\ b<wD.1.size:=⟨_,rfl⟩
         have Xy:=wk hd4;rw [<- zv] at Xy;have yn:=zH Xy;have Jh:=zH (ta He.out Ca);have BA:=zH (xC.out.below Ca xC.out.lt);have Ii:=zH (Yj.out.below Ca Yj.out.lt);have Dw:=zH (Za lJ.out Ca zR);have HA4:=zH (sb HA3.out (yc Ca));have tG:=zH (show wr.1.size <= wF.1.size from XI.out.size)
         have gK:∀ b,KY b -> b<wr.1.size \/ Yf V3 wF wD b:=fun b hb=>by
          rw [zv] at hb;exact hb.1.elim (fun e=>.inl (zG.out b e).2) fun e=>.inr (.inr ⟨e,hb.2⟩)
         have eO:=zH (show ∀ b,KY b -> (K b /\ b<w.1.size) \/ w.1.size+2 <= b from fun b hb=>by
          rw [zv] at hb;exact hb.1.elim (fun e=>Vi.out b (zG.out b e).1) fun e=>.inr (by have:=tG.out;have:=se.out;omega))
         have gU:=zH (show ∀ b,u15.ownBlock=vD b -> ¬KY b from fun b hb e=>by
          rw [zv] at e;exact e.1.elim (fun e=>(Ru.out b hb).2 (zG.out b e).1) fun e=>by have:=(Ru.out b hb).1;have:=tG.out;omega)
         have HKY4:=zH (show ∀ b,u14.ownBlock=vD b -> ¬KY b from fun b hb e=>by
          rw [zv] at e;exact e.1.elim (fun e=>xG.out b hb (zG.out b e).1) fun e=>by have:=HV14.out b hb;have:=tG.out;omega)
         have iU:=zH (show ∀ b,KY b -> b<wD.1.size by rw [zv];exact fun b hb=>hb.2)
         generalize Yf V3 wF wD=V4 at La gK |-;clear hd4 Xy Ca He XI xC Yj Mp lJ HA3 zv HW;refine yi ?_;refine iw [(vD 18,15)] rfl La (fun Ym wE Wb Ng=>?_)
         have VJ:=Ng.blk _ (.head _) rfl;clear Ng;unfold Jm Zl;simp only [List.foldl];dsimp only at VJ
         generalize Ym 15=g15 at VJ  |-;obtain ⟨zB,oS,PW⟩:=VJ;replace Jh:=zH (ta Jh.out Wb);replace BA:=zH (BA.out.below Wb BA.out.lt);replace Ii:=zH (Ii.out.below Wb Ii.out.lt);replace yn:=zH (sb yn.out (yc Wb));replace HA4:=zH (sb HA4.out (yc Wb));replace Dw:=zH (Za Dw.out Wb zR);replace ja:=zM (mc Fc NQ) ja (ze Wb La.out.size);replace La:=zH (Te La.out Wb)
         refine zPU ?_
         have LDE:=zH Wb.size;have pX:¬KY g15:=fun e=>(gK _ e).elim (fun h=>by have:=se.out;omega) PW
         have nP15:¬P g15:=fun e=>by have:=lh.out.1 _ e;have:=lh.out.2.1;have:=se.out;omega
         have gH:=zB.cell;have f14:=zB.frozen;clear Wb;refine Ip ?_;refine ke (mc Fc NQ) rfl rfl rfl ?_;go_simp;refine ⟨ze (LD oS [.bool On.ideal,vd vo On.st,vd vq On.dr,ve A5 n5 c5,ve vB 0 0,ve vB 0 0] 0 _) zR,?_⟩
         refine zPU ?_
         refine Vc ?_;have oG:=Jg [.bool On.ideal,vd vo On.st,vd vq On.dr,ve A5 n5 c5,ve vB 0 0,ve vB 0 0] zB rfl;have xo:=(If (g:=g15) (b:=w.1.size) zO [.bool On.ideal,vd vo On.st,vd vq On.dr,ve A5 n5 c5,ve vB 0 0,ve vB 0 0] 0 wE).trans BA.out;have xr:=(If (g:=g15) (b:=w.1.size+1) zO [.bool On.ideal,vd vo On.st,vd vq On.dr,ve A5 n5 c5,ve vB 0 0,ve vB 0 0] 0 wE).trans Ii.out;have xb:=aj (xs:=[.bool On.ideal,vd vo On.st,vd vq On.dr,ve A5 n5 c5,ve vB 0 0,ve vB 0 0]) (g:=g15) Jh.out zO;have xd:=sb yn.out (Pj (g:=g15) pX [.bool On.ideal,vd vo On.st,vd vq On.dr,ve A5 n5 c5,ve vB 0 0,ve vB 0 0] wE);have xw:=Ye Dw.out (u:=Pc wE g15 [.bool On.ideal,vd vo On.st,vd vq On.dr,ve A5 n5 c5,ve vB 0 0,ve vB 0 0] 0) fun b hb=>If (fun e=>by have:=(Ru.out b hb).1;have:=se.out;omega) _ 0 wE
         have xa:=sb HA4.out (Pj (g:=g15) nP15 [.bool On.ideal,vd vo On.st,vd vq On.dr,ve A5 n5 c5,ve vB 0 0,ve vB 0 0] wE);have vM:wE.1.size <= (Pc wE g15 [.bool On.ideal,vd vo On.st,vd vq On.dr,ve A5 n5 c5,ve vB 0 0,ve vB 0 0] 0).1.size:=by simp [Pc,vE]
         simp only [Pc,Re,Nat.reduceAdd] at oG xo xr xb xd xw xa vM;generalize vE (vE (vE (vE (vE (vE (wE) _ _) _ _) _ _) _ _) _ _) _ _=w5 at oG xo xr xb xd xw xa vM |-;have pG:Blk w5 g15 _ _:=oG;have yo:Blk w5 w.1.size _ _:=xo;have yr:Blk w5 (w.1.size+1) _ _:=xr;clear oG xo xr gH f14 zB Jh BA Ii yn Dw HA4 ja co gK;obtain ⟨N5,pj⟩:=zEX (w5.1.size);have l14:g15<N5:=by rw [pj];exact pG.lt
         have l50:w.1.size<N5:=by rw [pj];exact yo.lt
         have l51:w.1.size+1<N5:=by rw [pj];exact yr.lt
         obtain ⟨VO,bx⟩:∃ VO:Nat -> Prop,VO=fun b=>u15.ownBlock=vD b:=⟨_,rfl⟩
         obtain ⟨VR,eF⟩:∃ VR:Nat -> Prop,VR=fun b=>u15.ownBlock=vD b \/ b=w.1.size:=⟨_,rfl⟩
         have vr14:¬VR g15:=by rw [eF];exact fun e=>e.elim (fun e=>by have:=(Ru.out _ e).1;have:=se.out;omega) fun e=>zO
         have HVR:=zH (show VR w.1.size by rw [eF];exact .inr rfl)
         have Vu:=zH (show (∀ b,VO b -> VR b) /\ (∀ b,VO b -> b<wr.1.size /\ wL.1.size <= b) /\ ∀ b,u15.ownBlock=vD b -> VO b by
          rw [bx,eF];exact ⟨fun b hb=>.inl hb,fun b hb=>⟨(Ru.out b hb).1,(xw.lt b hb).1⟩,fun b hb=>hb⟩)
         have PG:=zH (show wr.1.size <= w5.1.size by have:=LDE.out;have:=tG.out;have:=se.out;omega)
         have Zz:=zH (show ∀ b,KY b -> b<w5.1.size /\ ¬VO b from fun b hb=>⟨by have:=iU.out b hb;have:=LDE.out;omega,by rw [bx];exact fun e=>gU.out b e hb⟩)
         have aA:=zH pj;have gH:=pG.cell;have K14:=zH pG;have KO5:=zH yo;have KR5:=zH yr;have Kp:=zH xb;have Tz:=zH xd;have HO5:=zH xw;have HA5:=zH xa;clear pj bx eF pG yo yr xb xd xw xa vM;go_upto_region 21 with fail
         refine fw (VR) (VO) (N5) [2,3,6] [0,1,4,2,3] [] [5,6] zK (Ht _) zK ?_;refine jw ?_;intro Wc Ga ja;have La:Hid (Ui VR N5 VO Wc):=zH (by rw [Ga.out,aA.out];exact ⟨zR,fun b hb=>We (Vu.out.2.1 b hb).1 PG.out,fun b _ h=>Vu.out.1 b h⟩)
         have Kh:=zH (show vz w.1.size w Wc by rw [Ga.out];exact Kp.out.drew)
         have Jk:=zH (show Blk Wc _ _ _ by rw [Ga.out];exact KO5.out.drew)
         have Xh:=zH (show Blk Wc _ _ _ by rw [Ga.out];exact KR5.out.drew)
         have Om:=zH (sb Tz.out (show Yd _ _ Wc by rw [Ga.out];exact Ln))
         have Et:=zH (show Wc.ownsRow _ _ _ _ _ _ by rw [Ga.out];exact Ye HO5.out fun _ _=>rfl)
         have XD:=zH (sb HA5.out (show Yd _ _ Wc by rw [Ga.out];exact Ln))
         clear Ga Kp KO5 KR5 Tz HO5 HA5 K14;refine yi ?_;refine YN rfl rfl rfl La (fun wF Xa=>?_)
         replace Kh:=zH (ta Kh.out Xa);replace Jk:=zH (Jk.out.below Xa Jk.out.lt);replace Xh:=zH (Xh.out.below Xa Xh.out.lt);replace Om:=zH (sb Om.out (yc Xa));replace XD:=zH (sb XD.out (yc Xa));replace Et:=zH (Za Et.out Xa zR);replace ja:=zM (mc VR N5) ja (ze Xa La.out.size);replace La:=zH (Te La.out Xa);have ma:=zA wF (.cells #[vd vo xi] 22);have Na:=gg wF (vd vo xi) 22;refine ⟨ve (vD ⟨wF.1.size,0,vB⟩) 1 1,wF.alloc (.cells #[vd vo xi] 22),Yf VO wF (wF.alloc (.cells #[vd vo xi] 22)),by go_simp <;> rfl,Rh ma,zm La.out ma,?_⟩
         have Rs:=La.out.size;replace Kh:=zH (ta Kh.out ma);replace Jk:=zH (Jk.out.below ma Jk.out.lt);replace Xh:=zH (Xh.out.below ma Xh.out.lt);replace Om:=zH (sb Om.out (yc ma));replace XD:=zH (sb XD.out (yc ma));replace Et:=zH (Za Et.out ma zR);replace ja:=zM (mc VR N5) ja (jk La.out (Rh ma));replace La:=zH (Kl La.out (Rh ma) (zm La.out ma))
         refine zPU ?_
         generalize wF.alloc _=wP at ma Na Kh Jk Xh Om XD Et ja La |-;have rk:∀ b,Yf VO wF wP b -> VO b \/ N5 <= b:=fun b hb=>hb.elim .inl fun e=>.inr (jb Rs e.1)
         have Hr:∀ b,u15.ownBlock=vD b -> Yf VO wF wP b:=fun b hb=>.inl (Vu.out.2.2 b hb)
         have Ok:wL.1.size <= wP.1.size:=jb lh.out.2.1 (jb PG.out (by rw [<- aA.out];exact jb Rs ma.size))
         have hPG:N5 <= wP.1.size:=jb Rs ma.size;generalize Yf VO wF wP=V1 at La rk Hr |-;generalize wF.1.size=gA at Na Rs |-;have oa:=Et.out;clear ma Xa Et;refine OQ rfl rfl rfl _ _ rfl (Qt) rfl rfl La (oa) (Na) (De [xi]) zO (by first | exact zR | omega) (Hr) (fun wF v' w' Xa Ua ff Qk=>?_)
         replace Kh:=zH (ta Kh.out Xa);replace Jk:=zH (Jk.out.below Xa Jk.out.lt);replace Xh:=zH (Xh.out.below Xa Xh.out.lt);replace Om:=zH (sb Om.out (yc Xa));replace XD:=zH (sb XD.out (yc Xa));replace ja:=zM (mc VR N5) ja (ze Xa La.out.size);replace La:=zH (Te La.out Xa);replace ja:=zM (mc VR N5) ja (jk La.out ff);replace La:=zH (Kl La.out ff Qk)
         refine zPU ?_
         have nVo:¬V1 w.1.size:=fun e=>(rk _ e).elim (fun e=>by have:=(Vu.out.2.1 _ e).2;have:=LL2.out;omega) fun e=>zO
         have nVr:¬V1 (w.1.size+1):=fun e=>(rk _ e).elim (fun e=>by have:=(Vu.out.2.1 _ e).2;have:=LL2.out;omega) fun e=>zO
         have ay:=zH (PM Kh.out ff fun b hb=>(rk b hb).elim (fun e=>by have:=(Vu.out.2.1 _ e).2;have:=LL2.out;omega) fun e=>zO)
         have Gt:=zH (Jk.out.moved ff nVo);have CA:=zH (Xh.out.moved ff nVr);have aE:=zH (sb Om.out (MA ff fun b hb e=>(rk b e).elim (Zz.out b hb).2 fun e=>by have:=(Zz.out b hb).1;have:=aA.out;omega))
         have HA7:=zH (sb XD.out (MA ff fun b hb e=>(rk b e).elim (fun e=>by have:=(Vu.out.2.1 _ e).2;have:=lh.out.1 b hb;omega) fun e=>by have:=lh.out.1 b hb;have:=lh.out.2.1;have:=PG.out;have:=aA.out;omega))
         have HKO:=zH (show ∀ b,v'.ownBlock=vD b -> ¬KY b from fun b hb hk=>(ff.foot b (.inr hb)).elim (fun e=>(rk b e).elim (Zz.out b hk).2 fun e=>by have:=(Zz.out b hk).1;have:=aA.out;omega) fun e=>by have:=(Zz.out b hk).1;have:=aA.out;have:=Xa.size;omega)
         have dA:=zH (show _ from Qi (b:=[xi]) Ua AJ.out)
         obtain ⟨Av,cv,rfl,-⟩:=Yb Ua;obtain ⟨V2,ax⟩:∃ V2:Nat -> Prop,V2=fun b=>V1 b \/ (ve Av (i+1) cv).ownBlock=vD b:=⟨_,rfl⟩
         rw [<- ax] at La ff |-;clear ax oa Na Ua Hr Ok Kh Jk Xh Om XD ff Qk Xa rk;refine yi ?_;refine iw [] rfl La (fun Ym wE Wb Ng=>?_)
         clear Ng;unfold Jm
         try simp only [List.foldl]
         replace ay:=zH (ta ay.out Wb);replace Gt:=zH (Gt.out.below Wb Gt.out.lt);replace CA:=zH (CA.out.below Wb CA.out.lt);replace aE:=zH (sb aE.out (yc Wb));replace HA7:=zH (sb HA7.out (yc Wb));replace dA:=zH (Za dA.out Wb zR);replace ja:=zM (mc VR N5) ja (ze Wb La.out.size);replace La:=zH (Te La.out Wb)
         refine zPU ?_
         have co:=Gt.out.cell;have fo:=Gt.out.frozen;clear Wb;refine Ip ?_;refine ke (mc VR N5) rfl rfl rfl ?_;go_simp;refine ⟨VE HVR.out [.bool On.ideal,vd vo On.st,vd vq On.dr,ve A5 n5 c5,ve vB 0 0,ve vB 0 0] _,?_⟩
         refine zPU ?_
         refine Vc ?_;have zo:=Jg [.bool On.ideal,vd vo On.st,vd vq On.dr,ve A5 n5 c5,ve vB 0 0,ve vB 0 0] Gt.out rfl;have zr:=(If (g:=w.1.size) (b:=w.1.size+1) zO [.bool On.ideal,vd vo On.st,vd vq On.dr,ve A5 n5 c5,ve vB 0 0,ve vB 0 0] 0 wE).trans CA.out;have zb:=aj (xs:=[.bool On.ideal,vd vo On.st,vd vq On.dr,ve A5 n5 c5,ve vB 0 0,ve vB 0 0]) (g:=w.1.size) ay.out zR;have zd:=sb aE.out (Pj (g:=w.1.size) (fun e=>(eO.out _ e).elim (fun e=>by have:=e.2;omega) fun e=>zO) [.bool On.ideal,vd vo On.st,vd vq On.dr,ve A5 n5 c5,ve vB 0 0,ve vB 0 0] wE)
         have zw:=Ye dA.out (u:=Pc wE w.1.size [.bool On.ideal,vd vo On.st,vd vq On.dr,ve A5 n5 c5,ve vB 0 0,ve vB 0 0] 0) fun b hb=>If (fun e=>by have:=(dA.out.lt b hb).1;have:=LL2.out;omega) _ 0 wE
         have zg:=sb HA7.out (Pj (g:=w.1.size) (fun e=>by have:=lh.out.2.2 _ e;omega) [.bool On.ideal,vd vo On.st,vd vq On.dr,ve A5 n5 c5,ve vB 0 0,ve vB 0 0] wE)
         simp only [Pc,Re,Nat.reduceAdd] at zo zr zb zd zw zg;generalize vE (vE (vE (vE (vE (vE (wE) _ _) _ _) _ _) _ _) _ _) _ _=w9 at zo zr zb zd zw zg |-;have DN:=zH (And.intro zo (And.intro zr (And.intro zb (And.intro zd (And.intro zw zg)))));obtain ⟨ic,hic⟩:=zEX (2*(i+1));have e2:vq.wrap ((ia:Int)+2)=(ic:Int):=by rw [Bi];have:=HIA.out.1;omega
         have e2':wrap64 ((ia:Int)+2)=(ic:Int):=by unfold wrap64;have:=HIA.out.1;omega
         have HIC:=zH hic;clear zo zr zb zd zw zg co fo ja gH ay Gt CA aE dA HA7 La hic;go_wp2
         go_roundw
         case rel =>
          obtain ⟨zo,zr,zb,zd,zw,zg⟩:=DN.out;refine ⟨i+1,A5,n5,c5,KY,HIA.out.2,by first | (rw [<- HIC.out];done) | (rw [<- HIC.out];go_num) | go_num,zw,?_,zr,?_,eO,HKO,HKY4,Tl zg,zb⟩
          ·rw [<- HOn.out];exact zo
          ·rw [<- HOn.out];exact zd
         case measure=>exact zEU HIA.out.1 HIC.out HIA.out.2
        ·have Ed:i=nh:=by omega
         subst Ed;rw [pJ.out] at ko tj;obtain ⟨ia,Yo⟩:=zEX (2*i);rw [<- Yo];obtain ⟨dz,Ce,bn⟩:=HNH.out;obtain ⟨sK,hM,bF,cF,xF⟩:=HSTA.out;have gd:decide ((ia:Int)<nl)=false:=Xb zO;have gd':¬((ia:Int)<nl):=by omega
         have hvs2:wr.ownsRow (w.1.size+2) 28 1 u14 (ls.length+1) cs:=Ye OG.out fun b hb=>Ss.block b (by rw [HP.out];exact OG.out.lt b hb) (OG.out.lt b hb).2
         have Yy:gh (w.1.size+2) wr u14 cs (ls++[lj]):=bP Vz.out Ss.size fun b h1 h2 _=>Ss.block b (by rw [HP.out];exact ⟨h1,h2⟩) h2
         obtain ⟨Aq,cq,rfl,-⟩:=Yb oa;have ma:=zA wr (.cells #[ve Aq i cq] 28);have NW:=OG.out.lt;have hwn:=Ss.size;have RK:0<i:=by rw [dz];exact Nat.two_pow_pos j'
         have ZE:=iA.out i zR;rw [pJ.out] at ZE;have jo:=jA.out;have eE:=zH (show (List.range i).map gf=bf Oj 17 ps from jo.symm)
         have WY:=zH (show ∀ y∈bf Oj 17 ps,y<18446744073709551616 from fun y hy=>rm (xO sK.ans 17 ps y hy))
         have iC:=zH oa;have HVS2:=zH hvs2;have HGR2:=zH Yy;have KO:=zH ko;have KR:=zH kr;have Pu:=zH (wk tj);have HB:=zH da;have Fj:=zH ma;have IG:=zH ZE;have HFF:=zH (And.intro dz (And.intro Ce (And.intro hM (And.intro bF (And.intro cF xF)))));have oJ:=HPSD.out;have oC:=zH hwn;have eu:ls.length+1 <= 10:=by omega
         have hH2:w.1.size+2 <= wr.1.size:=kr.lt;clear oa Yy ko kr tj da ZE jo sK hM bF cF xF dz Ce bn Yo ya Ss jA HPH mE HGF im iA HNH HSTA Vz OG;go_upto_region 23 with fail
         go_wp2_with (at_builtin;refine Wd rfl _ _ rfl kV rfl (hvs2.alloc _) rfl (gg _ _ _) (by intro u hu;rw [Ay.1 hu];rfl) zO zT ?_)
         intro v' wn Ua Ma Cb;go_wp2
         go_roundw
         case rel =>
          obtain ⟨dz,Ce,hM,bF,cF,xF⟩:=HFF.out;have oN:∀ b,u14.ownBlock=vD b -> w.1.size+2 <= b /\ b<wL.1.size:=NW;have kL:(wr.alloc (.cells #[ve Aq i cq] 28)).1.size=wr.1.size+1:=by simp
          have hows:=zFF (Za iC.out Fj.out zR) Ma fun q h1 h2=>by have:=(iC.out.lt q h1).1;have:=(oN q h2).2;omega
          have Db:=oC.out;have howr:wn.ownsRow (w.1.size+2) 22 1 (ve Aq i cq) (2^j') (Qa (bf Oj 17 (Ze lj))):=by
           rw [<- oJ,<- eE.out,<- dz];exact Hg hows (zQ LL2.out)
          have Kr:∀ b,(ve Aq i cq).ownBlock=vD b -> v'.ownBlock≠vD b:=fun b hb e=>by
           have h1:=iC.out.lt b hb;rcases Cb with h | h
           ·rw [h] at e;have:=(oN b e).2;omega
           ·rw [h] at e;have:=Nb e;omega
          refine ⟨j',ls++[lj],Nc Oj 17 (Ze lj),bf Oj 17 (Ze lj),A3,n3,c3,fun b=>KX3 b /\ b<wr.1.size,M+i,cs++[ve Aq i cq],⟨?_,?_,howr,Kr⟩,⟨?_,?_⟩,⟨?_,?_,?_⟩,⟨?_,?_⟩,⟨?_,?_⟩,⟨?_,?_,?_⟩,?_⟩
          ·rw [<- oJ,<- eE.out,Tm,Sp,dz]
          ·rw [<- oJ];exact WY.out
          ·rw [<- oJ];exact IG.out
          ·rw [<- dz];omega
          ·rw [bF];simp [rn]
          ·rw [cF];rfl
          ·simp only [qh,Yh,List.length_nil];omega
          ·rw [qh];exact Ua
          ·refine YC (bP HGR2.out Fj.out.size fun b _ h2 _=>Fj.out.block b h2) ?_ Ma (by rw [kL];exact Cb)
           rw [<- oJ];refine zAF (base:=wL.1.size) (n:=i) (e:=22) (by rw [<- eE.out];exact Za iC.out Fj.out zR) WY.out LL2.out fun b hb e=>?_
           have:=(iC.out.lt b hb).1;have:=(oN b e.symm).2;omega
          ·rw [<- oJ]
           exact (KO.out.below Fj.out KO.out.lt).grown Ma fun e=>by have:=(oN _ e.symm).1;omega
          ·exact (KR.out.below Fj.out KR.out.lt).grown Ma fun e=>by have:=(oN _ e.symm).1;omega
          ·rw [<- oJ]
           exact sb (sb Pu.out (yc Fj.out)) (iZ Ma fun b e h=>xG.out b e h.1)
          ·exact fun b hb=>Vi.out b hb.1
          ·intro b hb h
           rcases Cb with e | e
           ·rw [e] at hb;exact xG.out b hb h.1
           ·rw [e] at hb;have:=Nb hb;have:=h.2;omega
          ·have Oa:=ta HB.out Fj.out
           exact ⟨Ma.os.trans Oa.os,Ma.tape.trans Oa.tape,Ma.output.trans Oa.output,jb Oa.size Ma.size,fun b hb=>(Ma.block b zO fun e=>by have:=(oN b e.symm).1;omega).trans (Oa.block b hb)⟩
         case measure=>simp only [RN];have:=HFF.out.2.1;omega
structure StB (g:Nat) (w wf:vu):Prop where
 os:wf.os=w.os
 tape:wf.tape=w.tape
 output:wf.output=w.output
 size:wf.1.size=w.1.size
 far:∀ j,j≠g -> wf.1[j]?=w.1[j]?
section
variable {g:Nat} {w wf:vu}
theorem JT (g:Nat) (xs:List vw) (w:vu):StB g w (Pc w g xs 0) :=
 ⟨(SN g xs 0 w).2.1,(SN g xs 0 w).2.2.1,(SN g xs 0 w).2.2.2,(SN g xs 0 w).1,fun _ hj=>If hj xs 0 w⟩
theorem StB.blk (h:StB g w wf) {b:Nat} {t:vy} {cs:Array vw} (k:Blk w b t cs) (hb:b≠g):Blk wf b t cs:=(h.far b hb).trans k
theorem StB.below (h:StB g w wf) {w0:vu} {N:Nat} (k:vz N w0 w) (hN:N <= g):vz N w0 wf :=
 ⟨h.os.trans k.os,h.tape.trans k.tape,h.output.trans k.output,jb k.size (Nat.le_of_eq h.size.symm),fun b hb=>(h.far b zO).trans (k.block b hb)⟩
theorem StB.agr (h:StB g w wf) {K:Nat -> Prop} (hK:¬K g):Yd K w wf:=⟨h.os,h.tape,h.output,Nat.le_of_eq h.size.symm,fun b hb _=>h.far b fun e=>hK (e ▸ hb)⟩
theorem StB.hd (h:StB g w wf) {K:Nat -> Prop} {Q:vu -> Prop} (k:Hd K w Q) (hK:¬K g):Hd K wf Q:=sb k (h.agr hK)
theorem StB.own (h:StB g w wf) {base n size:Nat} {e:vy} {x:vw} {xs:List vw} (k:w.ownsRow base e size x n xs) (hg:∀ b,x.ownBlock=vD b -> b≠g):wf.ownsRow base e size x n xs:=Ye k fun b hb=>h.far b (hg b hb)
theorem StB.trans {v:vu} (h:StB g w wf) (k:StB g wf v):StB g w v:=⟨k.os.trans h.os,k.tape.trans h.tape,k.output.trans h.output,k.size.trans h.size,fun j hj=>(k.far j hj).trans (h.far j hj)⟩
theorem kY (g i:Nat) (v:vw):StB g w (w.setCell ⟨g,i,vB⟩ v):=⟨rfl,rfl,rfl,by simp [vE],fun j hj=>Mu w ⟨g,i,vB⟩ v j hj⟩
end
theorem lY {w:vu} {g:Nat} {t:vy} {y0 y1 y2 y3 y4 y5 y6 y7:vw} (k:Blk w g t #[y0,y1,y2,y3,y4,y5,y6,y7]) (x0 x1 x2 x3 x4 x5 x6 x7:vw):∃ wf,((((((((w).setCell ⟨g,0,vB⟩ x0).setCell ⟨g,1,vB⟩ x1).setCell ⟨g,2,vB⟩ x2).setCell ⟨g,3,vB⟩ x3).setCell ⟨g,4,vB⟩ x4).setCell ⟨g,5,vB⟩ x5).setCell ⟨g,6,vB⟩ x6).setCell ⟨g,7,vB⟩ x7=wf /\ Blk wf g t #[x0,x1,x2,x3,x4,x5,x6,x7] /\ StB g w wf :=
 ⟨_,rfl,Jg [x0,x1,x2,x3,x4,x5,x6,x7] k rfl,JT g [x0,x1,x2,x3,x4,x5,x6,x7] w⟩
theorem zAS {w:vu} {g:Nat} {t:vy} {y0 y1 y2 y3 y4 y5 y6:vw} (k:Blk w g t #[y0,y1,y2,y3,y4,y5,y6]) (x0 x1 x2 x3 x4 x5 x6:vw):∃ wf,(((((((w).setCell ⟨g,0,vB⟩ x0).setCell ⟨g,1,vB⟩ x1).setCell ⟨g,2,vB⟩ x2).setCell ⟨g,3,vB⟩ x3).setCell ⟨g,4,vB⟩ x4).setCell ⟨g,5,vB⟩ x5).setCell ⟨g,6,vB⟩ x6=wf /\ Blk wf g t #[x0,x1,x2,x3,x4,x5,x6] /\ StB g w wf :=
 ⟨_,rfl,Jg [x0,x1,x2,x3,x4,x5,x6] k rfl,JT g [x0,x1,x2,x3,x4,x5,x6] w⟩
theorem zAR {w:vu} {g:Nat} {t:vy} {y0 y1 y2 y3 y4 y5:vw} (k:Blk w g t #[y0,y1,y2,y3,y4,y5]) (x0 x1 x2 x3 x4 x5:vw):∃ wf,((((((w).setCell ⟨g,0,vB⟩ x0).setCell ⟨g,1,vB⟩ x1).setCell ⟨g,2,vB⟩ x2).setCell ⟨g,3,vB⟩ x3).setCell ⟨g,4,vB⟩ x4).setCell ⟨g,5,vB⟩ x5=wf /\ Blk wf g t #[x0,x1,x2,x3,x4,x5] /\ StB g w wf :=
 ⟨_,rfl,Jg [x0,x1,x2,x3,x4,x5] k rfl,JT g [x0,x1,x2,x3,x4,x5] w⟩
theorem zH2 {w:vu} {g:Nat} {t:vy} {y0 y1 y2 y3 y4 y5 y6 y7:vw} (k:Blk w g t #[y0,y1,y2,y3,y4,y5,y6,y7]) (x0 x1 x2 x3 x4 x5:vw):∃ wf,((((((w).setCell ⟨g,0,vB⟩ x0).setCell ⟨g,1,vB⟩ x1).setCell ⟨g,2,vB⟩ x2).setCell ⟨g,3,vB⟩ x3).setCell ⟨g,4,vB⟩ x4).setCell ⟨g,5,vB⟩ x5=wf /\ Blk wf g t #[x0,x1,x2,x3,x4,x5,y6,y7] /\ StB g w wf :=
 ⟨_,rfl,by have h:=((((((k).set_ 0 x0).set_ 1 x1).set_ 2 x2).set_ 3 x3).set_ 4 x4).set_ 5 x5;simpa using h,JT g [x0,x1,x2,x3,x4,x5] w⟩
theorem yT {O:Jb} {k k':Nat} (h:Um O k) (hk:k <= k'):Um O k':=⟨h.fair,h.ans,Bl h.le hk,h.st⟩
theorem zAn {O:Jb} {k:Nat} (h:Um O k) (lab:Nat) (qs:List (List Nat)):Um (Nc O lab qs) (k+qs.length):=by
 have:=tQ h lab qs qs.length zR
 rwa [EC zR] at this
theorem zAo:∀ (d:Nat) {O:Jb} {k:Nat} (l:List Nat),l.length=2^d -> Um O k -> Um (Zv d O l) (k+2^d)
 | 0,_,_,_,_,h=>yT h zO
 | d+1,O,k,l,hl,h=>by
  have e:l.length / 2=2^d:=by rw [hl,Zg];omega
  have h1:=zAn h 17 (Ze l);rw [GL,e] at h1;refine yT (zAo d (bf O 17 (Ze l)) (by rw [rz,GL,e]) h1) ?_
  rw [Zg];omega
theorem PvIn.o2_ref (x:PvIn) (O:Jb) {k:Nat} (hn:x.L.n=2^x.dd) (h:Um (x.t1 O).O k):Um (x.o2 O) (k+2*x.L.n):=by
 have h1:=zAn h 16 (Ni x.cols x.l4);rw [AI,x.cols_len] at h1;have h2:=zAo x.dd (bf (x.t1 O).O 16 (Ni x.cols x.l4)) (by rw [rz,AI,x.cols_len,hn]) h1
 rw [<- hn] at h2;exact yT h2 zO
theorem boxes5 (w:vu) (t1 t2 t3 t4 t5:vy) (Qc Zc Zd Of Di:Array vw) :
  Blk (((((w.alloc (.cells Qc t1)).alloc (.cells Zc t2)).alloc (.cells Zd t3)).alloc (.cells Of t4)).alloc (.cells Di t5)) w.1.size t1 Qc /\ Blk (((((w.alloc (.cells Qc t1)).alloc (.cells Zc t2)).alloc (.cells Zd t3)).alloc (.cells Of t4)).alloc (.cells Di t5)) (w.1.size+1) t2 Zc /\ Blk (((((w.alloc (.cells Qc t1)).alloc (.cells Zc t2)).alloc (.cells Zd t3)).alloc (.cells Of t4)).alloc (.cells Di t5)) (w.1.size+1+1) t3 Zd /\ Blk (((((w.alloc (.cells Qc t1)).alloc (.cells Zc t2)).alloc (.cells Zd t3)).alloc (.cells Of t4)).alloc (.cells Di t5)) (w.1.size+1+1+1) t4 Of /\ Blk (((((w.alloc (.cells Qc t1)).alloc (.cells Zc t2)).alloc (.cells Zd t3)).alloc (.cells Of t4)).alloc (.cells Di t5)) (w.1.size+1+1+1+1) t5 Di /\
   vz w.1.size w (((((w.alloc (.cells Qc t1)).alloc (.cells Zc t2)).alloc (.cells Zd t3)).alloc (.cells Of t4)).alloc (.cells Di t5)) /\ (((((w.alloc (.cells Qc t1)).alloc (.cells Zc t2)).alloc (.cells Zd t3)).alloc (.cells Of t4)).alloc (.cells Di t5)).1.size=w.1.size+5:=by
 obtain ⟨h1,h2,h3,h4,h5,h6⟩:=fH w t1 t2 t3 t4 Qc Zc Zd Of;refine ⟨h1.alloc _,h2.alloc _,h3.alloc _,h4.alloc _,?_,h5.alloc zO _,zS⟩;have:=Blk.new ((((w.alloc (.cells Qc t1)).alloc (.cells Zc t2)).alloc (.cells Zd t3)).alloc (.cells Of t4)) t5 Di;rw [h6] at this;exact this
theorem zGZ (A:Option vx) (n c m:Nat) (l:List Nat) (w:vu) (hl:RWd w [ve A n c] l) (hn:n <= 100000) (hm:m <= 100000) :
  vA prog 170 #[ve A n c,vd vq m] w fun e w'=>∃ v,e=vn v /\ w'.ownsRow w.1.size 22 1 v (Gh l m).length (Qa (Gh l m)) /\ vz w.1.size w w':=by
 obtain ⟨rfl,h1,h2,ya,Na⟩:=Pb hl;have ma:=zA w (.cells #[] 22);have HS:=zH (show ∀ k,l++List.replicate k 0++[0]=l++List.replicate (k+1) 0 from fun k=>by rw [zy,List.replicate_succ'])
 have HP:=zH (show Gh l m=l++List.replicate (m-l.length) 0 from rfl)
 rw [HP.out];obtain ⟨f,hf⟩:=zEX (fun k=>l++List.replicate k 0)
 have H0:=zH (show f 0=l by rw [hf];simp)
 have HF:=zH (show ∀ k,f k++[0]=f (k+1) from fun k=>by rw [hf];exact HS.out k)
 rw [show l++List.replicate (m-l.length) 0=f (m-l.length) by rw [hf]]
 clear HS HP hf ya h1 h2 hl;go_enter func170,ntmps170
 go_wp2_with (at_builtin;refine Wd rfl _ _ rfl jg rfl (Zr w 22 zR) rfl (Na.alloc _) (De l) zO zS ?_)
 intro v1 w1 oa Ma Cb;have hB:=ie (Zr w 22 zR) Ma zS;replace hB:=ma.trans hB;obtain ⟨t,ht⟩:=zEX (l.length);have Zs:w1.ownsRow w.1.size 22 1 v1 t (Qa (f 0)):=by
  rw [H0.out,ht];simpa using oa
 have HT:=zH ht;clear Ma Cb oa ma ht Na;go_wp2_with fail
 go_loopw [5] (fun v wr=>∃ k s:Nat,Hid (s=t+k /\ (k=0 \/ s <= m)) /\ s <= 200000 /\ wr.ownsRow w.1.size 22 1 v s (Qa (f k)) /\ vz w.1.size w wr) (fun v _=>match v with | ve _ n _=>m-n | _=>0)
 case atStart=>exact ⟨0,t,zH ⟨rfl, .inl rfl⟩,by have:=HT.out;omega,Zs,hB⟩
 case round =>
  clear Zs hB;obtain ⟨k,s,HK,hs,oa,hb⟩:=hrel;obtain ⟨A1,c1,rfl,-⟩:=Yb oa;by_cases ya:s<m
  ·have g1:(s:Int)<m:=by omega
   have Vg:=zH (HF.out k);go_wp2_with (at_builtin;refine Wd rfl _ _ rfl jg rfl (oa.alloc _) rfl (gg _ _ _) (De [0]) zO (by simp;have:=hb.size;omega) ?_)
   intro v' wn Ua Ma Cb;have ma:=zA wr (.cells #[vd vo (0:Int)] 22);have hB:=ie (oa.alloc _) Ma (by simp;have:=hb.size;omega)
   replace hb:=(Nk hb ma hb.size).trans hB;replace oa:wn.ownsRow w.1.size 22 1 v' (s+1) (Qa (f (k+1))):=Qi (b:=[0]) Ua Vg.out;clear Ua Ma Cb ma hB;obtain ⟨A2,c2,rfl,-⟩:=Yb oa;go_wp2
   go_roundw
   case rel=>exact ⟨k+1,s+1,zH (zQ HK.out),zO,oa,hb⟩
   case measure=>simp;omega
  ·have g1:¬((s:Int)<m):=by omega
   have HE:=zH (show f k=f (m-l.length) by
    have h:=HK.out;have h2:=HT.out;rcases h.2 with h3 | h3
    ·rw [h3,show m-l.length=0 by omega]
    ·rw [show k=m-l.length by omega])
   rw [HE.out] at oa;have qA:=zH (show (f (m-l.length)).length=s by
    have:=oa.1
    simpa [Qa] using this)
   go_wp2;go_ret
   exact ⟨_,rfl,by rw [qA.out];exact oa,hb⟩
theorem zGC (L:Tb) (pu Mb al be:Nat) (vars:Int) (A AM D0 D1 D2 D3 D4:Option vx) (R c T cM n0 n1 n2 n3 n4 k0 k1 k2 k3 k4:Nat) (rows:List sc) (m r:List (List Nat)) (co li qu:List Nat) (w:vu)
  (hL:Ad L) (hF:GC L pu vars rows) (hr:RSl 3 yg w [ve A R c] rows) (hV:VG vars rows)
  (hm:Kd w [ve AM T cM] m) (h0:Kd w [ve D0 n0 k0] r) (h1:RWd w [ve D1 n1 k1] co) (h2:RWd w [ve D2 n2 k2] li) (h3:RWd w [ve D3 n3 k3] qu)
  (Fb:yE L m r) (Vy:co.length=L.k) (Vs:li.length=L.k+L.block-2) (rq:qu.length=L.block+2*L.queries-1) :
  vA prog 79 #[vf (Ub L),Xc L.p (pu:Int) vars (ve A R c),ve AM T cM,vf #[ve D0 n0 k0,ve D1 n1 k1,ve D2 n2 k2,ve D3 n3 k3,ve D4 n4 k4],vf #[vd vo al,vd vo Mb,vd vo be]] w fun e w'=>∃ v1 v2 v3,e=vn (vf #[v1,v2,v3]) /\
   w'.ownsRow w.1.size 22 1 v1 (XG L m r co al).length (Qa (XG L m r co al)) /\ w'.ownsRow w.1.size 22 1 v2 (YG L (Qs L pu Mb rows) m r li).length (Qa (YG L (Qs L pu Mb rows) m r li)) /\ w'.ownsRow w.1.size 22 1 v3 (ZG L m r qu be).length (Qa (ZG L m r qu be)) /\ vz w.1.size w w':=by
 have tk:=hL.b1;have Pk:=hL.b2;have qi:=hL.q1;have mo:=hL.q2;have hk:=hL.k;have du:=hL.a;have Jr:=hL.b;have mf:=Fb.ml;have dF:=(Ig hm).1;have e1:=(Pb h1).1;have e2:=(Pb h2).1;have e3:=(Pb h3).1;have sl:=fun A n c=>(⟨A,n,c,rfl⟩:slc (ve A n c))
 obtain ⟨t1,ht1⟩:=zEX (L.k+L.block-1);obtain ⟨t2,ht2⟩:=zEX (2*L.k-1);have pA:=zH (fun w' (hb:vz w.1.size w w')=>zHb L D0 D1 D2 D3 D4 AM n0 n1 n2 n3 n4 T k0 k1 k2 k3 k4 cM m r w' hL (Qg rD _ _ _ _ hb hm) (Qg rD _ _ _ _ hb h0) Fb.rl.symm Fb.mr (fun x hx=>by have:=Fb.rr x hx;omega) zO)
 have HLe:=zH (fun w=>zGS L t1 t2 w hL ht1 ht2)
 have Gj:=zH (fun w=>P9 L (ve D0 n0 k0) (ve D1 n1 k1) (ve D2 n2 k2) (ve D3 n3 k3) (ve D4 n4 k4) w (sl _ _ _) (sl _ _ _) (sl _ _ _) (sl _ _ _) (sl _ _ _))
 have HA:=zH (fun A B n c m d a b w ha hb hn hm=>aM L.p A B n c m d a b w hL.p ha hb hn hm)
 have HP:=zH (fun A n c m l w hl hn hm=>zGZ A n c m l w hl hn hm)
 have dj:=zH (fun w' (hb:vz w.1.size w w')=>X9 L (ve D0 n0 k0) (ve D1 n1 k1) (ve D3 n3 k3) (ve D4 n4 k4) D2 n2 k2 li w' hL (sl _ _ _) (sl _ _ _) (sl _ _ _) (sl _ _ _) (Wa hb h2) zO)
 have HW:=zH (fun w' (hb:vz w.1.size w w')=>zHj L pu Mb vars A R c rows w' hL hF (Qg Bh _ _ _ _ hb hr) hV)
 have Nq:=zH (fun w' (hb:vz w.1.size w w')=>zG6 L (ve D0 n0 k0) (ve D1 n1 k1) (ve D2 n2 k2) (ve D4 n4 k4) D3 n3 k3 qu w' hL (sl _ _ _) (sl _ _ _) (sl _ _ _) (sl _ _ _) (Wa hb h3) zO)
 obtain ⟨cs,Ws⟩:=zEX (Qs L pu Mb rows);obtain ⟨rd,Na⟩:=zEX (Zi L m r);have Gv:∀ x∈cs,x.length=L.block:=by rw [Ws];exact ZU
 have uB:∀ x∈Hp L.p cs,x.length <= L.block:=fun x hx=>by
  obtain ⟨i,hi,rfl⟩:=ee.1 hx;rw [tM,Tm,Sp,aP Gv (Mj.1 hi)];exact zR
 have hwn:(Hp L.p cs).length=T:=by
  rw [Hp,Tm,Sp,Ws,YU];omega
 have Pe:∀ x∈rd,x.length=L.k:=by rw [Na];exact CT hL Fb
 have Mv:rd.length=T:=by rw [Na,TX];exact dF
 rw [<- Ws] at HW |-;have gy:=zH (show XG L m r co al=Gh (Mg L.p co (Nt L.p rd al T)) L.k by rw [Na,<- dF];rfl)
 have bE:=zH (show YG L cs m r li=Gh (Mg L.p (Qh L li) (yu L.p rd (Hp L.p cs) T)) t1 by rw [Na,<- dF,ht1];rfl)
 have sG:=zH (show ZG L m r qu be=Gh (Mg L.p (Ck L qu) (ss L.p L.a L.b rd be L.b)) t2 by rw [Na,ht2];rfl)
 rw [gy.out,bE.out,sG.out];have oy:=zH (show (List.range m.length).map (zs L m r)=rd by rw [Na];rfl)
 rw [oy.out] at pA;have Vf:=zH (show ∀ x∈rd,x.length <= 1000 from fun x hx=>by rw [Pe x hx];omega)
 have yJ:=zH (show ∀ x∈Hp L.p cs,x.length <= 1000 from fun x hx=>by have:=uB x hx;omega)
 have Co:=zH (fun A c w hr=>zGD L A T c al rd w hL hr Vf.out)
 have Cn:=zH (fun A B c d w hr hs=>zGT L A B T c T d rd (Hp L.p cs) w hL hr hs zR Vf.out yJ.out)
 have Su:=zH (fun A c w hr=>zG5 L A T c be rd w hL hr Vf.out zO)
 have IG:=zH (And.intro Mv hwn);have s1:=zH (show (Nt L.p rd al T).length <= 1000 from FR (fun x hx=>Vf.out x hx) T)
 have s2:=zH (show (yu L.p rd (Hp L.p cs) T).length <= 2000 by have:=LS (p:=L.p) (fun x hx=>Vf.out x hx) (fun x hx=>yJ.out x hx) T;omega)
 have s3:=zH (show (ss L.p L.a L.b rd be L.b).length <= 2000 by have:=qT (p:=L.p) (a:=L.a) (b:=L.b) (be:=be) (fun x hx=>Vf.out x hx) L.b;omega)
 have s4:=zH (show (Qh L li).length <= 2000 by rw [Qh,Yh];omega)
 have s5:=zH (show (Ck L qu).length <= 2000 by rw [sT hL rq,JN,Tm,Sp];omega)
 have HMX:=zH (show n2+1=(Qh L li).length by rw [Qh,Yh,<- e2])
 have ya:=(Cc hL.p).2;have HMT:=zH (show ∀ x∈Qh L li,x<18446744073709551616 from fun x hx=>by
  rcases Kk.1 hx with h | h
  ·rw [h];exact Je (rN (zQ (Cc hL.p)) _ _) ya
  ·exact (Pb h2).2.2.2.1 x h)
 have s6:n1 <= 1000:=by omega
 have Fj:=zH (fun a b=>Pw L.p a b)
 have HT4:=zH (show L.a+L.b+L.b+L.b=T by omega)
 have gk:L.k <= 1000:=by omega
 have gt1:t1 <= 1000:=by omega
 have gt2:t2 <= 1000:=by omega
 have HXA:=zH (show ∀ a b n,∀ x∈Gh (Mg L.p a b) n,x<18446744073709551616 from fun a b n=>dT zO fun x hx=>Je (TT (zQ (Cc hL.p)) hx) ya)
 have Wu:=zH (HXA.out co (Nt L.p rd al T) L.k);have Wg:=zH (HXA.out (Qh L li) (yu L.p rd (Hp L.p cs) T) t1);have HX3:=zH (HXA.out (Ck L qu) (ss L.p L.a L.b rd be L.b) t2);clear HXA;generalize yu L.p rd (Hp L.p cs) T=P2 at *;generalize Nt L.p rd al T=P1 at *;generalize ss L.p L.a L.b rd be L.b=P3 at *;generalize Qh L li=M2 at *;generalize Ck L qu=M3 at *;clear tk Pk qi mo hk du Jr mf dF e1 e2 e3 sl ht1 ht2 Ws Na Gv uB hwn Pe Mv gy bE sG oy ya hL hF hr hV hm h0 h2 h3 Fb Vy Vs rq;unfold Ub Xc at *;obtain ⟨kl,kt,kc,kx,ka,da,-⟩:=boxes5 w 35 25 41 53 161 #[vd vo L.p,vd vq L.block,vd vq L.queries,vd vq L.k,vd vq L.n,vd vq L.secret,vd vq L.rows,vd vq L.a,vd vq L.b,vd vq L.b,vd vq L.b] #[vd vo L.p,vd vq pu,vd vq vars,ve A R c] #[ve D0 n0 k0,ve D1 n1 k1,ve D2 n2 k2,ve D3 n3 k3,ve D4 n4 k4] #[vd vo al,vd vo Mb,vd vo be] #[ve vB 0 0,ve vB 0 0,ve vB 0 0];go_enter func79,ntmps79
 go_upto_region 1 with fail
 generalize ((((w.alloc _).alloc _).alloc _).alloc _).alloc _=w1 at kl kt kc kx ka da |-;have cl:=kl.cell;have cc:=kc.cell;go_wp2_with fail
 refine (pA.out _ da).mono ?_;rintro e w2 ⟨vR,rfl,hR,Ca⟩;replace kl:=pa kl Ca;replace kt:=pa kt Ca;replace kc:=pa kc Ca;replace kx:=pa kx Ca;replace ka:=pa ka Ca;replace da:=ta da Ca;clear Ca cl cc pA;obtain ⟨AR,nR,cR,rfl⟩:=RSl.slc hR;have hnR:nR=T:=by rw [<- (Ig hR).1];exact IG.out.1
 subst hnR;have cl:=kl.cell;go_wp2_with fail
 refine (HLe.out _).mono ?_;rintro e w3 ⟨rfl,Ca⟩;replace kl:=pa kl Ca;replace kt:=pa kt Ca;replace kc:=pa kc Ca;replace kx:=pa kx Ca;replace ka:=pa ka Ca;replace da:=ta da Ca;replace hR:=Gk Ca hR;clear Ca cl HLe;go_upto_region 3 with fail
 obtain ⟨kn,ma⟩:=zN w3 108 #[vd vq L.k,vd vq t1,vd vq t2];replace kl:=pa kl ma;replace kt:=pa kt ma;replace kc:=pa kc ma;replace kx:=pa kx ma;replace ka:=pa ka ma;replace da:=ta da ma;replace hR:=Gk ma hR;clear ma;generalize w3.alloc _=w4 at kl kt kc kx ka kn da hR |-;generalize w3.1.size=gn at kn |-;have cl:=kl.cell;have ll:=kl.lt;have ct:=kt.cell;have lt:=kt.lt;have cc:=kc.cell;have lc:=kc.lt;have cx:=kx.cell;have lx:=kx.lt;have cn:=kn.cell;have ln:=kn.lt;refine Jz (Rc) [4,9,10,13,18,25,26,27,30,35,40,41,44,46] [46] [0,1,2,3,5,6,7,8,11,12,14,15,16,17,19,20,21,22,23,24,28,29,31,32,33,34,36,37,38,39,42,43,4,9,10,13,18,25,26,27,30,35,40,41,44,45,46] zK zK ?_;refine Lz (Da) ?_;intro Wc Ga ja;have Pa:=Uf Ga;replace ka:=pa ka Pa;replace da:=ta da Pa;replace hR:=Gk Pa hR;clear Pa;have uv:=Wa da h1;refine Jq ?_;refine tn (Da) rfl rfl rfl (fun _=>by go_simp <;> rfl) ((Gj.out _).mono ?_)
 rintro e w5 ⟨rfl,Bb⟩;refine ⟨_,rfl,fun _=>Bb,?_⟩
 replace ja:=zM Da ja (Bb);refine zPU ?_;replace ka:=pa ka Bb;replace da:=ta da Bb;replace hR:=Gk Bb hR;replace uv:=Wa Bb uv;clear Bb;refine Jq ?_;refine tn (Da) rfl rfl rfl (fun _=>by go_simp <;> rfl) ((Co.out _ _ _ hR).mono ?_)
 rintro e w6 ⟨v6,rfl,h6,Lc⟩;refine ⟨_,rfl,fun _=>Lc,?_⟩
 replace ja:=zM Da ja (Lc);refine zPU ?_;obtain ⟨A6,c6,rfl⟩:=eh h6;replace ka:=pa ka Lc;replace da:=ta da Lc;replace hR:=Gk Lc hR;replace uv:=Wa Lc uv;clear Lc;refine Jq ?_;refine tn (Da) rfl rfl rfl (fun _=>by go_simp <;> rfl) ((HA.out _ _ _ _ _ _ _ _ _ uv h6 zO (zQ s1.out)).mono ?_)
 rintro e w7 ⟨v7,rfl,h7,Zb⟩;refine ⟨_,rfl,fun _=>Zb,?_⟩
 replace ja:=zM Da ja (Zb);refine zPU ?_;obtain ⟨A7,c7,rfl⟩:=eh h7;replace ka:=pa ka Zb;replace da:=ta da Zb;replace hR:=Gk Zb hR;clear Zb h6;refine Jq ?_;refine tn (Da) rfl rfl rfl (fun _=>by go_simp <;> rfl) ((HP.out _ _ _ L.k _ _ h7 (by have:=Fj.out co P1;have:=s1.out;have:=(Pb uv).1;omega) zO).mono ?_)
 rintro e w8 ⟨v8,rfl,o8,Zf⟩;refine ⟨_,rfl,fun _=>Zf,?_⟩
 replace ja:=zM Da ja (Zf);refine zPU ?_;obtain ⟨A8,c8,rfl,-⟩:=Yb o8;have hs8:=da.size;have hk8:=ka.lt;replace o8:=Hg o8 hk8;replace ka:=pa ka Zf;replace da:=ta da Zf;replace hR:=Gk Zf hR;clear Zf h7 uv;refine Jq ?_;refine tn (Da) rfl rfl rfl (fun _=>by go_simp <;> rfl) ((dj.out _ da).mono ?_)
 rintro e w9 ⟨v9,rfl,o9,df⟩;refine ⟨_,rfl,fun _=>df,?_⟩
 replace ja:=zM Da ja (df);refine zPU ?_;rw [HMX.out] at o9;obtain ⟨A9,c9,rfl,-⟩:=Yb o9;have h9:=Sf o9 HMT.out;replace ka:=pa ka df;replace da:=ta da df;replace hR:=Gk df hR;replace o8:=Za o8 df zR;clear df o9;refine Jq ?_;refine tn (Da) rfl rfl rfl (fun _=>by go_simp <;> rfl) ((HW.out _ da).mono ?_)
 rintro e sn ⟨v10,rfl,h10,xh⟩;refine ⟨_,rfl,fun _=>xh,?_⟩
 replace ja:=zM Da ja (xh);refine zPU ?_;obtain ⟨A10,n10,c10,rfl⟩:=RSl.slc h10;have hn10:n10=nR:=by rw [<- (Ig h10).1];exact IG.out.2
 subst hn10;replace ka:=pa ka xh;replace da:=ta da xh;replace hR:=Gk xh hR;replace o8:=Za o8 xh zR;replace h9:=Wa xh h9;clear xh;refine Jq ?_;refine tn (Da) rfl rfl rfl (fun _=>by go_simp <;> rfl) ((Cn.out _ _ _ _ _ hR h10).mono ?_)
 rintro e PI ⟨v11,rfl,h11,EH⟩;refine ⟨_,rfl,fun _=>EH,?_⟩
 replace ja:=zM Da ja (EH);refine zPU ?_;obtain ⟨A11,c11,rfl⟩:=eh h11;replace ka:=pa ka EH;replace da:=ta da EH;replace hR:=Gk EH hR;replace o8:=Za o8 EH zR;replace h9:=Wa EH h9;clear EH h10;refine Jq ?_;refine tn (Da) rfl rfl rfl (fun _=>by go_simp <;> rfl) ((HA.out _ _ _ _ _ _ _ _ _ h9 h11 (zQ s4.out) (zQ s2.out)).mono ?_)
 rintro e Hu ⟨v12,rfl,h12,Tn⟩;refine ⟨_,rfl,fun _=>Tn,?_⟩
 replace ja:=zM Da ja (Tn);refine zPU ?_;obtain ⟨A12,c12,rfl⟩:=eh h12;replace ka:=pa ka Tn;replace da:=ta da Tn;replace hR:=Gk Tn hR;replace o8:=Za o8 Tn zR;clear Tn h9 h11;refine Jq ?_;refine tn (Da) rfl rfl rfl (fun _=>by go_simp <;> rfl) ((HP.out _ _ _ t1 _ _ h12 (by have:=Fj.out M2 P2;have:=s2.out;have:=s4.out;omega) zO).mono ?_)
 rintro e Iu ⟨v13,rfl,Yr,xK⟩;refine ⟨_,rfl,fun _=>xK,?_⟩
 replace ja:=zM Da ja (xK);refine zPU ?_;obtain ⟨A13,c13,rfl,-⟩:=Yb Yr;have hs13:=da.size;have hk13:=ka.lt;replace Yr:=Hg Yr hk13;replace ka:=pa ka xK;replace da:=ta da xK;replace hR:=Gk xK hR;replace o8:=Za o8 xK zR;clear xK h12;refine Jq ?_;refine tn (Da) rfl rfl rfl (fun _=>by go_simp <;> rfl) ((Nq.out _ da).mono ?_)
 rintro e QD ⟨v14,rfl,h14,Fi⟩;refine ⟨_,rfl,fun _=>Fi,?_⟩
 replace ja:=zM Da ja (Fi);refine zPU ?_;obtain ⟨A14,gH,rfl⟩:=eh h14;replace ka:=pa ka Fi;replace da:=ta da Fi;replace hR:=Gk Fi hR;replace o8:=Za o8 Fi zR;replace Yr:=Za Yr Fi zR;clear Fi;refine Jq ?_;refine tn (Da) rfl rfl rfl (fun _=>by go_simp <;> rfl) ((Su.out _ _ _ hR).mono ?_)
 rintro e Hz ⟨v15,rfl,h15,FH⟩;refine ⟨_,rfl,fun _=>FH,?_⟩
 replace ja:=zM Da ja (FH);refine zPU ?_;obtain ⟨A15,c15,rfl⟩:=eh h15;replace ka:=pa ka FH;replace da:=ta da FH;replace o8:=Za o8 FH zR;replace Yr:=Za Yr FH zR;replace h14:=Wa FH h14;clear FH hR;refine Jq ?_;refine tn (Da) rfl rfl rfl (fun _=>by go_simp <;> rfl) ((HA.out _ _ _ _ _ _ _ _ _ h14 h15 (zQ s5.out) (zQ s3.out)).mono ?_)
 rintro e w16 ⟨v16,rfl,h16,Ql⟩;refine ⟨_,rfl,fun _=>Ql,?_⟩
 replace ja:=zM Da ja (Ql);refine zPU ?_;obtain ⟨A16,c16,rfl⟩:=eh h16;replace ka:=pa ka Ql;replace da:=ta da Ql;replace o8:=Za o8 Ql zR;replace Yr:=Za Yr Ql zR;clear Ql h14 h15;refine Jq ?_;refine tn (Da) rfl rfl rfl (fun _=>by go_simp <;> rfl) ((HP.out _ _ _ t2 _ _ h16 (by have:=Fj.out M3 P3;have:=s3.out;have:=s5.out;omega) zO).mono ?_)
 rintro e w17 ⟨v17,rfl,YF,yK⟩;refine ⟨_,rfl,fun _=>yK,?_⟩
 replace ja:=zM Da ja (yK);refine zPU ?_;obtain ⟨A17,c17,rfl,-⟩:=Yb YF;have hs17:=da.size;have hk17:=ka.lt;replace YF:=Hg YF hk17;replace ka:=pa ka yK;replace da:=ta da yK;replace o8:=Za o8 yK zR;replace Yr:=Za Yr yK zR;clear yK h16 cl ll ct lt cc lc cx lx cn ln ja;have ja:=(Da).refl w17;obtain ⟨ca,fa⟩:=ka.cells';refine Jq ?_;refine fh (Da) rfl rfl rfl ?_;go_simp;refine ⟨fun h=>Bool.noConfusion h,?_⟩
 have k3:=Dp ka (ve A8 (Gh (Mg L.p co P1) L.k).length c8) (ve A13 (Gh (Mg L.p M2 P2) t1).length c13) (ve A17 (Gh (Mg L.p M3 P3) t2).length c17);have hg:=Ep (w:=w17) (g:=w.1.size+1+1+1+1) (ve A8 (Gh (Mg L.p co P1) L.k).length c8) (ve A13 (Gh (Mg L.p M2 P2) t1).length c13) (ve A17 (Gh (Mg L.p M3 P3) t2).length c17);have du:=ka.lt;replace da:=Ee da hg;replace o8:=ui o8 hg zO;replace Yr:=ui Yr hg zO;replace YF:=ui YF hg zO;generalize ((vE _ _ _).setCell _ _).setCell _ _=wf at k3 da o8 Yr YF |-;clear ca fa ka hg ja;have ja:=(Da).refl wf;refine Jq ?_;refine Kz ?_;replace o8:=Hg o8 (base':=w.1.size) zO;replace Yr:=Hg Yr (base':=w.1.size) zO;replace YF:=Hg YF (base':=w.1.size) zO;have c4:=k3.cell;go_wp2;exact Uc (v:=vf #[ve A8 (Gh (Mg L.p co P1) L.k).length c8,ve A13 (Gh (Mg L.p M2 P2) t1).length c13,ve A17 (Gh (Mg L.p M3 P3) t2).length c17]) (by simp [results,results79,go_sem,c4]) rfl ⟨_,_,_,rfl,o8,Yr,YF,da⟩
end Go.Proofs.YteoghgbnielkpaaGreat
