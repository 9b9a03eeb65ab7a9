/- A part of the proof. No condition. -/
import Derived.Test.YteoghgbnielkpaaGreatTC8
import Derived.Carry
import Derived.Maps.Views

set_option maxRecDepth 100000
set_option maxHeartbeats 8000000
set_option linter.unusedVariables false
set_option linter.unusedSimpArgs false
namespace Go.Proofs.YteoghgbnielkpaaGreat
open Go.RowKit
open Tryz
open Go renaming World->vw, Value->vx, Addr->vy, Calls->vB
open Go.Value renaming int->vd, slice->ve, agg->vf
open Go.IntKind renaming u64->vn, i64->vq
open Go.Ending renaming returned->vl
open Go.RowKit renaming Below->vA
open Go.World renaming setCell->vF
open Go.Act renaming put->vG
open Option renaming none->vD, some->vE
def ZI (ts:List (Int × Nat)):List Nat:=ts.flatMap fun t=>[t.1.toNat,t.2]
def rA (ts:List (Int × Nat)):List Nat:=ts.length :: ZI ts
def yK (r:Ua):List Nat:=rA (Gc r 0)++rA (Gc r 1)++rA (Gc r 2)
def nu (p:Nat) (pub vars:Int) (rows:List Ua):List Nat:=[p,pub.toNat,vars.toNat,rows.length]++rows.flatMap yK
def Cf (p:Nat) (pub vars:Int) (rows:List Ua):Nat:=if Nc p pub vars rows then rn 21 (nu p pub vars rows) else 0
def iJ (p:Nat) (pub vars:Int) (rows:List Ua) (i:Nat):List Nat:=[p,pub.toNat,vars.toNat,rows.length]++(rows.take i).flatMap yK
def TM (base:List Nat) (r:Ua):Nat -> List Nat
 | 0=>base
 | j+1=>TM base r j++rA (Gc r j)
def zA (base:List Nat) (ts:List (Int × Nat)) (t:Nat):List Nat:=base++ts.length :: ZI (ts.take t)
theorem zGj (p:Nat) (pub vars:Int) (rows:List Ua) {i:Nat} (h:i<rows.length):iJ p pub vars rows (i+1)=TM (iJ p pub vars rows i) rows[i] 3:=by
 unfold iJ;rw [Su h,List.flatMap_append];simp [TM,yK]
theorem zGk (base:List Nat) (ts:List (Int × Nat)):zA base ts ts.length=base++rA ts:=by simp [zA,rA]
theorem zGm (base:List Nat) (ts:List (Int × Nat)):zA base ts 0=base++[ts.length]:=by simp [zA,ZI]
theorem zGl (base:List Nat) (ts:List (Int × Nat)) {t:Nat} (h:t<ts.length):zA base ts (t+1)=zA base ts t++[(ts.getD t (0,0)).1.toNat,(ts.getD t (0,0)).2]:=by
 unfold zA ZI;rw [Su h,List.flatMap_append,Cb,Xb h];simp
theorem J3 (ts:List (Int × Nat)):(ZI ts).length=2*ts.length:=by
 induction ts with
 | nil=>rfl
 | cons t ts ih =>
  show ([t.1.toNat,t.2]++ZI ts).length=_
  rw [Ni,ih];simp
  omega
theorem zD5 (base:List Nat) (ts:List (Int × Nat)) {t:Nat} (h:t <= ts.length):(zA base ts t).length=base.length+1+2*t:=by
 unfold zA;rw [Ni,xg,J3,Ru,Nat.min_eq_left h];omega
theorem zGi (p:Nat) (pub vars:Int) (rows:List Ua):iJ p pub vars rows rows.length=nu p pub vars rows:=by simp [iJ,nu]
def Nn (p s:Nat) (F G:Nat -> Nat) (t:Nat):Nat -> Nat:=Ph (fun k=>(F k+s*G k%p)%p) F t
theorem zA7 (p s g base gb na ca nb cb mb t:Nat) (F G:Nat -> Nat) (w:vw) (hp:Fb p=true) (ka:w.ownsRow base 22 1 (ve (vE ⟨g,0,vD⟩) na ca) na (Oa ((List.range na).map F))) (kb:Blk w gb 22 (Qa mb G)) (hg:g≠gb) (hb:nb <= mb) (ht:t=min na nb) (hm:na <= 65536) :
  vB prog 143 #[fv p,ve (vE ⟨g,0,vD⟩) na ca,ve (vE ⟨gb,0,vD⟩) nb cb,vd vn s] w fun e w'=>e=vl (.tuple #[]) /\ w'.ownsRow base 22 1 (ve (vE ⟨g,0,vD⟩) na ca) na (Oa ((List.range na).map (Nn p s F G t))) /\ w.grownBy w' (vE g):=by
 have HA:=zH (fun a b w=>Om p a b w hp)
 have HM:=zH (fun a b w=>Nq p a b w hp)
 have bU:min (na:Int) (nb:Int)=t:=by omega
 have gl:(na:Int) <= 65536:=by omega
 have lg:g<w.1.size:=(ka.lt g rfl).2;have lgb:=kb.lt;have tF:t <= na:=by omega
 have ht2:t <= nb:=by omega
 have gt:(t:Int) <= 65536:=by omega
 clear ht hp;unfold fv Nn at *;have da:vA w.1.size w (w.alloc (.cells #[vd vn p] 224)):=(Ca _ _).alloc zR _;have kf:=Blk.new w 224 #[vd vn p];have g1:w.1.size≠g:=by omega
 replace ka:=Mc ka da zR;replace kb:=ja kb da;have Va:=Nf (Ee w (vE g)) da zR;clear da;obtain ⟨S,hS⟩:∃ S:Nat -> Nat,S=fun k=>(F k+s*G k%p)%p:=⟨_,rfl⟩
 have HSE:=zH (show ∀ k,(F k+s*G k%p)%p=S k from fun k=>by rw [hS])
 rw [<- hS];clear hS;have HZ:=zH (zH7 na S F);go_enter func143,ntmps143
 go_upto_region 1 with fail
 generalize w.alloc _=w0 at kf ka kb Va |-;go_wp2_with fail
 go_loopw [14] (fun y wr=>∃ i:Nat,i <= t /\ y=vd vq i /\ Blk wr w.1.size 224 #[vd vn p] /\ wr.ownsRow base 22 1 (ve (vE ⟨g,0,vD⟩) na ca) na (Oa ((List.range na).map (Ph S F i))) /\ Blk wr gb 22 (Qa mb G) /\ w.grownBy wr (vE g)) (fun y _=>t-(intOf y).toNat)
 case atStart=>exact ⟨0,Mb _,rfl,kf,by rw [HZ.out];exact ka,kb,Va⟩
 case round =>
  clear kf ka kb Va;obtain ⟨i,hi,rfl,kf,ka,kb,Va⟩:=hrel;by_cases ta:i<t
  ·have q1:(0:Int)<=i:=by omega
   have q2:(i:Int)<t:=by omega
   have q3:(i:Int)<na:=by omega
   have q4:(i:Int)<nb:=by omega
   have dC:i<na:=by omega
   have himb:i<mb:=by omega
   have dz:=zH (HSE.out i);obtain ⟨x,hx⟩:=zEX (F i);obtain ⟨y,hy⟩:=zEX (G i);obtain ⟨u,hu⟩:=zEX (s*y%p);obtain ⟨z,hz⟩:=zEX (S i);have ig:=zH (zH6 (n:=na) (G:=F) hz);rw [<- hx,<- hy,<- hu,<- hz] at dz;have HX:=zH (show (Oa ((List.range na).map (Ph S F i)))[i]?=vE (vd vn x) by rw [zH5 _ _ dC,hx])
   have Gf:Hid (∀ w:vw,vB prog 142 #[vf #[vd vn p],vd vn s,vd vn y] w fun e w'=>e=vl (vd vn u) /\ vA w.1.size w w'):=zH (fun w=>by rw [hu];exact HM.out s y w)
   have HC:Hid (∀ w:vw,vB prog 215 #[vf #[vd vn p],vd vn x,vd vn u] w fun e w'=>e=vl (vd vn z) /\ vA w.1.size w w'):=zH (fun w=>by rw [<- dz.out];exact HA.out x u w)
   have ca1:=ka.cellAt i (by omega)
   rw [HX.out] at ca1;have cb1:=kb.cell i;rw [Mf _ himb,<- hy] at cb1;clear hx hy hz hu;have cf:=kf.cell;have lf:=kf.lt;have la:g<wr.1.size:=(ka.lt g rfl).2;have lb:=kb.lt;go_upto_region 4 with fail
   refine Pg (Ub) (ra) [16] [16] [0,1,2,3,4,5,6,7,8,9,10,11,12,13,14,15,16] (by kernel_rfl) (by kernel_rfl) ?_
   refine Qg (ra) ?_;intro Wc ia;refine Te ?_;refine Dd (ra) rfl rfl rfl rfl (fun _ _ _ h=>h) (fun _=>by go_simp <;> rfl) (fun w' hR=>Gf.out _) ?_
   refine zPU ?_;refine Te ?_;refine Dd (ra) rfl rfl rfl rfl (fun _ _ _ h=>h) (fun _=>by go_simp <;> rfl) (fun w' hR=>HC.out _) ?_
   refine zPU ?_;refine Te ?_;refine jo rfl rfl rfl rfl ?_;intro wh Kd;replace ia:=(ra).trans _ _ _ ia Kd;have Ob:=pa (Ca wr.1.size wr).drew ia;have ZB:=Nf Va Ob Va.size;replace kf:=ja kf Ob;replace ka:=Mc ka Ob zR;replace kb:=ja kb Ob;clear Ob ia Kd cf lf la lb ca1 cb1 Va;have c2:=ka.cellAt i (by omega)
   rw [HX.out] at c2;have f2:=ka.frozenAt i;go_simp;refine ⟨fun h=>Bool.noConfusion h,?_⟩
   obtain ⟨ka,Mg⟩:=ka.stored i (vd vn z);replace kf:=kf.grown Mg (fun e=>g1 (Za e))
   replace kb:=kb.grown Mg (fun e=>hg (Za e).symm)
   rw [ig.out] at ka;have Va:=Pq ZB Mg (fun _ e=>.inl e)
   clear Mg f2 c2 ZB;generalize wh.setCell _ _=we at kf ka kb Va |-;refine Ep rfl ?_;go_wp2_with fail
   go_roundw
   case rel=>exact ⟨i+1,by omega,by go_num,kf,ka,kb,Va⟩
   case measure=>simp [intOf];omega
  ·obtain rfl:i=t:=by omega
   have q2:¬((i:Int)<i):=by omega
   go_wp2;exact bodyPost_end (v:=.tuple #[]) (by simp [results,results143,go_sem]) rfl ⟨rfl,ka,Va⟩
def qA (p N J:Nat) (a b:List Nat):Nat -> Nat:=Xm p N J ((List.range N).map fun i=>Qj p N J a 1 i*Qj p N J b 1 i%p)
theorem zAh (p:Nat) (A B:Option vy) (n c m d J N len:Nat) (a b:List Nat) (w:vw) (hp:Fb p=true) (ha:RWd w [ve A n c] a) (hb:RWd w [ve B m d] b) (Fe:1 <= n) (Un:1 <= m) (hn8:n <= 4096) (hm8:m <= 4096) (hN:Dk p N) (hJ:N=2^J) (hlen:n+m=len+1) (h1:len <= N) (h2:∀ j,j<J -> 2^j<len) :
  vB prog 145 #[fv p,ve A n c,ve B m d] w fun e w'=>∃ g,e=vl (.tuple #[ve (vE ⟨g,0,vD⟩) len N,vd vq 0]) /\ w.1.size <= g /\ Blk w' g 22 (Qa N (qA p N J a b)) /\ vA w.1.size w w':=by
 obtain ⟨jf,Wd⟩:=Pb hp;have hN4:=hN.le;have On:=hN.pos;have HV:=zH (fun w=>Qo p w hp)
 have HR:=zH (fun w=>XQ p N w hp hN)
 have HEa:=zH (fun w' (yi:vA w.1.size w w')=>EW p A n c N J 1 a w' hp (Bb yi ha) hN hJ (by rw [Kj (by omega)];decide) (by omega))
 have HEb:=zH (fun w' (yi:vA w.1.size w w')=>EW p B m d N J 1 b w' hp (Bb yi hb) hN hJ (by rw [Kj (by omega)];decide) (by omega))
 have HM:=zH (fun x y w=>Nq p x y w hp)
 have HI:=zH (fun g l w hl=>WQ p (vE ⟨g,0,vD⟩) N N J l w hp hl hN hJ)
 have HJ:=zH hJ;have H2:=zH h2;have HQ:=zH (show ∀ j,j <= J -> 2^j <= N from fun j hj=>by rw [hJ];exact Io (by decide) hj)
 obtain ⟨Ea,hEa⟩:=zEX (Qj p N J a 1);obtain ⟨Eb,hEb⟩:=zEX (Qj p N J b 1);obtain ⟨Pr,hPr⟩:∃ Pr:Nat -> Nat,Pr=fun i=>Ea i*Eb i%p:=⟨_,rfl⟩
 have xo:=zH (show ∀ i,Ea i*Eb i%p=Pr i from fun i=>by rw [hPr])
 have Ur:=zH (show ∀ i,Pr i<18446744073709551616 from fun i=>by rw [hPr];exact il (ic _ (by omega)) Wd)
 rw [show qA p N J a b=Xm p N J ((List.range N).map Pr) by rw [hPr,hEa,hEb];rfl]
 rw [<- hEa] at HEa;rw [<- hEb] at HEb;have e1:(n:Int)+m=((len+1:Nat):Int):=by omega
 obtain ⟨s,hs⟩:=zEX (len+1);rw [<- hs] at e1;have e2:=ye s;have e3:(s:Int)-1=(len:Int):=by omega
 have e4:=ye len;have d1:((n:Int) == 0)=false:=by rw [Gd];omega
 have d2:((m:Int) == 0)=false:=by rw [Gd];omega
 have z1:¬((n:Int)=0):=by omega
 have z2:¬((m:Int)=0):=by omega
 have z3:¬(n=0):=by omega
 have z4:¬(m=0):=by omega
 have gN:(N:Int) <= 4096:=by omega
 have gl:(len:Int)<=N:=by omega
 have gl2:len <= N:=h1;have gl0:(0:Int)<=len:=by omega
 unfold fv at *;have kf:=Blk.new w 224 #[vd vn p];have da:vA w.1.size w (w.alloc (.cells #[vd vn p] 224)):=(Ca _ _).alloc zR _;clear hEa hEb hPr hJ h2 ha hb hp hN hs hlen h1;go_enter func145,ntmps145
 go_wp2_with fail
 generalize w.alloc _=w1 at kf da |-;refine (HV.out _).mono ?_;rintro e w2 ⟨rfl,xa⟩;replace kf:=ja kf xa;replace da:=pa da xa;clear xa;go_wp2_with fail
 go_loopw [9] (fun v wr=>∃ j q:Nat,j <= J /\ Hid (q=2^j) /\ v=vd vq q /\ Blk wr w.1.size 224 #[vd vn p] /\ vA w.1.size w wr) (fun v _=>8194-(intOf v).toNat)
 case atStart=>exact ⟨0,1,Mb _,zH rfl,rfl,kf,da⟩
 case round =>
  clear kf da;obtain ⟨j,q,hj,HQj,rfl,kf,da⟩:=hrel;by_cases ta:j<J
  ·have Yj:q<len:=by have:=H2.out j ta;rw [HQj.out];exact this
   have Eu:q <= N:=by have:=HQ.out j hj;rw [HQj.out];exact this
   have hq3:1 <= q:=by rw [HQj.out];exact Nat.one_le_two_pow
   have q1:(q:Int)<len:=by omega
   have q2:(q:Int) <= 4096:=by omega
   have q1d:decide ((q:Int)<len)=true:=tb q1;have q2d:decide ((q:Int) <= 4096)=true:=tb q2;obtain ⟨r,hr⟩:=zEX (q*2);have x1:(q:Int)*2=(r:Int):=by omega
   have x2:=ye r;have HQn:Hid (r=2^(j+1)):=zH (by rw [hr,HQj.out,If])
   have hrq:q<r:=by omega
   have Wm:r <= 8192:=by omega
   clear hr;go_wp2
   go_roundw
   case rel=>exact ⟨j+1,r,by omega,HQn,rfl,kf,da⟩
   case measure=>simp [intOf];omega
  ·obtain rfl:j=J:=by omega
   have hqN:q=N:=by rw [HQj.out,HJ.out]
   subst hqN;have q1:¬((q:Int)<len):=by omega
   have q1d:decide ((q:Int)<len)=false:=db q1;clear H2 HQ HQj HJ;have cf:=kf.cell;go_wp2_with fail
   refine (HR.out _).mono ?_;rintro e w3 ⟨rfl,xa⟩;replace kf:=ja kf xa;replace da:=pa da xa;clear xa cf HR;have cf:=kf.cell;go_wp2_with fail
   refine (HEa.out _ da).mono ?_;rintro e w4 ⟨g1,rfl,jg,k1,xa⟩;have dI:=kf.lt;replace kf:=ja kf xa;replace da:=pa da xa;clear xa cf HEa;have cf:=kf.cell;go_wp2_with fail
   refine (HEb.out _ da).mono ?_;rintro e w5 ⟨g2,rfl,Vo,k2,xa⟩;have eI:=k1.lt;replace kf:=ja kf xa;replace k1:=ja k1 xa;replace da:=pa da xa;clear xa cf HEb HV;have hgf:w.1.size<g1:=by omega
   have hg12:g1<g2:=by omega
   have HZ:=zH (uJ q Pr Ea);clear jg Vo dI eI q1d;go_wp2_with fail
   go_loopw [73] (fun y wr=>∃ i:Nat,i <= q /\ y=vd vq i /\ Blk wr w.1.size 224 #[vd vn p] /\ Blk wr g1 22 (Qa q (Ph Pr Ea i)) /\ Blk wr g2 22 (Qa q Eb) /\ vA w.1.size w wr) (fun y _=>q-(intOf y).toNat)
   case atStart=>exact ⟨0,Mb _,rfl,kf,by rw [HZ.out];exact k1,k2,da⟩
   case round =>
    clear kf k1 k2 da;obtain ⟨i,hi,rfl,kf,k1,k2,da⟩:=hrel;by_cases ta:i<q
    ·have q3:(i:Int)<q:=by omega
     have q4:(0:Int)<=i:=by omega
     have c1:=k1.cell i;rw [zD _ _ ta] at c1;have c2:=k2.cell i;rw [Mf _ ta] at c2;have HPi:=zH (xo.out i);obtain ⟨x,hx⟩:=zEX (Ea i);obtain ⟨y,hy⟩:=zEX (Eb i);obtain ⟨z,hz⟩:=zEX (Pr i);have ig:=zH (AD (n:=q) (G:=Ea) hz);have HX:=zH hx;rw [<- hx] at c1 HPi;rw [<- hy] at c2 HPi;rw [<- hz] at HPi;have Gf:=zH (fun w=>by have:=HM.out x y w;rw [HPi.out] at this;exact this)
     clear hx hy hz HPi;have cf:=kf.cell;have lf:=kf.lt;have l1:=k1.lt;have l2:=k2.lt;go_upto_region 20 with fail
     refine Pg (Ub) (ra) [13] [13] [0,1,2,3,4,5,6,7,8,9,10,11,12,13] (by kernel_rfl) (by kernel_rfl) ?_
     refine Qg (ra) ?_;intro Wc ia;refine Te ?_;refine Dd (ra) rfl rfl rfl rfl (fun _ _ _ h=>h) (fun _=>by go_simp <;> rfl) (fun w' hR=>Gf.out _) ?_
     refine zPU ?_;refine Te ?_;refine jo rfl rfl rfl rfl ?_;intro wh Kd;replace ia:=(ra).trans _ _ _ ia Kd;have Ob:=pa (Ca wr.1.size wr).drew ia;replace kf:=ja kf Ob;replace k1:=ja k1 Ob;replace k2:=ja k2 Ob;replace da:=pa da Ob;clear Ob ia Kd cf lf l1 l2 c1 c2;have c3:=k1.cell i;rw [zD _ _ ta,<- HX.out] at c3;have f3:=k1.frozen;go_simp;refine ⟨fun h=>Bool.noConfusion h,?_⟩
     have hg:=Hj (w:=wh) g1 i (vd vn z);replace k1:=k1.set_ i (vd vn z);rw [ig.out] at k1;replace kf:=kf.grown hg (fun e=>by have:=Za e;omega)
     replace k2:=k2.grown hg (fun e=>by have:=Za e;omega)
     replace da:=Ff da hg;clear hg f3 c3;generalize wh.setCell _ _=we at kf k1 k2 da |-;refine Ep rfl ?_;go_wp2_with fail
     go_roundw
     case rel=>exact ⟨i+1,by omega,by go_num,kf,k1,k2,da⟩
     case measure=>simp [intOf];omega
    ·obtain rfl:i=q:=by omega
     have q3:¬((i:Int)<i):=by omega
     rw [ZK] at k1;have hl:=IB k1 (fun k _=>Ur.out k) (by simp [maxLen];omega)
     have cf:=kf.cell;clear k2 k1;go_wp2_with fail
     refine (HI.out _ _ _ hl).mono ?_;rintro e w7 ⟨g3,rfl,Mg,k3,xa⟩;have hs:=da.size;go_wp2
     go_ret2
     exact ⟨g3,rfl,by omega,k3,pa da xa⟩
theorem zEE {p:Nat} (hp:0<p) {a b:List Nat} {x:Nat} (h:x∈Rk p a b):x<p:=by
 unfold Rk at h;cases e:a.length with
 | zero=>rw [e] at h;cases h
 | succ k=>rw [e,ik] at h;exact zHX hp h
def DH (p:Nat):List Nat :=
 if p=97 then [2,3] else if p=193 then [2,3] else if p=12289 then [2,3] else if p=18446744069414584321 then [2,3,5,17,257,65537] else [2]
theorem zDl {p:Nat} (h:Fb p=true):∀ q∈DH p,(p-1)%q=0 /\ EA p 64 (Kb p).1 ((p-1) / q)≠1 /\ EA p 64 (Kb p).1 ((p-1) / q)<p /\ (p-1) / q<2^64:=by
 rcases Dt h with rfl | rfl | rfl | rfl | rfl | rfl | rfl <;> decide +kernel
def jJ:List (Nat × Nat) -> Nat
 | []=>1
 | (q,e) :: l=>q^e*jJ l
def wO (p:Nat):List (Nat × Nat) :=
 if p=97 then [(2,5),(3,1)] else if p=193 then [(2,6),(3,1)] else if p=12289 then [(2,12),(3,1)] else if p=18446744069414584321 then [(2,32),(3,1),(5,1),(17,1),(257,1),(65537,1)] else [(2,(Kb p).2.1)]
theorem zCS {p:Nat} (h:Fb p=true):jJ (wO p)=p-1 /\ ((wO p).map (·.1))=DH p:=by
 rcases Dt h with rfl | rfl | rfl | rfl | rfl | rfl | rfl <;> decide +kernel
theorem zCU {p q:Nat} (h:Fb p=true) (hq:q∈DH p):2 <= q /\ q <= 65537:=by
 have:∀ q∈DH p,2 <= q /\ q <= 65537:=by
  rcases Dt h with rfl | rfl | rfl | rfl | rfl | rfl | rfl <;> decide +kernel
 exact this q hq
theorem vV {p:Nat} {g:Int} (hg:∃ v,Cg p (g*v) 1):∀ (n a b:Nat),a+b <= n -> Cg p (g^a) 1 -> Cg p (g^b) 1 -> Cg p (g^Nat.gcd a b) 1
 | 0,a,b,h,ha,hb=>by
  have h1:a=0:=by omega
  have h2:b=0:=by omega
  subst h1 h2;exact ha
 | n+1,a,b,h,ha,hb=>by
  obtain ⟨v,hv⟩:=hg;rcases Ho a with h0 | h0
  ·subst h0;rw [Nat.gcd_zero_left];exact hb
  rcases Ho b with h1 | h1
  ·subst h1;rw [Nat.gcd_zero_right];exact ha
  have cancel:∀ s t:Nat,Cg p (g^(s+t)) 1 -> Cg p (g^s) 1 -> Cg p (g^t) 1:=fun s t h1 h2=>by
   rw [Int.pow_add] at h1;exact ((Cg.of_eq (Kn _).symm).trans (h2.symm.mul Cg.rfl')).trans h1
  rcases Nat.le_total a b with VH | VH
  ·obtain ⟨d,rfl⟩:∃ d,b=a+d:=⟨b-a,by omega⟩
   have:=vV ⟨v,hv⟩ n a d (by omega) ha (cancel _ _ hb ha)
   rwa [Nat.gcd_self_add_right]
  ·obtain ⟨d,rfl⟩:∃ d,a=b+d:=⟨a-b,by omega⟩
   have:=vV ⟨v,hv⟩ n d b (by omega) (cancel _ _ ha hb) hb
   rwa [Nat.gcd_self_add_left]
theorem zGo:∀ (l:List (Nat × Nat)) (d:Nat),(∀ x∈l,∀ k,k∣x.1 -> k=1 \/ k=x.1) -> d∣jJ l -> d≠jJ l -> ∃ x∈l,d∣jJ l / x.1
 | l,d,hp,hd,Ta=>by
  obtain ⟨m,hm⟩:=hd;have Un:m≠1:=fun e=>by rw [e,Pp] at hm;exact Ta hm.symm
  have key:∀ (l':List (Nat × Nat)),(∀ x∈l',∀ k,k∣x.1 -> k=1 \/ k=x.1) -> (∀ x∈l',¬x.1∣m) -> Nat.Coprime m (jJ l'):=by
   intro l'
   induction l' with
   | nil=>intro _ _;exact Nat.coprime_one_right m
   | cons x l' ih =>
    intro h1 h2;have hc:Nat.Coprime m x.1:=by
     rcases h1 x (.head _) (Nat.gcd m x.1) (Nat.gcd_dvd_right _ _) with e | e
     ·exact e
     ·exact absurd (e ▸ Nat.gcd_dvd_left m x.1) (h2 x (.head _))
    exact Nat.Coprime.mul_right (Nat.Coprime.pow_right _ hc) (ih (fun y hy=>h1 y (.tail _ hy)) fun y hy=>h2 y (.tail _ hy))
  by_cases hx:∃ x∈l,x.1∣m
  ·obtain ⟨x,GC,c,hc⟩:=hx
   refine ⟨x,GC,?_⟩;rcases Ho x.1 with h0 | h0
   ·rw [h0,Nat.div_zero]
    exact Nat.dvd_zero _
   ·rw [hm,hc,<- Nat.mul_assoc,ze d x.1,Nat.mul_assoc,Nat.mul_div_cancel_left _ h0]
    exact Nat.dvd_mul_right _ _
  ·have yj:=key l hp fun x hx' hd'=>hx ⟨x,hx',hd'⟩
   have Xs:m∣jJ l:=by rw [hm];exact Nat.dvd_mul_left _ _
   exact absurd (yj.eq_one_of_dvd Xs) Un
theorem R9:∀ q∈[2,3,5,17,257,65537],∀ k∈List.range 257,q%k=0 -> k=1 \/ k=q:=by decide +kernel
theorem zCT {p q:Nat} (h:Fb p=true) (hq:q∈DH p):∀ k,k∣q -> k=1 \/ k=q:=by
 have Rc:q∈[2,3,5,17,257,65537]:=by
  have:∀ q∈DH p,q∈[2,3,5,17,257,65537]:=by
   rcases Dt h with rfl | rfl | rfl | rfl | rfl | rfl | rfl <;> decide +kernel
  exact this q hq
 obtain ⟨h2,hle⟩:=zCU h hq;intro k ⟨c,hc⟩;rcases Sg k 257 with hk | hk
 ·exact R9 q Rc k (Oi.2 hk) (by rw [hc];exact Nat.mul_mod_right _ _)
 ·have Wh:c<257:=by
   rcases Sg c 257 with h' | h'
   ·exact h'
   ·have:=Nat.mul_le_mul hk h'
    omega
  rcases R9 q Rc c (Oi.2 Wh) (by rw [hc];exact Nat.mul_mod_left _ _) with h' | h'
  ·right;rw [hc,h',Pp]
  ·left
   rw [h'] at hc;have:q*1=q*k:=by rw [Pp,ze];exact hc
   exact (Nat.eq_of_mul_eq_mul_left (by omega) this).symm
theorem DZ {p k:Nat} (h:Fb p=true) (h0:0<k) (hk:k<p-1):¬Cg p (((Kb p).1:Int)^k) 1:=by
 intro hc;have hp:=Pb h;have hinv:∃ v,Cg p (((Kb p).1:Int)*v) 1:=⟨((Kb p).1:Int)^(p-2),by
  rw [Jj,<- jj,show (p-2).succ=p-1 by omega]
  exact JH h⟩
 have hd:=vV hinv _ k (p-1) zR hc (JH h);have aI:Nat.gcd k (p-1)∣p-1:=Nat.gcd_dvd_right _ _;have hdk:Nat.gcd k (p-1) <= k:=Nat.le_of_dvd h0 (Nat.gcd_dvd_left _ _);obtain ⟨e1,e2⟩:=zCS h;have hmem:∀ x∈wO p,x.1∈DH p:=fun x hx=>by rw [<- e2];exact Ed.2 ⟨x,hx,rfl⟩
 obtain ⟨x,hx,hdx⟩:=zGo (wO p) (Nat.gcd k (p-1)) (fun x hx=>zCT h (hmem x hx)) (by rw [e1];exact aI) (by rw [e1];omega)
 rw [e1] at hdx;obtain ⟨-,g1,g2,g3⟩:=zDl h x.1 (hmem x hx);have hs:=oN p 64 (Kb p).1 ((p-1) / x.1) g3;obtain ⟨c,yu⟩:=hdx;have h1:Cg p (((Kb p).1:Int)^((p-1) / x.1)) 1:=by
  rw [yu,Ch];exact (hd.pow c).trans (Cg.of_eq Int.one_pow)
 exact g1 (Cg.eq (p:=p) (hs.trans h1) g2 (by omega))
theorem Q7:∀ (n:Nat) (f:Nat -> Nat),(∀ i,i<n+1 -> f i<n) -> (∀ i j,i<n+1 -> j<n+1 -> f i=f j -> i=j) -> False
 | 0,f,h,_=>absurd (h 0 (by omega)) (Nat.not_lt_zero _)
 | n+1,f,h,hi=>by
  have Ta:∀ i,i<n+1 -> f i≠f (n+1):=fun i h1 e=>by
   have:=hi i (n+1) (by omega) (by omega) e
   omega
  refine Q7 n (fun i=>if f i=n then f (n+1) else f i) (fun i h1=>?_) fun i j h1 h2 e=>?_
  ·split
   ·rename_i e
    have h3:=Ta i h1;have h4:=h (n+1) (by omega)
    omega
   ·have:=h i (by omega)
    omega
  ·change (if f i=n then f (n+1) else f i)=(if f j=n then f (n+1) else f j) at e
   by_cases e1:f i=n <;> by_cases e2:f j=n
   ·exact hi i j (by omega) (by omega) (by omega)
   ·rw [Na e1,ya e2] at e
    exact absurd e.symm (Ta j h2)
   ·rw [ya e1,Na e2] at e
    exact absurd e (Ta i h1)
   ·rw [ya e1,ya e2] at e
    exact hi i j (by omega) (by omega) e
theorem onto {n:Nat} {f:Nat -> Nat} (h:∀ i,i<n -> f i<n) (hi:∀ i j,i<n -> j<n -> f i=f j -> i=j) {y:Nat} (hy:y<n):∃ i,i<n /\ f i=y:=by
 refine yJ fun Du=>?_
 have Ta:∀ i,i<n -> f i≠y:=fun i h1 e=>Du ⟨i,h1,e⟩
 obtain ⟨m,rfl⟩:∃ m,n=m+1:=⟨n-1,by omega⟩
 refine Q7 m (fun i=>if f i=m then y else f i) (fun i h1=>?_) fun i j h1 h2 e=>?_
 ·split
  ·rename_i e
   have:=Ta i h1;omega
  ·have:=h i h1
   omega
 ·change (if f i=m then y else f i)=(if f j=m then y else f j) at e
  by_cases e1:f i=m <;> by_cases e2:f j=m
  ·exact hi i j h1 h2 (by omega)
  ·rw [Na e1,ya e2] at e
   exact absurd e.symm (Ta j h2)
  ·rw [ya e1,Na e2] at e
   exact absurd e (Ta i h1)
  ·rw [ya e1,ya e2] at e
   exact hi i j h1 h2 e
theorem one_ne {p:Nat} (h:Fb p=true):¬Cg p (0:Int) 1:=by
 have hp:=Pb h;intro hc;have:=Cg.eq (p:=p) (a:=0) (b:=1) hc (by omega) (by omega)
 omega
theorem zDm {p a:Nat} (h:Fb p=true) (h0:0<a) (ha:a<p):∃ k,(Kb p).1^k%p=a:=by
 have hp:=Pb h;have Nk:∀ i,0<(Kb p).1^i%p:=fun i=>by
  rcases Ho ((Kb p).1^i%p) with e | e
  ·exfalso
   have h1:Cg p (((Kb p).1:Int)^i) 0:=by
    have h2:=Cg.mod (p:=p) ((Kb p).1^i);rw [e,Bo] at h2;exact h2.symm
   have h2:Cg p ((((Kb p).1:Int)^i)^(p-1)) 1:=by
    rw [<- Ch,ze,Ch];exact ((JH h).pow i).trans (Cg.of_eq Int.one_pow)
   have h3:=(h1.pow (p-1)).symm.trans h2;rw [Int.zero_pow (by omega)] at h3
   exact one_ne h h3
  ·exact e
 obtain ⟨i,-,hi⟩:=onto (n:=p-1) (f:=fun i=>(Kb p).1^i%p-1) (fun i _=>by
   have:=Nk i;have:=ic ((Kb p).1^i) (show p > 0 by omega)
   show (Kb p).1^i%p-1<p-1
   omega) (fun i j h1 h2 e=>by
   have e':(Kb p).1^i%p=(Kb p).1^j%p:=by
    have:=Nk i;have:=Nk j;change (Kb p).1^i%p-1=(Kb p).1^j%p-1 at e
    omega
   have key:∀ i j,i<j -> j<p-1 -> (Kb p).1^i%p=(Kb p).1^j%p -> False:=fun i j hij hj e=>by
    have c1:Cg p (((Kb p).1:Int)^i) (((Kb p).1:Int)^j):=by
     have h1:=Cg.mod (p:=p) ((Kb p).1^i);have h2:=Cg.mod (p:=p) ((Kb p).1^j);rw [e] at h1;rw [Bo] at h1 h2;exact h1.symm.trans h2
    obtain ⟨d,rfl⟩:∃ d,j=i+d:=⟨j-i,by omega⟩
    rw [Int.pow_add] at c1;have c2:Cg p (((Kb p).1:Int)^(i*(p-2))*((Kb p).1:Int)^i) 1:=by
     rw [<- Int.pow_add,show i*(p-2)+i=(p-1)*i by
      rw [ze (p-1),<- Nat.mul_succ]
      congr 1
      omega,Ch]
     exact ((JH h).pow i).trans (Cg.of_eq Int.one_pow)
    have c3:=(Cg.rfl' (x:=((Kb p).1:Int)^(i*(p-2)))).mul c1;rw [<- Ao] at c3;have c4:Cg p (((Kb p).1:Int)^d) 1:=((Cg.of_eq (Kn _).symm).trans (c2.symm.mul Cg.rfl')).trans (c3.symm.trans c2);exact DZ h (by omega) (by omega) c4
   rcases Nat.lt_trichotomy i j with ta | heq | hgt
   ·exact absurd e' fun e=>key i j ta h2 e
   ·exact heq
   ·exact absurd e'.symm fun e=>key j i hgt h1 e) (y:=a-1) (by omega)
 refine ⟨i,?_⟩;have:=Nk i;change (Kb p).1^i%p-1=a-1 at hi
 omega
theorem zDO {p a:Nat} (h:Fb p=true) (h0:0<a) (ha:a<p):Cg p ((a:Int)*((a^(p-2)%p:Nat):Int)) 1:=by
 have hp:=Pb h;obtain ⟨k,hk⟩:=zDm h h0 ha;have h1:Cg p (a:Int) (((Kb p).1:Int)^k):=by
  have:=Cg.mod (p:=p) ((Kb p).1^k);rw [hk,Bo] at this;exact this
 refine (Cg.rfl'.mul (Cg.mod _)).trans ?_;rw [Bo,Jj,<- jj,show (p-2).succ=p-1 by omega]
 refine (h1.pow _).trans ?_;rw [<- Ch,ze,Ch];exact ((JH h).pow k).trans (Cg.of_eq Int.one_pow)
theorem zDL {p a:Nat} (h:Fb p=true) (h0:¬Cg p (a:Int) 0):Cg p ((a:Int)*((a^(p-2)%p:Nat):Int)) 1:=by
 have hp:=Pb h;have h1:a%p≠0:=fun e=>h0 (by
  have:=Cg.mod (p:=p) a;rw [e] at this;exact this.symm)
 have:=zDO h (Nat.pos_of_ne_zero h1) (ic a (by omega))
 rw [<- Nat.pow_mod] at this;exact ((Cg.mod a).symm.mul Cg.rfl').trans this
theorem zDN {p:Nat} {x:Int} (h:Fb p=true) (h0:¬Cg p x 0):∃ v,Cg p (x*v) 1:=by
 have hp:=Pb h;obtain ⟨a,ha⟩:∃ a:Nat,(a:Int)=x%(p:Int):=⟨(x%(p:Int)).toNat,Int.toNat_of_nonneg (Int.emod_nonneg _ (by omega))⟩
 have hx:Cg p x (a:Int):=⟨x / (p:Int),by rw [ha];have:=Int.mul_ediv_add_emod x (p:Int);omega⟩
 exact ⟨_,(hx.mul Cg.rfl').trans (zDL h fun e=>h0 (hx.trans e))⟩
theorem zEG {p:Nat} {x y:Int} (h:Fb p=true) (hxy:Cg p (x*y) 0):Cg p x 0 \/ Cg p y 0:=by
 by_cases hx:Cg p x 0
 ·exact .inl hx
 ·obtain ⟨v,hv⟩:=zDN h hx
  refine .inr ?_;have h1:Cg p y (v*(x*y)):=(Cg.of_eq (Kn y).symm).trans ((hv.symm.mul Cg.rfl').trans (Cg.of_eq (by rw [Jj x v,Ao])))
  exact h1.trans ((Cg.rfl'.mul hxy).trans (Cg.of_eq (Int.mul_zero _)))
def Hs (l:List Nat) (i:Nat):Int:=((l.getD i 0:Nat):Int)
def Ic (l:List Nat) (x:Int):Int:=yb (Hs l) x l.length
theorem WY {a:Nat -> Int} {x:Int} {m:Nat} (h:∀ i,m <= i -> a i=0):∀ t,yb a x (m+t)=yb a x m
 | 0=>rfl
 | t+1=>by
  rw [<- Nat.add_assoc,yb,WY h t,h (m+t) (by omega),Int.zero_mul,Int.add_zero]
theorem xH (l:List Nat) (x:Int) {n:Nat} (h:l.length <= n):yb (Hs l) x n=Ic l x:=by
 obtain ⟨t,rfl⟩:∃ t,n=l.length+t:=⟨n-l.length,by omega⟩
 exact WY (fun i hi=>by rw [Hs,XJ hi];rfl) t
theorem JS (a b:Nat -> Int) (x:Int):∀ n,yb (fun i=>a i+b i) x n=yb a x n+yb b x n
 | 0=>rfl
 | n+1=>by rw [yb,yb,yb,JS a b x n,Int.add_mul];omega
theorem LS (c:Int) (a:Nat -> Int) (x:Int):∀ n,yb (fun i=>c*a i) x n=c*yb a x n
 | 0=>by rw [yb,yb,Int.mul_zero]
 | n+1=>by rw [yb,yb,LS c a x n,Int.mul_add,Ao]
theorem TS (l:List Nat) (n:Nat) (x:Int):Ic (Gy l n) x=Ic l x:=by
 rw [<- xH l x (n:=(Gy l n).length) (by rw [FK];omega)]
 unfold Ic
 congr 1
 funext i
 unfold Hs;rw [DK]
theorem BE {p:Nat} (a b:List Nat) (x:Int):Cg p (Ic (Jq p a b) x) (Ic a x+Ic b x):=by
 have hl:=Ex p a b;rw [<- xH (Jq p a b) x (n:=max a.length b.length) hl,<- xH a x (n:=max a.length b.length) (by omega),<- xH b x (n:=max a.length b.length) (by omega),<- JS]
 refine Po (fun i=>?_) Cg.rfl' _
 unfold Hs;rw [gu];exact (Cg.mod _).trans (Cg.of_eq (Ml _ _))
theorem tO {p:Nat} (a:List Nat) (n:Nat) (x:Int):Cg p (Ic (Gr p a n) x) ((n:Int)*Ic a x):=by
 rw [<- xH (Gr p a n) x (QK p a n),Ic,<- LS];refine Po (fun i=>?_) Cg.rfl' _
 unfold Hs;rw [oJ];exact (Cg.mod _).trans (Cg.of_eq (by rw [Uf,Jj]))
theorem VY (a:Nat -> Int) (x:Int) (k:Nat) (h:∀ i,i<k -> a i=0):∀ n,yb a x (k+n)=x^k*yb (fun i=>a (k+i)) x n
 | 0=>by
  show yb a x k=x^k*0
  rw [Int.mul_zero,uv,<- sD k];have:∀ n,n <= k -> Pa (fun i=>a i*x^i) n=Pa (fun _=>0) n:=fun n=>by
   induction n with
   | zero=>exact fun _=>rfl
   | succ n ih=>intro hn;rw [Pa,Pa,ih (by omega),h n (by omega),Int.zero_mul]
  exact this k zR
 | n+1=>by
  rw [<- Nat.add_assoc,yb,VY a x k h n,yb,Int.mul_add,Int.pow_add]
  congr 1
  rw [<- Ao,<- Ao,Jj (a (k+n))]
theorem zCF (a:List Nat) (k:Nat) (x:Int):Ic (rD a k) x=x^k*Ic a x:=by
 have e:(rD a k).length=k+a.length:=oW a k;unfold Ic;rw [e,VY _ _ k (fun i hi=>by unfold Hs;rw [mN,Na hi];rfl)]
 congr 2
 funext i
 unfold Hs;rw [mN,ya (by omega),XG]
theorem bZ {p:Nat} (a b:List Nat) (x:Int):∀ k,Cg p (Ic (ik p a b k) x) (yb (Hs a) x k*Ic b x)
 | 0=>Cg.of_eq (by rw [ik,yb,Int.zero_mul];rfl)
 | k+1=>by
  rw [ik,yb,Int.add_mul];refine (BE _ _ x).trans ((bZ a b x k).add ?_);rw [zCF];refine (Cg.rfl'.mul (tO b _ x)).trans (Cg.of_eq ?_);rw [<- Ao,Jj (x^k)]
  rfl
theorem SS {p:Nat} (a b:List Nat) (x:Int):Cg p (Ic (Rk p a b) x) (Ic a x*Ic b x):=bZ a b x _
theorem Mq {p x:Nat} (l:List Nat):Cg p (Lc p l x:Int) (Ic l x):=RJ l
def Sk (a:Nat -> Int) (r:Int) (n i:Nat):Int:=yb (fun j=>a (i+j)) r (n-i)
theorem b8 (a:Nat -> Int) (r:Int) {n i:Nat} (h:i<n):Sk a r n i=a i+r*Sk a r n (i+1):=by
 unfold Sk;rw [show n-i=(n-(i+1))+1 by omega,QS]
 rw [ss]
 congr 3
 funext j
 congr 1
 omega
theorem c8 (a:Nat -> Int) (r x:Int) (n:Nat):∀ m,m <= n -> yb a x m=Sk a r n 0+(x-r)*yb (fun i=>Sk a r n (i+1)) x m-Sk a r n m*x^m
 | 0,_=>by rw [yb,yb,Int.mul_zero,Int.pow_zero];omega
 | m+1,h=>by
  rw [yb,c8 a r x n m (by omega),yb,b8 a r (i:=m) (by omega),jj]
  grind
theorem zGx (a:Nat -> Int) (r x:Int) (n:Nat):yb a x (n+1)=yb a r (n+1)+(x-r)*yb (fun i=>Sk a r (n+1) (i+1)) x n:=by
 have h:=c8 a r x (n+1) (n+1) zR;have h1:Sk a r (n+1) (n+1)=0:=by unfold Sk;rw [Nat.sub_self];rfl
 have h0:Sk a r (n+1) 0=yb a r (n+1):=by
  unfold Sk;rw [Nat.sub_zero]
  congr 1
  funext j
  rw [Lj]
 rw [h1,h0,Int.zero_mul,Int.sub_zero] at h;have e:yb (fun i=>Sk a r (n+1) (i+1)) x (n+1)=yb (fun i=>Sk a r (n+1) (i+1)) x n:=by rw [yb,h1,Int.zero_mul,Int.add_zero]
 rw [h,e]
theorem RX {p:Nat} (h:Fb p=true):∀ (n:Nat) (a:Nat -> Int) (xs:Nat -> Int),(∀ i j,i<n -> j<n -> i≠j -> ¬Cg p (xs i) (xs j)) -> (∀ k,k<n -> Cg p (yb a (xs k) n) 0) -> ∀ i,i<n -> Cg p (a i) 0
 | 0,_,_,_,_=>fun i hi=>absurd hi (Nat.not_lt_zero _)
 | n+1,a,xs,hx,hr=>by
  have hq:∀ i,i<n -> Cg p (Sk a (xs n) (n+1) (i+1)) 0:=RX h n (fun i=>Sk a (xs n) (n+1) (i+1)) xs (fun i j hi hj Ta=>hx i j (by omega) (by omega) Ta) fun k hk=>by
   have h1:=hr k (by omega)
   rw [zGx a (xs n) (xs k) n] at h1;have h2:=hr n (by omega)
   have h3:Cg p ((xs k-xs n)*yb (fun i=>Sk a (xs n) (n+1) (i+1)) (xs k) n) 0:=by
    have:=(h1.trans h2.symm);obtain ⟨c,hc⟩:=this;exact ⟨c,by rw [<- hc];omega⟩
   rcases zEG h h3 with h4 | h4
   ·exact absurd (by obtain ⟨c,hc⟩:=h4;exact ⟨c,by rw [<- hc];omega⟩) (hx k n (by omega) (by omega) (by omega))
   ·exact h4
  have Sv:∀ i,i<n+1 -> Cg p (Sk a (xs n) (n+1) (i+1)) 0:=fun i hi=>by
   rcases Sg i n with h1 | h1
   ·exact hq i h1
   ·have e:i=n:=by omega
    subst e;unfold Sk;rw [Nat.sub_self];exact Cg.rfl'
  have h0:Cg p (Sk a (xs n) (n+1) 0) 0:=by
   have e:Sk a (xs n) (n+1) 0=yb a (xs n) (n+1):=by
    unfold Sk;rw [Nat.sub_zero]
    congr 1
    funext j
    rw [Lj]
   rw [e];exact hr n (by omega)
  intro i hi;have hs:=b8 a (xs n) hi;have h1:Cg p (Sk a (xs n) (n+1) i) 0:=by
   cases i with
   | zero=>exact h0
   | succ i=>exact Sv i (by omega)
  rw [hs] at h1;have h2:=(Cg.rfl' (p:=p) (x:=xs n)).mul (Sv i hi);rw [Int.mul_zero] at h2;obtain ⟨c,hc⟩:=h1;obtain ⟨d,hd⟩:=h2;exact ⟨c-d,by rw [Int.mul_sub,<- hc,<- hd];omega⟩
theorem zHh {p n:Nat} (h:Fb p=true) {a b:Nat -> Int} {xs:Nat -> Int} (hx:∀ i j,i<n -> j<n -> i≠j -> ¬Cg p (xs i) (xs j)) (hv:∀ k,k<n -> Cg p (yb a (xs k) n) (yb b (xs k) n)):∀ i,i<n -> Cg p (a i) (b i):=fun i hi=>by
 have:=RX h n (fun i=>a i+(-1)*b i) xs hx (fun k hk=>by
  rw [JS,LS];exact ((hv k hk).add (Cg.rfl' (x:=(-1)*yb b (xs k) n))).trans (Cg.of_eq (by omega))) i hi
 obtain ⟨c,hc⟩:=this;exact ⟨c,by rw [<- hc];omega⟩
theorem E7 (p:Nat) (A:Option vy) (n c x:Nat) (l:List Nat) (w:vw) (hp:Fb p=true) (hl:RWd w [ve A n c] l) :
  vB prog 249 #[fv p,ve A n c,vd vn x] w fun e w'=>e=vl (vd vn ((Ys p x l:Nat):Int)) /\ vA w.1.size w w':=by
 obtain ⟨rfl,h1,h2,ta,Ra⟩:=Nb hl;have gm:=um h1 h2;have HM:=zH (fun a b w=>Nq p a b w hp)
 have HA:=zH (fun a b w=>Om p a b w hp)
 have HD:=zH (zDx p x l);obtain ⟨f,hf⟩:=zEX (fun k=>Ys p x (l.drop k))
 have Xw:=zH (show f 0=Ys p x l by rw [hf];rfl)
 have HF9:=zH (show f l.length=0 by rw [hf];simp [Ys])
 have HF:=zH (fun k (hk:k<l.length)=>show f k=(f (k+1)*x%p+l.getD k 0)%p by rw [hf];exact HD.out k hk)
 rw [<- Xw.out];clear HD hl h1 h2 hp ta hf Xw;obtain ⟨m,hm⟩:∃ m:Int,m=(l.length:Int)-1:=⟨_,rfl⟩;have g0:(l.length:Int)-1=m:=hm.symm;have gw:vq.wrap m=m:=Vk _ (by omega) (by omega)
 have ND:=zH hm;clear hm;unfold fv at *;have kf:=Blk.new w 224 #[vd vn p];have da:vA w.1.size w (w.alloc (.cells #[vd vn p] 224)):=(Ca _ _).alloc zR _;go_enter func249,ntmps249
 go_upto_region 1 with fail
 generalize w.alloc _=w0 at kf da |-;go_wp2_with fail
 clear g0 gw;go_loopw [7,8] (fun y i wr=>∃ (k:Nat) (j:Int),Hid (j+1=(k:Int)) /\ k <= l.length /\ i=vd vq j /\ y=vd vn (f k:Int) /\ Blk wr w.1.size 224 #[vd vn p] /\ vA w.1.size w wr) (fun _ i _=>(intOf i+1).toNat)
 case atStart=>exact ⟨l.length,m,zH (by have:=ND.out;omega),zR,rfl,by rw [HF9.out];rfl,kf,da⟩
 case round =>
  clear kf da;obtain ⟨k,j,HJ,hk,rfl,rfl,kf,hb⟩:=hrel;rcases Ho k with h0 | h0
  ·subst h0
   have hj:j=-1:=by have:=HJ.out;omega
   subst hj;go_wp2;go_ret
   exact ⟨rfl,hb⟩
  ·obtain ⟨i,hi⟩:=zEX (k-1)
   have hj:j=(i:Int):=by have:=HJ.out;omega
   subst hj;have cF:i<l.length:=by omega
   obtain ⟨b,q,rfl,Gb,hc⟩:=Fg (Ra.below hb) cF;have Jp:=zH (HF.out i cF);rw [show i+1=k by omega] at Jp
   obtain ⟨y,hy⟩:=zEX (f k);rw [<- hy] at Jp |-;generalize l.getD i 0=a at *;obtain ⟨z,hz⟩:=zEX (y*x%p);have Gf:=zH (fun w=>by have:=HM.out y x w;rw [<- hz] at this;exact this)
   rw [<- hz] at Jp;have xk:=zH (fun w=>by have:=HA.out z a w;rw [<- Jp.out] at this;exact this)
   have HI:=zH hi;obtain ⟨y2,JC⟩:=zEX (f i);rw [<- JC] at xk;have HY2:=zH JC;have gi1:(0:Int)<=i:=by omega
   have gi2:(i:Int)<l.length:=by omega
   obtain ⟨j2,Uz⟩:∃ j2:Int,j2=(i:Int)-1:=⟨_,rfl⟩;have gj:(i:Int)-1=j2:=Uz.symm;have gw:vq.wrap j2=j2:=Vk _ (by omega) (by omega)
   have HJ2:=zH Uz;clear hz hy hi Jp JC Uz;have cf:=kf.cell;have lf:=kf.lt;go_upto_region 5 with fail
   refine Pg (Ub) (ra) [] [] [0,1,2,3,4,5,6,7,8,9,10] (by kernel_rfl) (by kernel_rfl) ?_
   refine Qg (ra) ?_;intro Wc ia;refine Je ?_;refine Dd (ra) rfl rfl rfl rfl (fun _ _ _ h=>h) (fun _=>by go_simp <;> rfl) (fun w' hR=>Gf.out _) ?_
   refine zPU ?_;refine Je ?_;refine Dd (ra) rfl rfl rfl rfl (fun _ _ _ h=>h) (fun _=>by go_simp <;> rfl) (fun w' hR=>xk.out _) ?_
   refine zPU ?_;refine Je ?_;refine Kr rfl ?_;intro wd ke;replace ia:=(ra).trans _ _ _ ia ke;clear ke;have Ob:=pa (Ca wr.1.size wr).drew ia;replace kf:=ja kf Ob;replace hb:=pa hb Ob;clear Ob ia cf lf;go_wp2
   go_roundw
   case rel=>exact ⟨i,j2,zH (by have:=HJ2.out;omega),by omega,rfl,by rw [HY2.out],kf,hb⟩
   case measure=>have:=HJ2.out;simp [intOf];omega
theorem zAg (p s n:Nat) (w:vw) (hp:Fb p=true) (hn:Dk p n) (hs:s%p≠0) :
  vB prog 292 #[fv p,vd vn s,vd vq n] w fun e w'=>∃ g,e=vl (.tuple #[ve (vE ⟨g,0,vD⟩) n n,vd vq 0]) /\ w.1.size <= g /\ Blk w' g 22 (Qa n (Fh p s n)) /\ vA w.1.size w w':=by
 have Cu:=hn.le;have HV:=zH (fun w=>Qo p w hp)
 have HR:=zH (fun w=>XQ p n w hp hn)
 have HD:=zH (fun w=>BH p s w hp)
 have HM:=zH (fun a b w=>Nq p a b w hp)
 obtain ⟨r,hr⟩:=zEX (Be p n);obtain ⟨x0,hx0⟩:=zEX (s%p);obtain ⟨F,hF⟩:=zEX (Fh p s n);have Xw:=zH (show F 0=x0 by rw [hF,hx0];rfl)
 have HF:=zH (show ∀ k,F (k+1)=F k*r%p from fun k=>by rw [hF,hr];rfl)
 rw [<- hr] at HR;rw [<- hx0] at HD hs;rw [<- hF];have d0:((x0:Int) == 0)=false:=by rw [Gd];omega
 have mk:=nw n (by omega)
 have gn:(n:Int) <= 4096:=by omega
 have gn0:(0:Int)<=n:=by omega
 clear hr hx0 hF hp hn hs;unfold fv at *;have kf:=Blk.new w 224 #[vd vn p];have da:vA w.1.size w (w.alloc (.cells #[vd vn p] 224)):=(Ca _ _).alloc zR _;go_enter func292,ntmps292
 go_wp2_with fail
 generalize w.alloc _=w1 at kf da |-;refine (HV.out _).mono ?_;rintro e w2 ⟨rfl,xa⟩;replace kf:=ja kf xa;replace da:=pa da xa;clear xa;have cf:=kf.cell;go_wp2_with fail
 refine (HR.out _).mono ?_;rintro e w3 ⟨rfl,xa⟩;replace kf:=ja kf xa;replace da:=pa da xa;clear xa cf;have cf:=kf.cell;go_wp2_with fail
 refine (HD.out _).mono ?_;rintro e w4 ⟨rfl,xa⟩;replace kf:=ja kf xa;replace da:=pa da xa;clear xa cf;have cf:=kf.cell;go_wp2_with fail
 have kg:=Blk.new w4 22 (Qa n fun _=>0)
 have ma:=(Ca w4.1.size w4).alloc zR (.cells (Qa n fun _=>0) 22)
 have jg:w.1.size<w4.1.size:=kf.lt;replace kf:=ja kf ma;replace da:=pa da ma;clear ma mk cf;generalize w4.alloc _=w5 at kf kg da |-;generalize w4.1.size=g at kg jg |-;have H0:=zH (uJ n F fun _=>0)
 go_loopw [1,34] (fun y i wr=>∃ k:Nat,k <= n /\ i=vd vq k /\ y=vd vn (F k:Int) /\ Blk wr w.1.size 224 #[vd vn p] /\ Blk wr g 22 (Qa n (Ph F (fun _=>0) k)) /\ vA w.1.size w wr) (fun _ i _=>n-(intOf i).toNat)
 case atStart=>exact ⟨0,Mb _,rfl,by rw [Xw.out],kf,by rw [H0.out];exact kg,da⟩
 case round =>
  clear kf kg da;obtain ⟨k,hk,rfl,rfl,kf,kg,da⟩:=hrel;by_cases ta:k<n
  ·have q1:(k:Int)<n:=by omega
   have q2:(0:Int)<=k:=by omega
   obtain ⟨z,hz⟩:=zEX (F k);obtain ⟨z2,Qe⟩:=zEX (F (k+1));have ig:=zH (AD (n:=n) (G:=fun _=>0) hz)
   have Jp:=zH (HF.out k);rw [<- hz,<- Qe] at Jp;have Gf:=zH (fun w=>by have:=HM.out z r w;rw [<- Jp.out] at this;exact this)
   have HZ2:=zH Qe;rw [<- hz];clear hz Qe Jp;have cg:=kg.cell k;rw [zD _ _ ta] at cg;have fg:=kg.frozen;have lg:=kg.lt;have cf:=kf.cell;have lf:=kf.lt;have nfg:w.1.size≠g:=by omega
   go_upto_region 12 with fail
   have hg:=Hj (w:=wr) g k (vd vn z);replace kg:=kg.set_ k (vd vn z);rw [ig.out] at kg;replace kf:=Ce kf hg;replace da:=Ff da hg;clear hg cg fg lg cf lf;generalize wr.setCell _ _=w6 at kf kg da |-;have cf:=kf.cell;go_wp2_with fail
   refine (Gf.out _).mono ?_;rintro e w7 ⟨rfl,xa⟩;replace kf:=ja kf xa;replace kg:=ja kg xa;replace da:=pa da xa;clear xa cf;go_wp2_with fail
   go_roundw
   case rel=>exact ⟨k+1,by omega,by go_num,by rw [HZ2.out],kf,kg,da⟩
   case measure=>simp [intOf];omega
  ·obtain rfl:k=n:=by omega
   have q1:¬((k:Int)<k):=by omega
   rw [ZK] at kg;go_wp2
   go_ret2
   exact ⟨g,rfl,by omega,kg,da⟩
theorem H7 (L:Ma) (w:vw) (hL:Lb L) :
  vB prog 248 #[vf (jb L)] w fun e w'=>∃ g1 g2,e=vl (.tuple #[ve (vE ⟨g1,0,vD⟩) L.block L.block,ve (vE ⟨g2,0,vD⟩) L.n L.n]) /\ Blk w' g1 22 (Qa L.block (Fh L.p 1 L.block)) /\ Blk w' g2 22 (Qa L.n (Fh L.p (Kb L.p).1 L.n)) /\ w.1.size <= g1 /\ w.1.size <= g2 /\ vA w.1.size w w':=by
 obtain ⟨jf,Wd⟩:=Pb hL.p;have H1:=zH (fun w=>zAg L.p 1 L.block w hL.p (yy hL).1 (by rw [Kj (by omega)];decide))
 have H2:=zH (fun w=>zAg L.p (Kb L.p).1 L.n w hL.p (IP hL).1 (EZ hL.p))
 have HG:=zH (fun w=>bT L.p w hL.p)
 generalize (Kb L.p).1=gn at *;clear hL jf Wd;unfold jb fv at *;obtain ⟨kl,kf,da,ib⟩:=Eh w 101 224 #[vd vn L.p,vd vq L.block,vd vq L.queries,vd vq L.k,vd vq L.n,vd vq L.secret,vd vq L.rows,vd vq L.a,vd vq L.b,vd vq L.b,vd vq L.b] #[vd vn L.p];go_enter func248,ntmps248
 go_upto_region 2 with fail
 generalize (w.alloc _).alloc _=w1 at kl kf da ib |-;have Bd:w.1.size+2 <= w1.1.size:=by omega
 clear ib;have cl:=kl.cell;have cf:=kf.cell;have ll:=kl.lt;have lf:=kf.lt;go_wp2_with fail
 refine (H1.out _).mono ?_;rintro e w2 ⟨g1,rfl,jg,k1,xa⟩;replace kl:=ja kl xa;replace kf:=ja kf xa;replace da:=pa da xa;have qe:=xb Bd xa.size;clear xa cl cf ll lf;have cl:=kl.cell;have cf:=kf.cell;have ll:=kl.lt;have lf:=kf.lt;go_upto_region 3 with fail
 refine zd (Ub) [2,5] [0,1,3,4,2,5,6,7,8,9,10] (by kernel_rfl) (by kernel_rfl) ?_
 refine Se (ra) ?_;intro Wc Ja ia;have Ka:=Tf Ja;replace k1:=ja k1 Ka;replace da:=pa da Ka;have rF:=xb qe Ka.size;refine Qb ?_;refine Bc (ra) rfl rfl rfl (fun _=>by go_simp <;> rfl) ((HG.out _).mono ?_)
 rintro e w3 ⟨rfl,Sa⟩;refine ⟨_,rfl,Sa,?_⟩;replace ia:=(ra).trans _ _ _ ia (Sa);refine zPU ?_;replace k1:=ja k1 Sa;replace da:=pa da Sa;have hs4:=xb rF Sa.size;refine Qb ?_;refine Bc (ra) rfl rfl rfl (fun _=>by go_simp <;> rfl) ((H2.out _).mono ?_)
 rintro e w4 ⟨g2,rfl,Vo,k2,Ab⟩;refine ⟨_,rfl,Ab,?_⟩;replace ia:=(ra).trans _ _ _ ia (Ab);refine zPU ?_;replace k1:=ja k1 Ab;replace da:=pa da Ab;refine Qb ?_;refine Jc ?_;go_wp2
 go_ret2
 exact ⟨g1,g2,rfl,k1,k2,by omega,by omega,da⟩
theorem zEu (n:Nat) (hn:n <= 1000000) (w:vw) :
  (Instr.makeSlice 39 (vd vq 0) (vd vq n)).run prog w= .ok (ve (vE ⟨w.1.size,0,vD⟩) 0 n) (w.alloc (.cells (Vg n fun _=>ve vD 0 0) 28)):=by
 obtain ⟨ht,⟨i,hi,hz,hs,Wl⟩,JI,ib⟩:=Ez;have:=run_make (P:=prog) w 39 28 i _ ht hi hz vq vq 0 (n:Int) (by omega) (by omega) (by rw [Wl];omega) (by omega)
 rw [Bk,hs,p5] at this;exact this
theorem zFg (n base:Nat) (hn:n <= 1000000) (w:vw) (hb:base <= w.1.size):(w.alloc (.cells (Vg n fun _=>ve vD 0 0) 28)).ownsRow base 28 1 (ve (vE ⟨w.1.size,0,vD⟩) 0 n) 0 [] :=
 World.ownsRow_made w _ n hb (by simp [maxLen];omega) (by simp [Vg])
theorem zEh (L:Ma) (A0 A1 A2 A3 A4 AM:Option vy) (n0 n1 n2 n3 n4 nM c0 c1 c2 c3 c4 cM:Nat) (m r:List (List Nat)) (co li qu:List Nat) (w:vw) (hL:Lb L)
  (hm:Jg w [ve AM nM cM] m) (hr:Jg w [ve A0 n0 c0] r) (hc:RWd w [ve A1 n1 c1] co) (hl:RWd w [ve A2 n2 c2] li) (hq:RWd w [ve A3 n3 c3] qu)
  (hlen:m.length=r.length) (zj:∀ x∈m,x.length=L.block) (dA:∀ x∈r,x.length <= 2000) (hT:m.length <= 400000) (h1:co.length <= 2000) (h2:li.length <= 2000) (h3:qu.length <= 2000) :
  vB prog 60 #[vf (jb L),ve AM nM cM,vf #[ve A0 n0 c0,ve A1 n1 c1,ve A2 n2 c2,ve A3 n3 c3,ve A4 n4 c4]] w fun e w'=>∃ v,e=vl v /\ ((∀ q,v.ownBlock=vE q -> w.1.size <= q) /\ ∀ u:vw,(∀ b,w.1.size <= b -> b<w'.1.size -> u.1[b]?=w'.1[b]?) -> Jg u [v] ((List.range L.n).map fun i=>(List.range (m.length+3)).map (Js L (Fj L m r co li qu) i))) /\ vA w.1.size w w':=by
 have hp:=hL.p;have Ze:=Pb hp;have Ba:=hL.b2;obtain ⟨hmn,-,-,hMd⟩:=Gj hm;obtain ⟨xI,-,-,ke⟩:=Gj hr;subst hmn;subst xI;have Xe:=zF2 L m r co li qu;have Zs:=zF3 (L:=L) (m:=m) (r:=r) (c:=co) (l:=li) (q:=qu) Ba dA h1 h2 h3;have HEv:=zH (fun A k c l w hl hk=>EW L.p A k c L.n L.n.log2 (Kb L.p).1 l w hp hl (IP hL).1 (IP hL).2 (EZ hp) hk)
 have HGen:=zH (fun w=>bT L.p w hp)
 have HCV:=zH (show ∀ ps i,(List.range (m.length+3)).map (Js L ps i)=(List.range (m.length+3)).map (fun j=>Qj L.p L.n L.n.log2 (ps.getD j []) (Kb L.p).1 i) from fun _ _=>rfl)
 have CN:=zH (fun A B n c m d msg rf w hl hk hn hm=>X4 L A B n c m d msg rf w hL hl hk hn hm)
 have Ot:=zH (fun w' (hb:vA w.1.size w w')=>U4 L (ve A0 r.length c0) (ve A2 n2 c2) (ve A3 n3 c3) (ve A4 n4 c4) A1 n1 c1 co w' ⟨_,_,_,rfl⟩ ⟨_,_,_,rfl⟩ ⟨_,_,_,rfl⟩ ⟨_,_,_,rfl⟩ (Bb hb hc) (by have:=(Nb hc).1;omega))
 have FG:=zH (fun w' (hb:vA w.1.size w w')=>V4 L (ve A0 r.length c0) (ve A1 n1 c1) (ve A3 n3 c3) (ve A4 n4 c4) A2 n2 c2 li w' hL ⟨_,_,_,rfl⟩ ⟨_,_,_,rfl⟩ ⟨_,_,_,rfl⟩ ⟨_,_,_,rfl⟩ (Bb hb hl) (by have:=(Nb hl).1;omega))
 have HQu:=zH (fun w' (hb:vA w.1.size w w')=>W4 L (ve A0 r.length c0) (ve A1 n1 c1) (ve A2 n2 c2) (ve A4 n4 c4) A3 n3 c3 qu w' hL ⟨_,_,_,rfl⟩ ⟨_,_,_,rfl⟩ ⟨_,_,_,rfl⟩ ⟨_,_,_,rfl⟩ (Bb hb hq) (by have:=(Nb hq).1;omega))
 have hlt1:=(Nb hc).2.2.2.1;have jm:=(Nb hl).2.2.2.1;have e1:=(Nb hc).1;have e2:=(Nb hl).1;have e3:=(Nb hq).1;have Zb:=zH (And.intro hlt1 jm);subst e1 e2 e3;clear hlt1 jm hc hl hq hm hr;have Rg:=zH hlen;have GG:=zH zj;have tx:=zH dA;have Kl:=zH Ze;have HL:=zH hL;have Vd:=hL.n2;have bU:min (m.length:Int) (r.length:Int)=m.length:=Int.min_eq_left (by omega)
 obtain ⟨T,ME⟩:=zEX (m.length);obtain ⟨M,IE⟩:=zEX (m.length+3);have x1:(m.length:Int)+3=(M:Int):=by omega
 have x2:=ye M;have x3:(M:Int) <= 400003:=by omega
 have x4:(0:Int)<=M:=by omega
 have x5:(m.length:Int) <= 400000:=by omega
 have PH:M <= 400003:=by omega
 have hM1':M <= 1000000:=by omega
 rw [<- IE];have ND:=zH IE;rw [<- IE] at Xe HCV;obtain ⟨ps,dq⟩:=zEX (Fj L m r co li qu);rw [<- dq] at Xe Zs |-;have Qu:=zH (show Hy L m r m.length++[co,sg L li,VM L qu]=ps from dq.symm)
 have Gn:=zH Xe;have xo:=zH Zs;replace HCV:=zH (HCV.out ps);clear dq Xe Zs;obtain ⟨gen,hgen⟩:=zEX ((Kb L.p).1);rw [<- hgen] at HEv HGen HCV;clear hgen;have HFF:=zH (show ∀ k q,Qj L.p L.n L.n.log2 (ps.getD q []) gen k<18446744073709551616 from fun k q=>il (uO (by have:=Kl.out;omega) _ _ _ _ _) Kl.out.2)
 have mk0:=zEu M (by omega)
 have mkC:=C5 L.n (by omega)
 have mkM:=nw M (by omega)
 clear hlen zj dA Ze hL hp IE ME;unfold jb fv at *;obtain ⟨kl,kc,kf,da,ib⟩:=Sp w 101 41 224 #[vd vn L.p,vd vq L.block,vd vq L.queries,vd vq L.k,vd vq L.n,vd vq L.secret,vd vq L.rows,vd vq L.a,vd vq L.b,vd vq L.b,vd vq L.b] #[ve A0 r.length c0,ve A1 co.length c1,ve A2 li.length c2,ve A3 qu.length c3,ve A4 n4 c4] #[vd vn L.p];go_enter func60,ntmps60
 go_upto_region 2 with fail
 generalize ((w.alloc _).alloc _).alloc _=w1 at kl kc kf da ib |-;have HZ:=zH ib;clear ib;have cc:=kc.cell;go_upto_region 3 with fail
 have Aa:=zFg M w1.1.size hM1' w1 zR;have ma:=(Ca w1.1.size w1).alloc zR (.cells (Vg M fun _=>ve vD 0 0) 28)
 have On:w1.1.size <= (w1.alloc (.cells (Vg M fun _=>ve vD 0 0) 28)).1.size:=ma.size
 replace kl:=ja kl ma;replace kc:=ja kc ma;replace kf:=ja kf ma;replace da:=pa da ma;clear ma cc mk0;obtain ⟨N,ti⟩:=zEX (w1.1.size);have xN:w.1.size+3 <= N:=by rw [ti,HZ.out];omega
 rw [<- ti] at Aa On |-;clear ti HZ;generalize w1.alloc _=w2 at kl kc kf da Aa On |-;have cc:=kc.cell;go_wp2_with fail
 clear cc;go_loopw [8,31] (fun u y wr=>∃ (i:Nat) (v:vx) (cs:List vx),v=u /\ i <= m.length /\ y=vd vq i /\ Blk wr w.1.size 101 #[vd vn L.p,vd vq L.block,vd vq L.queries,vd vq L.k,vd vq L.n,vd vq L.secret,vd vq L.rows,vd vq L.a,vd vq L.b,vd vq L.b,vd vq L.b] /\ Blk wr (w.1.size+1) 41 #[ve A0 r.length c0,ve A1 co.length c1,ve A2 li.length c2,ve A3 qu.length c3,ve A4 n4 c4] /\ Blk wr (w.1.size+1+1) 224 #[vd vn L.p] /\ wr.ownsRow N 28 1 v i cs /\ Qr N wr v cs (Hy L m r i) /\ vA w.1.size w wr /\ N <= wr.1.size) (fun _ y _=>m.length-(intOf y).toNat)
 case atStart=>exact ⟨0,_,[],rfl,Mb _,rfl,kl,kc,kf,Aa,LZ _ _ _,da,On⟩
 case round =>
  clear kl kc kf Aa da On;obtain ⟨i,v,cs,rfl,hi,rfl,kl,kc,kf,Aa,Va,da,Oe⟩:=hrel;by_cases ta:i<m.length
  ·have q1:(0:Int)<=i:=by omega
   have q2:(i:Int)<m.length:=by omega
   have q3:(i:Int)<r.length:=by have:=Rg.out;omega
   obtain ⟨bm,qm,Am,lm,cm,rfl,hbm0,hcm0,hrm0⟩:=Ju hMd ta;have Xl:=(da.cell (p:=⟨bm,qm+i,vD⟩) hbm0).trans hcm0;have xC:=Bb da hrm0;have hbm:bm<N:=by omega
   obtain ⟨br,qr,Ar,lr,cr,rfl,hbr0,hcr0,hrr0⟩:=Ju ke (show i<r.length by have:=Rg.out;omega)
   have ey:=(da.cell (p:=⟨br,qr+i,vD⟩) hbr0).trans hcr0;have Xq:=Bb da hrr0;have Db:br<N:=by omega
   have z1:=(Nb xC).1;have z2:=(Nb Xq).1;have z3:lm=L.block:=by have:=GG.out _ (zf ta);omega
   have z4:lr <= 2000:=by have:=tx.out _ (zf (show i<r.length by have:=Rg.out;omega));omega
   have HC:=zH (fun w' (hb:vA wr.1.size wr w')=>CN.out Am Ar lm cm lr cr m[i] _ w' (Bb hb xC) (Bb hb Xq) z3 (by omega))
   have Dq:=zH (show (List.range (L.block+lr)).map (Iu L m[i] (r[i]'(by have:=Rg.out;omega)))=ZF L m r i by
    unfold ZF;rw [Cb,Cb,Xb ta,Xb (show i<r.length by have:=Rg.out;omega)]
    simp only [Option.getD_some]
    first | rw [z2] | rw [<- z2])
   have HMX:=zH (show ∀ k,Iu L m[i] (r[i]'(by have:=Rg.out;omega)) k<18446744073709551616 from fun k=>il (G5 (by have:=Kl.out;omega) _ _ _) Kl.out.2)
   have HNX:=zH (zF1 L m r i);revert HC Dq HMX
   generalize Iu L m[i] (r[i]'(by have:=Rg.out;omega))=PF
   intro HC Dq HMX;clear z1 z2 z3 xC Xq hrm0 hrr0 hcm0 hcr0;have n1:w.1.size<N:=by omega
   have n2:w.1.size+1<N:=by omega
   have cl:=kl.cell;have ll:=kl.lt;have cc:=kc.cell;have lc:=kc.lt;go_upto_region 6 with fail
   refine zd (Nu N) [11,12,13] [0,1,2,3,4,5,6,7,8,9,10,11,12,13,14] (by kernel_rfl) (by kernel_rfl) ?_
   refine Se (te N) ?_;intro Wc Ja ia;refine Mt ?_;have Ka:=Tf Ja;have dc:=Ka.size;have hNw0:=Oe;refine Bc (te N) rfl rfl rfl (fun _=>by go_simp <;> rfl) ((HC.out _ Ka).mono ?_)
   rintro e w3 ⟨g',rfl,Sm,Ye,Sa⟩;refine ⟨_,rfl,zv Sa (xb hNw0 dc),?_⟩;replace ia:=(te N).trans _ _ _ ia (zv Sa (xb hNw0 dc));refine zPU ?_;have Ab:=pa Ka Sa;have hNg:N <= g':=by omega
   have hvg:vE g'≠v.ownBlock:=fun e=>by have:=(Aa.lt _ e.symm).2;omega
   replace kl:=ja kl Ab;replace kc:=ja kc Ab;replace kf:=ja kf Ab;replace Aa:=Mc Aa Ab zR;replace Va:=NB Va Ab;replace da:=pa da Ab;replace Oe:=xb Oe Ab.size;have hNd:=xb dc Sa.size;have hrx:Qi N v.ownBlock w3 (ve (vE ⟨g',0,vD⟩) (L.block+lr) (L.block+lr)) (ZF L m r i):=by
    rw [<- Dq.out];exact MQ Ye (fun k _=>HMX.out k) (by simp [maxLen];omega) hNg hvg
   have HNd:=zH (And.intro hNd (show wr.1.size <= w3.1.size from Ab.size))
   clear Ye Sa Ab hNg hvg Sm dc Ka HC Ja ia cl ll cc lc hNd;have ia:=(te N).refl w3;refine Mt ?_;refine ef (te N) rfl rfl rfl ?_;go_simp;refine ⟨zv ((Ca _ _).alloc zR _) Oe,?_⟩;have ma:=(Ca w3.1.size w3).alloc zR (.cells #[ve (vE ⟨g',0,vD⟩) (L.block+lr) (L.block+lr)] 28);have Ra:=Ew w3 (ve (vE ⟨g',0,vD⟩) (L.block+lr) (L.block+lr)) 28;replace hrx:=oD hrx ma.size (fun b _ h2 _=>ma.block b h2)
   replace kl:=ja kl ma;replace kc:=ja kc ma;replace kf:=ja kf ma;replace Aa:=Mc Aa ma zR;replace Va:=NB Va ma;replace da:=pa da ma;replace Oe:=xb Oe ma.size;have HNe:=zH (xb HNd.out.2 ma.size)
   refine zPU ?_
   generalize w3.alloc _=w4 at kl kc kf Aa Va hrx da Ra Oe HNe |-;generalize w3.1.size=g7 at Ra |-;clear ma HNd ia;have ia:=(te N).refl w4;refine Mt ?_;refine ef (te N) rfl rfl rfl ?_;refine Mw _ _ rfl Ez rfl Aa rfl Ra (by intro u hu;simp at hu;subst hu;rfl) (by omega) Oe ?_
   intro v' wn Rb Wa Dc;have Yc:∀ q,v.ownBlock=vE q -> N <= q:=fun q e=>(Aa.lt q e).1
   have NH:=tp Aa Wa Oe;refine ⟨NH,?_⟩;have iy:=KZ Va hrx Wa Dc;rw [HNX.out] at iy;replace kl:=kl.grown Wa (fun e=>by have:=Yc _ e.symm;omega)
   replace kc:=kc.grown Wa (fun e=>by have:=Yc _ e.symm;omega)
   replace kf:=kf.grown Wa (fun e=>by have:=Yc _ e.symm;omega)
   replace da:=da.trans (NH.mono (by omega))
   have Ih:N <= wn.1.size:=by have:=Wa.size;omega
   clear Aa Va hrx Wa Dc Yc Ra ia NH HNe Oe;have ia:=(te N).refl wn
   refine zPU ?_
   refine Mt ?_;refine Jc ?_;go_wp2
   go_roundw
   case rel=>exact ⟨i+1,v',_,rfl,by omega,by go_num,kl,kc,kf,Rb,iy,da,Ih⟩
   case measure=>simp [intOf];omega
  ·obtain rfl:i=m.length:=by omega
   have g2:¬((m.length:Int)<m.length):=by omega
   clear hMd ke CN;have cl:=kl.cell;have cc:=kc.cell;have n1:w.1.size<N:=by omega
   have n2:w.1.size+1<N:=by omega
   go_upto_region 8 with fail
   refine zd (Nu N) [3,6,9,10,11] [0,1,2,4,5,7,8,3,6,9,10,11,12] (by kernel_rfl) (by kernel_rfl) ?_
   refine Se (te N) ?_;intro Wc Ja ia;refine Mt ?_;have Ka:=Tf Ja;replace kl:=ja kl Ka;replace kc:=ja kc Ka;replace kf:=ja kf Ka;replace Aa:=Mc Aa Ka zR;replace Va:=NB Va Ka;replace da:=pa da Ka;replace Oe:=xb Oe Ka.size;clear Ka Ja cl cc;refine Bc (te N) rfl rfl rfl (fun _=>by go_simp <;> rfl) ((Ot.out _ da).mono ?_)
   rintro e w3 ⟨v1,rfl,o1,Sa⟩;refine ⟨_,rfl,zv Sa Oe,?_⟩;replace ia:=(te N).trans _ _ _ ia (zv Sa Oe);refine zPU ?_;have Xi:∀ q,v.ownBlock=vE q -> q<Wc.1.size:=fun q e=>(Aa.lt q e).2
   have Zc:Qi N v.ownBlock w3 v1 co:=fW o1 Zb.out.1 Oe Xi;obtain ⟨A1',jv,rfl,-⟩:=de o1;replace kl:=ja kl Sa;replace kc:=ja kc Sa;replace kf:=ja kf Sa;replace Aa:=Mc Aa Sa zR;replace Va:=NB Va Sa;replace da:=pa da Sa;replace Oe:=xb Oe Sa.size;clear Sa o1 ia Xi;have ia:=(te N).refl w3;refine Bc (te N) rfl rfl rfl (fun _=>by go_simp <;> rfl) ((FG.out _ da).mono ?_)
   rintro e w4 ⟨v2,rfl,o2,Ab⟩;refine ⟨_,rfl,zv Ab Oe,?_⟩;replace ia:=(te N).trans _ _ _ ia (zv Ab Oe);refine zPU ?_;have ah:∀ q,v.ownBlock=vE q -> q<w3.1.size:=fun q e=>(Aa.lt q e).2
   have Yi:Qi N v.ownBlock w4 v2 (sg L li):=fW o2 (by
    have hp:=Kl.out;intro x hx;rcases Dh.1 hx with rfl | hx
    ·exact il (yM (by omega) _ _) hp.2
    ·exact Zb.out.2 x hx) Oe ah
   obtain ⟨A2',yz,rfl,-⟩:=de o2;replace Zc:=oD Zc Ab.size (fun b _ h2 _=>Ab.block b h2)
   replace kl:=ja kl Ab;replace kc:=ja kc Ab;replace kf:=ja kf Ab;replace Aa:=Mc Aa Ab zR;replace Va:=NB Va Ab;replace da:=pa da Ab;replace Oe:=xb Oe Ab.size;clear Ab o2 ia ah;have ia:=(te N).refl w4;refine Bc (te N) rfl rfl rfl (fun _=>by go_simp <;> rfl) ((HQu.out _ da).mono ?_)
   rintro e w5 ⟨g3,rfl,Mg,k3,Ya⟩;refine ⟨_,rfl,zv Ya Oe,?_⟩;replace ia:=(te N).trans _ _ _ ia (zv Ya Oe);refine zPU ?_;have ry:vE g3≠v.ownBlock:=fun e=>by have:=(Aa.lt _ e.symm).2;omega
   have FC:Qi N v.ownBlock w5 (ve (vE ⟨g3,0,vD⟩) (L.block+qu.length) (L.block+qu.length)) (VM L qu) :=
    MQ k3 (fun k _=>il (DD (by have:=Kl.out;omega) _ _ _) Kl.out.2) (by simp [maxLen];omega) (by omega) ry
   replace Zc:=oD Zc Ya.size (fun b _ h2 _=>Ya.block b h2)
   replace Yi:=oD Yi Ya.size (fun b _ h2 _=>Ya.block b h2)
   replace kl:=ja kl Ya;replace kc:=ja kc Ya;replace kf:=ja kf Ya;replace Aa:=Mc Aa Ya zR;replace Va:=NB Va Ya;replace da:=pa da Ya;replace Oe:=xb Oe Ya.size;clear Ya k3 Mg ia ry Ot FG HQu kc;have ia:=(te N).refl w5;refine ef (te N) rfl rfl rfl ?_;go_simp;refine ⟨zv ((Ca _ _).alloc zR _) Oe,?_⟩;have ma:=(Ca w5.1.size w5).alloc zR (.cells #[ve A1' co.length jv,ve A2' (li.length+1) yz,ve (vE ⟨g3,0,vD⟩) (L.block+qu.length) (L.block+qu.length)] 28);have Ra:=zGO w5 (ve A1' co.length jv) (ve A2' (li.length+1) yz) (ve (vE ⟨g3,0,vD⟩) (L.block+qu.length) (L.block+qu.length)) 28;replace Zc:=oD Zc ma.size (fun b _ h2 _=>ma.block b h2)
   replace Yi:=oD Yi ma.size (fun b _ h2 _=>ma.block b h2)
   replace FC:=oD FC ma.size (fun b _ h2 _=>ma.block b h2)
   replace kl:=ja kl ma;replace kf:=ja kf ma;replace Aa:=Mc Aa ma zR;replace Va:=NB Va ma;replace da:=pa da ma;replace Oe:=xb Oe ma.size
   refine zPU ?_
   generalize w5.alloc _=w6 at kl kf Aa Va Zc Yi FC da Ra Oe |-;generalize w5.1.size=g7 at Ra |-;clear ma ia;have ia:=(te N).refl w6;refine Mt ?_;refine ef (te N) rfl rfl rfl ?_;refine Mw _ _ rfl Ez rfl Aa rfl Ra (by intro u hu;simp at hu;rcases hu with rfl | rfl | rfl <;> rfl) (by omega) Oe ?_
   intro v' wn Rb Wa Dc;have Yc:∀ q,v.ownBlock=vE q -> N <= q:=fun q e=>(Aa.lt q e).1
   have NH:=tp Aa Wa Oe;refine ⟨NH,?_⟩;have iy:=zDq Va Zc Yi FC Wa Dc;replace kl:=kl.grown Wa (fun e=>by have:=Yc _ e.symm;omega)
   replace kf:=kf.grown Wa (fun e=>by have:=Yc _ e.symm;omega)
   replace da:=da.trans (NH.mono (by omega))
   have K0:=xT iy Rb;clear Aa Va Zc Yi FC Wa Dc Yc Ra ia NH Oe iy;have ia:=(te N).refl wn
   refine zPU ?_
   refine Mt ?_;refine Jc ?_;rw [Qu.out] at K0;rw [<- ND.out] at Rb;obtain ⟨Ap,cp,rfl,Pz,-⟩:=de Rb;clear Rb ia Qu ND Rg GG tx Zb;obtain ⟨-,-,Xl,hPd⟩:=Gj K0;obtain ⟨gC,hgC⟩:=zEX (wn.1.size);have y0:w.1.size+3 <= gC:=by rw [hgC];have:=da.size;have:=kf.lt;omega
   have lM:M <= maxLen:=by simp [maxLen];omega
   have hmaxn:max (0:Int) (L.n:Int)=L.n:=Int.max_eq_right (by omega)
   have xn:(L.n:Int) <= 1024:=by omega
   have cl:=kl.cell;go_upto_region 10 with fail
   have kC:=Blk.new wn 28 (Vg L.n fun _=>ve vD 0 0)
   have ma:=(Ca wn.1.size wn).alloc zR (.cells (Vg L.n fun _=>ve vD 0 0) 28)
   have hs7:(wn.alloc (.cells (Vg L.n fun _=>ve vD 0 0) 28)).1.size=gC+1:=by rw [hgC];simp
   rw [<- hgC] at kC ma |-;clear cl mkC;generalize wn.alloc _=w7 at kC ma hs7 |-;rw [lT (g:=fun k=>if k<0 then yd M (gC+1+k) else ve vD 0 0) (fun k _=>by simp)] at kC
   have HGC:=zH hgC;have HS7:=zH hs7;clear hgC hs7;go_wp2_with fail
   go_loopw [67] (fun y wr=>∃ i:Nat,i <= L.n /\ y=vd vq i /\ Blk wr gC 28 (Vg L.n fun k=>if k<i then yd M (gC+1+k) else ve vD 0 0) /\ Hid (∀ k,k<i -> Blk wr (gC+1+k) 22 (Qa M fun _=>0)) /\ Hid (wr.1.size=gC+1+i) /\ vA gC wn wr) (fun y _=>L.n-(intOf y).toNat)
   case atStart=>exact ⟨0,Mb _,rfl,kC,fun k h=>by omega,HS7.out,ma⟩
   case round =>
    clear kC ma HS7;obtain ⟨i,hi,rfl,kC,HK,dB,Jh⟩:=hrel;by_cases ta:i<L.n
    ·have q1:(0:Int)<=i:=by omega
     have q2:(i:Int)<L.n:=by omega
     have cC:=kC.cell i;rw [jT _ ta,ya (Nat.lt_irrefl i)] at cC;have lC:=kC.lt;have fC:=kC.frozen;go_wp2_with fail
     have gy:=dB.out;rw [gy];have hg:=Hj (w:=wr) gC i (yd M (gC+1+i));replace kC:=kC.set_ i (yd M (gC+1+i));rw [zCY,lT (g:=fun k=>if k<i+1 then yd M (gC+1+k) else ve vD 0 0) (fun k _=>by
      by_cases e:k=i
      ·subst e;simp
      ·rw [ya e]
       by_cases e2:k<i
       ·rw [Na e2,Na (by omega)]
       ·rw [ya e2,ya (by omega)])] at kC
     have Pu:Hid (∀ k,k<i -> Blk (wr.setCell ⟨gC,i,vD⟩ (yd M (gC+1+i))) (gC+1+k) 22 (Qa M fun _=>0)):=fun k h=>(HK.out k h).grown hg (fun e=>by have:=Za e;omega)
     have sM:(wr.setCell ⟨gC,i,vD⟩ (yd M (gC+1+i))).1.size=gC+1+i:=by simp [vF];exact gy
     replace Jh:=Jh.trans (Rp hg (by have:=Jh.size;have:=HGC.out;omega) zR)
     clear hg HK gy dB cC fC lC;generalize wr.setCell _ _=w8 at kC Pu sM Jh |-;have ma:=(Ca w8.1.size w8).alloc zR (.cells (Qa M fun _=>0) 22)
     have kN:=Blk.new w8 22 (Qa M fun _=>0)
     have HSN:=zH (show (w8.alloc (.cells (Qa M fun _=>0) 22)).1.size=gC+1+(i+1) by simp;omega)
     rw [sM] at kN;replace kC:=ja kC ma;have HK3:Hid (∀ k,k<i+1 -> Blk (w8.alloc (.cells (Qa M fun _=>0) 22)) (gC+1+k) 22 (Qa M fun _=>0)):=fun k h=>by
      by_cases e:k=i
      ·subst e;exact kN
      ·exact (Pu.out k (by omega)).below ma (Pu.out k (by omega)).lt
     replace Jh:=Jh.trans (ma.mono (by omega))
     clear ma kN Pu sM;generalize w8.alloc _=w9 at kC HK3 HSN Jh |-
     go_roundw
     case rel=>exact ⟨i+1,by omega,by go_num,kC,HK3,HSN,Jh⟩
     case measure=>simp [intOf];omega
    ·obtain rfl:i=L.n:=by omega
     rw [lT (g:=fun k=>yd M (gC+1+k)) (fun k hk=>Na hk)] at kC
     have hs9:gC+1+L.n <= wr.1.size:=by rw [dB.out];omega
     have Pu:Hid (∀ k,k<L.n -> Blk wr (gC+1+k) 22 (Qa M fun q=>if q<0 then Qj L.p L.n L.n.log2 (ps.getD q []) gen k else 0)):=fun k h=>by
      have:=HK.out k h;rw [tl (g:=fun q=>if q<0 then Qj L.p L.n L.n.log2 (ps.getD q []) gen k else 0) (fun q _=>by simp)] at this
      exact this
     clear HK dB mkM;go_wp2_with fail
     go_loopw [79] (fun y wr=>∃ j:Nat,j <= M /\ y=vd vq j /\ Blk wr gC 28 (Vg L.n fun k=>yd M (gC+1+k)) /\ Hid (∀ k,k<L.n -> Blk wr (gC+1+k) 22 (Qa M fun q=>if q<j then Qj L.p L.n L.n.log2 (ps.getD q []) gen k else 0)) /\ gC+1+L.n <= wr.1.size /\ vA gC wn wr) (fun y _=>M-(intOf y).toNat)
     case atStart=>exact ⟨0,Mb _,rfl,kC,Pu,hs9,Jh⟩
     case round =>
      clear kC Pu hs9 Jh;obtain ⟨j,hj,rfl,kC,HK,ib,Jh⟩:=hrel;by_cases ta:j<M
      ·have q1:(0:Int)<=j:=by omega
       have q2:(j:Int)<M:=by omega
       obtain ⟨bp,qp,Aj,lj,cj,rfl,hbp,hcp',qF⟩:=Ju hPd (show j<ps.length by rw [Gn.out];exact ta)
       have hbp2:bp<gC:=by rw [HGC.out];exact hbp
       have UE:=(Jh.cell (p:=⟨bp,qp+j,vD⟩) hbp2).trans hcp';have hbn2:vA wn.1.size wn wr:=by rw [<- HGC.out];exact Jh
       have hrj:=Bb hbn2 qF;have hgd:ps[j]'(by rw [Gn.out];exact ta)=ps.getD j []:=by rw [Cb,Xb];rfl
       have iF:lj <= 8192:=by have h1:=xo.out _ (zf (show j<ps.length by rw [Gn.out];exact ta));have h2:=(Nb qF).1;omega
       rw [hgd] at hrj;have HE:=zH (fun w' (hb:vA wr.1.size wr w')=>HEv.out Aj lj cj (ps.getD j []) w' (Bb hb hrj) iF)
       have Al:=kl.below Jh (show w.1.size<gC by omega)
       have rp:=kf.below Jh (show w.1.size+1+1<gC by omega)
       have cl:=Al.cell;have ll:=Al.lt;have cf:=rp.cell;have lf:=rp.lt;clear hcp' qF hrj hgd hbn2;have hbpw:bp<wr.1.size:=by omega
       go_upto_region 18 with fail
       refine zd (Ub) [3,6] [0,1,2,4,5,3,6,7,8,9,10,11] (by kernel_rfl) (by kernel_rfl) ?_
       refine Se (ra) ?_;intro Wc Ja ia;refine Qb ?_;have Ka:=Tf Ja;refine Bc (ra) rfl rfl rfl (fun _=>by go_simp <;> rfl) ((HGen.out _).mono ?_)
       rintro e w3 ⟨rfl,Sa⟩;refine ⟨_,rfl,Sa,?_⟩;replace ia:=(ra).trans _ _ _ ia (Sa);refine zPU ?_;have Ab:=pa Ka Sa;refine Qb ?_;refine Bc (ra) rfl rfl rfl (fun _=>by go_simp <;> rfl) ((HE.out _ Ab).mono ?_)
       rintro e w5 ⟨gv,rfl,hgv,kv,Ya⟩;refine ⟨_,rfl,Ya,?_⟩;replace ia:=(ra).trans _ _ _ ia (Ya);refine zPU ?_;have sc:=pa Ab Ya;have hgv2:wr.1.size <= gv:=xb Ab.size hgv;replace kC:=ja kC sc;have Pu:Hid (∀ k,k<L.n -> Blk w5 (gC+1+k) 22 (Qa M fun q=>if q<j \/ (q=j /\ k<0) then Qj L.p L.n L.n.log2 (ps.getD q []) gen k else 0)):=fun k h=>by
        have:=(HK.out k h).below sc (HK.out k h).lt;rw [tl (g:=fun q=>if q<j \/ (q=j /\ k<0) then Qj L.p L.n L.n.log2 (ps.getD q []) gen k else 0) (fun q _=>by simp)] at this
        exact this
       have hbn3:=Jh.trans (sc.mono (by omega))
       have hsz2:=xb ib sc.size;have hgv3:gC+1+L.n <= gv:=by omega
       clear Ka Sa Ab Ya sc Ja ia HK Jh ib cl ll cf lf Al rp HE UE hgv;refine Qb ?_;refine Jc ?_;obtain ⟨V,hV⟩:∃ V:Nat -> Nat -> Nat,V=fun q k=>Qj L.p L.n L.n.log2 (ps.getD q []) gen k:=⟨_,rfl⟩
       have HV:=zH hV;rw [show Qj L.p L.n L.n.log2 (ps.getD j []) gen=V j by rw [hV]] at kv
       replace Pu:Hid (∀ k,k<L.n -> Blk w5 (gC+1+k) 22 (Qa M fun q=>if q<j \/ (q=j /\ k<0) then V q k else 0)):=by rw [hV];exact Pu
       clear hV;go_wp2_with fail
       go_loopw [96] (fun y wr=>∃ i:Nat,i <= L.n /\ y=vd vq i /\ Blk wr gC 28 (Vg L.n fun k=>yd M (gC+1+k)) /\ Hid (∀ k,k<L.n -> Blk wr (gC+1+k) 22 (Qa M fun q=>if q<j \/ (q=j /\ k<i) then V q k else 0)) /\ gC+1+L.n <= wr.1.size /\ vA gC wn wr /\ Blk wr gv 22 (Qa L.n (V j))) (fun y _=>L.n-(intOf y).toNat)
       case atStart=>exact ⟨0,Mb _,rfl,kC,Pu,hsz2,hbn3,kv⟩
       case round =>
        clear kC Pu hsz2 hbn3 kv;obtain ⟨i,hi,rfl,kC,HK,ib,Jh,kv⟩:=hrel;by_cases oC:i<L.n
        ·have p1:(0:Int)<=i:=by omega
         have p2:(i:Int)<L.n:=by omega
         obtain ⟨x,hx⟩:=zEX (V j i);have cv:=kv.cell i;rw [Mf _ oC,<- hx] at cv;have lv:=kv.lt;have cC:=kC.cell i;rw [jT _ oC] at cC;have lC:=kC.lt;obtain ⟨gi,gy⟩:=zEX (gC+1+i);have kI:Blk wr gi 22 (Qa M fun q=>if q<j \/ (q=j /\ i<i) then V q i else 0):=by rw [gy];exact HK.out i oC
         have cI:=kI.cell j;rw [Mf _ ta] at cI;generalize (if j<j \/ (j=j /\ i<i) then V j i else 0)=old at cI
         have lI:=kI.lt;have fI:=kI.frozen;rw [<- gy] at cC;have ngC:gi≠gC:=by omega
         have ngv:gi≠gv:=by omega
         dsimp only [yd] at cC
         have HGI:=zH gy;have Jn:=zH hx;clear gy hx;go_wp2_with fail
         have hg:=Hj (w:=wr) gi j (vd vn x);have hK2:Hid (∀ k,k<L.n -> Blk (wr.setCell ⟨gi,j,vD⟩ (vd vn x)) (gC+1+k) 22 (Qa M fun q=>if q<j \/ (q=j /\ k<i+1) then V q k else 0)):=fun k h=>by
          by_cases e:k=i
          ·subst e
           have h2:=kI.set_ j (vd vn x);rw [Oq] at h2;rw [<- HGI.out];rw [tl (g:=fun q=>if q<j \/ (q=j /\ k<k+1) then V q k else 0) (fun q _=>by
            simp only [xf];by_cases e:q=j
            ·subst e;rw [Na rfl,Na (by omega),Jn.out]
            ·rw [ya e]
             by_cases e2:q<j
             ·rw [Na (.inl e2),Na (.inl e2)]
             ·rw [ya (by omega),ya (by omega)])] at h2
           exact h2
          ·have h2:=(HK.out k h).grown hg (fun e2=>by have:=Za e2;have:=HGI.out;omega)
           rw [tl (g:=fun q=>if q<j \/ (q=j /\ k<i+1) then V q k else 0) (fun q _=>by
            by_cases e2:q<j \/ (q=j /\ k<i)
            ·rw [Na e2,Na (by omega)]
            ·rw [ya e2,ya (by omega)])] at h2
           exact h2
         replace kC:=kC.grown hg (fun e=>ngC (Za e).symm)
         replace kv:=kv.grown hg (fun e=>ngv (Za e).symm)
         replace ib:=xb ib hg.size;replace Jh:=Jh.trans (Rp hg (by have:=Jh.size;have:=HGC.out;omega) (by have:=HGI.out;omega))
         clear hg HK kI cI cC cv lI fI lC lv Jn
         go_roundw
         case rel=>exact ⟨i+1,by omega,by go_num,kC,hK2,ib,Jh,kv⟩
         case measure=>simp [intOf];omega
        ·obtain rfl:i=L.n:=by omega
         have HK3:Hid (∀ k,k<L.n -> Blk wr (gC+1+k) 22 (Qa M fun q=>if q<j+1 then Qj L.p L.n L.n.log2 (ps.getD q []) gen k else 0)):=fun k h=>by
          have h2:=HK.out k h;rw [tl (g:=fun q=>if q<j+1 then Qj L.p L.n L.n.log2 (ps.getD q []) gen k else 0) (fun q _=>by
           rw [HV.out];by_cases e2:q<j+1
           ·rw [Na e2,Na (by omega)]
           ·rw [ya e2,ya (by omega)])] at h2
          exact h2
         clear HK kv;go_wp2
         go_roundw
         case rel=>exact ⟨j+1,by omega,by go_num,kC,HK3,ib,Jh⟩
         case measure=>simp [intOf];omega
      ·obtain rfl:j=M:=by omega
       go_wp2;go_ret
       have jy:w.1.size <= gC:=by have:=HGC.out;have:=da.size;omega
       refine ⟨_,rfl,⟨fun q e=>by have e':gC=q:=Za e;omega,fun u hu=>?_⟩,da.trans (Jh.mono (by omega))⟩
       rw [show (fun i=>(List.range j).map (Js L ps i))=fun i=>(List.range j).map fun q=>Qj L.p L.n L.n.log2 (ps.getD q []) gen i from funext fun i=>HCV.out i]
       have kCu:Blk u gC 28 _:=(hu gC jy kC.lt).trans kC;refine uT (N:=gC+1) (gb:=vD) (cs:=Vg L.n fun k=>yd j (gC+1+k)) (fun k hk=>⟨_,jT _ hk,?_⟩) kCu (by simp [maxLen];omega)
       have h2:=HK.out k hk;rw [tl (g:=fun q=>Qj L.p L.n L.n.log2 (ps.getD q []) gen k) (fun q hq=>Na hq)] at h2
       have h3:Blk u (gC+1+k) 22 _:=(hu (gC+1+k) (by omega) h2.lt).trans h2
       exact MQ h3 (fun q _=>HFF.out k q) lM (by omega) (fun e=>by cases e)
def bW (L:Ma) (m r:List (List Nat)) (k:Nat):List Nat:=fN L (m.getD k []) (r.getD k [])
theorem zDn {p a b:Nat} (h:Fb p=true) (VH:a<b) (hb:b-a<p-1):¬Cg p (((Kb p).1:Int)^a) (((Kb p).1:Int)^b):=fun hc=>by
 have hp:=Pb h;refine DZ h (k:=b-a) (by omega) hb ?_
 have hv:Cg p (((Kb p).1:Int)*((Kb p).1:Int)^(p-2)) 1:=by
  have:=JH h;rw [show p-1=(p-2)+1 by omega,jj,Jj] at this
  exact this
 have h1:Cg p (((Kb p).1:Int)^a*(((Kb p).1:Int)^(p-2))^a) 1:=by
  rw [<- Int.mul_pow];exact (hv.pow a).trans (Cg.of_eq Int.one_pow)
 have h2:Cg p (((Kb p).1:Int)^b*(((Kb p).1:Int)^(p-2))^a) (((Kb p).1:Int)^(b-a)):=by
  rw [show ((Kb p).1:Int)^b=((Kb p).1:Int)^(b-a)*((Kb p).1:Int)^a by rw [<- Int.pow_add];congr 1;omega,Ao]
  exact (Cg.rfl'.mul h1).trans (Cg.of_eq (Int.mul_one _))
 exact h2.symm.trans ((hc.symm.mul Cg.rfl').trans h1)
theorem F0 {p:Nat} (hp:0<p) (l:List Nat) (x:Nat):Ys p x l=Lc p l x:=Cg.eq (p:=p) ((fU l).trans (RJ l).symm) (zDy hp x l) (ru hp l x)
theorem Q8 {p n a b:Nat} (h:Fb p=true) (hn:Dk p n) (VH:a<b) (hb:b<n):¬Cg p ((Be p n:Int)^a) ((Be p n:Int)^b):=fun hc=>by
 have hp:=Pb h;have hd:=Nat.div_mul_cancel (Nat.dvd_of_mod_eq_zero hn.dvd);obtain ⟨m,hm⟩:=zEX ((p-1) / n);have he:∀ k,Cg p ((Be p n:Int)^k) (((Kb p).1:Int)^(m*k)):=fun k=>by
  rw [Ch,hm];refine Cg.pow ?_ k;unfold Be;exact (Cg.mod _).trans (Cg.of_eq (Bo _ _))
 rw [<- hm] at hd;have Un:0<m:=by
  rcases Ho m with e | e
  ·rw [e,Nat.zero_mul] at hd;omega
  ·exact e
 refine zDn h (a:=m*a) (b:=m*b) (Nat.mul_lt_mul_of_pos_left VH Un) ?_ ((he a).symm.trans (hc.trans (he b)));have h1:m*(b-a)<m*n:=Nat.mul_lt_mul_of_pos_left (by omega) Un
 rw [Nat.mul_sub] at h1;omega
theorem zG2 {p n:Nat} (h:Fb p=true) (hn:Dk p n):∀ i j,i<n -> j<n -> i≠j -> ¬Cg p ((Be p n:Int)^i) ((Be p n:Int)^j):=fun i j hi hj Ta hc=>by
 rcases Nat.lt_or_gt_of_ne Ta with h1 | h1
 ·exact Q8 h hn h1 hj hc
 ·exact Q8 h hn h1 hi hc.symm
theorem L5 {p N J:Nat} (h:Fb p=true) (hN:Dk p N) (hJ:N=2^J) (a b:List Nat) (ha:1 <= a.length) (VH:a.length+b.length <= N+1) (k:Nat) (hk:k<N):Cg p (qA p N J a b k:Int) (Hs (Rk p a b) k):=by
 have hp:=Pb h;refine zHh (n:=N) h (a:=fun k=>(qA p N J a b k:Int)) (b:=Hs (Rk p a b)) (xs:=fun k=>(Be p N:Int)^k) (zG2 h hN) (fun q hq=>?_) k hk
 unfold qA;refine (tU (q:=q) _ h hN hJ hq).trans ?_;rw [Bl,Na hq,US h hN hJ a hq,US h hN hJ b hq];have hl:=GM p a b;rw [xH _ _ (by omega)]
 refine (Cg.mod _).trans ((Cg.of_eq (Uf _ _)).trans ?_);refine ((Mq a).mul (Mq b)).trans ?_;refine (SS a b _).symm.trans ?_;unfold Ic;exact Po (fun _=>Cg.rfl') IL _
theorem N5 {p N J:Nat} (hp:0<p) (a b:List Nat) (k:Nat):qA p N J a b k<p:=ic _ hp
end Go.Proofs.YteoghgbnielkpaaGreat
