/- A part of the proof. No condition. -/
import Derived.Test.YtgeofabpinfcmaaGreatProg
import Derived.Test.YtgeofabpinfcmaaGreatEZ12
import Derived.Test.YtgeofabpinfcmaaGreatEZ13
import Derived.Test.YtgeofabpinfcmaaGreatEZ8
import Derived.Test.YtgeofabpinfcmaaGreatEZ9
import Derived.Test.YtgeofabpinfcmaaGreatEZ15
import Derived.Test.YtgeofabpinfcmaaGreatEZ22
import Derived.Test.YtgeofabpinfcmaaGreatEZ16
import Derived.Test.YtgeofabpinfcmaaGreatEZ17

set_option maxRecDepth 100000
set_option maxHeartbeats 8000000
set_option linter.unusedVariables false
set_option linter.unusedSimpArgs false
namespace Go.Proofs.YtgeofabpinfcmaaGreat
open Go.RowKit
def Kk (p s:Nat) (F G:Nat -> Nat) (t:Nat):Nat -> Nat:=He (fun k=>(F k+s*G k%p)%p) F t
theorem AU (p s g base gb na ca nb cb mb t:Nat) (F G:Nat -> Nat) (w:World) (hp:ab p=true) (ka:w.ownsRow base 22 1 (.slice (some ⟨g,0,none⟩) na ca) na (Fa ((List.range na).map F))) (kb:Blk w gb 22 (Ha mb G)) (hg:g≠gb) (hb:nb <= mb) (ht:t=min na nb) (hm:na <= 65536) :
  Calls Tryz.prog 163 #[fv p, .slice (some ⟨g,0,none⟩) na ca, .slice (some ⟨gb,0,none⟩) nb cb, .int .u64 s] w fun e w'=>e= .returned (.tuple #[]) /\ w'.ownsRow base 22 1 (.slice (some ⟨g,0,none⟩) na ca) na (Fa ((List.range na).map (Kk p s F G t))) /\ w.grownBy w' (some g):=by
 have HA:=zH (fun a b w=>Ls p a b w hp)
 have HM:=zH (fun a b w=>sn p a b w hp)
 have hmin:min (na:Int) (nb:Int)=(t:Int):=by omega
 have gl:(na:Int) <= 65536:=by omega
 have lg:g<w.heap.size:=(ka.lt g rfl).2;have lgb:=kb.lt;have ht1:t <= na:=by omega
 have ht2:t <= nb:=by omega
 have gt:(t:Int) <= 65536:=by omega
 clear ht hp;unfold fv Kk at *;have da:Below w.heap.size w (w.alloc (.cells #[.int .u64 p] 223)):=(Below.refl _ _).alloc zR _;have kf:=Blk.new w 223 #[.int .u64 p];have g1:w.heap.size≠g:=by omega
 replace ka:=Oa ka da zR;replace kb:=ia kb da;have Da:=Cm (Hf w (some g)) da zR;clear da;obtain ⟨S,hS⟩:∃ S:Nat -> Nat,S=fun k=>(F k+s*G k%p)%p:=⟨_,rfl⟩
 have HSE:=zH (show ∀ k,(F k+s*G k%p)%p=S k from fun k=>by rw [hS])
 rw [<- hS];clear hS;have HZ:=zH (sN na S F);go_enter Tryz.func163,Tryz.ntmps163
 go_upto_region 1 with fail
 generalize w.alloc _=w0 at kf ka kb Da |-;go_wp2_with fail
 go_loopw [14] (fun y wr=>∃ i:Nat,i <= t /\ y= .int .i64 i /\ Blk wr w.heap.size 223 #[.int .u64 p] /\ wr.ownsRow base 22 1 (.slice (some ⟨g,0,none⟩) na ca) na (Fa ((List.range na).map (He S F i))) /\ Blk wr gb 22 (Ha mb G) /\ w.grownBy wr (some g)) (fun y _=>t-(intOf y).toNat)
 case atStart=>exact ⟨0,Nat.zero_le _,rfl,kf,by rw [HZ.out];exact ka,kb,Da⟩
 case round =>
  clear kf ka kb Da;obtain ⟨i,hi,rfl,kf,ka,kb,Da⟩:=hrel;by_cases za:i<t
  ·have q1:(0:Int) <= (i:Int):=by omega
   have q2:(i:Int)<(t:Int):=by omega
   have q3:(i:Int)<(na:Int):=by omega
   have q4:(i:Int)<(nb:Int):=by omega
   have ft:i<na:=by omega
   have himb:i<mb:=by omega
   have jy:=zH (HSE.out i);obtain ⟨x,hx⟩:=zEX (F i);obtain ⟨y,hy⟩:=zEX (G i);obtain ⟨u,hu⟩:=zEX (s*y%p);obtain ⟨z,hz⟩:=zEX (S i);have Xc:=zH (rN (n:=na) (G:=F) hz);rw [<- hx,<- hy,<- hu,<- hz] at jy;have HX:=zH (show (Fa ((List.range na).map (He S F i)))[i]?=some (.int .u64 x) by rw [pG _ _ ft,hx])
   have yd:Hid (∀ w:World,Calls Tryz.prog 162 #[.agg #[.int .u64 p], .int .u64 s, .int .u64 y] w fun e w'=>e= .returned (.int .u64 u) /\ Below w.heap.size w w'):=zH (fun w=>by rw [hu];exact HM.out s y w)
   have HC:Hid (∀ w:World,Calls Tryz.prog 217 #[.agg #[.int .u64 p], .int .u64 x, .int .u64 u] w fun e w'=>e= .returned (.int .u64 z) /\ Below w.heap.size w w'):=zH (fun w=>by rw [<- jy.out];exact HA.out x u w)
   have Yv:=ka.cellAt i (by omega)
   rw [HX.out] at Yv;have cb1:=kb.cell i;rw [dg _ himb,<- hy] at cb1;clear hx hy hz hu;have cf:=kf.cell;have lf:=kf.lt;have la:g<wr.heap.size:=(ka.lt g rfl).2;have lb:=kb.lt;go_upto_region 4 with fail
   refine Hd (Ib) (xa) [16] [16] [0,1,2,3,4,5,6,7,8,9,10,11,12,13,14,15,16] (by kernel_rfl) (by kernel_rfl) ?_
   refine Jd (xa) ?_;intro Wc ja;refine Sc ?_;refine vc (xa) rfl rfl rfl rfl (fun _ _ _ h=>h) (fun _=>by go_simp <;> rfl) (fun w' hR=>yd.out _) ?_
   simp only [Act.put,zLa,zLb,zLc];refine Sc ?_;refine vc (xa) rfl rfl rfl rfl (fun _ _ _ h=>h) (fun _=>by go_simp <;> rfl) (fun w' hR=>HC.out _) ?_
   simp only [Act.put,zLa,zLb,zLc];refine Sc ?_;refine Ph rfl rfl rfl rfl ?_;intro wh tc;replace ja:=(xa).trans _ _ _ ja tc;have Za:=oa (Below.refl wr.heap.size wr).drew ja;have Iw:=Cm Da Za Da.size;replace kf:=ia kf Za;replace ka:=Oa ka Za zR;replace kb:=ia kb Za;clear Za ja tc cf lf la lb Yv cb1 Da;have c2:=ka.cellAt i (by omega)
   rw [HX.out] at c2;have f2:=ka.frozenAt i;go_simp;refine ⟨fun h=>Bool.noConfusion h,?_⟩
   obtain ⟨ka,sg⟩:=ka.stored i (.int .u64 z);replace kf:=kf.grown sg (fun e=>g1 (Option.some.inj e))
   replace kb:=kb.grown sg (fun e=>hg (Option.some.inj e).symm)
   rw [Xc.out] at ka;have Da:=Ky Iw sg (fun _ e=>.inl e)
   clear sg f2 c2 Iw;generalize wh.setCell _ _=we at kf ka kb Da |-;refine Oh rfl ?_;go_wp2_with fail
   go_roundw
   case rel=>exact ⟨i+1,by omega,by go_num,kf,ka,kb,Da⟩
   case measure=>simp [intOf];omega
  ·obtain rfl:i=t:=by omega
   have q2:¬((i:Int)<(i:Int)):=by omega
   go_wp2;exact bodyPost_end (v:=.tuple #[]) (by simp [results,Tryz.results163,go_sem]) rfl ⟨rfl,ka,Da⟩
def Qu (p N J:Nat) (a b:List Nat):Nat -> Nat:=Nj p N J ((List.range N).map fun i=>Fi p N J a 1 i*Fi p N J b 1 i%p)
theorem xT (p:Nat) (A B:Option Addr) (n c m d J N len:Nat) (a b:List Nat) (w:World) (hp:ab p=true) (ha:RWd w [.slice A n c] a) (hb:RWd w [.slice B m d] b) (Md:1 <= n) (ud:1 <= m) (hn8:n <= 4096) (hm8:m <= 4096) (hN:Vg p N) (hJ:N=2^J) (hlen:n+m=len+1) (h1:len <= N) (h2:∀ j,j<J -> 2^j<len) :
  Calls Tryz.prog 165 #[fv p, .slice A n c, .slice B m d] w fun e w'=>∃ g,e= .returned (.tuple #[.slice (some ⟨g,0,none⟩) len N, .int .i64 0]) /\ w.heap.size <= g /\ Blk w' g 22 (Ha N (Qu p N J a b)) /\ Below w.heap.size w w':=by
 obtain ⟨jc,Kb⟩:=Va hp;have My:=hN.le;have Fh:=hN.pos;have HV:=zH (fun w=>tn p w hp)
 have HR:=zH (fun w=>OI p N w hp hN)
 have HEa:=zH (fun w' (If:Below w.heap.size w w')=>jN p A n c N J 1 a w' hp (ta If ha) hN hJ (by rw [Nat.mod_eq_of_lt (by omega)];decide) (by omega))
 have HEb:=zH (fun w' (If:Below w.heap.size w w')=>jN p B m d N J 1 b w' hp (ta If hb) hN hJ (by rw [Nat.mod_eq_of_lt (by omega)];decide) (by omega))
 have HM:=zH (fun x y w=>sn p x y w hp)
 have HI:=zH (fun g l w hl=>NI p (some ⟨g,0,none⟩) N N J l w hp hl hN hJ)
 have HJ:=zH hJ;have H2:=zH h2;have HQ:=zH (show ∀ j,j <= J -> 2^j <= N from fun j hj=>by rw [hJ];exact Nat.pow_le_pow_right (by decide) hj)
 obtain ⟨Ea,hEa⟩:=zEX (Fi p N J a 1);obtain ⟨Eb,hEb⟩:=zEX (Fi p N J b 1);obtain ⟨Pr,hPr⟩:∃ Pr:Nat -> Nat,Pr=fun i=>Ea i*Eb i%p:=⟨_,rfl⟩
 have Xj:=zH (show ∀ i,Ea i*Eb i%p=Pr i from fun i=>by rw [hPr])
 have mo:=zH (show ∀ i,Pr i<18446744073709551616 from fun i=>by rw [hPr];exact Nat.lt_trans (Nat.mod_lt _ (by omega)) Kb)
 rw [show Qu p N J a b=Nj p N J ((List.range N).map Pr) by rw [hPr,hEa,hEb];rfl]
 rw [<- hEa] at HEa;rw [<- hEb] at HEb;have e1:(n:Int)+(m:Int)=((len+1:Nat):Int):=by omega
 obtain ⟨s,hs⟩:=zEX (len+1);rw [<- hs] at e1;have e2:=Yb s;have e3:(s:Int)-1=(len:Int):=by omega
 have e4:=Yb len;have d1:((n:Int) == 0)=false:=by rw [beq_eq_false_iff_ne];omega
 have d2:((m:Int) == 0)=false:=by rw [beq_eq_false_iff_ne];omega
 have z1:¬((n:Int)=0):=by omega
 have z2:¬((m:Int)=0):=by omega
 have z3:¬(n=0):=by omega
 have z4:¬(m=0):=by omega
 have gN:(N:Int) <= 4096:=by omega
 have gl:(len:Int) <= (N:Int):=by omega
 have gl2:len <= N:=h1;have gl0:(0:Int) <= (len:Int):=by omega
 unfold fv at *;have kf:=Blk.new w 223 #[.int .u64 p];have da:Below w.heap.size w (w.alloc (.cells #[.int .u64 p] 223)):=(Below.refl _ _).alloc zR _;clear hEa hEb hPr hJ h2 ha hb hp hN hs hlen h1;go_enter Tryz.func165,Tryz.ntmps165
 go_wp2_with fail
 generalize w.alloc _=w1 at kf da |-;refine (HV.out _).mono ?_;rintro e w2 ⟨rfl,ea⟩;replace kf:=ia kf ea;replace da:=oa da ea;clear ea;go_wp2_with fail
 go_loopw [9] (fun v wr=>∃ j q:Nat,j <= J /\ Hid (q=2^j) /\ v= .int .i64 q /\ Blk wr w.heap.size 223 #[.int .u64 p] /\ Below w.heap.size w wr) (fun v _=>8194-(intOf v).toNat)
 case atStart=>exact ⟨0,1,Nat.zero_le _,zH rfl,rfl,kf,da⟩
 case round =>
  clear kf da;obtain ⟨j,q,hj,HQj,rfl,kf,da⟩:=hrel;by_cases za:j<J
  ·have Xf:q<len:=by have:=H2.out j za;rw [HQj.out];exact this
   have Sg:q <= N:=by have:=HQ.out j hj;rw [HQj.out];exact this
   have hq3:1 <= q:=by rw [HQj.out];exact Nat.one_le_two_pow
   have q1:(q:Int)<(len:Int):=by omega
   have q2:(q:Int) <= 4096:=by omega
   have q1d:decide ((q:Int)<(len:Int))=true:=decide_eq_true q1;have q2d:decide ((q:Int) <= 4096)=true:=decide_eq_true q2;obtain ⟨r,hr⟩:=zEX (q*2);have x1:(q:Int)*2=(r:Int):=by omega
   have x2:=Yb r;have HQn:Hid (r=2^(j+1)):=zH (by rw [hr,HQj.out,Nat.pow_succ])
   have hrq:q<r:=by omega
   have Po:r <= 8192:=by omega
   clear hr;go_wp2
   go_roundw
   case rel=>exact ⟨j+1,r,by omega,HQn,rfl,kf,da⟩
   case measure=>simp [intOf];omega
  ·obtain rfl:j=J:=by omega
   have hqN:q=N:=by rw [HQj.out,HJ.out]
   subst hqN;have q1:¬((q:Int)<(len:Int)):=by omega
   have q1d:decide ((q:Int)<(len:Int))=false:=decide_eq_false q1;clear H2 HQ HQj HJ;have cf:=kf.cell;go_wp2_with fail
   refine (HR.out _).mono ?_;rintro e w3 ⟨rfl,ea⟩;replace kf:=ia kf ea;replace da:=oa da ea;clear ea cf HR;have cf:=kf.cell;go_wp2_with fail
   refine (HEa.out _ da).mono ?_;rintro e w4 ⟨g1,rfl,Af,k1,ea⟩;have Cu:=kf.lt;replace kf:=ia kf ea;replace da:=oa da ea;clear ea cf HEa;have cf:=kf.cell;go_wp2_with fail
   refine (HEb.out _ da).mono ?_;rintro e w5 ⟨g2,rfl,Ok,k2,ea⟩;have hf2:=k1.lt;replace kf:=ia kf ea;replace k1:=ia k1 ea;replace da:=oa da ea;clear ea cf HEb HV;have Fu:w.heap.size<g1:=by omega
   have hg12:g1<g2:=by omega
   have HZ:=zH (Cq q Pr Ea);clear Af Ok Cu hf2 q1d;go_wp2_with fail
   go_loopw [73] (fun y wr=>∃ i:Nat,i <= q /\ y= .int .i64 i /\ Blk wr w.heap.size 223 #[.int .u64 p] /\ Blk wr g1 22 (Ha q (He Pr Ea i)) /\ Blk wr g2 22 (Ha q Eb) /\ Below w.heap.size w wr) (fun y _=>q-(intOf y).toNat)
   case atStart=>exact ⟨0,Nat.zero_le _,rfl,kf,by rw [HZ.out];exact k1,k2,da⟩
   case round =>
    clear kf k1 k2 da;obtain ⟨i,hi,rfl,kf,k1,k2,da⟩:=hrel;by_cases za:i<q
    ·have q3:(i:Int)<(q:Int):=by omega
     have q4:(0:Int) <= (i:Int):=by omega
     have c1:=k1.cell i;rw [Zl _ _ za] at c1;have c2:=k2.cell i;rw [dg _ za] at c2;have Ur:=zH (Xj.out i);obtain ⟨x,hx⟩:=zEX (Ea i);obtain ⟨y,hy⟩:=zEX (Eb i);obtain ⟨z,hz⟩:=zEX (Pr i);have Xc:=zH (Sn (n:=q) (G:=Ea) hz);have HX:=zH hx;rw [<- hx] at c1 Ur;rw [<- hy] at c2 Ur;rw [<- hz] at Ur;have yd:=zH (fun w=>by have:=HM.out x y w;rw [Ur.out] at this;exact this)
     clear hx hy hz Ur;have cf:=kf.cell;have lf:=kf.lt;have l1:=k1.lt;have l2:=k2.lt;go_upto_region 20 with fail
     refine Hd (Ib) (xa) [13] [13] [0,1,2,3,4,5,6,7,8,9,10,11,12,13] (by kernel_rfl) (by kernel_rfl) ?_
     refine Jd (xa) ?_;intro Wc ja;refine Sc ?_;refine vc (xa) rfl rfl rfl rfl (fun _ _ _ h=>h) (fun _=>by go_simp <;> rfl) (fun w' hR=>yd.out _) ?_
     simp only [Act.put,zLa,zLb,zLc];refine Sc ?_;refine Ph rfl rfl rfl rfl ?_;intro wh tc;replace ja:=(xa).trans _ _ _ ja tc;have Za:=oa (Below.refl wr.heap.size wr).drew ja;replace kf:=ia kf Za;replace k1:=ia k1 Za;replace k2:=ia k2 Za;replace da:=oa da Za;clear Za ja tc cf lf l1 l2 c1 c2;have c3:=k1.cell i;rw [Zl _ _ za,<- HX.out] at c3;have f3:=k1.frozen;go_simp;refine ⟨fun h=>Bool.noConfusion h,?_⟩
     have hg:=Me (w:=wh) g1 i (.int .u64 z);replace k1:=k1.set_ i (.int .u64 z);rw [Xc.out] at k1;replace kf:=kf.grown hg (fun e=>by have:=Option.some.inj e;omega)
     replace k2:=k2.grown hg (fun e=>by have:=Option.some.inj e;omega)
     replace da:=Pb da hg;clear hg f3 c3;generalize wh.setCell _ _=we at kf k1 k2 da |-;refine Oh rfl ?_;go_wp2_with fail
     go_roundw
     case rel=>exact ⟨i+1,by omega,by go_num,kf,k1,k2,da⟩
     case measure=>simp [intOf];omega
    ·obtain rfl:i=q:=by omega
     have q3:¬((i:Int)<(i:Int)):=by omega
     rw [Kx] at k1;have hl:=jk k1 (fun k _=>mo.out k) (by simp [maxLen];omega)
     have cf:=kf.cell;clear k2 k1;go_wp2_with fail
     refine (HI.out _ _ _ hl).mono ?_;rintro e w7 ⟨g3,rfl,sg,k3,ea⟩;have hs:=da.size;go_wp2
     go_ret2
     exact ⟨g3,rfl,by omega,k3,oa da ea⟩
def Ze (L:Ja) (rows:List (List Nat)) (l1 l2 l3 l4:List Nat):Bool :=
 decide (rows.length=L.a+L.b+L.b+L.b)&&(rows.all (fun r=>td r L.queries L.p)&&(td l1 L.k L.p&&(td l2 (L.k+L.block-2) L.p&&(td l3 (L.block+2*L.queries-1) L.p&&td l4 L.n Kd))))
theorem lO {l:List (List Nat)} {f:List Nat -> Bool} {i:Nat} (h:(l.take i).all f=true) (hi:i<l.length) (hx:f l[i]=true):(l.take (i+1)).all f=true:=by
 rw [List.take_succ_eq_append_getElem hi,List.all_append,h,List.all_cons,hx]
 rfl
theorem kO {l:List (List Nat)} {f:List Nat -> Bool} {i:Nat} (hi:i<l.length) (hx:f l[i]=false):l.all f=false:=by
 rw [List.all_eq_false];exact ⟨l[i],List.getElem_mem _,by rw [hx];decide⟩
theorem CL (L:Ja) (A0 A1 A2 A3 A4:Option Addr) (n0 c0 n1 c1 n2 c2 n3 c3 n4 c4:Nat) (rows:List (List Nat)) (l1 l2 l3 l4:List Nat) (w:World) (hL:Db L)
  (h0:Sb w [.slice A0 n0 c0] rows) (h1:RWd w [.slice A1 n1 c1] l1) (h2:RWd w [.slice A2 n2 c2] l2) (h3:RWd w [.slice A3 n3 c3] l3) (h4:RWd w [.slice A4 n4 c4] l4) :
  Calls Tryz.prog 13 #[.agg (Ya L), .agg #[.slice A0 n0 c0, .slice A1 n1 c1, .slice A2 n2 c2, .slice A3 n3 c3, .slice A4 n4 c4]] w fun e w'=>e= .returned (.bool (Ze L rows l1 l2 l3 l4)) /\ Below w.heap.size w w':=by
 have HC:=zH (fun w=>jV L w hL)
 have HT:=zH (fun w=>WL L.p L.block L.queries L.k L.n L.secret L.rows L.a L.b L.b L.b w hL.a hL.b hL.b hL.b)
 have yc:=zH (fun w' (hb:Below w.heap.size w w')=>GD A1 n1 c1 L.k L.p l1 w' (ta hb h1))
 have Uj:=zH (fun w' (hb:Below w.heap.size w w')=>GD A2 n2 c2 (L.k+L.block-2) L.p l2 w' (ta hb h2))
 have Vm:=zH (fun w' (hb:Below w.heap.size w w')=>GD A3 n3 c3 (L.block+2*L.queries-1) L.p l3 w' (ta hb h3))
 have HE4:=zH (fun w' (hb:Below w.heap.size w w')=>GD A4 n4 c4 L.n Kd l4 w' (ta hb h4))
 obtain ⟨Gn,a1,a2,r0⟩:=Ve h0;have gm:=Kf a1 a2;obtain ⟨ans,ha⟩:=zEX (Ze L rows l1 l2 l3 l4);rw [<- ha];unfold Ze at ha;rw [Gn] at ha;have HN:=zH Gn;obtain ⟨kl,kc,El,Nb⟩:=Ue w 49 42 (Ya L) #[.slice A0 n0 c0, .slice A1 n1 c1, .slice A2 n2 c2, .slice A3 n3 c3, .slice A4 n4 c4];generalize td l1 L.k L.p=b1 at *;generalize td l2 (L.k+L.block-2) L.p=b2 at *;generalize td l3 (L.block+2*L.queries-1) L.p=b3 at *;generalize td l4 L.n Kd=b4 at *;generalize L.k+L.block-2=m2 at *;generalize L.block+2*L.queries-1=m3 at *;generalize L.a+L.b+L.b+L.b=T at *;have HA:=zH ha;clear ha h0 h1 h2 h3 h4 hL a1 a2 Gn;unfold Ya at *;unfold Kd at HE4;go_enter Tryz.func13,Tryz.ntmps13
 go_wp2_with fail
 generalize (w.alloc _).alloc _=w1 at kl kc El Nb |-;refine (HC.out _).mono ?_;rintro e w2 ⟨rfl,Ka⟩;have ks:=Blk.new w2 109 #[.int .i64 L.k, .int .i64 m2, .int .i64 m3];have Ji:=(Below.refl w2.heap.size w2).alloc zR (.cells #[.int .i64 L.k, .int .i64 m2, .int .i64 m3] 109);replace kl:=ia kl Ka;replace kc:=ia kc Ka;replace kl:=ia kl Ji;replace kc:=ia kc Ji;have da:=oa (oa El Ka) Ji;go_upto_region 2 with fail
 generalize w2.alloc _=w3 at kl kc ks da |-;generalize w2.heap.size=gs at ks |-;clear El Ka Ji Nb HC;have cl:=kl.cell;have cc:=kc.cell;have cs:=ks.cell;have ll:=kl.lt;have lc:=kc.lt;have ls:=ks.lt;by_cases hT:n0=T
 rotate_left
 ·have HF:=zH (show ans=false by rw [HA.out,decide_eq_false hT];rfl)
  have t1:((n0:Int) != (T:Int))=true:=by rw [bne_iff_ne];omega
  have t2:((n0:Int) == (T:Int))=false:=by rw [beq_eq_false_iff_ne];omega
  clear HA hT;refine Hd (Ib) (xa) [] [] [0,1,2,3,4,5,6,7,8,9,10,11,12,13,14,15,16,17,18,19,20,21,22,23,24,25] (by kernel_rfl) (by kernel_rfl) ?_
  refine Jd (xa) ?_;intro Wc ja;refine Ic ?_;refine vc (xa) rfl rfl rfl rfl (fun _ _ _ h=>h) (fun _=>by go_simp <;> rfl) (fun w' hR=>HT.out _) ?_
  simp only [Act.put,zLa,zLb,zLc];refine Ic ?_;refine eh rfl ?_;intro wd Tb;replace ja:=(xa).trans _ _ _ ja Tb;clear Tb;go_wp2_with fail
  go_ret
  exact ⟨by rw [HF.out];rfl,oa da.drew ja⟩
 have t1:((n0:Int) != (T:Int))=false:=by rw [bne_eq_false_iff_eq];omega
 have t2:((n0:Int) == (T:Int))=true:=by rw [beq_iff_eq];omega
 have HB:=zH (show ans=(rows.all (fun r=>td r L.queries L.p)&&(b1&&(b2&&(b3&&b4)))) by rw [HA.out,decide_eq_true hT];rfl)
 clear HA hT;cases b1
 ·have HF:=zH (show ans=false by rw [HB.out];simp)
  refine Hd (Ib) (xa) [] [] [0,1,2,3,4,5,6,7,8,9,10,11,12,13,14,15,16,17,18,19,20,21,22,23,24,25] (by kernel_rfl) (by kernel_rfl) ?_
  refine Jd (xa) ?_;intro Wc ja;refine Ic ?_;refine vc (xa) rfl rfl rfl rfl (fun _ _ _ h=>h) (fun _=>by go_simp <;> rfl) (fun w' hR=>HT.out _) ?_
  simp only [Act.put,zLa,zLb,zLc];refine Ic ?_;refine vc (xa) rfl rfl rfl rfl (fun _ _ _ h=>h) (fun _=>by go_simp <;> rfl) (fun w' hR=>yc.out _ (oa da.drew (oa ja hR))) ?_
  simp only [Act.put,zLa,zLb,zLc];refine Ic ?_;refine eh rfl ?_;intro wd Tb;replace ja:=(xa).trans _ _ _ ja Tb;clear Tb;go_wp2_with fail
  go_ret
  exact ⟨by rw [HF.out];rfl,oa da.drew ja⟩
 cases b2
 ·have HF:=zH (show ans=false by rw [HB.out];simp)
  refine Hd (Ib) (xa) [] [] [0,1,2,3,4,5,6,7,8,9,10,11,12,13,14,15,16,17,18,19,20,21,22,23,24,25] (by kernel_rfl) (by kernel_rfl) ?_
  refine Jd (xa) ?_;intro Wc ja;refine Ic ?_;refine vc (xa) rfl rfl rfl rfl (fun _ _ _ h=>h) (fun _=>by go_simp <;> rfl) (fun w' hR=>HT.out _) ?_
  simp only [Act.put,zLa,zLb,zLc];refine Ic ?_;refine vc (xa) rfl rfl rfl rfl (fun _ _ _ h=>h) (fun _=>by go_simp <;> rfl) (fun w' hR=>yc.out _ (oa da.drew (oa ja hR))) ?_
  simp only [Act.put,zLa,zLb,zLc];refine Ic ?_;refine vc (xa) rfl rfl rfl rfl (fun _ _ _ h=>h) (fun _=>by go_simp <;> rfl) (fun w' hR=>Uj.out _ (oa da.drew (oa ja hR))) ?_
  simp only [Act.put,zLa,zLb,zLc];refine Ic ?_;refine eh rfl ?_;intro wd Tb;replace ja:=(xa).trans _ _ _ ja Tb;clear Tb;go_wp2_with fail
  go_ret
  exact ⟨by rw [HF.out];rfl,oa da.drew ja⟩
 refine Hd (Ib) (xa) [] [] [0,1,2,3,4,5,6,7,8,9,10,11,12,13,14,15,16,17,18,19,20,21,22,23,24,25] (by kernel_rfl) (by kernel_rfl) ?_
 refine Jd (xa) ?_;intro Wc ja;refine Ic ?_;refine vc (xa) rfl rfl rfl rfl (fun _ _ _ h=>h) (fun _=>by go_simp <;> rfl) (fun w' hR=>HT.out _) ?_
 simp only [Act.put,zLa,zLb,zLc];refine Ic ?_;refine vc (xa) rfl rfl rfl rfl (fun _ _ _ h=>h) (fun _=>by go_simp <;> rfl) (fun w' hR=>yc.out _ (oa da.drew (oa ja hR))) ?_
 simp only [Act.put,zLa,zLb,zLc];refine Ic ?_;refine vc (xa) rfl rfl rfl rfl (fun _ _ _ h=>h) (fun _=>by go_simp <;> rfl) (fun w' hR=>Uj.out _ (oa da.drew (oa ja hR))) ?_
 simp only [Act.put,zLa,zLb,zLc];refine Ic ?_;refine eh rfl ?_;intro wd Tb;replace ja:=(xa).trans _ _ _ ja Tb;clear Tb;replace kl:=kl.drew.below ja kl.lt;replace kc:=kc.drew.below ja kc.lt;replace ks:=ks.drew.below ja ks.lt;replace da:=oa da.drew ja;clear cl cc cs ll lc ls ja yc Uj HT;have cl:=kl.cell;have cc:=kc.cell;have cs:=ks.cell;have Xz:=zH (Vm.out _ da);cases b3
 ·have HF:=zH (show ans=false by rw [HB.out];simp)
  go_wp2_with fail
  refine Xz.out.mono ?_;rintro e w5 ⟨rfl,jb⟩;go_wp2;go_ret
  exact ⟨by rw [HF.out];rfl,oa da jb⟩
 go_wp2_with fail
 refine Xz.out.mono ?_;rintro e w5 ⟨rfl,jb⟩;replace kl:=ia kl jb;replace kc:=ia kc jb;replace da:=oa da jb;clear cl cc cs ks jb Xz Vm;have cl:=kl.cell;have cc:=kc.cell;have CE:=zH (HE4.out _ da);cases b4
 ·have HF:=zH (show ans=false by rw [HB.out];simp)
  go_wp2_with fail
  refine CE.out.mono ?_;rintro e w6 ⟨rfl,Zb⟩;go_wp2;go_ret
  exact ⟨by rw [HF.out];rfl,oa da Zb⟩
 go_wp2_with fail
 refine CE.out.mono ?_;rintro e w6 ⟨rfl,Zb⟩;replace kl:=ia kl Zb;replace kc:=ia kc Zb;replace da:=oa da Zb;clear cl cc Zb CE HE4;have xp:=zH (show ans=rows.all (fun r=>td r L.queries L.p) by rw [HB.out];simp)
 clear HB;have cc:=kc.cell;go_wp2_with fail
 clear cc;go_loopw [55] (fun y wr=>∃ i:Nat,i <= n0 /\ y= .int .i64 i /\ Hid ((rows.take i).all (fun r=>td r L.queries L.p)=true) /\ Blk wr w.heap.size 49 #[.int .u64 L.p, .int .i64 L.block, .int .i64 L.queries, .int .i64 L.k, .int .i64 L.n, .int .i64 L.secret, .int .i64 L.rows, .int .i64 L.a, .int .i64 L.b, .int .i64 L.b, .int .i64 L.b] /\ Below w.heap.size w wr) (fun y _=>n0-(intOf y).toNat)
 case atStart=>exact ⟨0,Nat.zero_le _,rfl,rfl,kl,da⟩
 case round =>
  clear kl kc da;obtain ⟨i,hi,rfl,gu,kl,da⟩:=hrel;by_cases za:i<n0
  ·have g1:(0:Int) <= (i:Int):=by omega
   have g2:(i:Int)<(n0:Int):=by omega
   have i1:i<rows.length:=by rw [HN.out];exact za
   obtain ⟨x1,y1,B1,m1,k1,rfl,v1,d1,s1⟩:=vh (r0.below DC da) i1;have HS:=zH (GD B1 m1 k1 L.queries L.p rows[i] wr s1);have cl:=kl.cell;clear s1;cases hx:td rows[i] L.queries L.p
   ·have HF:=zH (xp.out.trans (kO i1 hx))
    rw [hx] at HS;clear hx gu i1;go_wp2_with fail
    refine HS.out.mono ?_;rintro e w7 ⟨rfl,Wa⟩;go_wp2;go_ret
    exact ⟨by rw [HF.out];rfl,oa da Wa⟩
   ·have Dh:=zH (lO gu.out i1 hx)
    rw [hx] at HS;clear hx gu i1;go_wp2_with fail
    refine HS.out.mono ?_;rintro e w7 ⟨rfl,Wa⟩;replace kl:=ia kl Wa;replace da:=oa da Wa;clear cl Wa d1 v1;go_wp2
    go_roundw
    case rel=>exact ⟨i+1,by omega,by go_num,Dh.out,kl,da⟩
    case measure=>simp [intOf];omega
  ·obtain rfl:i=n0:=by omega
   have HF:=zH (show ans=true by rw [xp.out];have:=gu.out;rwa [<- HN.out,List.take_length] at this)
   go_wp2;go_ret
   exact ⟨by rw [HF.out];rfl,da⟩
theorem UX (n:Nat) (hn:n <= 1000000) (w:World) :
  (Instr.makeSlice 40 (.int .i64 0) (.int .i64 n)).run Tryz.prog w= .ok (.slice (some ⟨w.heap.size,0,none⟩) 0 n) (w.alloc (.cells (ag n fun _=>.slice none 0 0) 28)):=by
 obtain ⟨ht,⟨i,hi,hz,hs,Zd⟩,hzs,Nb⟩:=Cj;have:=run_make (P:=Tryz.prog) w 40 28 i _ ht hi hz .i64 .i64 0 (n:Int) (by omega) (by omega) (by rw [Zd];omega) (by omega)
 rw [Int.toNat_natCast,hs,vQ] at this;exact this
theorem vY (n base:Nat) (hn:n <= 1000000) (w:World) (hb:base <= w.heap.size):(w.alloc (.cells (ag n fun _=>.slice none 0 0) 28)).ownsRow base 28 1 (.slice (some ⟨w.heap.size,0,none⟩) 0 n) 0 [] :=
 World.ownsRow_made w _ n hb (by simp [maxLen];omega) (by simp [ag])
theorem JX (L:Ja) (A0 A1 A2 A3 A4 AM:Option Addr) (n0 n1 n2 n3 n4 nM c0 c1 c2 c3 c4 cM:Nat) (m r:List (List Nat)) (co li qu:List Nat) (w:World) (hL:Db L)
  (hm:Sb w [.slice AM nM cM] m) (hr:Sb w [.slice A0 n0 c0] r) (hc:RWd w [.slice A1 n1 c1] co) (hl:RWd w [.slice A2 n2 c2] li) (hq:RWd w [.slice A3 n3 c3] qu)
  (hlen:m.length=r.length) (Ud:∀ x∈m,x.length=L.block) (Mg:∀ x∈r,x.length <= 2000) (hT:m.length <= 400000) (h1:co.length <= 2000) (h2:li.length <= 2000) (h3:qu.length <= 2000) :
  Calls Tryz.prog 66 #[.agg (Ya L), .slice AM nM cM, .agg #[.slice A0 n0 c0, .slice A1 n1 c1, .slice A2 n2 c2, .slice A3 n3 c3, .slice A4 n4 c4]] w fun e w'=>∃ v,e= .returned v /\ ((∀ q,v.ownBlock=some q -> w.heap.size <= q) /\ ∀ u:World,(∀ b,w.heap.size <= b -> b<w'.heap.size -> u.heap[b]?=w'.heap[b]?) -> Sb u [v] ((List.range L.n).map fun i=>(List.range (m.length+3)).map (Bg L (Ge L m r co li qu) i))) /\ Below w.heap.size w w':=by
 have hp:=hL.p;have Ed:=Va hp;have Ka:=hL.b2;obtain ⟨sr,-,-,zB⟩:=Ve hm;obtain ⟨tj,-,-,Tb⟩:=Ve hr;subst sr;subst tj;have Jh:=UY L m r co li qu;have Kj:=VY (L:=L) (m:=m) (r:=r) (c:=co) (l:=li) (q:=qu) Ka Mg h1 h2 h3;have HEv:=zH (fun A k c l w hl hk=>jN L.p A k c L.n L.n.log2 (tb L.p).1 l w hp hl (nx hL).1 (nx hL).2 (vK hp) hk)
 have HGen:=zH (fun w=>kK L.p w hp)
 have HCV:=zH (show ∀ ps i,(List.range (m.length+3)).map (Bg L ps i)=(List.range (m.length+3)).map (fun j=>Fi L.p L.n L.n.log2 (ps.getD j []) (tb L.p).1 i) from fun _ _=>rfl)
 have Kq:=zH (fun A B n c m d msg masks w hl hk hn hm=>tQ L A B n c m d msg masks w hL hl hk hn hm)
 have zp:=zH (fun w' (hb:Below w.heap.size w w')=>qQ L (.slice A0 r.length c0) (.slice A2 n2 c2) (.slice A3 n3 c3) (.slice A4 n4 c4) A1 n1 c1 co w' ⟨_,_,_,rfl⟩ ⟨_,_,_,rfl⟩ ⟨_,_,_,rfl⟩ ⟨_,_,_,rfl⟩ (ta hb hc) (by have:=(Ra hc).1;omega))
 have Zn:=zH (fun w' (hb:Below w.heap.size w w')=>rQ L (.slice A0 r.length c0) (.slice A1 n1 c1) (.slice A3 n3 c3) (.slice A4 n4 c4) A2 n2 c2 li w' hL ⟨_,_,_,rfl⟩ ⟨_,_,_,rfl⟩ ⟨_,_,_,rfl⟩ ⟨_,_,_,rfl⟩ (ta hb hl) (by have:=(Ra hl).1;omega))
 have eu:=zH (fun w' (hb:Below w.heap.size w w')=>sQ L (.slice A0 r.length c0) (.slice A1 n1 c1) (.slice A2 n2 c2) (.slice A4 n4 c4) A3 n3 c3 qu w' hL ⟨_,_,_,rfl⟩ ⟨_,_,_,rfl⟩ ⟨_,_,_,rfl⟩ ⟨_,_,_,rfl⟩ (ta hb hq) (by have:=(Ra hq).1;omega))
 have yF:=(Ra hc).2.2.2.1;have Nw:=(Ra hl).2.2.2.1;have e1:=(Ra hc).1;have e2:=(Ra hl).1;have e3:=(Ra hq).1;have Qg:=zH (And.intro yF Nw);subst e1 e2 e3;clear yF Nw hc hl hq hm hr;have Gq:=zH hlen;have zj:=zH Ud;have lh:=zH Mg;have mA:=zH Ed;have HL:=zH hL;have re:=hL.n2;have hmin:min (m.length:Int) (r.length:Int)=(m.length:Int):=Int.min_eq_left (by omega)
 obtain ⟨T,yw⟩:=zEX (m.length);obtain ⟨M,uw⟩:=zEX (m.length+3);have x1:(m.length:Int)+3=(M:Int):=by omega
 have x2:=Yb M;have x3:(M:Int) <= 400003:=by omega
 have x4:(0:Int) <= (M:Int):=by omega
 have x5:(m.length:Int) <= 400000:=by omega
 have yB:M <= 400003:=by omega
 have hM1':M <= 1000000:=by omega
 rw [<- uw];have ao:=zH uw;rw [<- uw] at Jh HCV;obtain ⟨ps,Mo⟩:=zEX (Ge L m r co li qu);rw [<- Mo] at Jh Kj |-;have HPE:=zH (show dp L m r m.length++[co,Bd L li,ZF L qu]=ps from Mo.symm)
 have ni:=zH Jh;have Xj:=zH Kj;replace HCV:=zH (HCV.out ps);clear Mo Jh Kj;obtain ⟨gen,hgen⟩:=zEX ((tb L.p).1);rw [<- hgen] at HEv HGen HCV;clear hgen;have HFF:=zH (show ∀ k q,Fi L.p L.n L.n.log2 (ps.getD q []) gen k<18446744073709551616 from fun k q=>Nat.lt_trans (eF (by have:=mA.out;omega) _ _ _ _ _) mA.out.2)
 have mk0:=UX M (by omega)
 have mkC:=DL L.n (by omega)
 have mkM:=mj M (by omega)
 clear hlen Ud Mg Ed hL hp uw yw;unfold Ya fv at *;obtain ⟨kl,kc,kf,da,Nb⟩:=Oq w 49 42 223 #[.int .u64 L.p, .int .i64 L.block, .int .i64 L.queries, .int .i64 L.k, .int .i64 L.n, .int .i64 L.secret, .int .i64 L.rows, .int .i64 L.a, .int .i64 L.b, .int .i64 L.b, .int .i64 L.b] #[.slice A0 r.length c0, .slice A1 co.length c1, .slice A2 li.length c2, .slice A3 qu.length c3, .slice A4 n4 c4] #[.int .u64 L.p];go_enter Tryz.func66,Tryz.ntmps66
 go_upto_region 2 with fail
 generalize ((w.alloc _).alloc _).alloc _=w1 at kl kc kf da Nb |-;have HZ:=zH Nb;clear Nb;have cc:=kc.cell;go_upto_region 3 with fail
 have ra:=vY M w1.heap.size hM1' w1 zR;have ma:=(Below.refl w1.heap.size w1).alloc zR (.cells (ag M fun _=>.slice none 0 0) 28)
 have Fh:w1.heap.size <= (w1.alloc (.cells (ag M fun _=>.slice none 0 0) 28)).heap.size:=ma.size
 replace kl:=ia kl ma;replace kc:=ia kc ma;replace kf:=ia kf ma;replace da:=oa da ma;clear ma cc mk0;obtain ⟨N,nh⟩:=zEX (w1.heap.size);have xN:w.heap.size+3 <= N:=by rw [nh,HZ.out];omega
 rw [<- nh] at ra Fh |-;clear nh HZ;generalize w1.alloc _=w2 at kl kc kf da ra Fh |-;have cc:=kc.cell;go_wp2_with fail
 clear cc;go_loopw [8,31] (fun u y wr=>∃ (i:Nat) (v:Value) (cs:List Value),v=u /\ i <= m.length /\ y= .int .i64 i /\ Blk wr w.heap.size 49 #[.int .u64 L.p, .int .i64 L.block, .int .i64 L.queries, .int .i64 L.k, .int .i64 L.n, .int .i64 L.secret, .int .i64 L.rows, .int .i64 L.a, .int .i64 L.b, .int .i64 L.b, .int .i64 L.b] /\ Blk wr (w.heap.size+1) 42 #[.slice A0 r.length c0, .slice A1 co.length c1, .slice A2 li.length c2, .slice A3 qu.length c3, .slice A4 n4 c4] /\ Blk wr (w.heap.size+1+1) 223 #[.int .u64 L.p] /\ wr.ownsRow N 28 1 v i cs /\ Rf N wr v cs (dp L m r i) /\ Below w.heap.size w wr /\ N <= wr.heap.size) (fun _ y _=>m.length-(intOf y).toNat)
 case atStart=>exact ⟨0,_,[],rfl,Nat.zero_le _,rfl,kl,kc,kf,ra,Ns _ _ _,da,Fh⟩
 case round =>
  clear kl kc kf ra da Fh;obtain ⟨i,v,cs,rfl,hi,rfl,kl,kc,kf,ra,Da,da,Pa⟩:=hrel;by_cases za:i<m.length
  ·have q1:(0:Int) <= (i:Int):=by omega
   have q2:(i:Int)<(m.length:Int):=by omega
   have q3:(i:Int)<(r.length:Int):=by have:=Gq.out;omega
   obtain ⟨bm,qm,Am,lm,cm,rfl,qF,Xy,oz⟩:=vh zB za;have hcm:=(da.cell (p:=⟨bm,qm+i,none⟩) qF).trans Xy;have Hn:=ta da oz;have yu:bm<N:=by omega
   obtain ⟨br,qr,Ar,lr,cr,rfl,rF,Yy,pz⟩:=vh Tb (show i<r.length by have:=Gq.out;omega)
   have Cn:=(da.cell (p:=⟨br,qr+i,none⟩) rF).trans Yy;have Mi:=ta da pz;have Qa:br<N:=by omega
   have z1:=(Ra Hn).1;have z2:=(Ra Mi).1;have z3:lm=L.block:=by have:=zj.out _ (List.getElem_mem za);omega
   have z4:lr <= 2000:=by have:=lh.out _ (List.getElem_mem (show i<r.length by have:=Gq.out;omega));omega
   have HC:=zH (fun w' (hb:Below wr.heap.size wr w')=>Kq.out Am Ar lm cm lr cr m[i] _ w' (ta hb Hn) (ta hb Mi) z3 (by omega))
   have Pv:=zH (show (List.range (L.block+lr)).map (oq L m[i] (r[i]'(by have:=Gq.out;omega)))=Cx L m r i by
    unfold Cx;rw [List.getD_eq_getElem?_getD,List.getD_eq_getElem?_getD,List.getElem?_eq_getElem za,List.getElem?_eq_getElem (show i<r.length by have:=Gq.out;omega)]
    simp only [Option.getD_some]
    first | rw [z2] | rw [<- z2])
   have Zt:=zH (show ∀ k,oq L m[i] (r[i]'(by have:=Gq.out;omega)) k<18446744073709551616 from fun k=>Nat.lt_trans (BQ (by have:=mA.out;omega) _ _ _) mA.out.2)
   have Hq:=zH (TY L m r i);revert HC Pv Zt
   generalize oq L m[i] (r[i]'(by have:=Gq.out;omega))=PF
   intro HC Pv Zt;clear z1 z2 z3 Hn Mi oz pz Xy Yy;have n1:w.heap.size<N:=by omega
   have n2:w.heap.size+1<N:=by omega
   have cl:=kl.cell;have ll:=kl.lt;have cc:=kc.cell;have lc:=kc.lt;go_upto_region 6 with fail
   refine Rc (Yf N) [11,12,13] [0,1,2,3,4,5,6,7,8,9,10,11,12,13,14] (by kernel_rfl) (by kernel_rfl) ?_
   refine vd (zb N) ?_;intro Wc Na ja;refine Nf ?_;have ya:=Cc Na;have Dc:=ya.size;have hNw0:=Pa;refine Mb (zb N) rfl rfl rfl (fun _=>by go_simp <;> rfl) ((HC.out _ ya).mono ?_)
   rintro e w3 ⟨g',rfl,hg',kg',ib⟩;refine ⟨_,rfl,yf ib (Nat.le_trans hNw0 Dc),?_⟩;replace ja:=(zb N).trans _ _ _ ja (yf ib (Nat.le_trans hNw0 Dc));simp only [Act.put,zLa,zLb,zLc];have Fb:=oa ya ib;have aj:N <= g':=by omega
   have hvg:some g'≠v.ownBlock:=fun e=>by have:=(ra.lt _ e.symm).2;omega
   replace kl:=ia kl Fb;replace kc:=ia kc Fb;replace kf:=ia kf Fb;replace ra:=Oa ra Fb zR;replace Da:=Uc Da Fb;replace da:=oa da Fb;replace Pa:=Nat.le_trans Pa Fb.size;have hNd:=Nat.le_trans Dc ib.size;have Qo:Jc N v.ownBlock w3 (.slice (some ⟨g',0,none⟩) (L.block+lr) (L.block+lr)) (Cx L m r i):=by
    rw [<- Pv.out];exact aD kg' (fun k _=>Zt.out k) (by simp [maxLen];omega) aj hvg
   have HNd:=zH (And.intro hNd (show wr.heap.size <= w3.heap.size from Fb.size))
   clear kg' ib Fb aj hvg hg' Dc ya HC Na ja cl ll cc lc hNd;have ja:=(zb N).refl w3;refine Nf ?_;refine Ug (zb N) rfl rfl rfl ?_;go_simp;refine ⟨yf ((Below.refl _ _).alloc zR _) Pa,?_⟩;have ma:=(Below.refl w3.heap.size w3).alloc zR (.cells #[.slice (some ⟨g',0,none⟩) (L.block+lr) (L.block+lr)] 28);have La:=Lf w3 (.slice (some ⟨g',0,none⟩) (L.block+lr) (L.block+lr)) 28;replace Qo:=Mh Qo ma.size (fun b _ h2 _=>ma.block b h2)
   replace kl:=ia kl ma;replace kc:=ia kc ma;replace kf:=ia kf ma;replace ra:=Oa ra ma zR;replace Da:=Uc Da ma;replace da:=oa da ma;replace Pa:=Nat.le_trans Pa ma.size;have HNe:=zH (Nat.le_trans HNd.out.2 ma.size)
   try simp only [Act.put,zLa,zLb,zLc]
   generalize w3.alloc _=w4 at kl kc kf ra Da Qo da La Pa HNe |-;generalize w3.heap.size=g7 at La |-;clear ma HNd ja;have ja:=(zb N).refl w4;refine Nf ?_;refine Ug (zb N) rfl rfl rfl ?_;refine Tn _ _ rfl Cj rfl ra rfl La (by intro u hu;simp at hu;subst hu;rfl) (by omega) Pa ?_
   intro v' wn db Ma Lb;have Rb:∀ q,v.ownBlock=some q -> N <= q:=fun q e=>(ra.lt q e).1
   have vn:=Ae ra Ma Pa;refine ⟨vn,?_⟩;have ee:=Tq Da Qo Ma Lb;rw [Hq.out] at ee;replace kl:=kl.grown Ma (fun e=>by have:=Rb _ e.symm;omega)
   replace kc:=kc.grown Ma (fun e=>by have:=Rb _ e.symm;omega)
   replace kf:=kf.grown Ma (fun e=>by have:=Rb _ e.symm;omega)
   replace da:=da.trans (vn.mono (by omega))
   have af:N <= wn.heap.size:=by have:=Ma.size;omega
   clear ra Da Qo Ma Lb Rb La ja vn HNe Pa;have ja:=(zb N).refl wn
   try simp only [Act.put,zLa,zLb,zLc]
   refine Nf ?_;refine Fc ?_;go_wp2
   go_roundw
   case rel=>exact ⟨i+1,v',_,rfl,by omega,by go_num,kl,kc,kf,db,ee,da,af⟩
   case measure=>simp [intOf];omega
  ·obtain rfl:i=m.length:=by omega
   have g2:¬((m.length:Int)<(m.length:Int)):=by omega
   clear zB Tb Kq;have cl:=kl.cell;have cc:=kc.cell;have n1:w.heap.size<N:=by omega
   have n2:w.heap.size+1<N:=by omega
   go_upto_region 8 with fail
   refine Rc (Yf N) [3,6,9,10,11] [0,1,2,4,5,7,8,3,6,9,10,11,12] (by kernel_rfl) (by kernel_rfl) ?_
   refine vd (zb N) ?_;intro Wc Na ja;refine Nf ?_;have ya:=Cc Na;replace kl:=ia kl ya;replace kc:=ia kc ya;replace kf:=ia kf ya;replace ra:=Oa ra ya zR;replace Da:=Uc Da ya;replace da:=oa da ya;replace Pa:=Nat.le_trans Pa ya.size;clear ya Na cl cc;refine Mb (zb N) rfl rfl rfl (fun _=>by go_simp <;> rfl) ((zp.out _ da).mono ?_)
   rintro e w3 ⟨v1,rfl,o1,ib⟩;refine ⟨_,rfl,yf ib Pa,?_⟩;replace ja:=(zb N).trans _ _ _ ja (yf ib Pa);simp only [Act.put,zLa,zLb,zLc];have Ng:∀ q,v.ownBlock=some q -> q<Wc.heap.size:=fun q e=>(ra.lt q e).2
   have Oc:Jc N v.ownBlock w3 v1 co:=Xl o1 Qg.out.1 Pa Ng;obtain ⟨A1',um,rfl,-⟩:=Ob o1;replace kl:=ia kl ib;replace kc:=ia kc ib;replace kf:=ia kf ib;replace ra:=Oa ra ib zR;replace Da:=Uc Da ib;replace da:=oa da ib;replace Pa:=Nat.le_trans Pa ib.size;clear ib o1 ja Ng;have ja:=(zb N).refl w3;refine Mb (zb N) rfl rfl rfl (fun _=>by go_simp <;> rfl) ((Zn.out _ da).mono ?_)
   rintro e w4 ⟨v2,rfl,o2,Fb⟩;refine ⟨_,rfl,yf Fb Pa,?_⟩;replace ja:=(zb N).trans _ _ _ ja (yf Fb Pa);simp only [Act.put,zLa,zLb,zLc];have Zh:∀ q,v.ownBlock=some q -> q<w3.heap.size:=fun q e=>(ra.lt q e).2
   have ye:Jc N v.ownBlock w4 v2 (Bd L li):=Xl o2 (by
    have hp:=mA.out;intro x hx;rcases List.mem_cons.1 hx with rfl | hx
    ·exact Nat.lt_trans (bE (by omega) _ _) hp.2
    ·exact Qg.out.2 x hx) Pa Zh
   obtain ⟨A2',yo,rfl,-⟩:=Ob o2;replace Oc:=Mh Oc Fb.size (fun b _ h2 _=>Fb.block b h2)
   replace kl:=ia kl Fb;replace kc:=ia kc Fb;replace kf:=ia kf Fb;replace ra:=Oa ra Fb zR;replace Da:=Uc Da Fb;replace da:=oa da Fb;replace Pa:=Nat.le_trans Pa Fb.size;clear Fb o2 ja Zh;have ja:=(zb N).refl w4;refine Mb (zb N) rfl rfl rfl (fun _=>by go_simp <;> rfl) ((eu.out _ da).mono ?_)
   rintro e w5 ⟨g3,rfl,sg,k3,jb⟩;refine ⟨_,rfl,yf jb Pa,?_⟩;replace ja:=(zb N).trans _ _ _ ja (yf jb Pa);simp only [Act.put,zLa,zLb,zLc];have hv3:some g3≠v.ownBlock:=fun e=>by have:=(ra.lt _ e.symm).2;omega
   have To:Jc N v.ownBlock w5 (.slice (some ⟨g3,0,none⟩) (L.block+qu.length) (L.block+qu.length)) (ZF L qu) :=
    aD k3 (fun k _=>Nat.lt_trans (Mz (by have:=mA.out;omega) _ _ _) mA.out.2) (by simp [maxLen];omega) (by omega) hv3
   replace Oc:=Mh Oc jb.size (fun b _ h2 _=>jb.block b h2)
   replace ye:=Mh ye jb.size (fun b _ h2 _=>jb.block b h2)
   replace kl:=ia kl jb;replace kc:=ia kc jb;replace kf:=ia kf jb;replace ra:=Oa ra jb zR;replace Da:=Uc Da jb;replace da:=oa da jb;replace Pa:=Nat.le_trans Pa jb.size;clear jb k3 sg ja hv3 zp Zn eu kc;have ja:=(zb N).refl w5;refine Ug (zb N) rfl rfl rfl ?_;go_simp;refine ⟨yf ((Below.refl _ _).alloc zR _) Pa,?_⟩;have ma:=(Below.refl w5.heap.size w5).alloc zR (.cells #[.slice A1' co.length um, .slice A2' (li.length+1) yo, .slice (some ⟨g3,0,none⟩) (L.block+qu.length) (L.block+qu.length)] 28);have La:=ES w5 (.slice A1' co.length um) (.slice A2' (li.length+1) yo) (.slice (some ⟨g3,0,none⟩) (L.block+qu.length) (L.block+qu.length)) 28;replace Oc:=Mh Oc ma.size (fun b _ h2 _=>ma.block b h2)
   replace ye:=Mh ye ma.size (fun b _ h2 _=>ma.block b h2)
   replace To:=Mh To ma.size (fun b _ h2 _=>ma.block b h2)
   replace kl:=ia kl ma;replace kf:=ia kf ma;replace ra:=Oa ra ma zR;replace Da:=Uc Da ma;replace da:=oa da ma;replace Pa:=Nat.le_trans Pa ma.size
   try simp only [Act.put,zLa,zLb,zLc]
   generalize w5.alloc _=w6 at kl kf ra Da Oc ye To da La Pa |-;generalize w5.heap.size=g7 at La |-;clear ma ja;have ja:=(zb N).refl w6;refine Nf ?_;refine Ug (zb N) rfl rfl rfl ?_;refine Tn _ _ rfl Cj rfl ra rfl La (by intro u hu;simp at hu;rcases hu with rfl | rfl | rfl <;> rfl) (by omega) Pa ?_
   intro v' wn db Ma Lb;have Rb:∀ q,v.ownBlock=some q -> N <= q:=fun q e=>(ra.lt q e).1
   have vn:=Ae ra Ma Pa;refine ⟨vn,?_⟩;have ee:=EP Da Oc ye To Ma Lb;replace kl:=kl.grown Ma (fun e=>by have:=Rb _ e.symm;omega)
   replace kf:=kf.grown Ma (fun e=>by have:=Rb _ e.symm;omega)
   replace da:=da.trans (vn.mono (by omega))
   have Vw:=qw ee db;clear ra Da Oc ye To Ma Lb Rb La ja vn Pa ee;have ja:=(zb N).refl wn
   try simp only [Act.put,zLa,zLb,zLc]
   refine Nf ?_;refine Fc ?_;rw [HPE.out] at Vw;rw [<- ao.out] at db;obtain ⟨Ap,cp,rfl,hcp,-⟩:=Ob db;clear db ja HPE ao Gq zj lh Qg;obtain ⟨-,-,hcm,hPd⟩:=Ve Vw;obtain ⟨gC,az⟩:=zEX (wn.heap.size);have y0:w.heap.size+3 <= gC:=by rw [az];have:=da.size;have:=kf.lt;omega
   have lM:M <= maxLen:=by simp [maxLen];omega
   have hmaxn:max (0:Int) (L.n:Int)=(L.n:Int):=Int.max_eq_right (by omega)
   have xn:(L.n:Int) <= 1024:=by omega
   have cl:=kl.cell;go_upto_region 10 with fail
   have kC:=Blk.new wn 28 (ag L.n fun _=>.slice none 0 0)
   have ma:=(Below.refl wn.heap.size wn).alloc zR (.cells (ag L.n fun _=>.slice none 0 0) 28)
   have hs7:(wn.alloc (.cells (ag L.n fun _=>.slice none 0 0) 28)).heap.size=gC+1:=by rw [az];simp
   rw [<- az] at kC ma |-;clear cl mkC;generalize wn.alloc _=w7 at kC ma hs7 |-;rw [oK (g:=fun k=>if k<0 then Se M (gC+1+k) else .slice none 0 0) (fun k _=>by simp)] at kC
   have HGC:=zH az;have HS7:=zH hs7;clear az hs7;go_wp2_with fail
   go_loopw [67] (fun y wr=>∃ i:Nat,i <= L.n /\ y= .int .i64 i /\ Blk wr gC 28 (ag L.n fun k=>if k<i then Se M (gC+1+k) else .slice none 0 0) /\ Hid (∀ k,k<i -> Blk wr (gC+1+k) 22 (Ha M fun _=>0)) /\ Hid (wr.heap.size=gC+1+i) /\ Below gC wn wr) (fun y _=>L.n-(intOf y).toNat)
   case atStart=>exact ⟨0,Nat.zero_le _,rfl,kC,fun k h=>by omega,HS7.out,ma⟩
   case round =>
    clear kC ma HS7;obtain ⟨i,hi,rfl,kC,HK,HSZ,Rg⟩:=hrel;by_cases za:i<L.n
    ·have q1:(0:Int) <= (i:Int):=by omega
     have q2:(i:Int)<(L.n:Int):=by omega
     have cC:=kC.cell i;rw [nK _ za,if_neg (Nat.lt_irrefl i)] at cC;have lC:=kC.lt;have fC:=kC.frozen;go_wp2_with fail
     have Ho:=HSZ.out;rw [Ho];have hg:=Me (w:=wr) gC i (Se M (gC+1+i));replace kC:=kC.set_ i (Se M (gC+1+i));rw [xW,oK (g:=fun k=>if k<i+1 then Se M (gC+1+k) else .slice none 0 0) (fun k _=>by
      by_cases e:k=i
      ·subst e;simp
      ·rw [if_neg e]
       by_cases e2:k<i
       ·rw [if_pos e2,if_pos (by omega)]
       ·rw [if_neg e2,if_neg (by omega)])] at kC
     have Fq:Hid (∀ k,k<i -> Blk (wr.setCell ⟨gC,i,none⟩ (Se M (gC+1+i))) (gC+1+k) 22 (Ha M fun _=>0)):=fun k h=>(HK.out k h).grown hg (fun e=>by have:=Option.some.inj e;omega)
     have eL:(wr.setCell ⟨gC,i,none⟩ (Se M (gC+1+i))).heap.size=gC+1+i:=by simp [World.setCell];exact Ho
     replace Rg:=Rg.trans (Ff hg (by have:=Rg.size;have:=HGC.out;omega) zR)
     clear hg HK Ho HSZ cC fC lC;generalize wr.setCell _ _=w8 at kC Fq eL Rg |-;have ma:=(Below.refl w8.heap.size w8).alloc zR (.cells (Ha M fun _=>0) 22)
     have kN:=Blk.new w8 22 (Ha M fun _=>0)
     have HSN:=zH (show (w8.alloc (.cells (Ha M fun _=>0) 22)).heap.size=gC+1+(i+1) by simp;omega)
     rw [eL] at kN;replace kC:=ia kC ma;have HK3:Hid (∀ k,k<i+1 -> Blk (w8.alloc (.cells (Ha M fun _=>0) 22)) (gC+1+k) 22 (Ha M fun _=>0)):=fun k h=>by
      by_cases e:k=i
      ·subst e;exact kN
      ·exact (Fq.out k (by omega)).below ma (Fq.out k (by omega)).lt
     replace Rg:=Rg.trans (ma.mono (by omega))
     clear ma kN Fq eL;generalize w8.alloc _=w9 at kC HK3 HSN Rg |-
     go_roundw
     case rel=>exact ⟨i+1,by omega,by go_num,kC,HK3,HSN,Rg⟩
     case measure=>simp [intOf];omega
    ·obtain rfl:i=L.n:=by omega
     rw [oK (g:=fun k=>Se M (gC+1+k)) (fun k hk=>if_pos hk)] at kC
     have hs9:gC+1+L.n <= wr.heap.size:=by rw [HSZ.out];omega
     have Fq:Hid (∀ k,k<L.n -> Blk wr (gC+1+k) 22 (Ha M fun q=>if q<0 then Fi L.p L.n L.n.log2 (ps.getD q []) gen k else 0)):=fun k h=>by
      have:=HK.out k h;rw [pk (g:=fun q=>if q<0 then Fi L.p L.n L.n.log2 (ps.getD q []) gen k else 0) (fun q _=>by simp)] at this
      exact this
     clear HK HSZ mkM;go_wp2_with fail
     go_loopw [79] (fun y wr=>∃ j:Nat,j <= M /\ y= .int .i64 j /\ Blk wr gC 28 (ag L.n fun k=>Se M (gC+1+k)) /\ Hid (∀ k,k<L.n -> Blk wr (gC+1+k) 22 (Ha M fun q=>if q<j then Fi L.p L.n L.n.log2 (ps.getD q []) gen k else 0)) /\ gC+1+L.n <= wr.heap.size /\ Below gC wn wr) (fun y _=>M-(intOf y).toNat)
     case atStart=>exact ⟨0,Nat.zero_le _,rfl,kC,Fq,hs9,Rg⟩
     case round =>
      clear kC Fq hs9 Rg;obtain ⟨j,hj,rfl,kC,HK,Nb,Rg⟩:=hrel;by_cases za:j<M
      ·have q1:(0:Int) <= (j:Int):=by omega
       have q2:(j:Int)<(M:Int):=by omega
       obtain ⟨bp,qp,Aj,lj,cj,rfl,hbp,hcp',hrp⟩:=vh hPd (show j<ps.length by rw [ni.out];exact za)
       have FK:bp<gC:=by rw [HGC.out];exact hbp
       have hcj:=(Rg.cell (p:=⟨bp,qp+j,none⟩) FK).trans hcp';have hbn2:Below wn.heap.size wn wr:=by rw [<- HGC.out];exact Rg
       have hrj:=ta hbn2 hrp;have Hw:ps[j]'(by rw [ni.out];exact za)=ps.getD j []:=by rw [List.getD_eq_getElem?_getD,List.getElem?_eq_getElem];rfl
       have hlj:lj <= 8192:=by have h1:=Xj.out _ (List.getElem_mem (show j<ps.length by rw [ni.out];exact za));have h2:=(Ra hrp).1;omega
       rw [Hw] at hrj;have HE:=zH (fun w' (hb:Below wr.heap.size wr w')=>HEv.out Aj lj cj (ps.getD j []) w' (ta hb hrj) hlj)
       have kl':=kl.below Rg (show w.heap.size<gC by omega)
       have bx:=kf.below Rg (show w.heap.size+1+1<gC by omega)
       have cl:=kl'.cell;have ll:=kl'.lt;have cf:=bx.cell;have lf:=bx.lt;clear hcp' hrp hrj Hw hbn2;have hbpw:bp<wr.heap.size:=by omega
       go_upto_region 18 with fail
       refine Rc (Ib) [3,6] [0,1,2,4,5,3,6,7,8,9,10,11] (by kernel_rfl) (by kernel_rfl) ?_
       refine vd (xa) ?_;intro Wc Na ja;refine pb ?_;have ya:=Cc Na;refine Mb (xa) rfl rfl rfl (fun _=>by go_simp <;> rfl) ((HGen.out _).mono ?_)
       rintro e w3 ⟨rfl,ib⟩;refine ⟨_,rfl,ib,?_⟩;replace ja:=(xa).trans _ _ _ ja (ib);simp only [Act.put,zLa,zLb,zLc];have Fb:=oa ya ib;refine pb ?_;refine Mb (xa) rfl rfl rfl (fun _=>by go_simp <;> rfl) ((HE.out _ Fb).mono ?_)
       rintro e w5 ⟨gv,rfl,Em,kv,jb⟩;refine ⟨_,rfl,jb,?_⟩;replace ja:=(xa).trans _ _ _ ja (jb);simp only [Act.put,zLa,zLb,zLc];have Zb:=oa Fb jb;have hgv2:wr.heap.size <= gv:=Nat.le_trans Fb.size Em;replace kC:=ia kC Zb;have Fq:Hid (∀ k,k<L.n -> Blk w5 (gC+1+k) 22 (Ha M fun q=>if q<j \/ (q=j /\ k<0) then Fi L.p L.n L.n.log2 (ps.getD q []) gen k else 0)):=fun k h=>by
        have:=(HK.out k h).below Zb (HK.out k h).lt;rw [pk (g:=fun q=>if q<j \/ (q=j /\ k<0) then Fi L.p L.n L.n.log2 (ps.getD q []) gen k else 0) (fun q _=>by simp)] at this
        exact this
       have hbn3:=Rg.trans (Zb.mono (by omega))
       have hsz2:=Nat.le_trans Nb Zb.size;have hgv3:gC+1+L.n <= gv:=by omega
       clear ya ib Fb jb Zb Na ja HK Rg Nb cl ll cf lf kl' bx HE hcj Em;refine pb ?_;refine Fc ?_;obtain ⟨V,hV⟩:∃ V:Nat -> Nat -> Nat,V=fun q k=>Fi L.p L.n L.n.log2 (ps.getD q []) gen k:=⟨_,rfl⟩
       have HV:=zH hV;rw [show Fi L.p L.n L.n.log2 (ps.getD j []) gen=V j by rw [hV]] at kv
       replace Fq:Hid (∀ k,k<L.n -> Blk w5 (gC+1+k) 22 (Ha M fun q=>if q<j \/ (q=j /\ k<0) then V q k else 0)):=by rw [hV];exact Fq
       clear hV;go_wp2_with fail
       go_loopw [96] (fun y wr=>∃ i:Nat,i <= L.n /\ y= .int .i64 i /\ Blk wr gC 28 (ag L.n fun k=>Se M (gC+1+k)) /\ Hid (∀ k,k<L.n -> Blk wr (gC+1+k) 22 (Ha M fun q=>if q<j \/ (q=j /\ k<i) then V q k else 0)) /\ gC+1+L.n <= wr.heap.size /\ Below gC wn wr /\ Blk wr gv 22 (Ha L.n (V j))) (fun y _=>L.n-(intOf y).toNat)
       case atStart=>exact ⟨0,Nat.zero_le _,rfl,kC,Fq,hsz2,hbn3,kv⟩
       case round =>
        clear kC Fq hsz2 hbn3 kv;obtain ⟨i,hi,rfl,kC,HK,Nb,Rg,kv⟩:=hrel;by_cases Lo:i<L.n
        ·have p1:(0:Int) <= (i:Int):=by omega
         have p2:(i:Int)<(L.n:Int):=by omega
         obtain ⟨x,hx⟩:=zEX (V j i);have cv:=kv.cell i;rw [dg _ Lo,<- hx] at cv;have lv:=kv.lt;have cC:=kC.cell i;rw [nK _ Lo] at cC;have lC:=kC.lt;obtain ⟨gi,Ho⟩:=zEX (gC+1+i);have kI:Blk wr gi 22 (Ha M fun q=>if q<j \/ (q=j /\ i<i) then V q i else 0):=by rw [Ho];exact HK.out i Lo
         have cI:=kI.cell j;rw [dg _ za] at cI;generalize (if j<j \/ (j=j /\ i<i) then V j i else 0)=old at cI
         have lI:=kI.lt;have fI:=kI.frozen;rw [<- Ho] at cC;have ngC:gi≠gC:=by omega
         have ngv:gi≠gv:=by omega
         dsimp only [Se] at cC
         have HGI:=zH Ho;have rm:=zH hx;clear Ho hx;go_wp2_with fail
         have hg:=Me (w:=wr) gi j (.int .u64 x);have hK2:Hid (∀ k,k<L.n -> Blk (wr.setCell ⟨gi,j,none⟩ (.int .u64 x)) (gC+1+k) 22 (Ha M fun q=>if q<j \/ (q=j /\ k<i+1) then V q k else 0)):=fun k h=>by
          by_cases e:k=i
          ·subst e
           have h2:=kI.set_ j (.int .u64 x);rw [zo] at h2;rw [<- HGI.out];rw [pk (g:=fun q=>if q<j \/ (q=j /\ k<k+1) then V q k else 0) (fun q _=>by
            simp only [ef];by_cases e:q=j
            ·subst e;rw [if_pos rfl,if_pos (by omega),rm.out]
            ·rw [if_neg e]
             by_cases e2:q<j
             ·rw [if_pos (.inl e2),if_pos (.inl e2)]
             ·rw [if_neg (by omega),if_neg (by omega)])] at h2
           exact h2
          ·have h2:=(HK.out k h).grown hg (fun e2=>by have:=Option.some.inj e2;have:=HGI.out;omega)
           rw [pk (g:=fun q=>if q<j \/ (q=j /\ k<i+1) then V q k else 0) (fun q _=>by
            by_cases e2:q<j \/ (q=j /\ k<i)
            ·rw [if_pos e2,if_pos (by omega)]
            ·rw [if_neg e2,if_neg (by omega)])] at h2
           exact h2
         replace kC:=kC.grown hg (fun e=>ngC (Option.some.inj e).symm)
         replace kv:=kv.grown hg (fun e=>ngv (Option.some.inj e).symm)
         replace Nb:=Nat.le_trans Nb hg.size;replace Rg:=Rg.trans (Ff hg (by have:=Rg.size;have:=HGC.out;omega) (by have:=HGI.out;omega))
         clear hg HK kI cI cC cv lI fI lC lv rm
         go_roundw
         case rel=>exact ⟨i+1,by omega,by go_num,kC,hK2,Nb,Rg,kv⟩
         case measure=>simp [intOf];omega
        ·obtain rfl:i=L.n:=by omega
         have HK3:Hid (∀ k,k<L.n -> Blk wr (gC+1+k) 22 (Ha M fun q=>if q<j+1 then Fi L.p L.n L.n.log2 (ps.getD q []) gen k else 0)):=fun k h=>by
          have h2:=HK.out k h;rw [pk (g:=fun q=>if q<j+1 then Fi L.p L.n L.n.log2 (ps.getD q []) gen k else 0) (fun q _=>by
           rw [HV.out];by_cases e2:q<j+1
           ·rw [if_pos e2,if_pos (by omega)]
           ·rw [if_neg e2,if_neg (by omega)])] at h2
          exact h2
         clear HK kv;go_wp2
         go_roundw
         case rel=>exact ⟨j+1,by omega,by go_num,kC,HK3,Nb,Rg⟩
         case measure=>simp [intOf];omega
      ·obtain rfl:j=M:=by omega
       go_wp2;go_ret
       have Zq:w.heap.size <= gC:=by have:=HGC.out;have:=da.size;omega
       refine ⟨_,rfl,⟨fun q e=>by have e':gC=q:=Option.some.inj e;omega,fun u hu=>?_⟩,da.trans (Rg.mono (by omega))⟩
       rw [show (fun i=>(List.range j).map (Bg L ps i))=fun i=>(List.range j).map fun q=>Fi L.p L.n L.n.log2 (ps.getD q []) gen i from funext fun i=>HCV.out i]
       have kCu:Blk u gC 28 _:=(hu gC Zq kC.lt).trans kC;refine LW (N:=gC+1) (gb:=none) (cs:=ag L.n fun k=>Se j (gC+1+k)) (fun k hk=>⟨_,nK _ hk,?_⟩) kCu (by simp [maxLen];omega)
       have h2:=HK.out k hk;rw [pk (g:=fun q=>Fi L.p L.n L.n.log2 (ps.getD q []) gen k) (fun q hq=>if_pos hq)] at h2
       have h3:Blk u (gC+1+k) 22 _:=(hu (gC+1+k) (by omega) h2.lt).trans h2
       exact aD h3 (fun q _=>HFF.out k q) lM (by omega) (fun e=>by cases e)
def wv (p:Nat) (xs:List Nat):Nat -> List Nat
 | 0=>Ui p [1]
 | k+1=>Be p [oc p (xs.getD k 0),1%p] (wv p xs k)
def Fk (p:Nat) (xs:List Nat):List Nat:=wv p xs xs.length
theorem TI (p:Nat) (xs:List Nat):∀ k,(wv p xs k).length <= k+1
 | 0=>by
  have:=QI p [1]
  simpa [wv] using this
 | k+1=>by
  have h1:=Dr p [oc p (xs.getD k 0),1%p] (wv p xs k);have h2:=TI p xs k;have h0:([oc p (xs.getD k 0),1%p]:List Nat).length=2:=rfl;rw [h0] at h1;rw [wv];omega
def ng (xs:List Nat) (i:Nat):List Nat:=xs.take i++xs.drop (i+1)
def xz (p:Nat) (xs ys:List Nat) (i:Nat):Nat:=ys.getD i 0*(Bc p (Fk p (ng xs i)) (xs.getD i 0)^(p-2)%p)%p
def jx (p:Nat) (xs ys:List Nat):Nat -> List Nat
 | 0=>[]
 | i+1=>Pe p (jx p xs ys i) (xh p (Fk p (ng xs i)) (xz p xs ys i))
def Mm (p:Nat) (xs ys:List Nat):List Nat:=jx p xs ys xs.length
theorem VF {xs:List Nat} {i:Nat} (h:i<xs.length):(ng xs i).length=xs.length-1:=by
 simp [ng]
 omega
theorem FC (p:Nat) (xs ys:List Nat):∀ i,i <= xs.length -> (jx p xs ys i).length <= xs.length
 | 0,_=>Nat.zero_le _
 | i+1,h=>by
  have h1:=nn p (jx p xs ys i) (xh p (Fk p (ng xs i)) (xz p xs ys i));have h2:=FC p xs ys i (by omega)
  have h3:=uq p (Fk p (ng xs i)) (xz p xs ys i);have h4:=TI p (ng xs i) (ng xs i).length;have h5:=VF (xs:=xs) (i:=i) (by omega)
  rw [jx];unfold Fk at *;omega
theorem K0 (p:Nat) (A:Option Addr) (n c:Nat) (xs:List Nat) (w:World) (hp:ab p=true) (hl:RWd w [.slice A n c] xs) (hn:n <= 1000) :
  Calls Tryz.prog 279 #[.int .u64 p, .slice A n c] w fun e w'=>∃ v,e= .returned v /\ RWd w' [v] (Fk p xs) /\ Below w.heap.size w w':=by
 obtain ⟨rfl,h1,h2,za,La⟩:=Ra hl;obtain ⟨jc,Kb⟩:=Va hp;have HT:=zH (fun A n c l w hl hn=>bG p A n c l w hp hl hn)
 have HN:=zH (fun a w=>mI p a w hp)
 have HR:=zH (fun w=>pI p 1 w hp)
 have HM:=zH (fun A B n c m d a b w ha hb hn hm=>WC p A B n c m d a b w hp ha hb hn hm)
 have HNL:=zH (fun a=>Nat.lt_trans (OQ p a (by omega)) Kb)
 have H1L:=zH (show 1%p<18446744073709551616 from Nat.lt_trans (Nat.mod_lt _ (by omega)) Kb)
 obtain ⟨V,hV⟩:=zEX (wv p xs);have Zm:=zH (show Ui p [1]=V 0 by rw [hV];rfl)
 obtain ⟨o,ho⟩:=zEX (1%p);have HVS:=zH (show ∀ k,Be p [oc p (xs.getD k 0),o] (V k)=V (k+1) from fun k=>by rw [hV,ho];rfl)
 have Xr:=zH (show ∀ k,k <= xs.length -> (V k).length <= 1001 from fun k hk=>by rw [hV];have:=TI p xs k;omega)
 rw [show Fk p xs=V xs.length by rw [hV];rfl]
 rw [<- ho] at H1L HR;have gm:(xs.length:Int) <= 1000:=by omega
 clear hV ho hl h1 h2 za hp jc Kb;have k0:=Blk.new w 22 (Fa [1]).toArray;have vj:=IC k0 (by intro x hx;simp at hx;omega) (by simp [maxLen])
 have da:Below w.heap.size w (w.alloc (.cells (Fa [1]).toArray 22)):=(Below.refl _ _).alloc zR _;go_enter Tryz.func279,Tryz.ntmps279
 go_wp2_with fail
 refine (HT.out _ _ _ _ _ vj (by simp)).mono ?_
 rintro e w1 ⟨v0,rfl,So,ea⟩;replace da:=oa da ea;clear ea k0 vj HT;rw [Zm.out] at So;go_wp2_with fail
 go_loopw [5,6] (fun v i wr=>∃ k:Nat,k <= xs.length /\ i= .int .i64 k /\ RWd wr [v] (V k) /\ Below w.heap.size w wr) (fun _ i _=>xs.length-(intOf i).toNat)
 case atStart=>exact ⟨0,Nat.zero_le _,rfl,So,da⟩
 case round =>
  clear So da;obtain ⟨k,hk,rfl,hv,hb⟩:=hrel;obtain ⟨Av,cv,rfl⟩:=Le hv;by_cases za:k<xs.length
  ·obtain ⟨b,q,rfl,Wb,hc⟩:=Vd (La.below hb) za
   have sD:=zH (HVS.out k);have Ml:=Xr.out k hk;generalize xs.getD k 0=x at *;have Jg:=zH (HN.out x);have HNL1:=zH (HNL.out x);generalize oc p x=y at *;obtain ⟨V1,hV1⟩:=zEX (V (k+1));have Vv:=zH hV1;rw [<- hV1] at sD;obtain ⟨V0,Eo⟩:=zEX (V k);rw [<- Eo] at hv Ml sD |-;clear hV1 Eo;go_wp2_with fail
   refine (Jg.out _).mono ?_;rintro e w2 ⟨rfl,ea⟩;replace hb:=oa hb ea;replace hv:=ta ea hv;clear ea;go_wp2_with fail
   refine (HR.out _).mono ?_;rintro e w3 ⟨rfl,ea⟩;replace hb:=oa hb ea;replace hv:=ta ea hv;clear ea;have k2:=Blk.new w3 22 (Fa [y,o]).toArray;have Kn:=IC k2 (by intro z hz;have:=HNL1.out;have:=H1L.out;simp at hz;omega) (by simp [maxLen])
   have ma:=(Below.refl w3.heap.size w3).alloc zR (.cells (Fa [y,o]).toArray 22);replace hv:=ta ma hv;go_wp2_with fail
   refine (HM.out _ _ _ _ _ _ _ _ _ Kn hv (by simp) (by omega)).mono ?_
   rintro e w4 ⟨v4,rfl,h4,ea⟩;replace hb:=oa (oa hb ma) ea;rw [sD.out] at h4;clear ma ea k2 Kn hv hc Wb;go_wp2
   go_roundw
   case rel=>exact ⟨k+1,by omega,by go_num,by rw [<- Vv.out];exact h4,hb⟩
   case measure=>simp [intOf];omega
  ·obtain rfl:k=xs.length:=by omega
   go_wp2;go_ret
   exact ⟨_,rfl,hv,hb⟩
theorem FZ (p:Nat) (A B:Option Addr) (m c n d:Nat) (xs ys:List Nat) (w:World) (hp:ab p=true) (hx:RWd w [.slice A m c] xs) (hy:RWd w [.slice B n d] ys) (hlen:n=m) (hm:m <= 1000) :
  Calls Tryz.prog 252 #[.int .u64 p, .slice A m c, .slice B n d] w fun e w'=>∃ v,e= .returned v /\ RWd w' [v] (Mm p xs ys) /\ Below w.heap.size w w':=by
 subst hlen;obtain ⟨xe,hxc,hxm,QK,Qo⟩:=Ra hx;obtain ⟨VB,-,-,-,hry⟩:=Ra hy;have Yj:=zH (fun A n c l w hl hn=>K0 p A n c l w hp hl hn)
 have HE:=zH (fun A n c x l w hl=>vM p A n c x l w hp hl)
 have HI:=zH (fun a w=>aG p a w hp)
 have HM:=zH (fun a b w=>Rn p a b w hp)
 have HS:=zH (fun A n c s l w hl hn=>nE p A n c s l w hp hl hn)
 have HA:=zH (fun A B n c m d a b w ha hb hn hm=>Ex p A B n c m d a b w hp ha hb hn hm)
 obtain ⟨R,hR⟩:=zEX (jx p xs ys);have Qv:=zH (show R 0=[] by rw [hR];rfl)
 have Jq:=zH (show ∀ i,Pe p (R i) (xh p (Fk p (ng xs i)) (xz p xs ys i))=R (i+1) from fun i=>by rw [hR];rfl)
 have lh:=zH (show ∀ i,i <= n -> (R i).length <= 1000 from fun i hi=>by rw [hR];have:=FC p xs ys i (by omega);omega)
 have HLC:=zH (show ∀ i,ys.getD i 0*(Bc p (Fk p (ng xs i)) (xs.getD i 0)^(p-2)%p)%p=xz p xs ys i from fun _=>rfl)
 have HOL:=zH (show ∀ i,xs.take i++xs.drop (i+1)=ng xs i from fun _=>rfl)
 have HOX:=zH (show ∀ i,∀ x∈ng xs i,x<18446744073709551616 from fun i x hx=>by
  rcases List.mem_append.1 hx with h | h
  ·exact QK x (List.mem_of_mem_take h)
  ·exact QK x (List.mem_of_mem_drop h))
 have Yr:=zH (show ∀ i,i<n -> (Fk p (ng xs i)).length <= 1000 from fun i hi=>by
  have h4:=TI p (ng xs i) (ng xs i).length;have h5:=VF (xs:=xs) (i:=i) (by omega)
  unfold Fk;omega)
 have HON:=zH (show ∀ i,i<n -> (ng xs i).length <= 1000 from fun i hi=>by
  have h5:=VF (xs:=xs) (i:=i) (by omega)
  omega)
 rw [show Mm p xs ys=R n by rw [hR,xe];rfl]
 have gn:(n:Int) <= 1000:=by omega
 have Zt:=zH xe;have HMY:=zH VB;clear hR hp hx hy xe VB QK;go_enter Tryz.func252,Tryz.ntmps252
 go_wp2_with fail
 go_loopw [7,8] (fun v y wr=>∃ i:Nat,i <= n /\ y= .int .i64 i /\ RWd wr [v] (R i) /\ Below w.heap.size w wr) (fun _ y _=>n-(intOf y).toNat)
 case atStart=>exact ⟨0,Nat.zero_le _,rfl,by rw [Qv.out];exact ⟨none,0,0,rfl,zR,by simp [maxLen],⟨rfl,fun h=>absurd h (by omega)⟩,fun x hx=>by cases hx⟩,Below.refl _ _⟩
 case round =>
  obtain ⟨i,hi,rfl,hv,hb⟩:=hrel;obtain ⟨Av,cv,rfl⟩:=Le hv;by_cases za:i<n
  ·have q1:(i:Int)<(n:Int):=by omega
   have q2:(0:Int) <= (i:Int):=by omega
   obtain ⟨i1,Io⟩:=zEX (i+1);have e1:(i:Int)+1=(i1:Int):=by omega
   have e2:=Yb i1;have q3:(i1:Int) <= (n:Int):=by omega
   have q4:i1 <= n:=by omega
   have q5:i <= n:=hi;have q6:i <= c:=by omega
   have q7:(i:Int) <= (c:Int):=by omega
   have ij:=EM (Qo.below hb) q5;have Po:=(Qo.below hb).cut (k:=i1) q4 hxc;rw [Nat.mul_one] at Po;have hdr:Fa (xs.drop i1)=(Fa xs).drop i1:=by simp [Fa]
   rw [<- hdr] at Po;have Nv:=zH (show xs.take i++xs.drop i1=ng xs i by rw [Io];exact HOL.out i)
   have iL:xs.length=n:=Zt.out.symm;obtain ⟨b1,Tl,he1,Hh,Lg⟩:=Vd (l:=xs) (A:=A) (by rw [iL];exact Qo) (j:=i) (by rw [iL];exact za)
   obtain ⟨b2,Ht,he2,Ii,Xg⟩:=Vd (l:=ys) (A:=B) (by rw [<- HMY.out];exact hry) (j:=i) (by rw [<- HMY.out];exact za)
   have HEA:=zH he1;have HEB:=zH he2;clear he1 he2;have c1:=(hb.cell (p:=⟨b1,Tl+i,none⟩) Hh).trans Lg;have c2:=(hb.cell (p:=⟨b2,Ht+i,none⟩) Ii).trans Xg;have Sv:=zH (Jq.out i);have Kv:=zH (HLC.out i);have vg:=HOX.out i;have hvn:=Yr.out i za;have hon:=HON.out i za;have Mg:=lh.out i hi;obtain ⟨x,hx⟩:=zEX (xs.getD i 0);obtain ⟨y,hy⟩:=zEX (ys.getD i 0);obtain ⟨tk,htk⟩:=zEX (xs.take i);obtain ⟨dr,hdr'⟩:∃ dr,dr=xs.drop i1:=⟨_,rfl⟩;obtain ⟨ol,qt⟩:=zEX (ng xs i);obtain ⟨lc,Iu⟩:=zEX (xz p xs ys i);obtain ⟨R1,Rs⟩:=zEX (R (i+1));obtain ⟨R0,Ny⟩:=zEX (R i);rw [<- hx] at c1 Kv;rw [<- hy] at c2 Kv;rw [<- htk] at ij Nv;rw [<- hdr'] at Po Nv;rw [<- qt] at Nv Sv Kv vg hvn hon;rw [<- Iu] at Sv Kv;rw [<- Rs] at Sv;rw [<- Ny] at Sv hv Mg |-;obtain ⟨vl,Ml⟩:=zEX (Fk p ol);rw [<- Ml] at Sv Kv hvn;have HVa1:=zH (fun A n c w hl hn=>by have:=Yj.out A n c ol w hl hn;rw [<- Ml] at this;exact this)
   obtain ⟨z,hz⟩:=zEX (Bc p vl x);rw [<- hz] at Kv;obtain ⟨zi,Bt⟩:=zEX (z^(p-2)%p);rw [<- Bt] at Kv;have yc:=zH (fun A n c w hl=>by have:=HE.out A n c x vl w hl;rw [<- hz] at this;exact this)
   have Di:=zH (fun w=>by have:=HI.out z w;rw [<- Bt] at this;exact this)
   have yd:=zH (fun w=>by have:=HM.out y zi w;rw [Kv.out] at this;exact this)
   have HHR:=zH Rs;have hwd:wr.ownsRow wr.heap.size 22 1 (.slice none 0 0) 0 (Fa []):=⟨rfl, .inl ⟨rfl,rfl⟩⟩;have Mn:b1<wr.heap.size:=World.block_lt_of_cell? _ _ c1;have Vo:b2<wr.heap.size:=World.block_lt_of_cell? _ _ c2;clear hx hy htk hdr' qt Iu Rs Ny Ml hz Bt hdr iL Lg Xg Hh Ii Kv Io;go_wp2_with (at_builtin;refine Mf rfl _ _ rfl xf rfl hwd rfl ij (mg tk) (by omega) zR ?_)
   intro v1 w1 zk NP hblk1;have oe:=Ae hwd NP zR;replace zk:w1.ownsRow wr.heap.size 22 1 v1 i (Fa tk):=by simpa [Fa] using zk
   clear NP hblk1 hwd ij;have EF:=Po.below oe;by_cases hci:c=i1
   all_goals
    first | (rw [if_pos hci] at EF;subst hci;rw [show n-c=0 by omega] at EF) | rw [if_neg hci] at EF
    go_wp2_with (at_builtin;refine Mf rfl _ _ rfl xf rfl zk rfl EF (mg dr) (by omega) oe.size ?_)
    intro v2 w2 sc OP hblk2;have Eh:=oe.trans (Ae zk OP oe.size);replace sc:=Qi sc Nv.out;obtain ⟨A2,JA,rfl,-⟩:=Ob sc;have Kn:=qf sc vg;replace c1:=(Eh.cell (p:=⟨b1,Tl+i,none⟩) Mn).trans c1;replace c2:=(Eh.cell (p:=⟨b2,Ht+i,none⟩) Vo).trans c2;replace Mn:=Nat.lt_of_lt_of_le Mn Eh.size;replace Vo:=Nat.lt_of_lt_of_le Vo Eh.size;have Ij:=zH (Ra Kn).1;replace hb:=oa hb Eh;replace hv:=ta Eh hv;clear zk sc OP hblk2 Po EF oe Eh vg Nv;have he1:=HEA.out;have he2:=HEB.out;clear HEA HEB;subst he1 he2;go_wp2_with fail
    refine (HVa1.out _ _ _ _ Kn (by have:=Ij.out;omega)).mono ?_
    rintro e w3 ⟨v3,rfl,h3,ea⟩;replace c1:=(ea.cell (p:=⟨b1,Tl+i,none⟩) Mn).trans c1;replace c2:=(ea.cell (p:=⟨b2,Ht+i,none⟩) Vo).trans c2;replace Mn:=Nat.lt_of_lt_of_le Mn ea.size;replace Vo:=Nat.lt_of_lt_of_le Vo ea.size;replace hb:=oa hb ea;replace hv:=ta ea hv;clear ea Kn Ij;obtain ⟨A3,cc3,rfl⟩:=Le h3;go_upto_region 9 with fail
    refine Rc (Ib) [12,13,14] [0,1,2,3,4,5,6,7,8,9,10,11,12,13,14,15] (by kernel_rfl) (by kernel_rfl) ?_
    refine vd (xa) ?_;intro Wc Na ja;have ya:=Cc Na;replace hb:=oa hb ya;replace hv:=ta ya hv;replace h3:=ta ya h3;refine pb ?_;refine Mb (xa) rfl rfl rfl (fun _=>by go_simp <;> rfl) ((yc.out _ _ _ _ h3).mono ?_)
    rintro e w4 ⟨rfl,ea⟩;refine ⟨_,rfl,ea,?_⟩;replace ja:=(xa).trans _ _ _ ja (ea);simp only [Act.put,zLa,zLb,zLc];replace hb:=oa hb ea;replace hv:=ta ea hv;replace h3:=ta ea h3;refine pb ?_;refine Mb (xa) rfl rfl rfl (fun _=>by go_simp <;> rfl) ((Di.out _).mono ?_)
    rintro e w5 ⟨rfl,Zd⟩;refine ⟨_,rfl,Zd,?_⟩;replace ja:=(xa).trans _ _ _ ja (Zd);simp only [Act.put,zLa,zLb,zLc];replace hb:=oa hb Zd;replace hv:=ta Zd hv;replace h3:=ta Zd h3;refine pb ?_;refine Mb (xa) rfl rfl rfl (fun _=>by go_simp <;> rfl) ((yd.out _).mono ?_)
    rintro e w6 ⟨rfl,Fj⟩;refine ⟨_,rfl,Fj,?_⟩;replace ja:=(xa).trans _ _ _ ja (Fj);simp only [Act.put,zLa,zLb,zLc];replace hb:=oa hb Fj;replace hv:=ta Fj hv;replace h3:=ta Fj h3;refine pb ?_;refine Fc ?_;clear ya ea Zd Fj ja Na c1 c2 Mn Vo;go_wp2_with fail
    refine (HS.out _ _ _ lc _ _ h3 (by omega)).mono ?_
    rintro e w7 ⟨v7,rfl,h7,ea⟩;replace hb:=oa hb ea;replace hv:=ta ea hv;clear ea h3;obtain ⟨A7,c7,rfl⟩:=Le h7;go_wp2_with fail
    refine (HA.out _ _ _ _ _ _ _ _ _ hv h7 (by omega) (by have:=uq p vl lc;omega)).mono ?_
    rintro e w8 ⟨v8,rfl,h8,ea⟩;replace hb:=oa hb ea;rw [Sv.out] at h8;go_wp2
    go_roundw
    case rel=>exact ⟨i+1,by omega,by go_num,by rw [<- HHR.out];exact h8,hb⟩
    case measure=>simp [intOf];omega
  ·obtain rfl:i=n:=by omega
   have q1:¬((i:Int)<(i:Int)):=by omega
   go_wp2;go_ret
   exact ⟨_,rfl,hv,hb⟩
end Go.Proofs.YtgeofabpinfcmaaGreat
