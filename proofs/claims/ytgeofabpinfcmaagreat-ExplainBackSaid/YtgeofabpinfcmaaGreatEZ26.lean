/- A part of the proof. No condition. -/
import Derived.Test.YtgeofabpinfcmaaGreatProg
import Derived.Test.YtgeofabpinfcmaaGreatEZ10
import Derived.Test.YtgeofabpinfcmaaGreatEZ24
import Derived.Laws.OwnMore
import Derived.Deep.AppendLies
import Derived.Carry
import Derived.Maps.OwnSet
import Derived.Maps.Views
import Derived.Test.YtgeofabpinfcmaaGreatEZ23
import Derived.Test.YtgeofabpinfcmaaGreatEZ22

set_option maxRecDepth 100000
set_option maxHeartbeats 8000000
set_option linter.unusedVariables false
set_option linter.unusedSimpArgs false
namespace Go.Proofs.YtgeofabpinfcmaaGreat
open Go.RowKit
theorem sR (p:Nat) (A:Option Addr) (n c x:Nat) (l:List Nat) (w:World) (hp:ab p=true) (hl:RWd w [.slice A n c] l) :
  Calls Tryz.prog 248 #[fv p, .slice A n c, .int .u64 x] w fun e w'=>e= .returned (.int .u64 ((ug p x l:Nat):Int)) /\ Below w.heap.size w w':=by
 obtain ⟨rfl,h1,h2,za,La⟩:=Ra hl;have gm:=Kf h1 h2;have HM:=zH (fun a b w=>sn p a b w hp)
 have HA:=zH (fun a b w=>Ls p a b w hp)
 have HD:=zH (TK p x l);obtain ⟨f,hf⟩:=zEX (fun k=>ug p x (l.drop k))
 have ic:=zH (show f 0=ug p x l by rw [hf];rfl)
 have HF9:=zH (show f l.length=0 by rw [hf];simp [ug])
 have HF:=zH (fun k (hk:k<l.length)=>show f k=(f (k+1)*x%p+l.getD k 0)%p by rw [hf];exact HD.out k hk)
 rw [<- ic.out];clear HD hl h1 h2 hp za hf ic;obtain ⟨m,hm⟩:∃ m:Int,m=(l.length:Int)-1:=⟨_,rfl⟩;have g0:(l.length:Int)-1=m:=hm.symm;have gw:IntKind.i64.wrap m=m:=Df _ (by omega) (by omega)
 have ao:=zH hm;clear hm;unfold fv at *;have kf:=Blk.new w 223 #[.int .u64 p];have da:Below w.heap.size w (w.alloc (.cells #[.int .u64 p] 223)):=(Below.refl _ _).alloc zR _;go_enter Tryz.func248,Tryz.ntmps248
 go_upto_region 1 with fail
 generalize w.alloc _=w0 at kf da |-;go_wp2_with fail
 clear g0 gw;go_loopw [7,8] (fun y i wr=>∃ (k:Nat) (j:Int),Hid (j+1=(k:Int)) /\ k <= l.length /\ i= .int .i64 j /\ y= .int .u64 (f k:Int) /\ Blk wr w.heap.size 223 #[.int .u64 p] /\ Below w.heap.size w wr) (fun _ i _=>(intOf i+1).toNat)
 case atStart=>exact ⟨l.length,m,zH (by have:=ao.out;omega),zR,rfl,by rw [HF9.out];rfl,kf,da⟩
 case round =>
  clear kf da;obtain ⟨k,j,HJ,hk,rfl,rfl,kf,hb⟩:=hrel;rcases Nat.eq_zero_or_pos k with h0 | h0
  ·subst h0
   have hj:j=-1:=by have:=HJ.out;omega
   subst hj;go_wp2;go_ret
   exact ⟨rfl,hb⟩
  ·obtain ⟨i,hi⟩:=zEX (k-1)
   have hj:j=(i:Int):=by have:=HJ.out;omega
   subst hj;have dt:i<l.length:=by omega
   obtain ⟨b,q,rfl,Wb,hc⟩:=Vd (La.below hb) dt;have Yd:=zH (HF.out i dt);rw [show i+1=k by omega] at Yd
   obtain ⟨y,hy⟩:=zEX (f k);rw [<- hy] at Yd |-;generalize l.getD i 0=a at *;obtain ⟨z,hz⟩:=zEX (y*x%p);have yd:=zH (fun w=>by have:=HM.out y x w;rw [<- hz] at this;exact this)
   rw [<- hz] at Yd;have Xd:=zH (fun w=>by have:=HA.out z a w;rw [<- Yd.out] at this;exact this)
   have HI:=zH hi;obtain ⟨y2,Km⟩:=zEX (f i);rw [<- Km] at Xd;have HY2:=zH Km;have gi1:(0:Int) <= (i:Int):=by omega
   have gi2:(i:Int)<(l.length:Int):=by omega
   obtain ⟨j2,yk⟩:∃ j2:Int,j2=(i:Int)-1:=⟨_,rfl⟩;have gj:(i:Int)-1=j2:=yk.symm;have gw:IntKind.i64.wrap j2=j2:=Df _ (by omega) (by omega)
   have Zx:=zH yk;clear hz hy hi Yd Km yk;have cf:=kf.cell;have lf:=kf.lt;go_upto_region 5 with fail
   refine Hd (Ib) (xa) [] [] [0,1,2,3,4,5,6,7,8,9,10] (by kernel_rfl) (by kernel_rfl) ?_
   refine Jd (xa) ?_;intro Wc ja;refine Ic ?_;refine vc (xa) rfl rfl rfl rfl (fun _ _ _ h=>h) (fun _=>by go_simp <;> rfl) (fun w' hR=>yd.out _) ?_
   simp only [Act.put,zLa,zLb,zLc];refine Ic ?_;refine vc (xa) rfl rfl rfl rfl (fun _ _ _ h=>h) (fun _=>by go_simp <;> rfl) (fun w' hR=>Xd.out _) ?_
   simp only [Act.put,zLa,zLb,zLc];refine Ic ?_;refine eh rfl ?_;intro wd Tb;replace ja:=(xa).trans _ _ _ ja Tb;clear Tb;have Za:=oa (Below.refl wr.heap.size wr).drew ja;replace kf:=ia kf Za;replace hb:=oa hb Za;clear Za ja cf lf;go_wp2
   go_roundw
   case rel=>exact ⟨i,j2,zH (by have:=Zx.out;omega),by omega,rfl,by rw [HY2.out],kf,hb⟩
   case measure=>have:=Zx.out;simp [intOf];omega
def Ip (f:Nat -> Nat):Nat -> Nat
 | 0=>0
 | k+1=>if f k=0 then Ip f k else k+1
theorem KO (f:Nat -> Nat):∀ k,Ip f k <= k
 | 0=>zR
 | k+1=>by
  rw [Ip];split
  ·have:=KO f k;omega
  ·exact zR
theorem KY (g n c:Nat) (f:Nat -> Nat) (w:World) (kg:Blk w g 22 (Ha n f)) (hn:n <= 100000) (hc:n <= c) :
  Calls Tryz.prog 278 #[.slice (some ⟨g,0,none⟩) n c] w fun e w'=>e= .returned (.slice (some ⟨g,0,none⟩) (Ip f n) c) /\ Below w.heap.size w w':=by
 obtain ⟨m,hm⟩:=zEX (Ip f n);rw [<- hm];have HM:=zH hm;have gn:(n:Int) <= 100000:=by omega
 clear hm;go_enter Tryz.func278,Tryz.ntmps278
 go_wp2_with fail
 go_loopw [3] (fun y wr=>∃ k:Nat,k <= n /\ y= .int .i64 k /\ Hid (Ip f k=m) /\ Below w.heap.size w wr) (fun y _=>(intOf y).toNat)
 case atStart=>exact ⟨n,zR,rfl,zH HM.out.symm,Below.refl _ _⟩
 case round =>
  obtain ⟨k,hk,rfl,HK,hb⟩:=hrel;rcases Nat.eq_zero_or_pos k with h0 | h0
  ·subst h0
   have SB:m=0:=by rw [<- HK.out];rfl
   subst SB;go_wp2;go_ret
   exact ⟨rfl,hb⟩
  ·obtain ⟨j,hj⟩:=zEX (k-1)
   have g1:(0:Int)<(k:Int):=by omega
   have g2:(k:Int)-1=(j:Int):=by omega
   have g3:=Yb j;have g4:(j:Int)<(n:Int):=by omega
   have g5:(0:Int) <= (j:Int):=by omega
   have Jo:k=j+1:=by omega
   have dx:=ia kg hb;have cg:=dx.cell j;rw [dg _ (by omega)] at cg
   have Qc:Ip f k=if f j=0 then Ip f j else j+1:=by rw [Jo];rfl
   have nm:=zH Qc;have HJK:=zH Jo;have g6:k <= c:=by omega
   have g7:j <= n:=by omega
   have g8:(k:Int) <= (c:Int):=by omega
   have g9:k <= n:=hk;obtain ⟨x,hx⟩:=zEX (f j);rw [<- hx] at cg;have HX:=zH hx;clear hj Qc Jo hx dx;by_cases jj:x=0
   ·subst jj
    have HN:=zH (show Ip f j=m by rw [<- HK.out,nm.out,if_pos HX.out.symm])
    go_wp2
    go_roundw
    case rel=>exact ⟨j,g7,rfl,HN,hb⟩
    case measure=>have:=HJK.out;simp [intOf];omega
   ·have d0:((x:Int) == 0)=false:=by rw [beq_eq_false_iff_ne];omega
    have Xh:m=k:=by rw [<- HK.out,nm.out,if_neg (by rw [<- HX.out];exact jj),HJK.out]
    subst Xh;go_wp2;go_ret
    exact ⟨rfl,hb⟩
theorem wT (p s n:Nat) (w:World) (hp:ab p=true) (hn:Vg p n) (hs:s%p≠0) :
  Calls Tryz.prog 274 #[fv p, .int .u64 s, .int .i64 n] w fun e w'=>∃ g,e= .returned (.tuple #[.slice (some ⟨g,0,none⟩) n n, .int .i64 0]) /\ w.heap.size <= g /\ Blk w' g 22 (Ha n (Vb p s n)) /\ Below w.heap.size w w':=by
 have hn4:=hn.le;have HV:=zH (fun w=>tn p w hp)
 have HR:=zH (fun w=>OI p n w hp hn)
 have HD:=zH (fun w=>iF p s w hp)
 have HM:=zH (fun a b w=>sn p a b w hp)
 obtain ⟨r,hr⟩:=zEX (ie p n);obtain ⟨x0,jj⟩:=zEX (s%p);obtain ⟨F,hF⟩:=zEX (Vb p s n);have ic:=zH (show F 0=x0 by rw [hF,jj];rfl)
 have HF:=zH (show ∀ k,F (k+1)=F k*r%p from fun k=>by rw [hF,hr];rfl)
 rw [<- hr] at HR;rw [<- jj] at HD hs;rw [<- hF];have d0:((x0:Int) == 0)=false:=by rw [beq_eq_false_iff_ne];omega
 have mk:=mj n (by omega)
 have gn:(n:Int) <= 4096:=by omega
 have gn0:(0:Int) <= (n:Int):=by omega
 clear hr jj hF hp hn hs;unfold fv at *;have kf:=Blk.new w 223 #[.int .u64 p];have da:Below w.heap.size w (w.alloc (.cells #[.int .u64 p] 223)):=(Below.refl _ _).alloc zR _;go_enter Tryz.func274,Tryz.ntmps274
 go_wp2_with fail
 generalize w.alloc _=w1 at kf da |-;refine (HV.out _).mono ?_;rintro e w2 ⟨rfl,ea⟩;replace kf:=ia kf ea;replace da:=oa da ea;clear ea;have cf:=kf.cell;go_wp2_with fail
 refine (HR.out _).mono ?_;rintro e w3 ⟨rfl,ea⟩;replace kf:=ia kf ea;replace da:=oa da ea;clear ea cf;have cf:=kf.cell;go_wp2_with fail
 refine (HD.out _).mono ?_;rintro e w4 ⟨rfl,ea⟩;replace kf:=ia kf ea;replace da:=oa da ea;clear ea cf;have cf:=kf.cell;go_wp2_with fail
 have kg:=Blk.new w4 22 (Ha n fun _=>0)
 have ma:=(Below.refl w4.heap.size w4).alloc zR (.cells (Ha n fun _=>0) 22)
 have Af:w.heap.size<w4.heap.size:=kf.lt;replace kf:=ia kf ma;replace da:=oa da ma;clear ma mk cf;generalize w4.alloc _=w5 at kf kg da |-;generalize w4.heap.size=g at kg Af |-;have H0:=zH (Cq n F fun _=>0)
 go_loopw [1,34] (fun y i wr=>∃ k:Nat,k <= n /\ i= .int .i64 k /\ y= .int .u64 (F k:Int) /\ Blk wr w.heap.size 223 #[.int .u64 p] /\ Blk wr g 22 (Ha n (He F (fun _=>0) k)) /\ Below w.heap.size w wr) (fun _ i _=>n-(intOf i).toNat)
 case atStart=>exact ⟨0,Nat.zero_le _,rfl,by rw [ic.out],kf,by rw [H0.out];exact kg,da⟩
 case round =>
  clear kf kg da;obtain ⟨k,hk,rfl,rfl,kf,kg,da⟩:=hrel;by_cases za:k<n
  ·have q1:(k:Int)<(n:Int):=by omega
   have q2:(0:Int) <= (k:Int):=by omega
   obtain ⟨z,hz⟩:=zEX (F k);obtain ⟨z2,sh⟩:=zEX (F (k+1));have Xc:=zH (Sn (n:=n) (G:=fun _=>0) hz)
   have Yd:=zH (HF.out k);rw [<- hz,<- sh] at Yd;have yd:=zH (fun w=>by have:=HM.out z r w;rw [<- Yd.out] at this;exact this)
   have HZ2:=zH sh;rw [<- hz];clear hz sh Yd;have cg:=kg.cell k;rw [Zl _ _ za] at cg;have fg:=kg.frozen;have lg:=kg.lt;have cf:=kf.cell;have lf:=kf.lt;have nfg:w.heap.size≠g:=by omega
   go_upto_region 12 with fail
   have hg:=Me (w:=wr) g k (.int .u64 z);replace kg:=kg.set_ k (.int .u64 z);rw [Xc.out] at kg;replace kf:=xc kf hg;replace da:=Pb da hg;clear hg cg fg lg cf lf;generalize wr.setCell _ _=w6 at kf kg da |-;have cf:=kf.cell;go_wp2_with fail
   refine (yd.out _).mono ?_;rintro e w7 ⟨rfl,ea⟩;replace kf:=ia kf ea;replace kg:=ia kg ea;replace da:=oa da ea;clear ea cf;go_wp2_with fail
   go_roundw
   case rel=>exact ⟨k+1,by omega,by go_num,by rw [HZ2.out],kf,kg,da⟩
   case measure=>simp [intOf];omega
  ·obtain rfl:k=n:=by omega
   have q1:¬((k:Int)<(k:Int)):=by omega
   rw [Kx] at kg;go_wp2
   go_ret2
   exact ⟨g,rfl,by omega,kg,da⟩
theorem IY (L:Ja) (w:World) (hL:Db L) :
  Calls Tryz.prog 245 #[.agg (Ya L)] w fun e w'=>∃ g1 g2,e= .returned (.tuple #[.slice (some ⟨g1,0,none⟩) L.block L.block, .slice (some ⟨g2,0,none⟩) L.n L.n]) /\ Blk w' g1 22 (Ha L.block (Vb L.p 1 L.block)) /\ Blk w' g2 22 (Ha L.n (Vb L.p (tb L.p).1 L.n)) /\ w.heap.size <= g1 /\ w.heap.size <= g2 /\ Below w.heap.size w w':=by
 obtain ⟨jc,Kb⟩:=Va hL.p;have H1:=zH (fun w=>wT L.p 1 L.block w hL.p (Uk hL).1 (by rw [Nat.mod_eq_of_lt (by omega)];decide))
 have H2:=zH (fun w=>wT L.p (tb L.p).1 L.n w hL.p (nx hL).1 (vK hL.p))
 have HG:=zH (fun w=>kK L.p w hL.p)
 generalize (tb L.p).1=gn at *;clear hL jc Kb;unfold Ya fv at *;obtain ⟨kl,kf,da,Nb⟩:=Ue w 49 223 #[.int .u64 L.p, .int .i64 L.block, .int .i64 L.queries, .int .i64 L.k, .int .i64 L.n, .int .i64 L.secret, .int .i64 L.rows, .int .i64 L.a, .int .i64 L.b, .int .i64 L.b, .int .i64 L.b] #[.int .u64 L.p];go_enter Tryz.func245,Tryz.ntmps245
 go_upto_region 2 with fail
 generalize (w.alloc _).alloc _=w1 at kl kf da Nb |-;have Jn:w.heap.size+2 <= w1.heap.size:=by omega
 clear Nb;have cl:=kl.cell;have cf:=kf.cell;have ll:=kl.lt;have lf:=kf.lt;go_wp2_with fail
 refine (H1.out _).mono ?_;rintro e w2 ⟨g1,rfl,Af,k1,ea⟩;replace kl:=ia kl ea;replace kf:=ia kf ea;replace da:=oa da ea;have xi:=Nat.le_trans Jn ea.size;clear ea cl cf ll lf;have cl:=kl.cell;have cf:=kf.cell;have ll:=kl.lt;have lf:=kf.lt;go_upto_region 3 with fail
 refine Rc (Ib) [2,5] [0,1,3,4,2,5,6,7,8,9,10] (by kernel_rfl) (by kernel_rfl) ?_
 refine vd (xa) ?_;intro Wc Na ja;have ya:=Cc Na;replace k1:=ia k1 ya;replace da:=oa da ya;have Lu:=Nat.le_trans xi ya.size;refine pb ?_;refine Mb (xa) rfl rfl rfl (fun _=>by go_simp <;> rfl) ((HG.out _).mono ?_)
 rintro e w3 ⟨rfl,ib⟩;refine ⟨_,rfl,ib,?_⟩;replace ja:=(xa).trans _ _ _ ja (ib);simp only [Act.put,zLa,zLb,zLc];replace k1:=ia k1 ib;replace da:=oa da ib;have hs4:=Nat.le_trans Lu ib.size;refine pb ?_;refine Mb (xa) rfl rfl rfl (fun _=>by go_simp <;> rfl) ((H2.out _).mono ?_)
 rintro e w4 ⟨g2,rfl,Ok,k2,Fb⟩;refine ⟨_,rfl,Fb,?_⟩;replace ja:=(xa).trans _ _ _ ja (Fb);simp only [Act.put,zLa,zLb,zLc];replace k1:=ia k1 Fb;replace da:=oa da Fb;refine pb ?_;refine Fc ?_;go_wp2
 go_ret2
 exact ⟨g1,g2,rfl,k1,k2,by omega,by omega,da⟩
def Pt (p x:Nat) (P:List Nat) (i:Nat):Nat:=ug p x (P.drop (i+1))
theorem dU (p x:Nat) (P:List Nat) {k:Nat} (h:k+1<P.length):Pt p x P k=(P.getD (k+1) 0+Pt p x P (k+1)*x%p)%p:=by
 unfold Pt;rw [TK p x P (k+1) h,Nat.add_comm]
theorem cU (p x:Nat) (P:List Nat) {k:Nat} (h:P.length <= k+1):Pt p x P k=0:=by
 unfold Pt;rw [List.drop_eq_nil_of_le h]
 rfl
def Hy (F:Nat -> Nat) (k:Nat):Nat -> Nat:=fun i=>if i<k then 0 else F i
theorem IW {n i v:Nat} {F:Nat -> Nat} (h:v=F i):(Ha n (Hy F (i+1))).setIfInBounds i (.int .u64 v)=Ha n (Hy F i):=by
 rw [zo];refine pk fun k _=>?_
 simp only [ef,Hy];by_cases e:k=i
 ·subst e;rw [if_pos rfl,if_neg (by omega),h]
 ·rw [if_neg e]
  by_cases h2:k<i
  ·rw [if_pos (by omega),if_pos h2]
  ·rw [if_neg (by omega),if_neg h2]
theorem FW (n:Nat) (F:Nat -> Nat):Ha n (Hy F n)=Ha n fun _=>0:=pk fun k hk=>by simp [Hy,hk]
theorem JW (n:Nat) (F:Nat -> Nat):Ha n (Hy F 0)=Ha n F:=pk fun k _=>by simp [Hy]
theorem OY (p x:Nat) (A:Option Addr) (m c:Nat) (P:List Nat) (w:World) (hp:ab p=true) (hl:RWd w [.slice A m c] P) (ud:1 <= m) (hm:m <= 100000) :
  Calls Tryz.prog 277 #[fv p, .slice A m c, .int .u64 x] w fun e w'=>∃ g,e= .returned (.slice (some ⟨g,0,none⟩) (m-1) (m-1)) /\ w.heap.size <= g /\ Blk w' g 22 (Ha (m-1) (Pt p x P)) /\ Below w.heap.size w w':=by
 obtain ⟨rfl,h1,h2,za,La⟩:=Ra hl;have gm:=Kf h1 h2;have HM:=zH (fun a b w=>sn p a b w hp)
 have HA:=zH (fun a b w=>Ls p a b w hp)
 obtain ⟨n,hn⟩:=zEX (P.length-1);rw [<- hn];obtain ⟨F,hF⟩:=zEX (Pt p x P);have Zk:=zH (show ∀ k,k<n -> F k=(P.getD (k+1) 0+F (k+1)*x%p)%p from fun k hk=>by rw [hF];exact dU p x P (by omega))
 have Zz:=zH (show F n=0 by rw [hF];exact cU p x P (by omega))
 rw [<- hF];have e1:(P.length:Int)-1=(n:Int):=by omega
 have e2:=Yb n;obtain ⟨m0,SB⟩:∃ m0:Int,m0=(n:Int)-1:=⟨_,rfl⟩;have e3:(n:Int)-1=m0:=SB.symm;have e4:IntKind.i64.wrap m0=m0:=Df _ (by omega) (by omega)
 have mk:=mj n (by omega)
 have gn:(n:Int) <= 100000:=by omega
 have gn0:(0:Int) <= (n:Int):=by omega
 have ao:=zH SB;have HN:=zH (show n+1=P.length by omega)
 clear hF hl hp hn SB h1 h2 za hm ud;unfold fv at *;have kf:=Blk.new w 223 #[.int .u64 p];have da:Below w.heap.size w (w.alloc (.cells #[.int .u64 p] 223)):=(Below.refl _ _).alloc zR _;go_enter Tryz.func277,Tryz.ntmps277
 go_upto_region 1 with fail
 generalize w.alloc _=w1 at kf da |-;go_wp2_with fail
 have kg:=Blk.new w1 22 (Ha n fun _=>0)
 have ma:=(Below.refl w1.heap.size w1).alloc zR (.cells (Ha n fun _=>0) 22)
 have Af:w.heap.size<w1.heap.size:=kf.lt;replace kf:=ia kf ma;replace da:=oa da ma;clear ma mk e1 e2 e3 e4;generalize w1.alloc _=w5 at kf kg da |-;generalize w1.heap.size=g at kg Af |-;have H0:=zH (FW n F);go_loopw [8,9] (fun y i wr=>∃ (k:Nat) (j:Int),Hid (j+1=(k:Int)) /\ k <= n /\ i= .int .i64 j /\ y= .int .u64 (F k:Int) /\ Blk wr w.heap.size 223 #[.int .u64 p] /\ Blk wr g 22 (Ha n (Hy F k)) /\ Below w.heap.size w wr) (fun _ i _=>(intOf i+1).toNat)
 case atStart=>exact ⟨n,m0,zH (by have:=ao.out;omega),zR,rfl,by rw [Zz.out];rfl,kf,by rw [H0.out];exact kg,da⟩
 case round =>
  clear kf kg da;obtain ⟨k,j,HJ,hk,rfl,rfl,kf,kg,hb⟩:=hrel;rcases Nat.eq_zero_or_pos k with h0 | h0
  ·subst h0
   have hj:j=-1:=by have:=HJ.out;omega
   subst hj;rw [JW] at kg;go_wp2;go_ret
   exact ⟨g,rfl,by omega,kg,hb⟩
  ·obtain ⟨i,hi⟩:=zEX (k-1)
   have hj:j=(i:Int):=by have:=HJ.out;omega
   subst hj;have Ub:i<n:=by omega
   have Ld:k=i+1:=by omega
   have dt:k<P.length:=by have:=HN.out;omega
   obtain ⟨b,q,rfl,Wb,hc⟩:=Vd (La.below hb) dt;have Yd:=zH (Zk.out i Ub);rw [<- Ld] at Yd;obtain ⟨y,hy⟩:=zEX (F k);rw [<- hy] at Yd |-;generalize P.getD k 0=a at *;obtain ⟨z,hz⟩:=zEX (y*x%p);have yd:=zH (fun w=>by have:=HM.out y x w;rw [<- hz] at this;exact this)
   rw [<- hz] at Yd;have Xd:=zH (fun w=>by have:=HA.out a z w;rw [<- Yd.out] at this;exact this)
   obtain ⟨y2,Km⟩:=zEX (F i);rw [<- Km] at Xd;have Xc:=zH (IW (n:=n) Km);rw [<- Ld] at Xc;have HY2:=zH Km;have gi1:(0:Int) <= (i:Int):=by omega
   have gi2:(k:Int)<(P.length:Int):=by omega
   have gi3:(i:Int)<(n:Int):=by omega
   have gi4:(i:Int)+1=(k:Int):=by omega
   have gi5:=Yb k;have gi6:(0:Int) <= (k:Int):=by omega
   obtain ⟨j2,yk⟩:∃ j2:Int,j2=(i:Int)-1:=⟨_,rfl⟩;have gj:(i:Int)-1=j2:=yk.symm;have gw:IntKind.i64.wrap j2=j2:=Df _ (by omega) (by omega)
   have Zx:=zH yk;have hle:i <= n:=by omega
   clear hz hy hi Yd Km yk Ld;have cf:=kf.cell;have lf:=kf.lt;go_upto_region 6 with fail
   refine Hd (Ib) (xa) [] [] [0,1,2,3,4,5,6,7,8,9,10,11] (by kernel_rfl) (by kernel_rfl) ?_
   refine Jd (xa) ?_;intro Wc ja;refine Ic ?_;refine vc (xa) rfl rfl rfl rfl (fun _ _ _ h=>h) (fun _=>by go_simp <;> rfl) (fun w' hR=>yd.out _) ?_
   simp only [Act.put,zLa,zLb,zLc];refine Ic ?_;refine vc (xa) rfl rfl rfl rfl (fun _ _ _ h=>h) (fun _=>by go_simp <;> rfl) (fun w' hR=>Xd.out _) ?_
   simp only [Act.put,zLa,zLb,zLc];refine Ic ?_;refine eh rfl ?_;intro wd Tb;replace ja:=(xa).trans _ _ _ ja Tb;clear Tb;have Za:=oa (Below.refl wr.heap.size wr).drew ja;replace kf:=ia kf Za;replace kg:=ia kg Za;replace hb:=oa hb Za;clear Za ja cf lf hc Wb;have cg:=kg.cell i;rw [dg _ Ub] at cg;have fg:=kg.frozen;have lg:=kg.lt;go_upto_region 5 with fail
   have hg:=Me (w:=wd) g i (.int .u64 y2);have nfg:w.heap.size≠g:=by omega
   replace kg:=kg.set_ i (.int .u64 y2);rw [Xc.out] at kg;replace kf:=xc kf hg;replace hb:=Pb hb hg;clear hg cg fg lg;generalize wd.setCell _ _=w6 at kf kg hb |-;go_wp2
   go_roundw
   case rel=>exact ⟨i,j2,zH (by have:=Zx.out;omega),hle,rfl,by rw [HY2.out],kf,kg,hb⟩
   case measure=>have:=Zx.out;simp [intOf];omega
def uf (p:Nat) (xs:List Nat):Nat -> Nat -> Nat
 | 0=>fun i=>if i=0 then 1 else 0
 | k+1=>fun i=>if i=0 then oc p (uf p xs k 0*xs.getD k 0%p) else if i <= k+1 then (uf p xs k (i-1)+oc p (uf p xs k i*xs.getD k 0%p))%p else 0
theorem zN (p:Nat) (xs:List Nat):∀ k i,k<i -> uf p xs k i=0
 | 0,i,h=>by
  show (if i=0 then 1 else 0)=0
  rw [if_neg (by omega)]
 | k+1,i,h=>by rw [uf];simp only [];rw [if_neg (by omega),if_neg (by omega)]
theorem E6 {p:Nat} (hp:1<p) (xs:List Nat):∀ k i,uf p xs k i<p
 | 0,i=>by rw [uf];simp only [];split <;> omega
 | k+1,i=>by
  rw [uf];simp only [];split
  ·exact OQ _ _ (by omega)
  ·split
   ·exact Nat.mod_lt _ (by omega)
   ·omega
def Yo (V N:Nat -> Nat) (i:Nat):Nat -> Nat:=fun j=>if i<j then N j else V j
theorem OS {n i v:Nat} (F:Nat -> Nat):(Fa ((List.range n).map F)).set i (.int .u64 v)=Fa ((List.range n).map (ef F i v)):=by
 have:=zo (n:=n) F i v;rw [Ms,Ms] at this;have h2:=congrArg Array.toList this
 simpa using h2
theorem MS {n:Nat} {F G:Nat -> Nat} (h:∀ i,i<n -> F i=G i):Fa ((List.range n).map F)=Fa ((List.range n).map G):=by
 rw [List.map_congr_left fun i hi=>h i (List.mem_range.1 hi)]
theorem eG {n i:Nat} (F:Nat -> Nat) (h:i<n):(Fa ((List.range n).map F))[i]?=some (.int .u64 (F i:Int)):=by simp [Fa,h]
theorem RX {n i v:Nat} {V N:Nat -> Nat} (hi:0<i) (hv:v=N i):(Fa ((List.range n).map (Yo V N i))).set i (.int .u64 v)=Fa ((List.range n).map (Yo V N (i-1))):=by
 rw [OS];refine MS fun j _=>?_
 simp only [ef,Yo];by_cases e:j=i
 ·subst e;rw [if_pos rfl,if_pos (by omega),hv]
 ·rw [if_neg e]
  by_cases h:i<j
  ·rw [if_pos h,if_pos (by omega)]
  ·rw [if_neg h,if_neg (by omega)]
theorem TX (n:Nat) (hn:n <= 1000000) (h1:1 <= n) (w:World) :
  (Instr.makeSlice 28 (.int .i64 1) (.int .i64 n)).run Tryz.prog w= .ok (.slice (some ⟨w.heap.size,0,none⟩) 1 n) (w.alloc (.cells (Ha n fun _=>0) 22)):=by
 obtain ⟨ht,⟨i,hi,hz,hs,Zd⟩,hzs,Nb⟩:=xf;have:=run_make (P:=Tryz.prog) w 28 22 i _ ht hi hz .i64 .i64 1 (n:Int) (by omega) (by omega) (by rw [Zd];omega) (by omega)
 rw [Int.toNat_natCast,hs,wQ] at this;exact this
theorem uY (n base:Nat) (hn:n <= 1000000) (h1:1 <= n) (w:World) (hb:base <= w.heap.size):(w.alloc (.cells (Ha n fun _=>0) 22)).ownsRow base 22 1 (.slice (some ⟨w.heap.size,0,none⟩) 1 n) 1 (Fa [0]):=by
 have Ju:(w.alloc (.cells (Ha n fun _=>0) 22)).heap[w.heap.size]?=some (.cells (Ha n fun _=>0) 22 (0,0)):=Blk.new w 22 (Ha n fun _=>0)
 refine ⟨rfl, .inr ⟨w.heap.size,n,Ha n fun _=>0,rfl,hb,Ju,h1,by simp [maxLen];omega,by simp [Ha],?_⟩⟩
 obtain ⟨m,rfl⟩:∃ m,n=m+1:=⟨n-1,by omega⟩
 rw [rP,List.replicate_succ]
 rfl
theorem NY (p:Nat) (A:Option Addr) (m c:Nat) (xs:List Nat) (w:World) (hp:ab p=true) (hl:RWd w [.slice A m c] xs) (hm:m <= 1000) :
  Calls Tryz.prog 276 #[fv p, .slice A m c] w fun e w'=>∃ v,e= .returned v /\ w'.ownsRow w.heap.size 22 1 v (m+1) (Fa ((List.range (m+1)).map (uf p xs m))) /\ Below w.heap.size w w':=by
 obtain ⟨rfl,h1,h2,za,La⟩:=Ra hl;have HV:=zH (fun w=>tn p w hp)
 have HM:=zH (fun a b w=>sn p a b w hp)
 have HS:=zH (fun a b w=>bB p a b w hp)
 have HN:=zH (fun a w=>mK p a w hp)
 obtain ⟨V,hV⟩:=zEX (uf p xs);have Zm:=zH (show ∀ i,V 0 i=if i=0 then 1 else 0 from fun i=>by rw [hV];rfl)
 have HVO:=zH (show ∀ k i,k<i -> V k i=0 from fun k i h=>by rw [hV];exact zN p xs k i h)
 have HVS:=zH (show ∀ k i,0<i -> i <= k+1 -> V (k+1) i=(V k (i-1)+oc p (V k i*xs.getD k 0%p))%p from fun k i h h'=>by
  rw [hV,uf];simp only [];rw [if_neg (by omega),if_pos h'])
 have HVZ:=zH (show ∀ k,V (k+1) 0=oc p (V k 0*xs.getD k 0%p) from fun k=>by rw [hV];rfl)
 rw [<- hV];obtain ⟨n,hn⟩:=zEX (xs.length+1);rw [<- hn];have e1:(xs.length:Int)+1=(n:Int):=by omega
 have e2:=Yb n;have mk:=TX n (by omega) (by omega)
 have Md:1 <= n:=by omega
 have re:n <= 1001:=by omega
 have gn:(n:Int) <= 1001:=by omega
 have gn1:(1:Int) <= (n:Int):=by omega
 have gm:(xs.length:Int) <= 1000:=by omega
 have Hq:=zH hn;clear hV hl hp h1 h2 za hn;unfold fv at *;have kf:=Blk.new w 223 #[.int .u64 p];have da:Below w.heap.size w (w.alloc (.cells #[.int .u64 p] 223)):=(Below.refl _ _).alloc zR _;go_enter Tryz.func276,Tryz.ntmps276
 go_wp2_with fail
 generalize w.alloc _=w1 at kf da |-;refine (HV.out _).mono ?_;rintro e w2 ⟨rfl,ea⟩;replace kf:=ia kf ea;replace da:=oa da ea;clear ea;have Xs:w.heap.size<w2.heap.size:=kf.lt;go_upto_region 4 with fail
 have ra:=uY n (w.heap.size+1) (by omega) Md w2 Xs
 have ma:=(Below.refl w2.heap.size w2).alloc zR (.cells (Ha n fun _=>0) 22)
 replace kf:=ia kf ma;replace da:=oa da ma;clear ma mk;generalize w2.alloc _=w3 at kf da ra |-;generalize w2.heap.size=g at ra Xs |-;have cg:w3.cell? ⟨g,0,none⟩=some (.int .u64 0):=by rw [ra.cellAt 0 (by omega)];rfl
 have fg:=ra.frozenAt;have lg:g<w3.heap.size:=World.block_lt_of_cell? _ _ cg;go_upto_region 5 with fail
 obtain ⟨sc,hg⟩:=ra.stored 0 (.int .u64 1);replace sc:(w3.setCell ⟨g,0,none⟩ (.int .u64 1)).ownsRow (w.heap.size+1) 22 1 (.slice (some ⟨g,0,none⟩) 1 n) (0+1) (Fa ((List.range (0+1)).map (V 0))):=by
  have e:Fa ((List.range (0+1)).map (V 0))=(Fa [0]).set 0 (.int .u64 1):=by
   simp [Fa,Zm.out]
  rw [e];exact sc
 replace kf:=xc kf hg;replace da:=Pb da hg;clear hg cg fg lg ra;generalize w3.setCell _ _=w4 at kf da sc |-;go_wp2_with fail
 go_loopw [5,20] (fun u y wr=>∃ (k:Nat) (v:Value),v=u /\ k <= xs.length /\ y= .int .i64 k /\ Blk wr w.heap.size 223 #[.int .u64 p] /\ wr.ownsRow (w.heap.size+1) 22 1 v (k+1) (Fa ((List.range (k+1)).map (V k))) /\ Below w.heap.size w wr /\ w.heap.size+1 <= wr.heap.size) (fun _ y _=>xs.length-(intOf y).toNat)
 case atStart=>exact ⟨0,_,rfl,Nat.zero_le _,rfl,kf,sc,da,kf.lt⟩
 case round =>
  clear kf sc da Xs;obtain ⟨k,v,rfl,hk,rfl,kf,ra,da,Nb⟩:=hrel;by_cases za:k<xs.length
  ·have q1:(k:Int)<(xs.length:Int):=by omega
   obtain ⟨b,q,rfl,Wb,hc⟩:=Vd (La.below da) za;have sD:=zH (HVS.out k);have HVZ1:=zH (HVZ.out k);generalize xs.getD k 0=x at *;obtain ⟨k1,Ld⟩:=zEX (k+1);obtain ⟨n2,hn2'⟩:∃ n2,n2=k+2:=⟨_,rfl⟩;have hcon:Fa ((List.range k1).map (V k))++Fa [0]=Fa ((List.range n2).map (Yo (V k) (V k1) k1)):=by
    rw [show n2=k1+1 by omega,List.range_succ (n:=k1),List.map_append,<- UN,List.map_singleton]
    have e1:Yo (V k) (V k1) k1 k1=0:=by unfold Yo;rw [if_neg (by omega)];exact HVO.out k k1 (by omega)
    rw [e1]
    congr 1
    congr 1
    exact List.map_congr_left fun j hj=>by
     unfold Yo;rw [if_neg (by have:=List.mem_range.1 hj;omega)]
   have HCON:=zH hcon;have fo:=zH (show k1+1=n2 by omega)
   have x1:(n2:Int)-1=(k1:Int):=by omega
   have x2:=Yb k1;rw [<- Ld] at ra HVZ1 sD;have HK:=zH (And.intro hn2' Ld);have hkb:k1 <= 1001:=by omega
   clear hcon hn2' Ld;go_wp2_with (at_builtin;refine Mf rfl _ _ rfl xf rfl (ra.alloc _) rfl (Lf _ _ _) (mg [0]) (by omega) (by simp;omega) ?_)
   intro v' wn db Ma Lb;have ma:=(Below.refl wr.heap.size wr).alloc zR (.cells #[.int .u64 ((0:Nat):Int)] 22);have Rb:∀ q,v.ownBlock=some q -> w.heap.size+1 <= q:=fun q e=>(ra.lt q e).1
   have Ej:=Ae (ra.alloc _) Ma (by simp;omega)
   replace kf:=ia kf ma;replace da:=oa da ma;replace kf:=kf.grown Ma (fun e=>by first | (have:=Rb _ e;omega) | (have:=Rb _ e.symm;omega))
   replace da:=da.trans (Ej.mono (by omega))
   have gL:w.heap.size+1 <= wn.heap.size:=Nat.le_trans (Nat.le_trans Nb ma.size) Ma.size;replace db:wn.ownsRow (w.heap.size+1) 22 1 v' n2 (Fa ((List.range n2).map (Yo (V k) (V k1) k1))):=by
    rw [<- HCON.out,<- fo.out];exact db
   clear ra Ma Lb Ej ma Rb Nb hc Wb HCON;obtain ⟨g,cap,rfl,Af,Ok⟩:=World.ownsRow.form db (by have:=fo.out;omega)
   go_wp2_with fail
   go_loopw [8] (fun y wr=>∃ i:Nat,i <= k1 /\ y= .int .i64 i /\ Blk wr w.heap.size 223 #[.int .u64 p] /\ wr.ownsRow (w.heap.size+1) 22 1 (.slice (some ⟨g,0,none⟩) n2 cap) n2 (Fa ((List.range n2).map (Yo (V k) (V k1) i))) /\ Below w.heap.size w wr) (fun y _=>(intOf y).toNat)
   case atStart=>exact ⟨k1,zR,rfl,kf,db,da⟩
   case round =>
    clear kf db da gL Ok;obtain ⟨i,hi,rfl,kf,ra,da⟩:=hrel;rcases Nat.eq_zero_or_pos i with h0 | h0
    ·subst h0
     have c0:wr.cell? ⟨g,0,none⟩=some (.int .u64 (V k 0:Int)):=by rw [ra.cellAt 0 (by have:=HK.out;omega),eG _ (by have:=HK.out;omega)];rfl
     have lg:g<wr.heap.size:=World.block_lt_of_cell? _ _ c0;obtain ⟨y,hy⟩:=zEX (V k 0);obtain ⟨z,hz⟩:=zEX (y*x%p);obtain ⟨u,hu⟩:=zEX (oc p z);have HY:=zH hy;rw [<- hy] at c0;have yd:=zH (fun w=>by have:=HM.out y x w;rw [<- hz] at this;exact this)
     have Jg:=zH (fun w=>by have:=HN.out z w;rw [<- hu] at this;exact this)
     have Xc:=zH (show (Fa ((List.range n2).map (Yo (V k) (V k1) 0))).set 0 (.int .u64 u)=Fa ((List.range n2).map (V k1)) by
      rw [OS];refine MS fun j _=>?_
      simp only [ef,Yo];by_cases e:j=0
      ·subst e;rw [if_pos rfl,hu,hz,hy,<- HVZ1.out]
      ·rw [if_neg e,if_pos (by omega)])
     have q5:(0:Int)<(n2:Int):=by have:=HK.out;omega
     have q6:0<n2:=by have:=HK.out;omega
     clear hy hz hu;have cf:=kf.cell;have lf:=kf.lt;go_upto_region 13 with fail
     refine Hd (Ib) (xa) [10] [10] [0,1,2,3,4,5,6,7,8,9,10] (by kernel_rfl) (by kernel_rfl) ?_
     refine Jd (xa) ?_;intro Wc ja;refine Sc ?_;refine vc (xa) rfl rfl rfl rfl (fun _ _ _ h=>h) (fun _=>by go_simp <;> rfl) (fun w' hR=>yd.out _) ?_
     simp only [Act.put,zLa,zLb,zLc];refine Sc ?_;refine vc (xa) rfl rfl rfl rfl (fun _ _ _ h=>h) (fun _=>by go_simp <;> rfl) (fun w' hR=>Jg.out _) ?_
     simp only [Act.put,zLa,zLb,zLc];refine Sc ?_;refine Ph rfl rfl rfl rfl ?_;intro wh tc;replace ja:=(xa).trans _ _ _ ja tc;have Za:=oa (Below.refl wr.heap.size wr).drew ja;replace kf:=ia kf Za;replace ra:=Oa ra Za zR;replace da:=oa da Za;clear Za ja tc cf lf lg c0;have c2:wh.cell? ⟨g,0,none⟩=some (.int .u64 y):=by rw [ra.cellAt 0 (by omega),eG _ q6,HY.out];rfl
     have f2:=ra.frozenAt;go_simp;refine ⟨fun h=>Bool.noConfusion h,?_⟩
     obtain ⟨sc,hg⟩:=ra.stored 0 (.int .u64 u);rw [Xc.out] at sc;replace kf:=xc kf hg;replace da:=Pb da hg;clear hg f2 c2 ra;generalize wh.setCell _ _=we at kf sc da |-;refine Oh rfl ?_;go_wp2_with fail
     go_roundw
     case rel=>exact ⟨k+1,_,rfl,by omega,by go_num,kf,by have h:=HK.out;rw [h.1,h.2] at sc;rw [h.1];exact sc,da,kf.lt⟩
     case measure=>simp [intOf];omega
    ·obtain ⟨j,hj⟩:=zEX (i-1)
     have q1:(0:Int)<(i:Int):=by omega
     have q2:(i:Int)-1=(j:Int):=by omega
     have q3:=Yb j;have Ub:i<n2:=by have:=HK.out;omega
     have hjn:j<n2:=by omega
     have q4:(i:Int)<(n2:Int):=by omega
     have q5:(j:Int)<(n2:Int):=by omega
     have q6:(0:Int) <= (i:Int):=by omega
     have q7:(0:Int) <= (j:Int):=by omega
     have ci:wr.cell? ⟨g,i,none⟩=some (.int .u64 (V k i:Int)):=by rw [ra.cellAt i (by omega),eG _ Ub];unfold Yo;rw [if_neg (by omega)]
     have cj:wr.cell? ⟨g,j,none⟩=some (.int .u64 (V k j:Int)):=by rw [ra.cellAt j (by omega),eG _ hjn];unfold Yo;rw [if_neg (by omega)]
     have lg:g<wr.heap.size:=World.block_lt_of_cell? _ _ ci;obtain ⟨y,hy⟩:=zEX (V k i);obtain ⟨t,ht⟩:=zEX (V k j);obtain ⟨z,hz⟩:=zEX (y*x%p);obtain ⟨u,hu⟩:=zEX ((t+oc p z)%p);have huN:u=V k1 i:=by rw [hu,hz,ht,hy,hj];exact (sD.out i h0 (by have:=HK.out;omega)).symm
     have Xc:=zH (RX (n:=n2) (V:=V k) h0 huN);rw [<- hj] at Xc;have HY:=zH hy;rw [<- hy] at ci;rw [<- ht] at cj;have yd:=zH (fun w=>by have:=HM.out y x w;rw [<- hz] at this;exact this)
     have Ef:=zH (fun w=>by have:=HS.out t z w;rw [<- hu] at this;exact this)
     have HJ:=zH hj;clear hy ht hz hu huN hj;have cf:=kf.cell;have lf:=kf.lt;go_upto_region 12 with fail
     refine Hd (Ib) (xa) [17] [17] [0,1,2,3,4,5,6,7,8,9,10,11,12,13,14,15,16,17] (by kernel_rfl) (by kernel_rfl) ?_
     refine Jd (xa) ?_;intro Wc ja;refine Sc ?_;refine vc (xa) rfl rfl rfl rfl (fun _ _ _ h=>h) (fun _=>by go_simp <;> rfl) (fun w' hR=>yd.out _) ?_
     simp only [Act.put,zLa,zLb,zLc];refine Sc ?_;refine vc (xa) rfl rfl rfl rfl (fun _ _ _ h=>h) (fun _=>by go_simp <;> rfl) (fun w' hR=>Ef.out _) ?_
     simp only [Act.put,zLa,zLb,zLc];refine Sc ?_;refine Ph rfl rfl rfl rfl ?_;intro wh tc;replace ja:=(xa).trans _ _ _ ja tc;have Za:=oa (Below.refl wr.heap.size wr).drew ja;replace kf:=ia kf Za;replace ra:=Oa ra Za zR;replace da:=oa da Za;clear Za ja tc cf lf lg ci cj;have c2:wh.cell? ⟨g,i,none⟩=some (.int .u64 y):=by rw [ra.cellAt i (by omega),eG _ Ub,HY.out];unfold Yo;rw [if_neg (by omega)]
     have f2:=ra.frozenAt;go_simp;refine ⟨fun h=>Bool.noConfusion h,?_⟩
     obtain ⟨sc,hg⟩:=ra.stored i (.int .u64 u);rw [Xc.out] at sc;replace kf:=xc kf hg;replace da:=Pb da hg;clear hg f2 c2 ra;generalize wh.setCell _ _=we at kf sc da |-;refine Oh rfl ?_;go_wp2_with fail
     go_roundw
     case rel=>exact ⟨j,by have:=HJ.out;omega,rfl,kf,sc,da⟩
     case measure=>have:=HJ.out;simp [intOf];omega
  ·obtain rfl:k=xs.length:=by omega
   have q1:¬((xs.length:Int)<(xs.length:Int)):=by omega
   have Au:wr.ownsRow w.heap.size 22 1 v n (Fa ((List.range n).map (V xs.length))):=by
    have h:=Pf (base':=w.heap.size) ra (by omega)
    rw [Hq.out];exact h
   go_wp2;go_ret
   exact ⟨_,rfl,Au,da⟩
end Go.Proofs.YtgeofabpinfcmaaGreat
namespace Go.Proofs.YtgeofabpinfcmaaGreat
open Go.RowKit Go.Maps
theorem jQ:Keyed Tryz.prog 22:=int_keyed Tryz.underlying22
theorem r7 (w:World):(zeroValue 4).run Tryz.prog w= .ok (.bool false) w:=by kernel_rfl
theorem G6 {a:Nat} (h:a<18446744073709551616):(Lit.int .u64 a).wf=true:=by
 simp [Lit.wf,IntKind.min,IntKind.max,IntKind.signed,IntKind.bits]
 omega
theorem SY {H:Type} {P:Program} {e:TypeId} (he:P.underlying e=some .bool) {v:Value} {z:DataW H × List MemPlace} (h:plainElem P e v=some z):∃ b,v= .bool b /\ z=(.lit (.bool b),[]):=by
 unfold plainElem at h;rw [he] at h;cases v <;> simp at h
 subst h;exact ⟨_,rfl,rfl⟩
theorem EX {H:Type} {P:Program} {k e t:TypeId} {w:World} {b n:Nat} {D:DataW H} (h:w.ownsMap P k (plainElem P e) b n D) (K:Keyed P k) (ht:P.underlying t=some (.map k e)) (he:P.underlying e=some .bool) (hz:(zeroValue e).run P w= .ok (.bool false) w)
  {key:Value} {kl:Lit} (BH:keyOf P k key=some kl):∃ c,(Instr.lookup t (.map (some b)) key false).run P w= .ok (.bool c) w /\ D.atKey kl (.lit (.bool false))= .lit (.bool c):=by
 obtain ⟨v,ps,Re,hv⟩:=h.lookup K ht hz (plainElem_bool he false) BH;obtain ⟨c,rfl,hc⟩:=SY he hv;simp only [Prod.mk.injEq] at hc;exact ⟨c,Re,hc.1⟩
theorem SX (n:Nat) (w:World):(Instr.makeMap 333 (some (.int .i64 n))).run Tryz.prog w= .ok (.map (some w.heap.size)) (w.alloc (.map #[] 0)):=by
 simp [Instr.makeMap,run_underlying Tryz.underlying333,asInt,asIntOf]
def jv (p:Nat) (xs:List Nat) (k a:Nat):Bool:=(xs.take k).any fun y=>y%p == a
theorem V4 {p:Nat} {xs:List Nat} {k:Nat} (h:k<xs.length) (a:Nat):jv p xs (k+1) a=(jv p xs k a||xs.getD k 0%p == a):=by
 unfold jv;rw [Pu xs k h,List.any_append];simp
theorem U4 {p:Nat} {xs:List Nat} {k:Nat} (hd:∀ i,i<k -> xs.getD i 0%p≠xs.getD k 0%p) (h:k <= xs.length):jv p xs k (xs.getD k 0%p)=false:=by
 unfold jv;rw [List.any_eq_false];intro y hy;obtain ⟨i,hi,rfl⟩:=List.getElem_of_mem hy;have hik:i<k:=by simp at hi;omega
 have:=hd i hik;rw [List.getD_eq_getElem?_getD,List.getElem?_eq_getElem (by omega)] at this
 simpa using this
theorem BY (p:Nat) (A:Option Addr) (m c:Nat) (xs:List Nat) (w:World) (hp:ab p=true) (hl:RWd w [.slice A m c] xs) (hm:m <= 1000) (hd:∀ i j,i<j -> j<xs.length -> xs.getD i 0%p≠xs.getD j 0%p) :
  Calls Tryz.prog 275 #[fv p, .slice A m c] w fun e w'=>e= .returned (.bool true) /\ Below w.heap.size w w':=by
 obtain ⟨rfl,h1,h2,za,La⟩:=Ra hl;obtain ⟨jc,Kb⟩:=Va hp;have HR:=zH (fun a w=>iF p a w hp)
 have HD:=zH hd;have HP:=zH (And.intro jc Kb);have mk:=SX xs.length;have gm:(xs.length:Int) <= 1000:=by omega
 clear hl h1 h2 za hp hd jc Kb;unfold fv at *;have kf:=Blk.new w 223 #[.int .u64 p];have da:Below w.heap.size w (w.alloc (.cells #[.int .u64 p] 223)):=(Below.refl _ _).alloc zR _;go_enter Tryz.func275,Tryz.ntmps275
 go_upto_region 1 with fail
 generalize w.alloc _=w1 at kf da |-;go_upto_region 2 with fail
 have TB:=World.ownsMap_made (H:=Unit) w1 Tryz.prog 22 (plainElem Tryz.prog 4);have ma:=(Below.refl w1.heap.size w1).alloc zR (.map #[] 0);have Xs:w.heap.size<w1.heap.size:=kf.lt;replace kf:=ia kf ma;replace da:=oa da ma;clear ma mk;generalize w1.alloc _=w2 at kf da TB |-;generalize w1.heap.size=g at TB Xs |-;go_wp2_with fail
 go_loopw [13] (fun y wr=>∃ (k:Nat) (D:DataW Unit),k <= xs.length /\ y= .int .i64 k /\ Blk wr w.heap.size 223 #[.int .u64 p] /\ wr.ownsMap Tryz.prog 22 (plainElem Tryz.prog 4) g k D /\ Hid (∀ a:Nat,D.atKey (.int .u64 a) (.lit (.bool false))= .lit (.bool (jv p xs k a))) /\ Below w.heap.size w wr) (fun y _=>xs.length-(intOf y).toNat)
 case atStart=>exact ⟨0,_,Nat.zero_le _,rfl,kf,TB,zH (fun a=>rfl),da⟩
 case round =>
  clear kf TB da;obtain ⟨k,D,hk,rfl,kf,TB,HDA,da⟩:=hrel;by_cases za:k<xs.length
  ·have q1:(k:Int)<(xs.length:Int):=by omega
   obtain ⟨b,q,rfl,Wb,hc⟩:=Vd (La.below da) za;obtain ⟨x,hx⟩:=zEX (xs.getD k 0);obtain ⟨r,hr⟩:=zEX (x%p);have XP:jv p xs k r=false:=by rw [hr,hx];exact U4 (fun i hi=>HD.out i k hi za) hk
   have Hq:=zH (show ∀ a,jv p xs (k+1) a=(jv p xs k a||r == a) from fun a=>by rw [hr,hx];exact V4 za a)
   have Mg:r<18446744073709551616:=by
    rw [hr];exact Nat.lt_trans (Nat.mod_lt _ (by have:=HP.out.1;omega)) HP.out.2
   have BH:keyOf Tryz.prog 22 (.int .u64 r)=some (.int .u64 r):=keyOf_int_mk Tryz.underlying22 (G6 Mg);have oo:=zH (fun w=>by have:=HR.out x w;rw [<- hr] at this;exact this)
   rw [<- hx] at hc;have HSE:=zH XP;clear hx hr XP;have cf:=kf.cell;go_wp2_with fail
   refine (oo.out _).mono ?_;rintro e w4 ⟨rfl,ea⟩;have CH:w4.ownsMap Tryz.prog 22 (plainElem Tryz.prog 4) g k D:=by
    obtain ⟨es,clock,If,F,hs,hD⟩:=TB;exact ⟨es,clock,(ea.block g (World.ownsMap.lt ⟨es,clock,If,F,hs,hD⟩)).trans If,F,hs,hD⟩
   replace kf:=ia kf ea;replace da:=oa da ea;clear ea TB cf hc;obtain ⟨cb,Re,hat⟩:=EX CH jQ Tryz.underlying333 Tryz.underlying4 (r7 w4) BH;have Cw:cb=false:=by
    have h1:=HDA.out r;rw [HSE.out] at h1;rw [h1] at hat;cases cb
    ·rfl
    ·cases hat
   subst Cw;clear hat;go_wp2_with (at_mapUpdate;refine wpList_mapUpdate_own _ rfl _ _ _ 333 rfl 22 4 jQ Tryz.underlying333 _ g k _ rfl CH (by unfold maxLen;omega) _ _ _ rfl rfl BH _ [] (plainElem_bool Tryz.underlying4 true) ?_;intro w5 hmap5 Ma)
   have hD2:∀ a:Nat,(D.put (.int .u64 r) (.lit (.bool true))).atKey (.int .u64 a) (.lit (.bool false))= .lit (.bool (jv p xs (k+1) a)):=fun a=>by
    rw [Hq.out];by_cases e:a=r
    ·subst e
     rw [atKey_put_same CH.isMap (by simp [WideAt.IsKeyLit])]
     simp
    ·rw [atKey_put_other (by intro h;injection h with _ h;omega),HDA.out]
     have:(r == a)=false:=by rw [beq_eq_false_iff_ne];omega
     rw [this,Bool.or_false]
   have Vz:=zH hD2;replace kf:=kf.grown Ma (fun e=>by have:=Option.some.inj e;omega)
   replace da:=Pb da Ma;clear hD2 Ma CH Re;go_wp2
   go_roundw
   case rel=>exact ⟨k+1,_,by omega,by go_num,kf,hmap5,Vz,da⟩
   case measure=>simp [intOf];omega
  ·obtain rfl:k=xs.length:=by omega
   have q1:¬((xs.length:Int)<(xs.length:Int)):=by omega
   go_wp2;go_ret
   exact ⟨rfl,da⟩
end Go.Proofs.YtgeofabpinfcmaaGreat
namespace Go.Proofs.YtgeofabpinfcmaaGreat
open Go.RowKit
def Fp (p:Nat) (xs:List Nat):List Nat:=(List.range (xs.length+1)).map (uf p xs xs.length)
def Sl (p:Nat) (xs:List Nat) (i:Nat):Nat -> Nat:=Pt p (xs.getD i 0) (Fp p xs)
def vx (p:Nat) (xs:List Nat) (i:Nat):List Nat:=(List.range xs.length).map (Sl p xs i)
def dB (p:Nat) (xs ys:List Nat) (i:Nat):Nat:=ys.getD i 0*(ug p (xs.getD i 0) (vx p xs i)^(p-2)%p)%p
def OE (p:Nat) (xs ys:List Nat):Nat -> Nat -> Nat
 | 0=>fun _=>0
 | i+1=>fun j=>(OE p xs ys i j+dB p xs ys i*Sl p xs i j%p)%p
def Uo (p:Nat) (xs ys:List Nat):Nat -> Nat:=OE p xs ys xs.length
theorem eO (p:Nat) (xs:List Nat):(Fp p xs).length=xs.length+1:=by simp [Fp]
theorem CY (p:Nat) (A B:Option Addr) (m c n d:Nat) (xs ys:List Nat) (w:World) (hp:ab p=true) (hx:RWd w [.slice A m c] xs) (hy:RWd w [.slice B n d] ys) (hlen:n=m) (hm:m <= 1000) (hd:∀ i j,i<j -> j<xs.length -> xs.getD i 0%p≠xs.getD j 0%p) :
  Calls Tryz.prog 249 #[fv p, .slice A m c, .slice B n d] w fun e w'=>∃ g,e= .returned (.tuple #[.slice (some ⟨g,0,none⟩) (Ip (Uo p xs ys) m) m, .int .i64 0]) /\ w.heap.size <= g /\ Blk w' g 22 (Ha m (Uo p xs ys)) /\ Below w.heap.size w w':=by
 subst hlen;obtain ⟨xe,-,-,-,Qo⟩:=Ra hx;obtain ⟨VB,-,-,-,hry⟩:=Ra hy;obtain ⟨jc,Kb⟩:=Va hp;have HV:=zH (fun w=>tn p w hp)
 have HM:=zH (fun a b w=>sn p a b w hp)
 have HA:=zH (fun a b w=>Ls p a b w hp)
 have Ux:=zH (fun a b w=>qP p a b w hp)
 have Wi:=zH (fun w' (hb:Below w.heap.size w w')=>BY p A n c xs w' hp (ta hb hx) hm hd)
 have Yj:=zH (fun w' (hb:Below w.heap.size w w')=>NY p A n c xs w' hp (ta hb hx) hm)
 have Dq:=zH (show (List.range (n+1)).map (uf p xs n)=Fp p xs by rw [xe];rfl)
 have HAX:=zH (show ∀ x∈Fp p xs,x<18446744073709551616 from fun x hx=>by
  obtain ⟨i,-,rfl⟩:=List.mem_map.1 hx;exact Nat.lt_trans (E6 (by omega) _ _ _) Kb)
 have HW:=zH (fun x A c w hl=>OY p x A (n+1) c (Fp p xs) w hp hl (by omega) (by omega))
 have HE:=zH (fun A n c x l w hl=>sR p A n c x l w hp hl)
 have HO:=zH (show ∀ i,Pt p (xs.getD i 0) (Fp p xs)=Sl p xs i from fun _=>rfl)
 have HOL:=zH (show ∀ i,(List.range n).map (Sl p xs i)=vx p xs i from fun i=>by rw [xe];rfl)
 have HOX:=zH (show ∀ i k,k<n -> Sl p xs i k<18446744073709551616 from fun i k _=>Nat.lt_trans (UP (by omega) _ _) Kb)
 have HF:=zH (show ∀ i,dB p xs ys i=ys.getD i 0*(ug p (xs.getD i 0) (vx p xs i)^(p-2)%p)%p from fun _=>rfl)
 obtain ⟨G,hG⟩:=zEX (OE p xs ys);have HG0:=zH (show G 0=fun _=>0 by rw [hG];rfl)
 have HGS:=zH (show ∀ i j,G (i+1) j=(G i j+dB p xs ys i*Sl p xs i j%p)%p from fun i j=>by rw [hG];rfl)
 rw [show Uo p xs ys=G n by rw [hG,xe];rfl]
 have mk:=mj n (by omega)
 have gn:(n:Int) <= 1000:=by omega
 have gn0:(0:Int) <= (n:Int):=by omega
 have Zt:=zH xe;have HMY:=zH VB;clear hG hp hx hy hd jc Kb xe VB;unfold fv at *;have kf:=Blk.new w 223 #[.int .u64 p];have da:Below w.heap.size w (w.alloc (.cells #[.int .u64 p] 223)):=(Below.refl _ _).alloc zR _;go_enter Tryz.func249,Tryz.ntmps249
 go_wp2_with fail
 generalize w.alloc _=w1 at kf da |-;refine (HV.out _).mono ?_;rintro e w2 ⟨rfl,ea⟩;replace kf:=ia kf ea;replace da:=oa da ea;clear ea;have cf:=kf.cell;go_wp2_with fail
 refine (Wi.out _ da).mono ?_;rintro e w3 ⟨rfl,ea⟩;replace kf:=ia kf ea;replace da:=oa da ea;clear ea cf;have cf:=kf.cell;go_wp2_with fail
 refine (Yj.out _ da).mono ?_;rintro e w4 ⟨vP,rfl,hP,ea⟩;replace kf:=ia kf ea;replace da:=oa da ea;clear ea cf;rw [Dq.out] at hP;obtain ⟨AP,cP,rfl,-⟩:=Ob hP;replace hP:=qf hP HAX.out;go_wp2_with fail
 have kg:=Blk.new w4 22 (Ha n fun _=>0)
 have bf:=(Below.refl w4.heap.size w4).alloc zR (.cells (Ha n fun _=>0) 22)
 generalize w4.alloc _=w5 at kg bf |-;clear mk Wi Yj Dq HAX HV;go_loopw [38] (fun y wr=>∃ i:Nat,i <= n /\ y= .int .i64 i /\ Blk wr w4.heap.size 22 (Ha n (G i)) /\ Below w4.heap.size w4 wr) (fun y _=>n-(intOf y).toNat)
 case atStart=>exact ⟨0,Nat.zero_le _,rfl,by rw [HG0.out];exact kg,bf⟩
 case round =>
  clear kg bf;obtain ⟨i,hi,rfl,kg,bf⟩:=hrel;by_cases za:i<n
  ·have q1:(i:Int)<(n:Int):=by omega
   have q2:(0:Int) <= (i:Int):=by omega
   have hb:=oa da bf;have hrx':Rd w 1 A xs.length (Fa xs):=by rw [<- Zt.out];exact Qo
   have hry':Rd w 1 B ys.length (Fa ys):=by rw [<- HMY.out];exact hry
   obtain ⟨b1,Tl,rfl,Hh,Lg⟩:=Vd hrx' (j:=i) (by rw [<- Zt.out];exact za)
   obtain ⟨b2,Ht,rfl,Ii,Xg⟩:=Vd hry' (j:=i) (by rw [<- HMY.out];exact za)
   have c1:=(hb.cell (p:=⟨b1,Tl+i,none⟩) Hh).trans Lg;have c2:=(hb.cell (p:=⟨b2,Ht+i,none⟩) Ii).trans Xg;clear hrx' hry' Lg Xg;have jo:=zH (HO.out i);have Nv:=zH (HOL.out i);have HOX1:=zH (HOX.out i);have Yd:=zH (HF.out i);have zG:=zH (HGS.out i);obtain ⟨x,hx⟩:=zEX (xs.getD i 0);obtain ⟨y,hy⟩:=zEX (ys.getD i 0);obtain ⟨O,hO⟩:=zEX (Sl p xs i);obtain ⟨ol,qt⟩:=zEX (vx p xs i);obtain ⟨fc,hfc⟩:=zEX (dB p xs ys i);rw [<- hx] at c1 jo Yd;rw [<- hy] at c2 Yd;rw [<- hO] at jo Nv HOX1 zG;rw [<- qt] at Nv Yd;rw [<- hfc] at Yd zG;obtain ⟨z,hz⟩:=zEX (ug p x ol);rw [<- hz] at Yd;have om:=zH (fun A c w hl=>by have:=HW.out x A c w hl;rw [jo.out,Nat.add_sub_cancel] at this;exact this)
   have yc:=zH (fun A n c w hl=>by have:=HE.out A n c x ol w hl;rw [<- hz] at this;exact this)
   have HD1:=zH (fun w=>by have:=Ux.out y z w;rw [<- Yd.out] at this;exact this)
   clear hx hy hO qt hfc hz jo Yd;have Ec:=ia kf bf;have cf:=Ec.cell;have lf:=Ec.lt;have hP1:=ta bf hP;have Vo:b2<wr.heap.size:=World.block_lt_of_cell? _ _ c2;go_upto_region 10 with fail
   go_wp2_with fail
   refine (om.out _ _ _ hP1).mono ?_;rintro e w6 ⟨go,rfl,hgo,ko,ea⟩;have hgo1:w4.heap.size<go:=by have:=kg.lt;omega
   replace c2:=(ea.cell (p:=⟨b2,Ht+i,none⟩) Vo).trans c2;replace Vo:=Nat.lt_of_lt_of_le Vo ea.size;replace kg:=ia kg ea;replace Ec:=ia Ec ea;replace bf:=oa bf ea;clear ea hP1 cf lf c1 hgo;have qt:=jk ko (fun k hk=>HOX1.out k hk) (by simp [maxLen];omega)
   rw [Nv.out] at qt;have cf:=Ec.cell;have lf:=Ec.lt;go_upto_region 11 with fail
   refine Rc (Ib) [8,9] [0,1,2,3,4,5,6,7,8,9,10] (by kernel_rfl) (by kernel_rfl) ?_
   refine vd (xa) ?_;intro Wc Na ja;have ya:=Cc Na;replace bf:=oa bf ya;replace qt:=ta ya qt;refine pb ?_;refine Mb (xa) rfl rfl rfl (fun _=>by go_simp <;> rfl) ((yc.out _ _ _ _ qt).mono ?_)
   rintro e w7 ⟨rfl,Wa⟩;refine ⟨_,rfl,Wa,?_⟩;replace ja:=(xa).trans _ _ _ ja (Wa);simp only [Act.put,zLa,zLb,zLc];refine pb ?_;refine Mb (xa) rfl rfl rfl (fun _=>by go_simp <;> rfl) ((HD1.out _).mono ?_)
   rintro e w8 ⟨rfl,je⟩;refine ⟨_,rfl,je,?_⟩;replace ja:=(xa).trans _ _ _ ja (je);simp only [Act.put,zLa,zLb,zLc];refine pb ?_;refine Fc ?_;have Ke:=oa (oa ya Wa) je;have xu:=oa Wa je;replace kg:=ia kg Ke;replace Ec:=ia Ec Ke;replace ko:=ia ko Ke;replace bf:=oa bf xu;clear Ke xu ya Wa je ja Na cf lf c2 Vo qt yc HD1 om Hh Ii;have H0:=zH (Cq n (G (i+1)) (G i));have HGA:=zH (Kx n (G (i+1)) (G i));obtain ⟨G1,hG1⟩:=zEX (G (i+1));obtain ⟨G0,hG0⟩:=zEX (G i);rw [<- hG1,<- hG0] at H0 HGA;rw [<- hG0] at kg;have HGS2:=zH (show ∀ j,G1 j=(G0 j+fc*O j%p)%p from fun j=>by rw [hG1,hG0];exact zG.out j)
   have HG1:=zH hG1;clear hG1 hG0 zG;go_wp2_with fail
   go_loopw [59] (fun y wr=>∃ j:Nat,j <= n /\ y= .int .i64 j /\ Blk wr w.heap.size 223 #[.int .u64 p] /\ Blk wr w4.heap.size 22 (Ha n (He G1 G0 j)) /\ Blk wr go 22 (Ha n O) /\ Below w4.heap.size w4 wr) (fun y _=>n-(intOf y).toNat)
   case atStart=>exact ⟨0,Nat.zero_le _,rfl,Ec,by rw [H0.out];exact kg,ko,bf⟩
   case round =>
    clear kg Ec ko bf;obtain ⟨j,hj,rfl,Ec,kg,ko,bf⟩:=hrel;by_cases zF:j<n
    ·have q3:(j:Int)<(n:Int):=by omega
     have q4:(0:Int) <= (j:Int):=by omega
     have co:=ko.cell j;rw [dg _ zF] at co;have cg:=kg.cell j;rw [Zl _ _ zF] at cg;obtain ⟨u,hu⟩:=zEX (O j);obtain ⟨t,ht⟩:=zEX (G0 j);obtain ⟨v1,Ng⟩:=zEX (fc*u%p);obtain ⟨v2,Zh⟩:=zEX ((t+v1)%p);have hvv:v2=G1 j:=by rw [HGS2.out,Zh,Ng,ht,hu]
     have Xc:=zH (Sn (n:=n) (G:=G0) hvv);have HT:=zH ht;rw [<- hu] at co;rw [<- ht] at cg;have yd:=zH (fun w=>by have:=HM.out fc u w;rw [<- Ng] at this;exact this)
     have Xd:=zH (fun w=>by have:=HA.out t v1 w;rw [<- Zh] at this;exact this)
     clear hu ht Ng Zh hvv;have cf:=Ec.cell;have lf:=Ec.lt;have lg:=kg.lt;have lo:=ko.lt;go_upto_region 15 with fail
     refine Hd (Ib) (xa) [13] [13] [0,1,2,3,4,5,6,7,8,9,10,11,12,13] (by kernel_rfl) (by kernel_rfl) ?_
     refine Jd (xa) ?_;intro Wc ja;refine Sc ?_;refine vc (xa) rfl rfl rfl rfl (fun _ _ _ h=>h) (fun _=>by go_simp <;> rfl) (fun w' hR=>yd.out _) ?_
     simp only [Act.put,zLa,zLb,zLc];refine Sc ?_;refine vc (xa) rfl rfl rfl rfl (fun _ _ _ h=>h) (fun _=>by go_simp <;> rfl) (fun w' hR=>Xd.out _) ?_
     simp only [Act.put,zLa,zLb,zLc];refine Sc ?_;refine Ph rfl rfl rfl rfl ?_;intro wh tc;replace ja:=(xa).trans _ _ _ ja tc;have Za:=oa (Below.refl wr.heap.size wr).drew ja;replace Ec:=ia Ec Za;replace kg:=ia kg Za;replace ko:=ia ko Za;replace bf:=oa bf Za;clear Za ja tc cf lf lg lo cg co;have c2:=kg.cell j;rw [Zl _ _ zF,<- HT.out] at c2;have f2:=kg.frozen;go_simp;refine ⟨fun h=>Bool.noConfusion h,?_⟩
     have hg:=Me (w:=wh) w4.heap.size j (.int .u64 v2);have jd:w.heap.size<w4.heap.size:=kf.lt;replace kg:=kg.set_ j (.int .u64 v2);rw [Xc.out] at kg;replace Ec:=Ec.grown hg (fun e=>by have:=Option.some.inj e;omega)
     replace ko:=ko.grown hg (fun e=>by have:=Option.some.inj e;omega)
     replace bf:=bf.trans (Ff hg bf.size zR);clear hg f2 c2 jd;generalize wh.setCell _ _=we at kg Ec ko bf |-;refine Oh rfl ?_;go_wp2_with fail
     go_roundw
     case rel=>exact ⟨j+1,by omega,by go_num,Ec,kg,ko,bf⟩
     case measure=>simp [intOf];omega
    ·obtain rfl:j=n:=by omega
     have q3:¬((j:Int)<(j:Int)):=by omega
     rw [HGA.out,HG1.out] at kg;clear ko Ec;go_wp2_with fail
     go_roundw
     case rel=>exact ⟨i+1,by omega,by go_num,kg,bf⟩
     case measure=>simp [intOf];omega
  ·obtain rfl:i=n:=by omega
   have q1:¬((i:Int)<(i:Int)):=by omega
   go_wp2_with fail
   refine (KY w4.heap.size i i (G i) _ kg (by omega) zR).mono ?_
   rintro e w9 ⟨rfl,ea⟩;replace kg:=ia kg ea;replace bf:=oa bf ea;have hs:=da.size;go_wp2
   go_ret2
   exact ⟨_,rfl,hs,kg,oa da bf⟩
end Go.Proofs.YtgeofabpinfcmaaGreat
namespace Go.Proofs.YtgeofabpinfcmaaGreat
def rq (xs:List Nat) (x:Int):Nat -> Int
 | 0=>1
 | k+1=>rq xs x k*(x-Qb xs k)
theorem XT {p:Nat} (hp:1<p) (xs:List Nat) (x:Int):∀ k,Cg p (Xa (fun i=>(uf p xs k i:Int)) x (k+1)) (rq xs x k)
 | 0=>Cg.of_eq (by simp [Xa,uf,rq])
 | k+1=>by
  have ih:=XT hp xs x k;have h0:uf p xs k (k+1)=0:=zN p xs k (k+1) (by omega)
  have e1:Xa (fun i=>(uf p xs k i:Int)) x (k+1)=(uf p xs k 0:Int)+x*Xa (fun i=>(uf p xs k (i+1):Int)) x (k+1):=by
   have h1:=JD (fun i=>(uf p xs k i:Int)) x (k+1)
   rw [Xa,h0] at h1;rw [<- h1];simp
  rw [JD];have c0:Cg p (uf p xs (k+1) 0:Int) (-((uf p xs k 0:Int)*Qb xs k)):=by
   show Cg p (oc p (uf p xs k 0*xs.getD k 0%p):Int) _
   refine (Nn p _ (by omega)).trans (Cg.neg ((Cg.mod _).trans (Cg.of_eq (Int.natCast_mul _ _))))
  have c1:Cg p (Xa (fun i=>(uf p xs (k+1) (i+1):Int)) x (k+1)) (Xa (fun i=>(uf p xs k i:Int)+(-Qb xs k)*(uf p xs k (i+1):Int)) x (k+1)):=by
   refine aF x _ fun i hi=>?_
   have e:uf p xs (k+1) (i+1)=(uf p xs k i+oc p (uf p xs k (i+1)*xs.getD k 0%p))%p:=by
    rw [uf];simp only [];rw [if_neg (by omega),if_pos (by omega),Nat.add_sub_cancel]
   rw [e];refine (Cg.mod _).trans (Cg.trans (Cg.of_eq (Int.natCast_add _ _)) (Cg.rfl'.add ?_));refine (Nn p _ (by omega)).trans ((Cg.neg ((Cg.mod _).trans (Cg.of_eq (Int.natCast_mul _ _)))).trans (Cg.of_eq ?_))
   show -((uf p xs k (i+1):Int)*Qb xs k)=_
   rw [Int.neg_mul,Int.mul_comm]
  rw [WA,XA] at c1;refine (c0.add (Cg.rfl'.mul c1)).trans ?_;rw [rq];refine Cg.trans (Cg.of_eq ?_) (ih.mul Cg.rfl');rw [e1]
  grind
theorem bI (xs:List Nat) (k:Nat):∀ m,k<m -> rq xs (Qb xs k) m=0
 | 0,h=>by omega
 | m+1,h=>by
  rw [rq];by_cases e:k=m
  ·subst e;rw [Int.sub_self,Int.mul_zero]
  ·rw [bI xs k m (by omega),Int.zero_mul]
theorem KR {p:Nat} (h:ab p=true) (xs:List Nat) (x:Int):∀ m,(∀ k,k<m -> ¬Cg p x (Qb xs k)) -> ¬Cg p (rq xs x m) 0
 | 0,_=>fun hc=>SH h hc.symm
 | m+1,hx=>fun hc=>by
  rw [rq] at hc;rcases JL h hc with h1 | h1
  ·exact KR h xs x m (fun k hk=>hx k (by omega)) h1
  ·exact hx m (by omega) (by obtain ⟨c,hc⟩:=h1;exact ⟨c,by rw [<- hc];omega⟩)
theorem yN {p:Nat} (h:ab p=true) (xs:List Nat) (x:Int):∀ k,Cg p (Jb (wv p xs k) x) (rq xs x k)
 | 0=>by
  rw [wv,rq];exact (SV _ _).trans (Cg.of_eq (by simp [Jb,Xa,Qb]))
 | k+1=>by
  have hp:=Va h;rw [wv,rq];refine (gH _ _ x).trans ?_;rw [Int.mul_comm];refine (yN h xs x k).mul ?_;have e:Jb [oc p (xs.getD k 0),1%p] x=(oc p (xs.getD k 0):Int)+((1%p:Nat):Int)*x:=by
   simp [Jb,Xa,Qb,List.getD,Int.pow_succ]
  rw [e,Nat.mod_eq_of_lt (by omega)]
  refine ((Nn p _ (by omega)).add (Cg.rfl' (x:=((1:Nat):Int)*x))).trans (Cg.of_eq ?_)
  show -(Qb xs k)+((1:Nat):Int)*x=x-Qb xs k
  omega
def Qx (p:Nat) (xs:List Nat):Prop:=∀ i j,i<xs.length -> j<xs.length -> i≠j -> ¬Cg p (Qb xs i) (Qb xs j)
theorem WJ {p:Nat} {xs:List Nat} (hp:0<p) (hd:∀ i j,i<j -> j<xs.length -> xs.getD i 0%p≠xs.getD j 0%p):Qx p xs:=by
 have key:∀ i j,i<j -> j<xs.length -> ¬Cg p (Qb xs i) (Qb xs j):=fun i j h1 h2 hc=>by
  have h3:Cg p ((xs.getD i 0%p:Nat):Int) ((xs.getD j 0%p:Nat):Int):=(Cg.mod _).trans (hc.trans (Cg.mod _).symm);exact hd i j h1 h2 (Cg.eq h3 (Nat.mod_lt _ hp) (Nat.mod_lt _ hp))
 intro i j h1 h2 Bb hc;rcases Nat.lt_or_gt_of_ne Bb with h | h
 ·exact key i j h h2 hc
 ·exact key j i h h1 hc.symm
theorem RL {xs:List Nat} {i:Nat} (hi:i<xs.length) (k:Nat):(ng xs i).getD k 0=if k<i then xs.getD k 0 else xs.getD (k+1) 0:=by
 unfold ng;rw [List.getD_eq_getElem?_getD,List.getD_eq_getElem?_getD,List.getD_eq_getElem?_getD];split
 ·rename_i h
  rw [List.getElem?_append_left (by simp;omega),List.getElem?_take,if_pos h]
 ·rename_i h
  rw [List.getElem?_append_right (by simp;omega),List.getElem?_drop]
  congr 2
  simp
  omega
theorem C6 {p:Nat} (h:ab p=true) {xs:List Nat} {i k:Nat} (hi:i<xs.length) (hk:k<xs.length) (Bb:k≠i):Cg p (Jb (Fk p (ng xs i)) (Qb xs k)) 0:=by
 refine (yN h (ng xs i) (Qb xs k) _).trans (Cg.of_eq ?_);obtain ⟨j,hj,e⟩:∃ j,j<(ng xs i).length /\ Qb (ng xs i) j=Qb xs k:=by
  rw [VF hi];rcases Nat.lt_or_gt_of_ne Bb with h1 | h1
  ·exact ⟨k,by omega,by unfold Qb;rw [RL hi,if_pos h1]⟩
  ·exact ⟨k-1,by omega,by unfold Qb;rw [RL hi,if_neg (by omega),show k-1+1=k by omega]⟩
 rw [<- e];exact bI _ j _ hj
theorem D6 {p:Nat} (h:ab p=true) {xs:List Nat} {i:Nat} (hi:i<xs.length) (hd:Qx p xs):¬Cg p (Jb (Fk p (ng xs i)) (Qb xs i)) 0:=fun hc=>by
 refine KR h (ng xs i) (Qb xs i) (ng xs i).length (fun k hk=>?_) ((yN h (ng xs i) (Qb xs i) _).symm.trans hc)
 rw [VF hi] at hk;unfold Qb;rw [RL hi];split
 ·exact hd i k hi (by omega) (by omega)
 ·exact hd i (k+1) hi (by omega) (by omega)
theorem iQ {p:Nat} (xs ys:List Nat) (x:Int):∀ m,Cg p (Jb (jx p xs ys m) x) (Sa (fun i=>(xz p xs ys i:Int)*Jb (Fk p (ng xs i)) x) m)
 | 0=>Cg.of_eq rfl
 | m+1=>by
  rw [jx,Sa];exact (ow _ _ x).trans ((iQ xs ys x m).add (bF _ _ x))
theorem gQ {p:Nat} (h:ab p=true) {xs ys:List Nat} (hd:Qx p xs) {k:Nat} (hk:k<xs.length):Cg p (Jb (Mm p xs ys) (Qb xs k)) (Qb ys k):=by
 refine (iQ xs ys _ _).trans (KI hk (fun i hi Bb=>?_) ?_)
 ·exact (Cg.rfl'.mul (C6 h hi hk (fun e=>Bb e.symm))).trans (Cg.of_eq (Int.mul_zero _))
 ·have hb:Cg p (Bc p (Fk p (ng xs k)) (xs.getD k 0):Int) (Jb (Fk p (ng xs k)) (Qb xs k)):=ik _
  have hn:=QF h (a:=Bc p (Fk p (ng xs k)) (xs.getD k 0)) fun e=>D6 h hk hd (hb.symm.trans e)
  have hc:Cg p (xz p xs ys k:Int) (Qb ys k*((Bc p (Fk p (ng xs k)) (xs.getD k 0)^(p-2)%p:Nat):Int)):=(Cg.mod _).trans (Cg.of_eq (Int.natCast_mul _ _));refine (hc.mul hb.symm).trans ?_;rw [Int.mul_assoc];refine (Cg.rfl'.mul (Cg.trans (Cg.of_eq (Int.mul_comm _ _)) hn)).trans (Cg.of_eq (Int.mul_one _))
end Go.Proofs.YtgeofabpinfcmaaGreat
namespace Go.Proofs.YtgeofabpinfcmaaGreat
theorem AO {p:Nat} (xs:List Nat) {i:Nat} (h:i<xs.length+1):Qb (Fp p xs) i=(uf p xs xs.length i:Int):=by
 unfold Qb Fp;rw [Qf,if_pos h]
theorem dO {p:Nat} (hp:1<p) (xs:List Nat) (x:Int):Cg p (Xa (Qb (Fp p xs)) x (xs.length+1)) (rq xs x xs.length):=by
 rw [fH (b:=fun i=>(uf p xs xs.length i:Int)) x _ fun i hi=>AO xs hi]
 exact XT hp xs x _
theorem H6 {p r:Nat} (P:List Nat) (i:Nat):Cg p (Pt p r P i:Int) (ji (Qb P) (r:Int) P.length (i+1)):=by
 unfold Pt ji;refine (CF _).trans (Cg.of_eq ?_);rw [List.length_drop]
 congr 1
 funext j
 unfold Qb;rw [List.getD_eq_getElem?_getD,List.getElem?_drop,List.getD_eq_getElem?_getD]
theorem mY {p:Nat} (hp:1<p) {xs:List Nat} {i:Nat} (hi:i<xs.length) (x:Int):Cg p (rq xs x xs.length) ((x-Qb xs i)*Xa (fun k=>(Sl p xs i k:Int)) x xs.length):=by
 have hl:=eO p xs;have h1:=YR (Qb (Fp p xs)) (Qb xs i) x xs.length;have h2:Cg p (Xa (fun k=>(Sl p xs i k:Int)) x xs.length) (Xa (fun k=>ji (Qb (Fp p xs)) (Qb xs i) (xs.length+1) (k+1)) x xs.length):=Dj (fun k=>by
  have:=H6 (p:=p) (r:=xs.getD i 0) (Fp p xs) k;rw [hl] at this;exact this) Cg.rfl' _
 have h3:=dO hp xs x;have h4:=dO hp xs (Qb xs i);rw [bI xs i _ hi] at h4;rw [h1] at h3;exact h3.symm.trans (((h4.add (Cg.rfl'.mul h2.symm))).trans (Cg.of_eq (Int.zero_add _)))
theorem oR {p:Nat} (h:ab p=true) {xs:List Nat} (hd:Qx p xs) {i k:Nat} (hi:i<xs.length) (hk:k<xs.length) (Bb:k≠i):Cg p (Xa (fun t=>(Sl p xs i t:Int)) (Qb xs k) xs.length) 0:=by
 have hp:=Va h;have h1:=mY (p:=p) (by omega) hi (Qb xs k)
 rw [bI xs k _ hk] at h1;rcases JL h h1.symm with h2 | h2
 ·exact absurd (by obtain ⟨c,hc⟩:=h2;exact ⟨c,by rw [<- hc];omega⟩) (hd k i hk hi Bb)
 ·exact h2
theorem YT {p:Nat} (hp:1<p) (xs:List Nat):∀ k,Cg p (uf p xs k k:Int) 1
 | 0=>Cg.rfl'
 | k+1=>by
  have e:uf p xs (k+1) (k+1)=(uf p xs k k+oc p (uf p xs k (k+1)*xs.getD k 0%p))%p:=by
   rw [uf];simp only [];rw [if_neg (by omega),if_pos (by omega),Nat.add_sub_cancel]
  rw [e,zN p xs k (k+1) (by omega),Nat.zero_mul]
  refine (Cg.mod _).trans (Cg.trans (Cg.of_eq (Int.natCast_add _ _)) (((YT hp xs k).add (Nn p _ (by omega))).trans (Cg.of_eq ?_)))
  simp
theorem nY {p:Nat} (hp:1<p) {xs:List Nat} (hn:0<xs.length) (i:Nat):Cg p (Sl p xs i (xs.length-1):Int) 1:=by
 have hl:=eO p xs;unfold Sl;rw [dU p _ _ (by omega),cU p _ _ (by omega),Nat.zero_mul,Nat.zero_mod,Nat.add_zero]
 refine (Cg.mod _).trans ?_;rw [show xs.length-1+1=xs.length by omega]
 have:=AO (p:=p) xs (i:=xs.length) (by omega)
 unfold Qb at this;rw [this];exact YT hp xs _
theorem lY {p:Nat} (h:ab p=true) {xs:List Nat} (hd:Qx p xs) {i:Nat} (hi:i<xs.length):¬Cg p (Xa (fun t=>(Sl p xs i t:Int)) (Qb xs i) xs.length) 0:=fun hc=>by
 have hp:=Va h;have hz:=OG h xs.length (fun t=>(Sl p xs i t:Int)) (Qb xs) hd (fun k hk=>by
  by_cases e:k=i
  ·subst e;exact hc
  ·exact oR h hd hi hk e) (xs.length-1) (by omega)
 exact SH h (hz.symm.trans (nY (by omega) (by omega) i))
theorem WN {p:Nat} (xs ys:List Nat) (x:Int) (n:Nat):∀ m,Cg p (Xa (fun t=>(OE p xs ys m t:Int)) x n) (Sa (fun i=>(dB p xs ys i:Int)*Xa (fun t=>(Sl p xs i t:Int)) x n) m)
 | 0=>by
  refine Cg.of_eq ?_;show Xa (fun _=>((0:Nat):Int)) x n=0
  rw [su,<- Mt n]
  congr 1
  funext k
  simp
 | m+1=>by
  rw [Sa,<- XA];refine Cg.trans ?_ ((WN xs ys x n m).add Cg.rfl');rw [<- WA];refine Dj (fun t=>?_) Cg.rfl' _
  show Cg p (((OE p xs ys m t+dB p xs ys m*Sl p xs m t%p)%p:Nat):Int) _
  refine (Cg.mod _).trans (Cg.trans (Cg.of_eq (Int.natCast_add _ _)) (Cg.rfl'.add ((Cg.mod _).trans (Cg.of_eq (Int.natCast_mul _ _)))))
theorem kX {p:Nat} (h:ab p=true) {xs ys:List Nat} (hd:Qx p xs) {k:Nat} (hk:k<xs.length):Cg p (Xa (fun t=>(Uo p xs ys t:Int)) (Qb xs k) xs.length) (Qb ys k):=by
 refine (WN xs ys _ _ _).trans (KI hk (fun i hi Bb=>?_) ?_)
 ·exact (Cg.rfl'.mul (oR h hd hi hk (fun e=>Bb e.symm))).trans (Cg.of_eq (Int.mul_zero _))
 ·have hb:Cg p (ug p (xs.getD k 0) (vx p xs k):Int) (Xa (fun t=>(Sl p xs k t:Int)) (Qb xs k) xs.length):=by
   refine (CF _).trans (Cg.of_eq ?_);have hl:(vx p xs k).length=xs.length:=by simp [vx]
   rw [hl];exact ID _ _ _
  have hn:=QF h (a:=ug p (xs.getD k 0) (vx p xs k)) fun e=>lY h hd hk (hb.symm.trans e)
  have hc:Cg p (dB p xs ys k:Int) (Qb ys k*((ug p (xs.getD k 0) (vx p xs k)^(p-2)%p:Nat):Int)):=(Cg.mod _).trans (Cg.of_eq (Int.natCast_mul _ _));refine (hc.mul hb.symm).trans ?_;rw [Int.mul_assoc];exact (Cg.rfl'.mul (Cg.trans (Cg.of_eq (Int.mul_comm _ _)) hn)).trans (Cg.of_eq (Int.mul_one _))
theorem iX {p:Nat} (h:ab p=true) {xs ys:List Nat} (hd:Qx p xs) {i:Nat} (hi:i<xs.length):Cg p (Uo p xs ys i:Int) (Qb (Mm p xs ys) i) :=
 PM h hd (fun k hk=>by
  have h1:=gQ h (ys:=ys) hd hk;rw [<- Is (Mm p xs ys) (Qb xs k) (FC p xs ys _ zR)] at h1;exact (kX h hd hk).trans h1.symm) i hi
theorem jX {p:Nat} (hp:0<p) (xs ys:List Nat) (i:Nat):Uo p xs ys i<p:=by
 unfold Uo;cases xs.length with
 | zero=>exact hp
 | succ k=>exact Nat.mod_lt _ hp
theorem qL {p:Nat} (hp:0<p) (xs ys:List Nat):∀ x∈Mm p xs ys,x<p:=fun x hx=>by
 unfold Mm at hx;cases e:xs.length with
 | zero=>rw [e] at hx;cases hx
 | succ k=>rw [e,jx] at hx;exact nG hp hx
theorem PX {p:Nat} (h:ab p=true) {xs ys:List Nat} (hd:Qx p xs):(List.range xs.length).map (Uo p xs ys)=Te (Mm p xs ys) xs.length:=by
 have hp:=Va h;have hl:=FC p xs ys _ (Nat.le_refl xs.length);refine Om (by rw [Uu,List.length_map,List.length_range];unfold Mm;omega) fun i hi=>?_
 rw [List.length_map,List.length_range] at hi;rw [Qf,if_pos hi,Ir];exact Cg.eq (iX h hd hi) (jX (by omega) _ _ _) (Wg (by omega) (qL (by omega) xs ys) i)
end Go.Proofs.YtgeofabpinfcmaaGreat
namespace Go.Proofs.YtgeofabpinfcmaaGreat
open Go.RowKit
def Wv (_w:World) (cs:List Value) (x:Int):Prop:=cs=[.int .i64 x] /\ -9223372036854775808 <= x /\ x <= 9223372036854775807
theorem zC:ju Wv:=fun _ _ _ _ _ h=>h
def qi:World -> List Value -> List Int -> Prop:=RSl 1 Wv
theorem pf:ju qi:=Kc zC
theorem Jt {w:World} {A:Option Addr} {l:List Int} (h:RdL w 1 Wv A l) {i:Nat} (hi:i<l.length):∃ b q,A=some ⟨b,q,none⟩ /\ b<w.heap.size /\ w.cell? ⟨b,q+i,none⟩=some (.int .i64 (l.getD i 0)) /\ -9223372036854775808 <= l.getD i 0 /\ l.getD i 0 <= 9223372036854775807:=by
 obtain ⟨b,q,rfl⟩:=h.base (by omega) (by omega)
 obtain ⟨cs,-,hc,rfl,h1,h2⟩:=h.get hi;have h0:=hc 0 (by omega)
 rw [Nat.mul_one,Nat.add_zero] at h0;have e:l.getD i 0=l[i]:=by rw [List.getD_eq_getElem?_getD,List.getElem?_eq_getElem hi];rfl
 rw [e];exact ⟨b,q,rfl,World.block_lt_of_cell? _ _ h0,h0,h1,h2⟩
def nj (N:Nat) (l:List Int) (i:Nat):Bool:=decide (l.getD i 0<0)||decide ((N:Int) <= l.getD i 0)||(decide (0<i)&&decide (l.getD i 0 <= l.getD (i-1) 0))
def se (N Q:Nat) (l:List Int):Bool:=((List.range l.length).all fun i=>!nj N l i)&&decide (l.length=Q)
theorem dM {N Q:Nat} {l:List Int} {i:Nat} (hi:i<l.length) (h:nj N l i=true):se N Q l=false:=by
 unfold se;rw [Bool.and_eq_false_iff]
 left
 rw [List.all_eq_false];exact ⟨i,List.mem_range.2 hi,by simp [h]⟩
theorem fM {N Q:Nat} {l:List Int} (h:∀ i,i<l.length -> nj N l i=false):se N Q l=decide (l.length=Q):=by
 unfold se;rw [List.all_eq_true.2 fun i hi=>by simp [h i (List.mem_range.1 hi)],Bool.true_and]
theorem mS (L:Ja) (A:Option Addr) (n c:Nat) (l:List Int) (w:World) (hl:qi w [.slice A n c] l) :
  Calls Tryz.prog 197 #[.agg (Ya L), .slice A n c] w fun e w'=>e= .returned (.bool (se L.n L.queries l)) /\ Below w.heap.size w w':=by
 obtain ⟨A',n',c',he,Eg,Td,Li,La⟩:=hl;simp at he
 obtain ⟨rfl,rfl,rfl⟩:=he;subst Eg;have gm:=Kf Td Li;have HOB:=zH (fun i hi h=>dM (N:=L.n) (Q:=L.queries) (l:=l) (i:=i) hi h)
 have HOG:=zH (fun h=>fM (N:=L.n) (Q:=L.queries) (l:=l) h)
 obtain ⟨ans,Ss⟩:=zEX (se L.n L.queries l);rw [<- Ss] at HOB HOG |-;have da:Below w.heap.size w (w.alloc (.cells #[.int .u64 L.p, .int .i64 L.block, .int .i64 L.queries, .int .i64 L.k, .int .i64 L.n, .int .i64 L.secret, .int .i64 L.rows, .int .i64 L.a, .int .i64 L.b, .int .i64 L.b, .int .i64 L.b] 39)):=(Below.refl _ _).alloc zR _;have kl:=Blk.new w 39 #[.int .u64 L.p, .int .i64 L.block, .int .i64 L.queries, .int .i64 L.k, .int .i64 L.n, .int .i64 L.secret, .int .i64 L.rows, .int .i64 L.a, .int .i64 L.b, .int .i64 L.b, .int .i64 L.b];clear Ss Li;unfold Ya;go_enter Tryz.func197,Tryz.ntmps197
 go_upto_region 1 with fail
 generalize w.alloc _=w1 at kl da |-;go_wp2_with fail
 go_loopw [5] (fun y wr=>∃ i:Nat,i <= l.length /\ y= .int .i64 i /\ Hid (∀ k,k<i -> nj L.n l k=false) /\ Blk wr w.heap.size 39 #[.int .u64 L.p, .int .i64 L.block, .int .i64 L.queries, .int .i64 L.k, .int .i64 L.n, .int .i64 L.secret, .int .i64 L.rows, .int .i64 L.a, .int .i64 L.b, .int .i64 L.b, .int .i64 L.b] /\ Below w.heap.size w wr) (fun y _=>l.length-(intOf y).toNat)
 case atStart=>exact ⟨0,Nat.zero_le _,rfl,zH (fun k hk=>absurd hk (Nat.not_lt_zero _)),kl,da⟩
 case round =>
  clear kl da;obtain ⟨i,hi,rfl,HP,kl,hb⟩:=hrel;have cl:=kl.cell;have ll:=kl.lt;by_cases za:i<l.length
  ·have q1:(i:Int)<(l.length:Int):=by omega
   have q2:(0:Int) <= (i:Int):=by omega
   obtain ⟨b,q,rfl,Wb,hc,Oc,ye⟩:=Jt (La.below zC hb) za;have Rz:=zH (HOB.out i za);have Xc:=zH (show nj L.n l i=false -> ∀ k,k<i+1 -> nj L.n l k=false from fun h k hk=>by
    by_cases e:k=i
    ·subst e;exact h
    ·exact HP.out k (by omega))
   obtain ⟨x,hx⟩:=zEX (l.getD i 0);have Ch:=zH (show nj L.n l i=(decide (x<0)||decide ((L.n:Int) <= x)||(decide (0<i)&&decide (x <= l.getD (i-1) 0))) by rw [hx];rfl)
   rw [<- hx] at hc Oc ye;clear hx;by_cases z1:x<0
   ·have d1:decide (x<0)=true:=decide_eq_true z1
    have HB:=zH (Rz.out (by rw [Ch.out,d1];rfl))
    go_upto_region 4 with fail
    refine Rc (Ib) [] [0,1,2,3,4,5,6,7,8,9,10,11,12,13,14,15,16,17,18,19,20,21,22,23,24,25,26,27,28,29] (by kernel_rfl) (by kernel_rfl) ?_
    refine vd (xa) ?_;intro Wc Na ja;have ya:=Cc Na;refine pb ?_;refine Fc ?_;replace kl:=ia kl ya;replace hb:=oa hb ya;clear ya ja Na;go_wp2;go_ret
    exact ⟨by rw [HB.out];rfl,hb⟩
   have d1:decide (x<0)=false:=decide_eq_false z1;by_cases z2:(L.n:Int) <= x
   ·have d2:decide ((L.n:Int) <= x)=true:=decide_eq_true z2
    have HB:=zH (Rz.out (by rw [Ch.out,d1,d2];rfl))
    go_upto_region 4 with fail
    refine Rc (Ib) [] [0,1,2,3,4,5,6,7,8,9,10,11,12,13,14,15,16,17,18,19,20,21,22,23,24,25,26,27,28,29] (by kernel_rfl) (by kernel_rfl) ?_
    refine vd (xa) ?_;intro Wc Na ja;have ya:=Cc Na;refine pb ?_;refine Fc ?_;replace kl:=ia kl ya;replace hb:=oa hb ya;clear ya ja Na;go_wp2;go_ret
    exact ⟨by rw [HB.out];rfl,hb⟩
   have d2:decide ((L.n:Int) <= x)=false:=decide_eq_false z2;rcases Nat.eq_zero_or_pos i with h0 | h0
   ·subst h0
    have HG:=zH (Xc.out (by rw [Ch.out,d1,d2];rfl))
    rw [Nat.add_zero] at hc;go_upto_region 4 with fail
    refine Rc (Ib) [] [0,1,2,3,4,5,6,7,8,9,10,11,12,13,14,15,16,17,18,19,20,21,22,23,24,25,26,27,28,29] (by kernel_rfl) (by kernel_rfl) ?_
    refine vd (xa) ?_;intro Wc Na ja;have ya:=Cc Na;refine pb ?_;refine Fc ?_;replace kl:=ia kl ya;replace hb:=oa hb ya;clear ya ja Na;go_wp2
    go_roundw
    case rel=>exact ⟨0+1,by omega,by go_num,HG.out,kl,hb⟩
    case measure=>simp [intOf];omega
   obtain ⟨j,hj⟩:=zEX (i-1);have q3:(0:Int)<(i:Int):=by omega
   have q4:(i:Int)-1=(j:Int):=by omega
   have q5:=Yb j;have q6:(j:Int)<(l.length:Int):=by omega
   have q7:(0:Int) <= (j:Int):=by omega
   have d3:decide ((0:Int)<(i:Int))=true:=decide_eq_true q3;obtain ⟨b',q',e',Nk,Gl,Ee,Km⟩:=Jt (La.below zC hb) (i:=j) (by omega)
   injection e' with e'
   injection e' with e1 e2
   subst e1 e2;obtain ⟨y,hy⟩:=zEX (l.getD j 0);have HPC:=zH (show nj L.n l i=decide (x <= y) by rw [Ch.out,d1,d2,decide_eq_true h0,hy,hj];simp)
   rw [<- hy] at Gl Ee Km;clear hy hj Ch;by_cases z3:x <= y
   ·have d4:decide (x <= y)=true:=decide_eq_true z3
    have HB:=zH (Rz.out (by rw [HPC.out,d4]))
    go_upto_region 4 with fail
    refine Rc (Ib) [] [0,1,2,3,4,5,6,7,8,9,10,11,12,13,14,15,16,17,18,19,20,21,22,23,24,25,26,27,28,29] (by kernel_rfl) (by kernel_rfl) ?_
    refine vd (xa) ?_;intro Wc Na ja;have ya:=Cc Na;refine pb ?_;refine Fc ?_;replace kl:=ia kl ya;replace hb:=oa hb ya;clear ya ja Na;go_wp2;go_ret
    exact ⟨by rw [HB.out];rfl,hb⟩
   have d4:decide (x <= y)=false:=decide_eq_false z3;have HG:=zH (Xc.out (by rw [HPC.out,d4]))
   go_upto_region 4 with fail
   refine Rc (Ib) [] [0,1,2,3,4,5,6,7,8,9,10,11,12,13,14,15,16,17,18,19,20,21,22,23,24,25,26,27,28,29] (by kernel_rfl) (by kernel_rfl) ?_
   refine vd (xa) ?_;intro Wc Na ja;have ya:=Cc Na;refine pb ?_;refine Fc ?_;replace kl:=ia kl ya;replace hb:=oa hb ya;clear ya ja Na;go_wp2
   go_roundw
   case rel=>exact ⟨i+1,by omega,by go_num,HG.out,kl,hb⟩
   case measure=>simp [intOf];omega
  ·obtain rfl:i=l.length:=by omega
   have q1:¬((l.length:Int)<(l.length:Int)):=by omega
   have HE:=zH (HOG.out fun k hk=>HP.out k hk)
   by_cases hq:l.length=L.queries
   ·have d1:((l.length:Int) == (L.queries:Int))=true:=by rw [beq_iff_eq];omega
    have Vx:=zH (show ans=true by rw [HE.out,decide_eq_true hq])
    clear hq;go_wp2;go_ret
    exact ⟨by rw [Vx.out];rfl,hb⟩
   ·have d1:((l.length:Int) == (L.queries:Int))=false:=by rw [beq_eq_false_iff_ne];omega
    have Vx:=zH (show ans=false by rw [HE.out,decide_eq_false hq])
    go_wp2;go_ret
    exact ⟨by rw [Vx.out];rfl,hb⟩
def tx (L:Ja) (x:Nat):Nat:=(x^L.block%L.p+oc L.p 1)%L.p
def Br (L:Ja) (msg:List Nat):List Nat:=(List.range L.block).map (Lm L.p msg 1)
def sf (L:Ja) (pos:List Int) (i:Nat):Nat:=Vb L.p (tb L.p).1 L.n (pos.getD i 0).toNat
def KC (L:Ja) (msg:List Nat) (pos:List Int) (vals:List Nat) (i:Nat):Nat :=
 (vals.getD i 0+oc L.p (Bc L.p (Br L msg) (sf L pos i)))%L.p*(tx L (sf L pos i)^(L.p-2)%L.p)%L.p
def Qj (L:Ja) (pos:List Int):List Nat:=(List.range pos.length).map (sf L pos)
def Dt (L:Ja) (msg:List Nat) (pos:List Int) (vals:List Nat):List Nat:=(List.range pos.length).map (KC L msg pos vals)
def kj (L:Ja) (msg:List Nat) (pos:List Int) (vals:List Nat):List Nat:=Te (Mm L.p (Qj L pos) (Dt L msg pos vals)) L.queries
def Cr (L:Ja) (pos:List Int) (vals:List Nat):Bool:=se L.n L.queries pos&&td vals L.queries L.p
theorem Jr {N Q:Nat} {l:List Int} (h:se N Q l=true):l.length=Q:=by
 unfold se at h;rw [Bool.and_eq_true] at h;exact of_decide_eq_true h.2
theorem Fz {N Q:Nat} {l:List Int} (h:se N Q l=true) {i:Nat} (hi:i<l.length):0 <= l.getD i 0 /\ l.getD i 0<N /\ (0<i -> l.getD (i-1) 0<l.getD i 0):=by
 unfold se at h;rw [Bool.and_eq_true] at h;have h1:=List.all_eq_true.1 h.1 i (List.mem_range.2 hi);simp only [nj,Bool.not_or,Bool.and_eq_true,Bool.not_eq_true',decide_eq_false_iff_not,Bool.and_eq_false_iff] at h1;obtain ⟨⟨h2,h3⟩,h4⟩:=h1;refine ⟨by omega,by omega,fun h0=>?_⟩
 rcases h4 with h4 | h4 <;> omega
theorem TO {p s n:Nat} (hp:0<p) (k:Nat):Vb p s n k<p:=by
 unfold Vb;cases k with
 | zero=>rw [tu];exact Nat.mod_lt _ hp
 | succ k=>rw [tu];exact Nat.mod_lt _ hp
end Go.Proofs.YtgeofabpinfcmaaGreat
namespace Go.Proofs.YtgeofabpinfcmaaGreat
theorem DP {p a b:Nat} (h:ab p=true) (Wq:a<b) (hb:b-a<p-1):¬Cg p (((tb p).1:Int)^a) (((tb p).1:Int)^b):=fun hc=>by
 have hp:=Va h;refine uK h (k:=b-a) (by omega) hb ?_
 have hv:Cg p (((tb p).1:Int)*((tb p).1:Int)^(p-2)) 1:=by
  have:=Jy h;rw [show p-1=(p-2)+1 by omega,Int.pow_succ,Int.mul_comm] at this
  exact this
 have h1:Cg p (((tb p).1:Int)^a*(((tb p).1:Int)^(p-2))^a) 1:=by
  rw [<- Int.mul_pow];exact (hv.pow a).trans (Cg.of_eq Int.one_pow)
 have h2:Cg p (((tb p).1:Int)^b*(((tb p).1:Int)^(p-2))^a) (((tb p).1:Int)^(b-a)):=by
  rw [show ((tb p).1:Int)^b=((tb p).1:Int)^(b-a)*((tb p).1:Int)^a by rw [<- Int.pow_add];congr 1;omega,Int.mul_assoc]
  exact (Cg.rfl'.mul h1).trans (Cg.of_eq (Int.mul_one _))
 exact h2.symm.trans ((hc.symm.mul Cg.rfl').trans h1)
theorem ZJ {p n k:Nat}:Cg p (Vb p (tb p).1 n k:Int) (((tb p).1:Int)^(1+(p-1) / n*k)):=by
 refine (FD k).trans ?_;rw [Int.pow_add,Int.pow_one,Int.pow_mul];refine Cg.rfl'.mul (Cg.pow ?_ k);unfold ie;exact (Cg.mod _).trans (Cg.of_eq (Int.natCast_pow _ _))
theorem UO {p n a b:Nat} (h:ab p=true) (hn:Vg p n) (Wq:a<b) (hb:b<n):¬Cg p (Vb p (tb p).1 n a:Int) (Vb p (tb p).1 n b:Int):=fun hc=>by
 have hp:=Va h;have hd:=Nat.div_mul_cancel (Nat.dvd_of_mod_eq_zero hn.dvd);obtain ⟨m,hm⟩:=zEX ((p-1) / n);rw [<- hm] at hd;have ud:0<m:=by
  rcases Nat.eq_zero_or_pos m with e | e
  ·rw [e,Nat.zero_mul] at hd;omega
  ·exact e
 refine DP h (a:=1+m*a) (b:=1+m*b) ?_ ?_ ?_
 ·have:=Nat.mul_lt_mul_of_pos_left Wq ud
  omega
 ·have h1:m*(b-a)<m*n:=Nat.mul_lt_mul_of_pos_left (by omega) ud
  rw [Nat.mul_sub] at h1;rw [<- hd,Nat.mul_comm m n] at *;omega
 ·rw [hm]
  exact ZJ.symm.trans (hc.trans ZJ)
theorem aZ {b n:Nat} (hb:∃ j,b=2^j) (hn:∃ j,n=2^j) (h:b<n):∃ t,n=b*t:=by
 obtain ⟨i,rfl⟩:=hb;obtain ⟨j,rfl⟩:=hn;have hij:i<j:=(Nat.pow_lt_pow_iff_right (by decide)).1 h
 exact ⟨2^(j-i),by rw [<- Nat.pow_add];congr 1;omega⟩
theorem FV {L:Ja} (hL:Db L) (k:Nat):¬Cg L.p ((Vb L.p (tb L.p).1 L.n k:Int)^L.block) 1:=fun hc=>by
 have hp:=Va hL.p;obtain ⟨hlen,j,hj⟩:=Uk hL;have hN:=(nx hL).1;have hd:=Nat.div_mul_cancel (Nat.dvd_of_mod_eq_zero hN.dvd);obtain ⟨m,hm⟩:=zEX ((L.p-1) / L.n);have he:=(ZJ (p:=L.p) (n:=L.n) (k:=k)).symm.pow L.block;rw [<- hm] at he hd;rw [<- Int.pow_mul] at he;obtain ⟨e,hee⟩:=zEX ((1+m*k)*L.block);rw [<- hee] at he;have h1:Cg L.p (((tb L.p).1:Int)^e) 1:=he.trans hc;have h2:=jM (Jy hL.p) e;have h3:e%(L.p-1)=0:=by
  refine Classical.byContradiction fun Bb=>?_
  exact uK hL.p (k:=e%(L.p-1)) (by omega) (Nat.mod_lt _ (by omega)) (h2.symm.trans h1)
 obtain ⟨t,ht⟩:=aZ ⟨j,hj⟩ hL.n (by have:=hL.nk;have:=hL.k;have:=hL.q1;omega)
 have h4:L.p-1∣e:=Nat.dvd_of_mod_eq_zero h3;rw [<- hd,ht,hee,Nat.mul_comm (1+m*k),Nat.mul_comm m,Nat.mul_assoc] at h4;have h5:=Nat.dvd_of_mul_dvd_mul_left (by have:=hL.b1;omega) h4
 have h6:m∣1+m*k:=Nat.dvd_trans ⟨t,Nat.mul_comm _ _⟩ h5;have h7:m∣1:=(Nat.dvd_add_iff_left (Nat.dvd_mul_right m k)).2 h6;have h8:m=1:=Nat.dvd_one.1 h7;rw [h8,Nat.one_mul] at hd;have:=hL.nl;omega
theorem gV {p:Nat} {x:Int} (h:Cg p (x-1) 0):Cg p x 1:=by
 obtain ⟨c,hc⟩:=h;exact ⟨c,by omega⟩
theorem KL (L:Ja) (hp:1<L.p) (x:Nat):Cg L.p (tx L x:Int) ((x:Int)^L.block-1):=by
 unfold tx;refine (Cg.mod _).trans ((Cg.of_eq (Int.natCast_add _ _)).trans ?_);refine (((Cg.mod _).trans (Cg.of_eq (Int.natCast_pow _ _))).add (Nn L.p 1 (by omega))).trans (Cg.of_eq ?_)
 omega
theorem NQ {L:Ja} (hL:Db L) (k:Nat):Cg L.p ((tx L (Vb L.p (tb L.p).1 L.n k):Int)*((tx L (Vb L.p (tb L.p).1 L.n k)^(L.p-2)%L.p:Nat):Int)) 1:=by
 have hp:=Va hL.p;exact QF hL.p fun hc=>FV hL k (gV ((KL L (by omega) _).symm.trans hc))
theorem DR {N Q:Nat} {l:List Int} (h:se N Q l=true):∀ j i,i<j -> j<l.length -> l.getD i 0<l.getD j 0
 | 0,i,h1,_=>by omega
 | j+1,i,h1,h2=>by
  have h3:=(Fz h h2).2.2 (by omega)
  rw [Nat.add_sub_cancel] at h3;rcases Nat.lt_or_ge i j with h4 | h4
  ·have:=DR h j i h4 (by omega)
   omega
  ·obtain rfl:i=j:=by omega
   exact h3
theorem ox (L:Ja) (pos:List Int):(Qj L pos).length=pos.length:=by simp [Qj]
theorem LH (L:Ja) (pos:List Int) {i:Nat} (h:i<pos.length):(Qj L pos).getD i 0=sf L pos i:=by rw [Qj,Qf,if_pos h]
theorem KX (L:Ja) (msg:List Nat) (pos:List Int) (vals:List Nat) {i:Nat} (h:i<pos.length):(Dt L msg pos vals).getD i 0=KC L msg pos vals i:=by rw [Dt,Qf,if_pos h]
theorem KH {L:Ja} (hL:Db L) {pos:List Int} (h:se L.n L.queries pos=true):∀ i j,i<j -> j<(Qj L pos).length -> (Qj L pos).getD i 0%L.p≠(Qj L pos).getD j 0%L.p:=fun i j h1 h2 he=>by
 have hp:=Va hL.p;rw [ox] at h2;rw [LH L pos (by omega),LH L pos h2] at he
 have h3:=DR h j i h1 h2;have h4:=Fz h h2;have h5:=Fz h (i:=i) (by omega)
 refine UO hL.p (nx hL).1 (a:=(pos.getD i 0).toNat) (b:=(pos.getD j 0).toNat) (by omega) (by omega) ?_
 have h6:Cg L.p ((sf L pos i%L.p:Nat):Int) ((sf L pos j%L.p:Nat):Int):=Cg.of_eq (by rw [he])
 exact (Cg.mod _).symm.trans (h6.trans (Cg.mod _))
theorem QX {L:Ja} (hL:Db L) {msg vals:List Nat} {pos:List Int} (h:se L.n L.queries pos=true):(List.range L.queries).map (Uo L.p (Qj L pos) (Dt L msg pos vals))=kj L msg pos vals:=by
 have hp:=Va hL.p;have hl:(Qj L pos).length=L.queries:=by rw [ox,Jr h]
 have:=PX hL.p (xs:=Qj L pos) (ys:=Dt L msg pos vals) (WJ (by omega) (KH hL h))
 rw [hl] at this;exact this
theorem XW {p:Nat} (hp:0<p) (l:List Nat) (x:Nat):ug p x l=Bc p l x:=Cg.eq (p:=p) ((CF l).trans (Ey l).symm) (UP hp x l) (qn hp l x)
theorem uQ {L:Ja} (hL:Db L) {msg:List Nat} (hm:msg.length=L.block):(List.range L.block).map (Nj L.p L.block L.block.log2 msg)=Br L msg:=by
 obtain ⟨hlen,j,hj⟩:=Uk hL;have En:L.block.log2=j:=by rw [hj];exact Nat.log2_two_pow
 unfold Br;refine List.map_congr_left fun i hi=>?_
 have:=kL (j:=j) msg hL.p (by rw [hm];exact hlen) (by rw [hm];exact hj) (i:=i) (by rw [hm];exact List.mem_range.1 hi)
 rw [this,hm,En]
theorem dG {L:Ja} (hL:Db L) {msg masks:List Nat} (hm:msg.length=L.block) (x:Nat):Cg L.p (Bc L.p (Bi L msg masks) x:Int) (((x:Int)^L.block-1)*Jb masks x+(Bc L.p (Br L msg) x:Int)):=by
 have hp:=Va hL.p;refine (Ey _).trans ?_;have hl:(Bi L msg masks).length=L.block+masks.length:=by rw [Bi,List.length_map,List.length_range]
 rw [hl,Bi,ID];refine (dK _ _ _ _).trans ?_;rw [show min (L.block+masks.length) L.block=L.block by omega]
 refine (SI (p:=L.p) (b:=L.block) (by omega) masks (x:Int) masks.length masks.length zR).add ?_
 refine Cg.trans ?_ (Ey _).symm;rw [<- uQ hL hm,List.length_map,List.length_range,ID];exact Cg.rfl'
theorem zQ {L:Ja} (hL:Db L) {msg vals:List Nat} {pos:List Int} (hm:msg.length=L.block) (h:Cr L pos vals=true) {i:Nat} (hi:i<pos.length):Bc L.p (Bi L msg (kj L msg pos vals)) (sf L pos i)=vals.getD i 0:=by
 have hp:=Va hL.p;unfold Cr at h;rw [Bool.and_eq_true] at h;obtain ⟨h1,h2⟩:=h;unfold td at h2;rw [Bool.and_eq_true] at h2;have Ml:=of_decide_eq_true h2.1;have uj:∀ x∈vals,x<L.p:=fun x hx=>of_decide_eq_true (List.all_eq_true.1 h2.2 x hx)
 refine Cg.eq (p:=L.p) ?_ (qn (by omega) _ _) (Wg (by omega) uj i)
 refine (dG hL hm _).trans ?_;have hd:=WJ (by omega) (KH hL h1)
 have df:=gQ hL.p (xs:=Qj L pos) (ys:=Dt L msg pos vals) hd (k:=i) (by rw [ox];exact hi)
 unfold Qb at df;rw [LH L pos hi,KX L msg pos vals hi] at df;unfold kj;rw [hH];have hz:Cg L.p ((sf L pos i:Int)^L.block-1) (tx L (sf L pos i):Int):=(KL L (by omega) _).symm
 have hinv:=NQ hL (pos.getD i 0).toNat;have e0:Vb L.p (tb L.p).1 L.n (pos.getD i 0).toNat=sf L pos i:=rfl;rw [e0] at hinv;obtain ⟨z,Rk⟩:=zEX (tx L (sf L pos i));obtain ⟨E,hE⟩:=zEX (Bc L.p (Br L msg) (sf L pos i));obtain ⟨V,hV⟩:=zEX (vals.getD i 0);have hy:KC L msg pos vals i=(V+oc L.p E)%L.p*(z^(L.p-2)%L.p)%L.p:=by rw [Rk,hE,hV];rfl
 rw [<- Rk] at hz hinv;rw [<- hE,<- hV];have hyc:Cg L.p (KC L msg pos vals i:Int) (((V:Int)-(E:Int))*((z^(L.p-2)%L.p:Nat):Int)):=by
  rw [hy];refine (Cg.mod _).trans ((Cg.of_eq (Int.natCast_mul _ _)).trans (Cg.mul ?_ Cg.rfl'));exact (Cg.mod _).trans ((Cg.of_eq (Int.natCast_add _ _)).trans ((Cg.rfl'.add (Nn L.p E (by omega))).trans (Cg.of_eq (by omega))))
 refine ((hz.mul (df.trans hyc)).add Cg.rfl').trans ?_;obtain ⟨zi,Bt⟩:∃ zi:Int,zi=((z^(L.p-2)%L.p:Nat):Int):=⟨_,rfl⟩;rw [<- Bt] at hinv |-;have e1:(z:Int)*(((V:Int)-(E:Int))*zi)+(E:Int)=((z:Int)*zi)*((V:Int)-E)+E:=by
  rw [Int.mul_comm ((V:Int)-E) zi,Int.mul_assoc]
 rw [e1];exact ((hinv.mul Cg.rfl').add Cg.rfl').trans (Cg.of_eq (by rw [Int.one_mul];omega))
end Go.Proofs.YtgeofabpinfcmaaGreat
namespace Go.Proofs.YtgeofabpinfcmaaGreat
theorem IS {p n a b:Nat} (h:ab p=true) (hn:Vg p n) (Wq:a<b) (hb:b<n):¬Cg p ((ie p n:Int)^a) ((ie p n:Int)^b):=fun hc=>by
 have hp:=Va h;have hd:=Nat.div_mul_cancel (Nat.dvd_of_mod_eq_zero hn.dvd);obtain ⟨m,hm⟩:=zEX ((p-1) / n);have he:∀ k,Cg p ((ie p n:Int)^k) (((tb p).1:Int)^(m*k)):=fun k=>by
  rw [Int.pow_mul,hm];refine Cg.pow ?_ k;unfold ie;exact (Cg.mod _).trans (Cg.of_eq (Int.natCast_pow _ _))
 rw [<- hm] at hd;have ud:0<m:=by
  rcases Nat.eq_zero_or_pos m with e | e
  ·rw [e,Nat.zero_mul] at hd;omega
  ·exact e
 refine DP h (a:=m*a) (b:=m*b) (Nat.mul_lt_mul_of_pos_left Wq ud) ?_ ((he a).symm.trans (hc.trans (he b)));have h1:m*(b-a)<m*n:=Nat.mul_lt_mul_of_pos_left (by omega) ud
 rw [Nat.mul_sub] at h1;omega
theorem I1 {p n:Nat} (h:ab p=true) (hn:Vg p n):∀ i j,i<n -> j<n -> i≠j -> ¬Cg p ((ie p n:Int)^i) ((ie p n:Int)^j):=fun i j hi hj Bb hc=>by
 rcases Nat.lt_or_gt_of_ne Bb with h1 | h1
 ·exact IS h hn h1 hj hc
 ·exact IS h hn h1 hi hc.symm
theorem FQ {p N J:Nat} (h:ab p=true) (hN:Vg p N) (hJ:N=2^J) (a b:List Nat) (ha:1 <= a.length) (Wq:a.length+b.length <= N+1) (k:Nat) (hk:k<N):Cg p (Qu p N J a b k:Int) (Qb (Be p a b) k):=by
 have hp:=Va h;refine PM (n:=N) h (a:=fun k=>(Qu p N J a b k:Int)) (b:=Qb (Be p a b)) (xs:=fun k=>(ie p N:Int)^k) (I1 h hN) (fun q hq=>?_) k hk
 unfold Qu;refine (mL (q:=q) _ h hN hJ hq).trans ?_;rw [Qf,if_pos hq,dF h hN hJ a hq,dF h hN hJ b hq];have hl:=Dr p a b;rw [Is _ _ (by omega)]
 refine (Cg.mod _).trans ((Cg.of_eq (Int.natCast_mul _ _)).trans ?_);refine ((ik a).mul (ik b)).trans ?_;refine (gH a b _).symm.trans ?_;unfold Jb;exact Dj (fun _=>Cg.rfl') QA _
theorem GQ {p N J:Nat} (hp:0<p) (a b:List Nat) (k:Nat):Qu p N J a b k<p:=Nat.mod_lt _ hp
end Go.Proofs.YtgeofabpinfcmaaGreat
namespace Go.Proofs.YtgeofabpinfcmaaGreat
open Go.RowKit
theorem LO (f:Nat -> Nat):∀ k i,Ip f k <= i -> i<k -> f i=0
 | 0,i,_,h=>absurd h (Nat.not_lt_zero _)
 | k+1,i,h1,h2=>by
  rw [Ip] at h1;by_cases h:f k=0
  ·rw [if_pos h] at h1
   by_cases e:i=k
   ·rw [e];exact h
   ·exact LO f k i h1 (by omega)
  ·rw [if_neg h] at h1
   omega
def SC (pos:List Int) (i:Nat):Int:=if i=0 then -1 else pos.getD (i-1) 0
theorem dZ {N:Nat} {pos:List Int} {i:Nat} (hprev:∀ k,k<i -> nj N pos k=false):(decide (pos.getD i 0 <= SC pos i)||decide ((N:Int) <= pos.getD i 0))=nj N pos i:=by
 unfold SC nj;rcases Nat.eq_zero_or_pos i with h | h
 ·subst h
  rw [if_pos rfl];have:decide (pos.getD 0 0 <= -1)=decide (pos.getD 0 0<0):=by
   by_cases h:pos.getD 0 0<0
   ·rw [decide_eq_true h,decide_eq_true (show pos.getD 0 0 <= -1 by omega)]
   ·rw [decide_eq_false h,decide_eq_false (show ¬pos.getD 0 0 <= -1 by omega)]
  rw [this];simp
 ·rw [if_neg (by omega)]
  have h1:=hprev (i-1) (by omega)
  unfold nj at h1;have h2:0 <= pos.getD (i-1) 0:=by
   simp only [Bool.or_eq_false_iff,decide_eq_false_iff_not] at h1;omega
  rw [decide_eq_true h,Bool.true_and];by_cases a1:pos.getD i 0 <= pos.getD (i-1) 0
  ·rw [decide_eq_true a1];simp
  ·rw [decide_eq_false a1,decide_eq_false (show ¬pos.getD i 0<0 by omega)];simp
theorem sV {Q k:Nat} {F:Nat -> Nat} (hk:k <= Q) (h0:∀ i,k <= i -> i<Q -> F i=0):((Ha Q fun _=>0).toList.take 0++Fa ((List.range k).map F)++(Ha Q fun _=>0).toList.drop (0+(Fa ((List.range k).map F)).length)).toArray=Ha Q F:=by
 rw [Ms,Ms]
 congr 1
 apply List.ext_getElem
 ·simp [Fa]
  omega
 ·intro i h1 h2
  simp [Fa] at h2
  by_cases h:i<k
  ·rw [List.getElem_append_left (by simp [Fa];exact h)]
   simp [Fa]
  ·rw [List.getElem_append_right (by simp [Fa];omega)]
   simp [Fa]
   rw [h0 i (by omega) h2]
   rfl
theorem vV {Q n k:Nat} (F:Nat -> Nat) (w:World) (g:Nat) (kg:Blk w g 22 (Ha n F)) (hk:k <= n) (hn:n=Q) (h0:∀ i,k <= i -> i<Q -> F i=0) (ty:TypeId) :
  (Builtin.copy_ #[28,28] ty #[.slice (some ⟨w.heap.size,0,none⟩) Q Q, .slice (some ⟨g,0,none⟩) k n]).run Tryz.prog (w.alloc (.cells (Ha Q fun _=>0) 22))= .ok (goInt k) ((w.alloc (.cells (Ha Q fun _=>0) 22)).setRow w.heap.size (Ha Q F)):=by
 subst hn;have ma:=(Below.refl w.heap.size w).alloc zR (.cells (Ha n fun _=>0) 22)
 have kg':=ia kg ma;have hlen:(Fa ((List.range k).map F)).length=k:=by simp [Fa]
 have Nb:(Tryz.prog.info? 22).map (·.size)=some 1:=by
  obtain ⟨-,⟨i,hi,-,hs,-⟩,-,-⟩:=xf;rw [hi];simp [hs]
 have h:=run_copy_row (P:=Tryz.prog) (w.alloc (.cells (Ha n fun _=>0) 22)) 28 28 ty 22 w.heap.size 0 n n ⟨g,0,none⟩ k n (Ha n fun _=>0) 22 (Fa ((List.range k).map F)) Tryz.underlying28 Nb (Blk.new w _ _) (by rw [hlen];show k=min k n;omega) (fun j v hj=>by
  have Jo:j<k:=by
   have:=(List.getElem?_eq_some_iff.1 hj).1;rw [hlen] at this;exact this
  have hc:=kg'.cell j;rw [dg _ (show j<n by omega)] at hc
  simp [Fa,Jo] at hj
  subst hj;rw [show (⟨g,0,none⟩:Addr).add j=⟨g,j,none⟩ by simp [Addr.add];try omega]
  exact hc) (by rw [hlen];simp [Ha];omega) (fun v hv=>by
  obtain ⟨x,-,rfl⟩:=List.mem_map.1 hv
  rfl)
 rw [h,sV hk h0,hlen]
theorem DY (L:Ja) (A B C:Option Addr) (n c m d k e:Nat) (msg vals:List Nat) (pos:List Int) (w:World) (hL:Db L) (hm:RWd w [.slice A n c] msg) (hn:n=L.block) (hpos:qi w [.slice B m d] pos) (hv:RWd w [.slice C k e] vals) :
  Calls Tryz.prog 194 #[.agg (Ya L), .slice A n c, .slice B m d, .slice C k e] w fun e' w'=>Below w.heap.size w w' /\ ((Cr L pos vals=false /\ e'= .returned (.tuple #[.slice none 0 0, .int .i64 1])) \/ (Cr L pos vals=true /\ ∃ g,e'= .returned (.tuple #[.slice (some ⟨g,0,none⟩) L.queries L.queries, .int .i64 0]) /\ w.heap.size <= g /\ Blk w' g 22 (Ha L.queries fun i=>(kj L msg pos vals).getD i 0))):=by
 obtain ⟨A',n',c',he,Eg,Td,Li,La⟩:=hpos;simp at he
 obtain ⟨rfl,rfl,rfl⟩:=he;subst Eg;subst hn;have gm:=Kf Td Li;obtain ⟨hlen,j,hj⟩:=Uk hL;have hmsg:=(Ra hm).1;have Sg:=hL.q2;have ki:=zH (show Cr L pos vals=(se L.n L.queries pos&&td vals L.queries L.p) from rfl)
 have HEl:=zH (fun w hl=>GD C k e L.queries L.p vals w hl)
 have HI:=zH (fun w hl=>NI L.p A L.block c j msg w hL.p hl hlen hj)
 have Iq:=zH (fun w=>IY L w hL)
 have HW:=zH (fun a n w hn=>nW L.p a n w hL.p hn)
 have HS:=zH (fun a b w=>bB L.p a b w hL.p)
 have Ux:=zH (fun a b w=>qP L.p a b w hL.p)
 have HE:=zH (fun A n c x l w hl=>sR L.p A n c x l w hL.p hl)
 have HNi:=zH (fun A B m c n d xs ys w hx hy hlen hm hd=>CY L.p A B m c n d xs ys w hL.p hx hy hlen hm hd)
 have En:L.block.log2=j:=by rw [hj];exact Nat.log2_two_pow
 have HMA:=zH (show (List.range L.block).map (Nj L.p L.block j msg)=Br L msg by rw [<- En];exact uQ hL hmsg.symm)
 have Yx:=zH (show ∀ i,Nj L.p L.block j msg i<18446744073709551616 from fun i=>Nat.lt_trans (Nat.mod_lt _ (by have:=Va hL.p;omega)) (Va hL.p).2)
 have HHE:=zH (fun l x=>XW (p:=L.p) (by have:=Va hL.p;omega) l x)
 have HDX:=zH (fun h=>KH hL (pos:=pos) h)
 have HMS:=zH (fun h=>QX hL (msg:=msg) (vals:=vals) (pos:=pos) h)
 have Cp:=zH (fun (h:se L.n L.queries pos=true) i hi=>Fz h (i:=i) hi)
 have lA:=zH (fun h=>fM (N:=L.n) (Q:=L.queries) (l:=pos) h)
 have Ch:=zH (fun i hi h=>dM (N:=L.n) (Q:=L.queries) (l:=pos) (i:=i) hi h)
 have ni:=zH (show se L.n L.queries pos=true -> pos.length=L.queries from Jr)
 have py:=zH (show ∀ i,sf L pos i<18446744073709551616 from fun i=>Nat.lt_trans (TO (by have:=Va hL.p;omega) _) (Va hL.p).2)
 have HYL:=zH (show ∀ i,KC L msg pos vals i<18446744073709551616 from fun i=>Nat.lt_trans (Nat.mod_lt _ (by have:=Va hL.p;omega)) (Va hL.p).2)
 have oy:=zH (show td vals L.queries L.p=true -> vals.length=L.queries from fun h=>by unfold td at h;rw [Bool.and_eq_true] at h;exact of_decide_eq_true h.1)
 have Xt:=zH (show L.block<18446744073709551616 by have:=hL.b2;omega)
 have e1:IntKind.u64.wrap (L.block:Int)=(L.block:Int):=by rw [IntKind.wrap_u64];have:=hL.b2;omega
 have xp:=zH hL.b2;have da:Below w.heap.size w (w.alloc (.cells #[.int .u64 L.p, .int .i64 L.block, .int .i64 L.queries, .int .i64 L.k, .int .i64 L.n, .int .i64 L.secret, .int .i64 L.rows, .int .i64 L.a, .int .i64 L.b, .int .i64 L.b, .int .i64 L.b] 49)):=(Below.refl _ _).alloc zR _;have kl:=Blk.new w 49 #[.int .u64 L.p, .int .i64 L.block, .int .i64 L.queries, .int .i64 L.k, .int .i64 L.n, .int .i64 L.secret, .int .i64 L.rows, .int .i64 L.a, .int .i64 L.b, .int .i64 L.b, .int .i64 L.b];clear hlen hj hmsg hL En;obtain ⟨eo,Bu⟩:=zEX (td vals L.queries L.p);have yG:Hid (∀ w:World,RWd w [.slice C k e] vals -> Calls Tryz.prog 47 #[.slice C k e, .int .i64 L.queries, .int .u64 L.p] w fun e w'=>e= .returned (.bool eo) /\ Below w.heap.size w w'):=zH (fun w hl=>by rw [Bu];exact HEl.out w hl)
 rw [<- Bu] at oy ki;rw [ki.out];clear Bu ki HEl;unfold Ya fv at *;by_cases hq:pos.length=L.queries
 rotate_left
 ·have t1:((pos.length:Int) != (L.queries:Int))=true:=by simp;omega
  have HF:=zH (show se L.n L.queries pos=false by
   cases hh:se L.n L.queries pos with
   | false=>rfl
   | true=>exact absurd (ni.out hh) hq)
  clear yG HI Iq HW HS Ux HE HNi HMA Yx HHE HDX HMS Cp lA Ch ni py HYL oy Xt hm hv;go_enter Tryz.func194,Tryz.ntmps194
  go_upto_region 1 with fail
  generalize w.alloc _=w1 at kl da |-;have cl:=kl.cell;go_wp2
  go_ret2
  exact ⟨da, .inl ⟨by rw [HF.out];rfl,rfl⟩⟩
 have t1:((pos.length:Int) != (L.queries:Int))=false:=by simp;omega
 have HQ:=zH hq;have hp64:pos.length <= 64:=by omega
 clear hq;cases eo with
 | false =>
  clear HI Iq HW HS Ux HE HNi HMA Yx HHE HDX HMS Cp lA Ch ni py HYL oy Xt hm;go_enter Tryz.func194,Tryz.ntmps194
  go_upto_region 1 with fail
  generalize w.alloc _=w1 at kl da |-;have cl:=kl.cell;replace hv:=ta da hv;go_wp2_with fail
  refine (yG.out _ hv).mono ?_;rintro e' w2 ⟨rfl,ea⟩;replace kl:=ia kl ea;replace da:=oa da ea;clear ea cl;go_wp2
  go_ret2
  exact ⟨da, .inl ⟨by rw [Bool.and_false],rfl⟩⟩
 | true =>
  have HVQ2:=zH (oy.out rfl);rw [Bool.and_true];go_enter Tryz.func194,Tryz.ntmps194
  go_upto_region 1 with fail
  generalize w.alloc _=w1 at kl da |-;have cl:=kl.cell;have Ng:=ta da hv;go_wp2_with fail
  refine (yG.out _ Ng).mono ?_;rintro e' w2 ⟨rfl,ea⟩;replace kl:=ia kl ea;replace da:=oa da ea;clear ea cl Ng yG oy;have H0:=zH (show (-1:Int)=SC pos 0 from rfl)
  go_wp2_with fail
  go_loopw [10,43] (fun la y wr=>∃ i:Nat,i <= pos.length /\ y= .int .i64 i /\ la= .int .i64 (SC pos i) /\ Hid (∀ k,k<i -> nj L.n pos k=false) /\ Blk wr w.heap.size 49 #[.int .u64 L.p, .int .i64 L.block, .int .i64 L.queries, .int .i64 L.k, .int .i64 L.n, .int .i64 L.secret, .int .i64 L.rows, .int .i64 L.a, .int .i64 L.b, .int .i64 L.b, .int .i64 L.b] /\ Below w.heap.size w wr) (fun _ y _=>pos.length-(intOf y).toNat)
  case atStart=>exact ⟨0,Nat.zero_le _,rfl,rfl,zH (fun k hk=>absurd hk (Nat.not_lt_zero _)),kl,da⟩
  case round =>
   clear kl da H0;obtain ⟨i,hi,rfl,rfl,HPV,kl,da⟩:=hrel;have cl:=kl.cell;have ll:=kl.lt;by_cases za:i<pos.length
   ·have q1:(i:Int)<(pos.length:Int):=by omega
    have q2:(0:Int) <= (i:Int):=by omega
    obtain ⟨b,q,rfl,Wb,hc,Oc,ye⟩:=Jt (La.below zC da) za;have Pv:=zH (dZ HPV.out);have HBD:=zH (Ch.out i za);have Hq:=zH (show pos.getD i 0=SC pos (i+1) by unfold SC;rw [if_neg (by omega),Nat.add_sub_cancel])
    have Xc:=zH (show nj L.n pos i=false -> ∀ k,k<i+1 -> nj L.n pos k=false from fun h k hk=>by
     by_cases e:k=i
     ·subst e;exact h
     ·exact HPV.out k (by omega))
    obtain ⟨x,hx⟩:=zEX (pos.getD i 0);obtain ⟨la,Jl⟩:=zEX (SC pos i);rw [<- hx] at hc Oc ye Pv Hq;rw [<- Jl] at Pv |-;clear hx Jl HI Iq HW HS Ux HE HNi HMA Yx HHE HDX HMS Cp lA ni py HYL Xt hm hv;by_cases z1:x <= la
    ·have d1:decide (x <= la)=true:=decide_eq_true z1
     have HB:=zH (HBD.out (by rw [<- Pv.out,d1];rfl))
     go_wp2
     go_ret2
     exact ⟨da, .inl ⟨HB.out,rfl⟩⟩
    have d1:decide (x <= la)=false:=decide_eq_false z1;by_cases z2:(L.n:Int) <= x
    ·have d2:decide ((L.n:Int) <= x)=true:=decide_eq_true z2
     have HB:=zH (HBD.out (by rw [<- Pv.out,d1,d2];rfl))
     go_wp2
     go_ret2
     exact ⟨da, .inl ⟨HB.out,rfl⟩⟩
    have d2:decide ((L.n:Int) <= x)=false:=decide_eq_false z2;have HG:=zH (Xc.out (by rw [<- Pv.out,d1,d2];rfl))
    go_wp2_with fail
    go_roundw
    case rel=>exact ⟨i+1,by omega,by go_num,by rw [Hq.out],HG.out,kl,da⟩
    case measure=>simp [intOf];omega
   ·obtain rfl:i=pos.length:=by omega
    have q3:¬((pos.length:Int)<(pos.length:Int)):=by omega
    have cu:=zH (show se L.n L.queries pos=true by rw [lA.out HPV.out];exact decide_eq_true HQ.out)
    clear lA Ch HPV ni;have mk:=mj pos.length (by omega)
    have mkq:=mj L.queries (by omega)
    go_upto_region 12 with fail
    have kf:=Blk.new wr 223 #[.int .u64 L.p];have ma:=(Below.refl wr.heap.size wr).alloc zR (.cells #[.int .u64 L.p] 223);replace kl:=ia kl ma;replace da:=oa da ma;generalize wr.alloc _=w3 at kl kf da |-;generalize wr.heap.size=gf at kf |-;clear ma cl ll;have cl:=kl.cell;have cf:=kf.cell;have ud:=ta da hm;go_wp2_with fail
    refine (HI.out _ ud).mono ?_;rintro e' w4 ⟨ga,rfl,-,ka,ea⟩;replace kl:=ia kl ea;replace kf:=ia kf ea;replace da:=oa da ea;clear ea cl cf ud hm HI;have cl:=kl.cell;go_wp2_with fail
    refine (Iq.out _).mono ?_;rintro e' w5 ⟨gp0,gp,rfl,-,kp,-,-,ea⟩;replace kl:=ia kl ea;replace kf:=ia kf ea;replace ka:=ia ka ea;replace da:=oa da ea;clear ea cl Iq;go_upto_region 14 with fail
    refine XI (Yf w5.heap.size) [0,1,3,4] 4 (by kernel_rfl) (by kernel_rfl) ?_
    refine ZI (zb w5.heap.size) ?_;intro Wc Na ja;refine jJ ?_;have ya:=Cc Na;have Dc:w5.heap.size <= Wc.heap.size:=ya.size;refine YI (zb w5.heap.size) [⟨2,[],[]⟩,⟨5,[],[]⟩,⟨6,[2],[]⟩] [(2,vf 22 (fun _=>Ha pos.length fun _=>0) (Se pos.length) 2),(5,vf 22 (fun _=>Ha pos.length fun _=>0) (Se pos.length) 5),(6,zs (fun vs=>vs 2) 6)] [(some 74,2),(some 77,5),(some 18,6)] [7] [7] (by kernel_rfl) (by kernel_rfl) (by first | exact zR | omega) (fun w1 h1=>h1) ?_ ?_ ?_
    ·exact List.forall_mem_cons.2 ⟨uv rfl (fun _ _ _=>rfl),List.forall_mem_cons.2 ⟨uv rfl (fun _ _ _=>rfl),List.forall_mem_cons.2 ⟨XM rfl (fun vs us h=>by simp only [h 2 (by decide)]),List.forall_mem_nil _⟩⟩⟩
    ·refine List.forall_mem_cons.2 ⟨?_,List.forall_mem_cons.2 ⟨?_,List.forall_mem_cons.2 ⟨?_,List.forall_mem_nil _⟩⟩⟩
     ·refine yq [] rfl (by kernel_rfl) ?_
      intro w1 vs F Ga hd Dg;clear hd;unfold Rj;simp only [List.foldl];change Vi _ _ _ fun v w'=>sm _ w1 w' F [] /\ vf 22 (fun _=>Ha pos.length fun _=>0) (Se pos.length) 2 (Nh vs 2 v) (Um w1 w' F []) w'
      have oe:=Nat.le_trans Dc Ga.size;exact Jp (v:=.slice (some ⟨w1.heap.size,0,none⟩) pos.length pos.length) (w':=w1.alloc (.cells (Ha pos.length fun _=>0) 22)) (by go_simp <;> rfl) ⟨Ru ((Below.refl _ _).alloc zR _) oe _ _,ru (Blk.new _ _ _) zR⟩
     ·refine yq [] rfl (by kernel_rfl) ?_
      intro w1 vs F Ga hd Dg;clear hd;unfold Rj;simp only [List.foldl];change Vi _ _ _ fun v w'=>sm _ w1 w' F [] /\ vf 22 (fun _=>Ha pos.length fun _=>0) (Se pos.length) 5 (Nh vs 5 v) (Um w1 w' F []) w'
      have oe:=Nat.le_trans Dc Ga.size;exact Jp (v:=.slice (some ⟨w1.heap.size,0,none⟩) pos.length pos.length) (w':=w1.alloc (.cells (Ha pos.length fun _=>0) 22)) (by go_simp <;> rfl) ⟨Ru ((Below.refl _ _).alloc zR _) oe _ _,ru (Blk.new _ _ _) zR⟩
     ·refine yq [(some 74,2)] rfl (by kernel_rfl) ?_
      intro w1 vs F Ga hd Dg;have d2:vf 22 (fun _=>Ha pos.length fun _=>0) (Se pos.length) 2 vs (F 2) w1 /\ ∀ b,F 2 b -> b<w1.heap.size /\ _ <= b:=hd 2 (by decide)
      clear hd;unfold Rj;simp only [List.foldl];change Vi _ _ _ fun v w'=>sm _ w1 w' F [] /\ zs (fun vs=>vs 2) 6 (Nh vs 6 v) (Um w1 w' F []) w'
      obtain ⟨g2,e2',-⟩:=d2.1;exact Jp (v:=vs 2) (w':=w1) (by rw [e2'];go_simp <;> rfl) ⟨ML _ _ _ _,rfl⟩
    intro wf vs F Qd hf Dg;have f2:vf 22 (fun _=>Ha pos.length fun _=>0) (Se pos.length) 2 vs (F 2) wf /\ ∀ b,F 2 b -> b<wf.heap.size /\ _ <= b:=hf _ (.head _) (by decide)
    have f5:vf 22 (fun _=>Ha pos.length fun _=>0) (Se pos.length) 5 vs (F 5) wf /\ ∀ b,F 5 b -> b<wf.heap.size /\ _ <= b:=hf _ (.tail _ (.head _)) (by decide)
    have f6:zs (fun vs=>vs 2) 6 vs (F 6) wf /\ ∀ b,F 6 b -> b<wf.heap.size /\ _ <= b:=hf _ (.tail _ (.tail _ (.head _))) (by decide)
    clear hf;unfold Rj;simp only [List.foldl];obtain ⟨⟨g2,e2,h2,k2⟩,b2⟩:=f2;have y2:=(b2 _ h2).2;obtain ⟨⟨g5,e5,h5,k5⟩,b5⟩:=f5;have y5:=(b5 _ h5).2;have e6:vs 6=vs 2:=f6.1;have LL:g2≠g5:=fun e=>Dg 2 5 _ (by decide) h2 (by rw [e];exact h5)
    simp only [e2] at e6;simp only [e2,e5,e6];clear b2 b5 f6 e2 e5 e6 h2 h5
    try dsimp only [Se]
    try dsimp only [mq]
    clear Dg;refine Nf ?_;refine Fc ?_;have Rg:=ya.trans Qd;clear ya Qd Na ja Dc mk;obtain ⟨fx,Ua⟩:=zEX (sf L pos);obtain ⟨fy,Gw⟩:=zEX (KC L msg pos vals);obtain ⟨M,hM⟩:=zEX ((List.range L.block).map (Nj L.p L.block j msg));have HFV:=zH (show ∀ i,(vals.getD i 0+oc L.p (ug L.p (fx i) M))%L.p*((((fx i)^L.block%L.p+oc L.p 1)%L.p)^(L.p-2)%L.p)%L.p=fy i from fun i=>by rw [HHE.out,hM,HMA.out,Ua,Gw];rfl)
    have sJ:=zH (show ∀ i,fx i=Vb L.p (tb L.p).1 L.n (pos.getD i 0).toNat from fun i=>by rw [Ua];rfl)
    have HMI:=zH hM.symm;have HXS:=zH (show (List.range pos.length).map fx=Qj L pos by rw [Ua];rfl)
    have HYS:=zH (show (List.range pos.length).map fy=Dt L msg pos vals by rw [Gw];rfl)
    rw [<- Ua] at py;rw [<- Gw] at HYL;clear Ua Gw hM HHE HMA;have HZ2:=zH (Cq pos.length fx fun _=>0)
    have HZ5:=zH (Cq pos.length fy fun _=>0)
    generalize Nj L.p L.block j msg=I at *;obtain ⟨Ml,hvc,xt,-,ph⟩:=Ra hv;have Xr:=zH Ml;clear Ml;go_wp2_with fail
    go_loopw [80] (fun y wr=>∃ i:Nat,i <= pos.length /\ y= .int .i64 i /\ Blk wr g2 22 (Ha pos.length (He fx (fun _=>0) i)) /\ Blk wr g5 22 (Ha pos.length (He fy (fun _=>0) i)) /\ Below w5.heap.size w5 wr) (fun y _=>pos.length-(intOf y).toNat)
    case atStart=>exact ⟨0,Nat.zero_le _,rfl,by rw [HZ2.out];exact k2,by rw [HZ5.out];exact k5,Rg⟩
    case round =>
     clear k2 k5 Rg;obtain ⟨i,hi,rfl,k2,k5,hb⟩:=hrel;have We:=oa da hb;have Fe:=ia kl hb;have Ec:=ia kf hb;by_cases za:i<pos.length
     ·have q1:(i:Int)<(pos.length:Int):=by omega
      have q2:(0:Int) <= (i:Int):=by omega
      obtain ⟨b,q,rfl,Wb,hc,-,-⟩:=Jt La za;obtain ⟨Tg,fe,-⟩:=Cp.out cu.out i za;obtain ⟨z,hz⟩:∃ z:Nat,pos.getD i 0=(z:Int):=⟨_,(Int.toNat_of_nonneg Tg).symm⟩;rw [hz] at hc fe;have hzn:z<L.n:=by omega
      obtain ⟨b3,q3',rfl,pF,Hl⟩:=Vd (l:=vals) (by rw [<- Xr.out];exact ph) (j:=i) (by rw [HVQ2.out,<- HQ.out];exact za)
      have Zr:=zH (HFV.out i);have cp:=(ia kp hb).cell z;rw [dg _ hzn,show Vb L.p (tb L.p).1 L.n z=fx i by rw [sJ.out i,hz];rfl] at cp
      obtain ⟨x,hx⟩:=zEX (fx i);obtain ⟨y,hy⟩:=zEX (fy i);have Th:=zH (Sn (n:=pos.length) (G:=fun _=>0) hx)
      have HS5:=zH (Sn (n:=pos.length) (G:=fun _=>0) hy)
      rw [<- hx] at cp;rw [<- hx,<- hy] at Zr;obtain ⟨v,sC⟩:∃ v,v=vals.getD i 0:=⟨_,rfl⟩;rw [<- sC] at Hl Zr;obtain ⟨t,ht⟩:=zEX (x^L.block%L.p);obtain ⟨zz,Rk⟩:=zEX ((t+oc L.p 1)%L.p);obtain ⟨ev,Xq⟩:=zEX (ug L.p x M);obtain ⟨s,hs⟩:=zEX ((v+oc L.p ev)%L.p);rw [<- ht,<- Rk,<- Xq,<- hs] at Zr;have om:=zH (fun w=>by have:=HW.out x L.block w Xt.out;rw [<- ht] at this;exact this)
      have Ef:=zH (fun w=>by have:=HS.out t 1 w;rw [<- Rk] at this;exact this)
      have yc:=zH (fun A n c w hl=>by have:=HE.out A n c x M w hl;rw [<- Xq] at this;exact this)
      have ql:=zH (fun w=>by have:=HS.out v ev w;rw [<- hs] at this;exact this)
      have HD1:=zH (fun w=>by have:=Ux.out s zz w;rw [Zr.out] at this;exact this)
      have c1:=(We.cell (p:=⟨b,q+i,none⟩) Wb).trans hc;have u1:(0:Int) <= (z:Int):=by omega
      have u2:(z:Int)<(L.n:Int):=by omega
      have u3:decide ((L.n:Int) <= (z:Int))=false:=decide_eq_false (by omega)
      have u4:(i:Int)<(k:Int):=by have:=Xr.out;have:=HVQ2.out;have:=HQ.out;omega
      have c2:=k2.cell i;rw [Zl _ _ za] at c2;have f2:=k2.frozen;clear hx hy sC ht Rk Xq hs Zr Tg fe hzn hz hc;go_upto_region 22 with fail
      have hg:=Me (w:=wr) g2 i (.int .u64 x);replace k2:=k2.set_ i (.int .u64 x);rw [Th.out] at k2;replace k5:=k5.grown hg (fun e=>LL (Option.some.inj e).symm)
      replace hb:=hb.trans (Ff hg hb.size y2);clear hg f2 c2 c1 cp We Fe Ec;generalize wr.setCell _ _=w6 at k2 k5 hb |-;have Fe:=ia kl hb;have Ec:=ia kf hb;have cl:=Fe.cell;have ll:=Fe.lt;have cf:=Ec.cell;have lf:=Ec.lt;refine Rc (Ib) [6,7] [0,1,2,3,4,5,6,7,8] (by kernel_rfl) (by kernel_rfl) ?_
      refine vd (xa) ?_;intro Wc Na ja;have ya:=Cc Na;replace k2:=ia k2 ya;replace k5:=ia k5 ya;replace hb:=oa hb ya;refine pb ?_;refine Mb (xa) rfl rfl rfl (fun _=>by go_simp <;> rfl) ((om.out _).mono ?_)
      rintro e w7 ⟨rfl,ea⟩;refine ⟨_,rfl,ea,?_⟩;replace ja:=(xa).trans _ _ _ ja (ea);simp only [Act.put,zLa,zLb,zLc];replace k2:=ia k2 ea;replace k5:=ia k5 ea;replace hb:=oa hb ea;refine pb ?_;refine Mb (xa) rfl rfl rfl (fun _=>by go_simp <;> rfl) ((Ef.out _).mono ?_)
      rintro e w8 ⟨rfl,Zd⟩;refine ⟨_,rfl,Zd,?_⟩;replace ja:=(xa).trans _ _ _ ja (Zd);simp only [Act.put,zLa,zLb,zLc];replace k2:=ia k2 Zd;replace k5:=ia k5 Zd;replace hb:=oa hb Zd;refine pb ?_;refine Fc ?_;clear ya ea Zd ja Na Fe cl ll Ec cf lf;have Fe:=ia kl hb;have Ec:=ia kf hb;have cl:=Fe.cell;have ll:=Fe.lt;have cf:=Ec.cell;have lf:=Ec.lt;have c3:=((oa da hb).cell (p:=⟨b3,q3'+i,none⟩) pF).trans Hl;have l3:b3<w5.heap.size:=Nat.lt_of_lt_of_le pF da.size;have lf5:=kf.lt;go_upto_region 23 with fail
      refine Rc (Yf w5.heap.size) [11,12,14,16] [0,1,2,3,4,5,6,7,8,9,10,13,11,12,14,15,16] (by kernel_rfl) (by kernel_rfl) ?_
      refine vd (zb w5.heap.size) ?_;intro Wc Na ja;have ya:=Cc Na;replace k2:=ia k2 ya;replace k5:=ia k5 ya;replace hb:=oa hb ya;have hka:=jk (ia ka hb) (fun i _=>Yx.out i) (by have:=xp.out;simp [maxLen];omega)
      rw [HMI.out] at hka;refine Nf ?_;refine Mb (zb w5.heap.size) rfl rfl rfl (fun _=>by go_simp <;> rfl) ((yc.out _ _ _ _ hka).mono ?_)
      rintro e w9 ⟨rfl,ea⟩;refine ⟨_,rfl,ea.mono hb.size,?_⟩;replace ja:=(zb w5.heap.size).trans _ _ _ ja (ea.mono hb.size);simp only [Act.put,zLa,zLb,zLc];replace k2:=ia k2 ea;replace k5:=ia k5 ea;replace hb:=oa hb ea;refine Nf ?_;refine Mb (zb w5.heap.size) rfl rfl rfl (fun _=>by go_simp <;> rfl) ((ql.out _).mono ?_)
      rintro e Sm ⟨rfl,Zd⟩;refine ⟨_,rfl,Zd.mono hb.size,?_⟩;replace ja:=(zb w5.heap.size).trans _ _ _ ja (Zd.mono hb.size);simp only [Act.put,zLa,zLb,zLc];replace k2:=ia k2 Zd;replace k5:=ia k5 Zd;replace hb:=oa hb Zd;refine Nf ?_;refine Mb (zb w5.heap.size) rfl rfl rfl (fun _=>by go_simp <;> rfl) ((HD1.out _).mono ?_)
      rintro e Lx ⟨rfl,Fj⟩;refine ⟨_,rfl,Fj.mono hb.size,?_⟩;replace ja:=(zb w5.heap.size).trans _ _ _ ja (Fj.mono hb.size);simp only [Act.put,zLa,zLb,zLc];replace k2:=ia k2 Fj;replace k5:=ia k5 Fj;replace hb:=oa hb Fj;refine Nf ?_;refine Ug (zb w5.heap.size) rfl rfl rfl ?_;have c5:=k5.cell i;rw [Zl _ _ za] at c5;have f5:=k5.frozen;go_simp;have hg:=Me (w:=Lx) g5 i (.int .u64 y);refine ⟨Ff hg hb.size y5,?_⟩;replace k5:=k5.set_ i (.int .u64 y);rw [HS5.out] at k5;replace k2:=k2.grown hg (fun e=>LL (Option.some.inj e))
      replace hb:=hb.trans (Ff hg hb.size y5);clear hg f5 c5 c3 ja ya ea Zd Fj Na Fe Ec cl ll cf lf hka;generalize Lx.setCell _ _=wz at k2 k5 hb |-;have ja:=(zb w5.heap.size).refl wz
      try simp only [Act.put,zLa,zLb,zLc]
      refine Nf ?_;refine Fc ?_;clear ja;go_wp2_with fail
      go_roundw
      case rel=>exact ⟨i+1,by omega,by go_num,k2,k5,hb⟩
      case measure=>simp [intOf];omega
     ·obtain rfl:i=pos.length:=by omega
      have hx:=jk k2 (fun i hi=>by simp only [He,if_pos hi];exact py.out i) (by simp [maxLen];omega)
      have hy:=jk k5 (fun i hi=>by simp only [He,if_pos hi];exact HYL.out i) (by simp [maxLen];omega)
      rw [RI,HXS.out] at hx;rw [RI,HYS.out] at hy;have HDX1:=zH (HDX.out cu.out);have HMS1:=zH (HMS.out cu.out);generalize Qj L pos=XS at *;generalize Dt L msg pos vals=YS at *;have cf:=Ec.cell;clear za k2 k5 HFV py HYL hv ph;go_wp2_with fail
      refine (HNi.out _ _ _ _ _ _ _ _ _ hx hy rfl (by omega) HDX1.out).mono ?_
      rintro e' w9 ⟨gr,rfl,-,kr,ea⟩;replace Fe:=ia Fe ea;replace We:=oa We ea;clear ea hx hy cf Ec HNi HDX HDX1 HMS;have cl:=Fe.cell;have hcn:=KO (Uo L.p XS YS) pos.length;have Ki:=LO (Uo L.p XS YS) pos.length;have HFin:=zH (show Ha L.queries (Uo L.p XS YS)=Ha L.queries fun i=>(kj L msg pos vals).getD i 0 from pk fun i hi=>by rw [<- HMS1.out,Qf,if_pos hi])
      obtain ⟨cn,hcne⟩:=zEX (Ip (Uo L.p XS YS) pos.length);rw [<- hcne] at hcn Ki |-;clear hcne HMS1;generalize Uo L.p XS YS=F at *;have hcp:=vV (Q:=L.queries) (n:=pos.length) (k:=cn) F w9 gr kr hcn HQ.out (fun i h1 h2=>Ki i h1 (by have:=HQ.out;omega))
      go_wp2
      go_ret2
      exact ⟨below_setRow (oa We ((Below.refl _ _).alloc zR _)) We.size _, .inr ⟨cu.out,_,rfl,We.size,by rw [<- HFin.out];exact setRow_heap _ _ _ _ _ _ (Blk.new w9 _ _)⟩⟩
end Go.Proofs.YtgeofabpinfcmaaGreat
