/- A part of the proof. No condition. -/
import Derived.Test.YteoghgbnielkpaaGreatTH10
import Derived.Carry
import Derived.Maps.Views

set_option maxRecDepth 100000
set_option maxHeartbeats 8000000
set_option linter.unusedVariables false
set_option linter.unusedSimpArgs false
namespace Go.Proofs.YteoghgbnielkpaaGreat
open Go.RowKit
open Tryz
open Go renaming World->vw, Value->vx, Addr->vy, TypeId->vz, Calls->vB
open Go.Value renaming int->vd, slice->ve, agg->vf
open Go.IntKind renaming u64->vn, i64->vq
open Go.Ending renaming returned->vl
open Go.RowKit renaming Below->vA
open Go.World renaming setCell->vF
open Go.Act renaming put->vG
open Option renaming none->vD, some->vE
def tI (ts:List (Int × Nat)):List Nat:=ts.flatMap fun t=>[t.1.toNat,t.2]
def jA (ts:List (Int × Nat)):List Nat:=ts.length :: tI ts
def NJ (r:Ya):List Nat:=jA (Nc r 0)++jA (Nc r 1)++jA (Nc r 2)
def mu (p:Nat) (pub vars:Int) (rows:List Ya):List Nat:=[p,pub.toNat,vars.toNat,rows.length]++rows.flatMap NJ
def Xf (p:Nat) (pub vars:Int) (rows:List Ya):Nat:=if Zc p pub vars rows then Xn 21 (mu p pub vars rows) else 0
def CI (p:Nat) (pub vars:Int) (rows:List Ya) (i:Nat):List Nat:=[p,pub.toNat,vars.toNat,rows.length]++(rows.take i).flatMap NJ
def bM (base:List Nat) (r:Ya):Nat -> List Nat
 | 0=>base
 | j+1=>bM base r j++jA (Nc r j)
def rA (base:List Nat) (ts:List (Int × Nat)) (t:Nat):List Nat:=base++ts.length :: tI (ts.take t)
theorem zEA (p:Nat) (pub vars:Int) (rows:List Ya) {i:Nat} (h:i<rows.length):CI p pub vars rows (i+1)=bM (CI p pub vars rows i) rows[i] 3:=by
 unfold CI;rw [iz h,List.flatMap_append];simp [bM,NJ]
theorem zEB (base:List Nat) (ts:List (Int × Nat)):rA base ts ts.length=base++jA ts:=by simp [rA,jA]
theorem zED (base:List Nat) (ts:List (Int × Nat)):rA base ts 0=base++[ts.length]:=by simp [rA,tI]
theorem zEC (base:List Nat) (ts:List (Int × Nat)) {t:Nat} (h:t<ts.length):rA base ts (t+1)=rA base ts t++[(ts.getD t (0,0)).1.toNat,(ts.getD t (0,0)).2]:=by
 unfold rA tI;rw [iz h,List.flatMap_append,Jb,oc h];simp
theorem dZ (ts:List (Int × Nat)):(tI ts).length=2*ts.length:=by
 induction ts with
 | nil=>rfl
 | cons t ts ih =>
  show ([t.1.toNat,t.2]++tI ts).length=_
  rw [Kf,ih];simp
  omega
theorem zCw (base:List Nat) (ts:List (Int × Nat)) {t:Nat} (h:t <= ts.length):(rA base ts t).length=base.length+1+2*t:=by
 unfold rA;rw [Kf,jf,dZ,List.length_take,Nat.min_eq_left h];omega
theorem zEz (p:Nat) (pub vars:Int) (rows:List Ya):CI p pub vars rows rows.length=mu p pub vars rows:=by simp [CI,mu]
theorem zC4 {p:Nat} (hp:0<p) {a b:List Nat} {x:Nat} (h:x∈Bk p a b):x<p:=by
 unfold Bk at h;cases e:a.length with
 | zero=>rw [e] at h;cases h
 | succ k=>rw [e,Tj] at h;exact zGc hp h
def Fs (l:List Nat) (i:Nat):Int:=((l.getD i 0:Nat):Int)
def Sc (l:List Nat) (x:Int):Int:=Cb (Fs l) x l.length
theorem AX {a:Nat -> Int} {x:Int} {m:Nat} (h:∀ i,m <= i -> a i=0):∀ t,Cb a x (m+t)=Cb a x m
 | 0=>rfl
 | t+1=>by
  rw [<- Nat.add_assoc,Cb,AX h t,h (m+t) (by omega),Int.zero_mul,Int.add_zero]
theorem aH (l:List Nat) (x:Int) {n:Nat} (h:l.length <= n):Cb (Fs l) x n=Sc l x:=by
 obtain ⟨t,rfl⟩:∃ t,n=l.length+t:=⟨n-l.length,by omega⟩
 exact AX (fun i hi=>by rw [Fs,oJ hi];rfl) t
theorem uR (a b:Nat -> Int) (x:Int):∀ n,Cb (fun i=>a i+b i) x n=Cb a x n+Cb b x n
 | 0=>rfl
 | n+1=>by rw [Cb,Cb,Cb,uR a b x n,Int.add_mul];omega
theorem vR (c:Int) (a:Nat -> Int) (x:Int):∀ n,Cb (fun i=>c*a i) x n=c*Cb a x n
 | 0=>by rw [Cb,Cb,Int.mul_zero]
 | n+1=>by rw [Cb,Cb,vR c a x n,Int.mul_add,qo]
theorem ER (l:List Nat) (n:Nat) (x:Int):Sc (zy l n) x=Sc l x:=by
 rw [<- aH l x (n:=(zy l n).length) (by rw [WJ];omega)]
 unfold Sc
 congr 1
 funext i
 unfold Fs;rw [VJ]
theorem jE {p:Nat} (a b:List Nat) (x:Int):Cg p (Sc (xq p a b) x) (Sc a x+Sc b x):=by
 have hl:=sx p a b;rw [<- aH (xq p a b) x (n:=max a.length b.length) hl,<- aH a x (n:=max a.length b.length) (by omega),<- aH b x (n:=max a.length b.length) (by omega),<- uR]
 refine Co (fun i=>?_) Cg.rfl' _
 unfold Fs;rw [du];exact (Cg.mod _).trans (Cg.of_eq (Al _ _))
theorem CN {p:Nat} (a:List Nat) (n:Nat) (x:Int):Cg p (Sc (Dr p a n) x) ((n:Int)*Sc a x):=by
 rw [<- aH (Dr p a n) x (dK p a n),Sc,<- vR];refine Co (fun i=>?_) Cg.rfl' _
 unfold Fs;rw [II];exact (Cg.mod _).trans (Cg.of_eq (by rw [ig,Yj]))
theorem zX (a:Nat -> Int) (x:Int) (k:Nat) (h:∀ i,i<k -> a i=0):∀ n,Cb a x (k+n)=x^k*Cb (fun i=>a (k+i)) x n
 | 0=>by
  show Cb a x k=x^k*0
  rw [Int.mul_zero,uv,<- jD k];have:∀ n,n <= k -> Na (fun i=>a i*x^i) n=Na (fun _=>0) n:=fun n=>by
   induction n with
   | zero=>exact fun _=>rfl
   | succ n ih=>intro hn;rw [Na,Na,ih (by omega),h n (by omega),Int.zero_mul]
  exact this k zR
 | n+1=>by
  rw [<- Nat.add_assoc,Cb,zX a x k h n,Cb,Int.mul_add,Int.pow_add]
  congr 1
  rw [<- qo,<- qo,Yj (a (k+n))]
theorem zA6 (a:List Nat) (k:Nat) (x:Int):Sc (iD a k) x=x^k*Sc a x:=by
 have e:(iD a k).length=k+a.length:=RU a k;unfold Sc;rw [e,zX _ _ k (fun i hi=>by unfold Fs;rw [wM,Qa hi];rfl)]
 congr 2
 funext i
 unfold Fs;rw [wM,La (by omega),DG]
theorem EX {p:Nat} (a b:List Nat) (x:Int):∀ k,Cg p (Sc (Tj p a b k) x) (Cb (Fs a) x k*Sc b x)
 | 0=>Cg.of_eq (by rw [Tj,Cb,Int.zero_mul];rfl)
 | k+1=>by
  rw [Tj,Cb,Int.add_mul];refine (jE _ _ x).trans ((EX a b x k).add ?_);rw [zA6];refine (Cg.rfl'.mul (CN b _ x)).trans (Cg.of_eq ?_);rw [<- qo,Yj (x^k)]
  rfl
theorem DR {p:Nat} (a b:List Nat) (x:Int):Cg p (Sc (Bk p a b) x) (Sc a x*Sc b x):=EX a b x _
theorem Dq {p x:Nat} (l:List Nat):Cg p (Xc p l x:Int) (Sc l x):=jJ l
def Dk (a:Nat -> Int) (r:Int) (n i:Nat):Int:=Cb (fun j=>a (i+j)) r (n-i)
theorem G5 (a:Nat -> Int) (r:Int) {n i:Nat} (h:i<n):Dk a r n i=a i+r*Dk a r n (i+1):=by
 unfold Dk;rw [show n-i=(n-(i+1))+1 by omega,BR]
 rw [Nat.add_zero]
 congr 3
 funext j
 congr 1
 omega
theorem I5 (a:Nat -> Int) (r x:Int) (n:Nat):∀ m,m <= n -> Cb a x m=Dk a r n 0+(x-r)*Cb (fun i=>Dk a r n (i+1)) x m-Dk a r n m*x^m
 | 0,_=>by rw [Cb,Cb,Int.mul_zero,Int.pow_zero];omega
 | m+1,h=>by
  rw [Cb,I5 a r x n m (by omega),Cb,G5 a r (i:=m) (by omega),Xi]
  grind
theorem zEN (a:Nat -> Int) (r x:Int) (n:Nat):Cb a x (n+1)=Cb a r (n+1)+(x-r)*Cb (fun i=>Dk a r (n+1) (i+1)) x n:=by
 have h:=I5 a r x (n+1) (n+1) zR;have h1:Dk a r (n+1) (n+1)=0:=by unfold Dk;rw [Nat.sub_self];rfl
 have h0:Dk a r (n+1) 0=Cb a r (n+1):=by
  unfold Dk;rw [Nat.sub_zero]
  congr 1
  funext j
  rw [Mk]
 rw [h1,h0,Int.zero_mul,Int.sub_zero] at h;have e:Cb (fun i=>Dk a r (n+1) (i+1)) x (n+1)=Cb (fun i=>Dk a r (n+1) (i+1)) x n:=by rw [Cb,h1,Int.zero_mul,Int.add_zero]
 rw [h,e]
theorem oW {p:Nat} (h:Ib p=true):∀ (n:Nat) (a:Nat -> Int) (xs:Nat -> Int),(∀ i j,i<n -> j<n -> i≠j -> ¬Cg p (xs i) (xs j)) -> (∀ k,k<n -> Cg p (Cb a (xs k) n) 0) -> ∀ i,i<n -> Cg p (a i) 0
 | 0,_,_,_,_=>fun i hi=>absurd hi (Nat.not_lt_zero _)
 | n+1,a,xs,hx,hr=>by
  have hq:∀ i,i<n -> Cg p (Dk a (xs n) (n+1) (i+1)) 0:=oW h n (fun i=>Dk a (xs n) (n+1) (i+1)) xs (fun i j hi hj Ta=>hx i j (by omega) (by omega) Ta) fun k hk=>by
   have h1:=hr k (by omega)
   rw [zEN a (xs n) (xs k) n] at h1;have h2:=hr n (by omega)
   have h3:Cg p ((xs k-xs n)*Cb (fun i=>Dk a (xs n) (n+1) (i+1)) (xs k) n) 0:=by
    have:=(h1.trans h2.symm);obtain ⟨c,hc⟩:=this;exact ⟨c,by rw [<- hc];omega⟩
   rcases zC6 h h3 with h4 | h4
   ·exact absurd (by obtain ⟨c,hc⟩:=h4;exact ⟨c,by rw [<- hc];omega⟩) (hx k n (by omega) (by omega) (by omega))
   ·exact h4
  have ey:∀ i,i<n+1 -> Cg p (Dk a (xs n) (n+1) (i+1)) 0:=fun i hi=>by
   rcases Hg i n with h1 | h1
   ·exact hq i h1
   ·have e:i=n:=by omega
    subst e;unfold Dk;rw [Nat.sub_self];exact Cg.rfl'
  have h0:Cg p (Dk a (xs n) (n+1) 0) 0:=by
   have e:Dk a (xs n) (n+1) 0=Cb a (xs n) (n+1):=by
    unfold Dk;rw [Nat.sub_zero]
    congr 1
    funext j
    rw [Mk]
   rw [e];exact hr n (by omega)
  intro i hi;have hs:=G5 a (xs n) hi;have h1:Cg p (Dk a (xs n) (n+1) i) 0:=by
   cases i with
   | zero=>exact h0
   | succ i=>exact ey i (by omega)
  rw [hs] at h1;have h2:=(Cg.rfl' (p:=p) (x:=xs n)).mul (ey i hi);rw [Int.mul_zero] at h2;obtain ⟨c,hc⟩:=h1;obtain ⟨d,hd⟩:=h2;exact ⟨c-d,by rw [Int.mul_sub,<- hc,<- hd];omega⟩
theorem zFB {p n:Nat} (h:Ib p=true) {a b:Nat -> Int} {xs:Nat -> Int} (hx:∀ i j,i<n -> j<n -> i≠j -> ¬Cg p (xs i) (xs j)) (hv:∀ k,k<n -> Cg p (Cb a (xs k) n) (Cb b (xs k) n)):∀ i,i<n -> Cg p (a i) (b i):=fun i hi=>by
 have:=oW h n (fun i=>a i+(-1)*b i) xs hx (fun k hk=>by
  rw [uR,vR];exact ((hv k hk).add (Cg.rfl' (x:=(-1)*Cb b (xs k) n))).trans (Cg.of_eq (by omega))) i hi
 obtain ⟨c,hc⟩:=this;exact ⟨c,by rw [<- hc];omega⟩
theorem Q3 (p:Nat) (A:Option vy) (n c x:Nat) (l:List Nat) (w:vw) (hp:Ib p=true) (hl:RWd w [ve A n c] l) :
  vB prog 249 #[fv p,ve A n c,vd vn x] w fun e w'=>e=vl (vd vn ((Xs p x l:Nat):Int)) /\ vA w.1.size w w':=by
 obtain ⟨rfl,h1,h2,ra,Ma⟩:=Qb hl;have gm:=Tl h1 h2;have HM:=zH (fun a b w=>Gq p a b w hp)
 have HA:=zH (fun a b w=>xm p a b w hp)
 have HD:=zH (zB0 p x l);obtain ⟨f,hf⟩:=zEX (fun k=>Xs p x (l.drop k))
 have AD:=zH (show f 0=Xs p x l by rw [hf];rfl)
 have HF9:=zH (show f l.length=0 by rw [hf];simp [Xs])
 have HF:=zH (fun k (hk:k<l.length)=>show f k=(f (k+1)*x%p+l.getD k 0)%p by rw [hf];exact HD.out k hk)
 rw [<- AD.out];clear HD hl h1 h2 hp ra hf AD;obtain ⟨m,hm⟩:∃ m:Int,m=(l.length:Int)-1:=⟨_,rfl⟩;have g0:(l.length:Int)-1=m:=hm.symm;have gw:vq.wrap m=m:=Vi _ (by omega) (by omega)
 have BD:=zH hm;clear hm;unfold fv at *;have kf:=Blk.new w 224 #[vd vn p];have da:vA w.1.size w (w.alloc (.cells #[vd vn p] 224)):=(za _ _).alloc zR _;go_enter func249,ntmps249
 go_upto_region 1 with fail
 generalize w.alloc _=w0 at kf da |-;go_wp2_with fail
 clear g0 gw;go_loopw [7,8] (fun y i wr=>∃ (k:Nat) (j:Int),Hid (j+1=(k:Int)) /\ k <= l.length /\ i=vd vq j /\ y=vd vn (f k:Int) /\ Blk wr w.1.size 224 #[vd vn p] /\ vA w.1.size w wr) (fun _ i _=>(intOf i+1).toNat)
 case atStart=>exact ⟨l.length,m,zH (by have:=BD.out;omega),zR,rfl,by rw [HF9.out];rfl,kf,da⟩
 case round =>
  clear kf da;obtain ⟨k,j,HJ,hk,rfl,rfl,kf,hb⟩:=hrel;rcases xo k with h0 | h0
  ·subst h0
   have hj:j=-1:=by have:=HJ.out;omega
   subst hj;go_wp2;go_ret
   exact ⟨rfl,hb⟩
  ·obtain ⟨i,hi⟩:=zEX (k-1)
   have hj:j=(i:Int):=by have:=HJ.out;omega
   subst hj;have JE:i<l.length:=by omega
   obtain ⟨b,q,rfl,Gb,hc⟩:=Ie (Ma.below hb) JE;have Nt:=zH (HF.out i JE);rw [show i+1=k by omega] at Nt
   obtain ⟨y,hy⟩:=zEX (f k);rw [<- hy] at Nt |-;generalize l.getD i 0=a at *;obtain ⟨z,hz⟩:=zEX (y*x%p);have Le:=zH (fun w=>by have:=HM.out y x w;rw [<- hz] at this;exact this)
   rw [<- hz] at Nt;have xe:=zH (fun w=>by have:=HA.out z a w;rw [<- Nt.out] at this;exact this)
   have HI:=zH hi;obtain ⟨y2,Au⟩:=zEX (f i);rw [<- Au] at xe;have HY2:=zH Au;have gi1:(0:Int)<=i:=by omega
   have gi2:(i:Int)<l.length:=by omega
   obtain ⟨j2,Oz⟩:∃ j2:Int,j2=(i:Int)-1:=⟨_,rfl⟩;have gj:(i:Int)-1=j2:=Oz.symm;have gw:vq.wrap j2=j2:=Vi _ (by omega) (by omega)
   have HJ2:=zH Oz;clear hz hy hi Nt Au Oz;have cf:=kf.cell;have lf:=kf.lt;go_upto_region 5 with fail
   refine Ve (Tb) (pa) [] [] [0,1,2,3,4,5,6,7,8,9,10] (by kernel_rfl) (by kernel_rfl) ?_
   refine Xe (pa) ?_;intro Wc ea;refine Ee ?_;refine Uc (pa) rfl rfl rfl rfl (fun _ _ _ h=>h) (fun _=>by go_simp <;> rfl) (fun w' hR=>Le.out _) ?_
   refine zPU ?_;refine Ee ?_;refine Uc (pa) rfl rfl rfl rfl (fun _ _ _ h=>h) (fun _=>by go_simp <;> rfl) (fun w' hR=>xe.out _) ?_
   refine zPU ?_;refine Ee ?_;refine Hr rfl ?_;intro wd ke;replace ea:=(pa).trans _ _ _ ea ke;clear ke;have Ub:=ma (za wr.1.size wr).drew ea;replace kf:=ia kf Ub;replace hb:=ma hb Ub;clear Ub ea cf lf;go_wp2
   go_roundw
   case rel=>exact ⟨i,j2,zH (by have:=HJ2.out;omega),by omega,rfl,by rw [HY2.out],kf,hb⟩
   case measure=>have:=HJ2.out;simp [intOf];omega
theorem E7 (p s n:Nat) (w:vw) (hp:Ib p=true) (hn:dk p n) (hs:s%p≠0) :
  vB prog 292 #[fv p,vd vn s,vd vq n] w fun e w'=>∃ g,e=vl (.tuple #[ve (vE ⟨g,0,vD⟩) n n,vd vq 0]) /\ w.1.size <= g /\ Blk w' g 22 (Oa n (qh p s n)) /\ vA w.1.size w w':=by
 have hn4:=hn.le;have HV:=zH (fun w=>Eo p w hp)
 have HR:=zH (fun w=>VP p n w hp hn)
 have HD:=zH (fun w=>dH p s w hp)
 have HM:=zH (fun a b w=>Gq p a b w hp)
 obtain ⟨r,hr⟩:=zEX (ye p n);obtain ⟨x0,hx0⟩:=zEX (s%p);obtain ⟨F,hF⟩:=zEX (qh p s n);have AD:=zH (show F 0=x0 by rw [hF,hx0];rfl)
 have HF:=zH (show ∀ k,F (k+1)=F k*r%p from fun k=>by rw [hF,hr];rfl)
 rw [<- hr] at HR;rw [<- hx0] at HD hs;rw [<- hF];have d0:((x0:Int) == 0)=false:=by rw [pd];omega
 have mk:=Yv n (by omega)
 have gn:(n:Int) <= 4096:=by omega
 have gn0:(0:Int)<=n:=by omega
 clear hr hx0 hF hp hn hs;unfold fv at *;have kf:=Blk.new w 224 #[vd vn p];have da:vA w.1.size w (w.alloc (.cells #[vd vn p] 224)):=(za _ _).alloc zR _;go_enter func292,ntmps292
 go_wp2_with fail
 generalize w.alloc _=w1 at kf da |-;refine (HV.out _).mono ?_;rintro e w2 ⟨rfl,ta⟩;replace kf:=ia kf ta;replace da:=ma da ta;clear ta;have cf:=kf.cell;go_wp2_with fail
 refine (HR.out _).mono ?_;rintro e w3 ⟨rfl,ta⟩;replace kf:=ia kf ta;replace da:=ma da ta;clear ta cf;have cf:=kf.cell;go_wp2_with fail
 refine (HD.out _).mono ?_;rintro e w4 ⟨rfl,ta⟩;replace kf:=ia kf ta;replace da:=ma da ta;clear ta cf;have cf:=kf.cell;go_wp2_with fail
 have kg:=Blk.new w4 22 (Oa n fun _=>0)
 have ja:=(za w4.1.size w4).alloc zR (.cells (Oa n fun _=>0) 22)
 have Oh:w.1.size<w4.1.size:=kf.lt;replace kf:=ia kf ja;replace da:=ma da ja;clear ja mk cf;generalize w4.alloc _=w5 at kf kg da |-;generalize w4.1.size=g at kg Oh |-;have H0:=zH (NI n F fun _=>0)
 go_loopw [1,34] (fun y i wr=>∃ k:Nat,k <= n /\ i=vd vq k /\ y=vd vn (F k:Int) /\ Blk wr w.1.size 224 #[vd vn p] /\ Blk wr g 22 (Oa n (Ch F (fun _=>0) k)) /\ vA w.1.size w wr) (fun _ i _=>n-(intOf i).toNat)
 case atStart=>exact ⟨0,Lb _,rfl,by rw [AD.out],kf,by rw [H0.out];exact kg,da⟩
 case round =>
  clear kf kg da;obtain ⟨k,hk,rfl,rfl,kf,kg,da⟩:=hrel;by_cases ra:k<n
  ·have q1:(k:Int)<n:=by omega
   have q2:(0:Int)<=k:=by omega
   obtain ⟨z,hz⟩:=zEX (F k);obtain ⟨z2,Bf⟩:=zEX (F (k+1));have Wg:=zH (qD (n:=n) (G:=fun _=>0) hz)
   have Nt:=zH (HF.out k);rw [<- hz,<- Bf] at Nt;have Le:=zH (fun w=>by have:=HM.out z r w;rw [<- Nt.out] at this;exact this)
   have HZ2:=zH Bf;rw [<- hz];clear hz Bf Nt;have cg:=kg.cell k;rw [pD _ _ ra] at cg;have fg:=kg.frozen;have lg:=kg.lt;have cf:=kf.cell;have lf:=kf.lt;have nfg:w.1.size≠g:=by omega
   go_upto_region 12 with fail
   have hg:=Bj (w:=wr) g k (vd vn z);replace kg:=kg.set_ k (vd vn z);rw [Wg.out] at kg;replace kf:=ze kf hg;replace da:=Dd da hg;clear hg cg fg lg cf lf;generalize wr.setCell _ _=w6 at kf kg da |-;have cf:=kf.cell;go_wp2_with fail
   refine (Le.out _).mono ?_;rintro e w7 ⟨rfl,ta⟩;replace kf:=ia kf ta;replace kg:=ia kg ta;replace da:=ma da ta;clear ta cf;go_wp2_with fail
   go_roundw
   case rel=>exact ⟨k+1,by omega,by go_num,by rw [HZ2.out],kf,kg,da⟩
   case measure=>simp [intOf];omega
  ·obtain rfl:k=n:=by omega
   have q1:¬((k:Int)<k):=by omega
   rw [pK] at kg;go_wp2
   go_ret2
   exact ⟨g,rfl,by omega,kg,da⟩
theorem Y3 (L:Ra) (w:vw) (hL:Rb L) :
  vB prog 248 #[vf (Db L)] w fun e w'=>∃ g1 g2,e=vl (.tuple #[ve (vE ⟨g1,0,vD⟩) L.block L.block,ve (vE ⟨g2,0,vD⟩) L.n L.n]) /\ Blk w' g1 22 (Oa L.block (qh L.p 1 L.block)) /\ Blk w' g2 22 (Oa L.n (qh L.p (Mb L.p).1 L.n)) /\ w.1.size <= g1 /\ w.1.size <= g2 /\ vA w.1.size w w':=by
 obtain ⟨Ed,uc⟩:=Nb hL.p;have H1:=zH (fun w=>E7 L.p 1 L.block w hL.p (oy hL).1 (by rw [Fj (by omega)];decide))
 have H2:=zH (fun w=>E7 L.p (Mb L.p).1 L.n w hL.p (yO hL).1 (fY hL.p))
 have HG:=zH (fun w=>MR L.p w hL.p)
 generalize (Mb L.p).1=gn at *;clear hL Ed uc;unfold Db fv at *;obtain ⟨kl,kf,da,tb⟩:=Ih w 101 224 #[vd vn L.p,vd vq L.block,vd vq L.queries,vd vq L.k,vd vq L.n,vd vq L.secret,vd vq L.rows,vd vq L.a,vd vq L.b,vd vq L.b,vd vq L.b] #[vd vn L.p];go_enter func248,ntmps248
 go_upto_region 2 with fail
 generalize (w.alloc _).alloc _=w1 at kl kf da tb |-;have yd:w.1.size+2 <= w1.1.size:=by omega
 clear tb;have cl:=kl.cell;have cf:=kf.cell;have ll:=kl.lt;have lf:=kf.lt;go_wp2_with fail
 refine (H1.out _).mono ?_;rintro e w2 ⟨g1,rfl,Oh,k1,ta⟩;replace kl:=ia kl ta;replace kf:=ia kf ta;replace da:=ma da ta;have re:=jb yd ta.size;clear ta cl cf ll lf;have cl:=kl.cell;have cf:=kf.cell;have ll:=kl.lt;have lf:=kf.lt;go_upto_region 3 with fail
 refine Cd (Tb) [2,5] [0,1,3,4,2,5,6,7,8,9,10] (by kernel_rfl) (by kernel_rfl) ?_
 refine De (pa) ?_;intro Wc Ha ea;have Ja:=Tf Ha;replace k1:=ia k1 Ja;replace da:=ma da Ja;have tC:=jb re Ja.size;refine Ob ?_;refine Gc (pa) rfl rfl rfl (fun _=>by go_simp <;> rfl) ((HG.out _).mono ?_)
 rintro e w3 ⟨rfl,Ua⟩;refine ⟨_,rfl,Ua,?_⟩;replace ea:=(pa).trans _ _ _ ea (Ua);refine zPU ?_;replace k1:=ia k1 Ua;replace da:=ma da Ua;have hs4:=jb tC Ua.size;refine Ob ?_;refine Gc (pa) rfl rfl rfl (fun _=>by go_simp <;> rfl) ((H2.out _).mono ?_)
 rintro e w4 ⟨g2,rfl,Ss,k2,zb⟩;refine ⟨_,rfl,zb,?_⟩;replace ea:=(pa).trans _ _ _ ea (zb);refine zPU ?_;replace k1:=ia k1 zb;replace da:=ma da zb;refine Ob ?_;refine Qc ?_;go_wp2
 go_ret2
 exact ⟨g1,g2,rfl,k1,k2,by omega,by omega,da⟩
theorem W2 {w w':vw} {base:Nat} {e:vz} {size:Nat} {v:vx} {n:Nat} {xs:List vx} {u:Option Nat} (h:w.ownsRow base e size v n xs) (hg:w.grownBy w' u) (Ta:∀ q,v.ownBlock=vE q -> u=vE q -> False):w'.ownsRow base e size v n xs:=by
 have ra:=h.lt;obtain ⟨h1,h2⟩:=h;refine ⟨h1,?_⟩;rcases h2 with h2 | ⟨g,cap,cur,hv,Il,hh,r⟩
 ·exact Or.inl h2
 ·exact Or.inr ⟨g,cap,cur,hv,Il,by rw [hg.block g (Pu.1 hh).1 (fun e=>Ta g (by rw [hv];rfl) e.symm)];exact hh,r⟩
theorem dN {w:vw} {base:Nat} {e:vz} {size:Nat} {x x' y:vx} {n:Nat} {ys:List vx} (hy:w.ownsRow base e size y n ys) (OB:∀ q,x.ownBlock=vE q -> y.ownBlock=vE q -> False) (hb:x'.ownBlock=x.ownBlock \/ x'.ownBlock=vE w.1.size):∀ q,x'.ownBlock=vE q -> y.ownBlock=vE q -> False:=fun q h1 h2=>by
 rcases hb with e | e
 ·exact OB q (e ▸ h1) h2
 ·have:=(hy.lt q h2).2
  rw [e] at h1;have:=db h1;omega
theorem zES (L:Ra) (s:Nat) (w:vw) (hL:Rb L) (hs:s<18446744073709551616) :
  vB prog 15 #[vf (Db L),vd vn s] w fun e w'=>∃ v0 v1 v2 v3 v4 n cs,e=vl (vf #[v0,v1,v2,v3,v4]) /\ w'.ownsRow w.1.size 28 1 v0 n cs /\ jl w.1.size w' v0 cs (tA L s (L.a+L.b+L.b+L.b)) /\ w'.ownsRow w.1.size 22 1 v1 L.k (Ia (yc L.p s [1] L.k)) /\ w'.ownsRow w.1.size 22 1 v2 (L.k+L.block-2) (Ia (yc L.p s [2] (L.k+L.block-2))) /\ w'.ownsRow w.1.size 22 1 v3 (L.block+2*L.queries-1) (Ia (yc L.p s [3] (L.block+2*L.queries-1))) /\ w'.ownsRow w.1.size 22 1 v4 L.n (Ia (yc Za s [4] L.n)) /\ vA w.1.size w w':=by
 have Af:=Nb hL.p;have HT:=zH (fun w=>N5 L.p L.block L.queries L.k L.n L.secret L.rows L.a L.b L.b L.b w hL.a hL.b hL.b hL.b)
 have HS:=zH (fun r m g w kg hr hlen hm=>J6 L.p s r m g w (by omega) Af.2 kg hr hlen hm)
 have HS4:=zH (fun r m g w kg hr hlen hm=>J6 Za s r m g w (by decide) (by decide) kg hr hlen hm)
 have hT4:L.a+L.b+L.b+L.b <= 400000:=by have:=hL.a;have:=hL.b;omega
 have Tp:=hL.q2;generalize L.a+L.b+L.b+L.b=T at *;obtain ⟨x,hx⟩:=zEX (s%Za);have e1:(s:Int)%18446744069414584321=(x:Int):=by rw [hx];unfold Za;omega
 have e2:(s:Int).tmod 18446744069414584321=(x:Int):=by rw [Int.tmod_eq_emod_of_nonneg (by omega)];exact e1
 rw [<- hx] at HS HS4;clear hx;unfold Db at *;go_enter func15,ntmps15
 go_upto_region 3 with fail
 obtain ⟨kl,kz,kc,da,tb⟩:=rn w 35 41 41 #[vd vn L.p,vd vq L.block,vd vq L.queries,vd vq L.k,vd vq L.n,vd vq L.secret,vd vq L.rows,vd vq L.a,vd vq L.b,vd vq L.b,vd vq L.b] #[ve vD 0 0,ve vD 0 0,ve vD 0 0,ve vD 0 0,ve vD 0 0] #[ve vD 0 0,ve vD 0 0,ve vD 0 0,ve vD 0 0,ve vD 0 0];generalize ((w.alloc _).alloc _).alloc _=w3 at kl kz kc da tb |-;obtain ⟨N,hN⟩:=zEX (w3.1.size);rw [<- hN] at tb;have Vb:N <= w3.1.size:=by omega
 have Rk:w.1.size+2<N:=by omega
 clear hN tb;go_wp2_with fail
 go_loopw [7] (fun y wr=>∃ (i:Nat) (v:vx) (cs:List vx),i <= T /\ y=vd vq i /\ Blk wr w.1.size 35 #[vd vn L.p,vd vq L.block,vd vq L.queries,vd vq L.k,vd vq L.n,vd vq L.secret,vd vq L.rows,vd vq L.a,vd vq L.b,vd vq L.b,vd vq L.b] /\ Blk wr (w.1.size+1) 41 #[ve vD 0 0,ve vD 0 0,ve vD 0 0,ve vD 0 0,ve vD 0 0] /\ Blk wr (w.1.size+1+1) 41 #[v,ve vD 0 0,ve vD 0 0,ve vD 0 0,ve vD 0 0] /\ wr.ownsRow N 28 1 v i cs /\ jl N wr v cs (tA L s i) /\ vA w.1.size w wr /\ N <= wr.1.size) (fun y _=>T-(intOf y).toNat)
 case atStart=>exact ⟨0,ve vD 0 0,[],Lb _,rfl,kl,kz,kc,⟨rfl, .inl ⟨rfl,rfl⟩⟩,kS _ _ _,da,Vb⟩
 case round =>
  clear kl kz kc da Vb;obtain ⟨i,v,cs,hi,rfl,kl,kz,kc,xa,Pa,da,Vb⟩:=hrel;have cl:=kl.cell;have ll:=kl.lt;by_cases ra:i<T
  ·have g1:(0:Int)<=i:=by omega
   have g2:(i:Int)<T:=by omega
   have ew:vn.wrap (i:Int)=i:=by rw [Ei];omega
   have HR:=zH (zFo L s i);go_wp2_with fail
   refine (HT.out _).mono ?_;rintro e w4 ⟨rfl,zb⟩;replace kl:=ia kl zb;replace kz:=ia kz zb;replace kc:=ia kc zb;replace xa:=Xb xa zb zR;replace Pa:=Nj Pa zb;have hN4:N <= w4.1.size:=by have:=zb.size;omega
   replace da:=ma da zb;clear cl ll zb Vb;have cl:=kl.cell;have cc:=kc.cell;have x1:w.1.size<N:=by omega
   have x2:w.1.size+1+1<N:=by omega
   have x3:w.1.size≠N:=by omega
   have x4:w.1.size+1+1≠N:=by omega
   go_upto_region 6 with fail
   refine JA (fo N N) [9,10,11,12,14] [14] [0,1,2,3,4,5,6,7,8,9,10,11,12,13,14] (by kernel_rfl) (by kernel_rfl) ?_
   refine LA (Yb N N) ?_;intro Wc Ha ea;have Ja:=Tf Ha;replace kl:=ia kl Ja;replace kz:=ia kz Ja;replace kc:=ia kc Ja;replace xa:=Xb xa Ja zR;replace Pa:=Nj Pa Ja;have jc:N <= Wc.1.size:=by have:=Ja.size;omega
   replace da:=ma da Ja;clear Ha Ja;refine Fk ?_;refine Ui (Yb N N) rfl rfl rfl ?_;go_simp;refine ⟨fun _=>Ii ((za _ _).alloc zR _) jc,?_⟩
   have ja:=(za Wc.1.size Wc).alloc zR (.cells #[vd vn x,vd vn 0,vd vn i] 22);have kA:=Blk.new Wc 22 #[vd vn x,vd vn 0,vd vn i];replace kl:=ia kl ja;replace kz:=ia kz ja;replace kc:=ia kc ja;replace xa:=Xb xa ja zR;replace Pa:=Nj Pa ja;have tu:N <= (Wc.alloc (.cells #[vd vn x,vd vn 0,vd vn i] 22)).1.size:=by have:=ja.size;omega
   replace da:=ma da ja
   refine zPU ?_
   generalize Wc.alloc _=w6 at kl kz kc xa Pa da kA tu |-;generalize Wc.1.size=gA at kA |-;clear ja jc ea cl cc;have ea:=(Yb N N).refl w6;have kA':Blk w6 gA 22 (Ia (x :: [0,i])).toArray:=by simpa [Ia] using kA
   have HC:=zH (HS.out [0,i] L.queries gA w6 kA' (by intro y hy;simp at hy;omega) (by simp) (by omega))
   clear kA kA';refine Gt (Yb N N) rfl rfl rfl (fun _=>by go_simp <;> rfl) ((HC.out).mono ?_)
   rintro e w7 ⟨va,rfl,aI,pc⟩;refine ⟨_,rfl,fun _=>Ii pc tu,?_⟩
   replace ea:=(Yb N N).trans _ _ _ ea (Ii pc tu);refine zPU ?_;obtain ⟨Av,cv,rfl,-⟩:=ud aI;have ly:=aI;replace kl:=ia kl pc;replace kz:=ia kz pc;replace kc:=ia kc pc;have hlv:∀ q,v.ownBlock=vE q -> q<w6.1.size:=fun q e=>(xa.lt q e).2
   replace xa:=Xb xa pc zR;replace Pa:=Nj Pa pc;have hx7:=LP (N:=N) (gb:=v.ownBlock) ly (zGy _ _ _ _ (by omega) Af.2) tu hlv
   have Og:N <= w7.1.size:=by have:=pc.size;omega
   replace da:=ma da pc;clear aI ly hlv pc tu ea HC;have ea:=(Yb N N).refl w7;refine Ui (Yb N N) rfl rfl rfl ?_;go_simp;refine ⟨fun _=>Ii ((za _ _).alloc zR _) Og,?_⟩
   have ja:=(za w7.1.size w7).alloc zR (.cells #[ve Av L.queries cv] 28);have Ma:=Ku w7 (ve Av L.queries cv) 28;replace kl:=ia kl ja;replace kz:=ia kz ja;replace kc:=ia kc ja;replace xa:=Xb xa ja zR;replace Pa:=Nj Pa ja;replace hx7:=uA hx7 ja.size (fun b _ h2 _=>ja.block b h2)
   have hN8:N <= (w7.alloc (.cells #[ve Av L.queries cv] 28)).1.size:=by have:=ja.size;omega
   replace da:=ma da ja
   refine zPU ?_
   generalize w7.alloc _=w8 at kl kz kc xa Pa hx7 da Ma hN8 |-;generalize w7.1.size=g7 at Ma |-;clear ja Og ea;have ea:=(Yb N N).refl w8;have cc:=kc.cell;refine Fk ?_;refine Ui (Yb N N) rfl rfl rfl ?_;refine Ew _ _ rfl Ex rfl xa rfl Ma (by intro u hu;simp at hu;subst hu;rfl) (by omega) hN8 ?_
   intro v' wn Kb Va Zb;have Jd:∀ q,v.ownBlock=vE q -> N <= q:=fun q e=>(xa.lt q e).1
   refine ⟨fun _=>Hx Va hN8 Jd,?_⟩
   have Ko:=iS Pa hx7 Va Zb;rw [HR.out] at Ko;replace kl:=kl.grown Va (fun e=>by first | (have:=Jd _ e;omega) | (have:=Jd _ e.symm;omega))
   replace kz:=kz.grown Va (fun e=>by first | (have:=Jd _ e;omega) | (have:=Jd _ e.symm;omega))
   replace kc:=kc.grown Va (fun e=>by first | (have:=Jd _ e;omega) | (have:=Jd _ e.symm;omega))
   replace da:=da.trans ((Sl xa Va hN8).mono (by omega))
   have Jg:N <= wn.1.size:=by have:=Va.size;omega
   obtain ⟨Aw,cw,rfl,-⟩:=ud Kb;clear xa Pa hx7 Va Zb Jd hN8 Ma cc ea;have ea:=(Yb N N).refl wn;have cc:=kc.cell;have fc:=kc.frozen
   refine zPU ?_
   refine Fk ?_;refine Ui (Yb N N) rfl rfl rfl ?_;go_simp;refine ⟨fun h=>Bool.noConfusion h,?_⟩
   have Xa:wn.grownBy (wn.setCell ⟨w.1.size+1+1,0,vD⟩ (ve Aw (i+1) cw)) (vE (w.1.size+1+1)):=Mf (p:=⟨w.1.size+1+1,0,vD⟩) (Vd wn _) (.inl rfl) _;replace kc:=kc.set_ 0 (ve Aw (i+1) cw);simp at kc
   replace kl:=kl.grown Xa (fun e=>by have:=db e;omega)
   replace kz:=kz.grown Xa (fun e=>by have:=db e;omega)
   have Hn:=ti Kb Xa (by omega)
   replace Ko:=qJ Ko Xa (by omega)
   replace da:=Dd da Xa;have hNz:=jb Jg Xa.size;clear Kb Xa cc fc Jg ea;generalize wn.setCell _ _=wz at kl kz kc Hn Ko da hNz |-;have ea:=(Yb N N).refl wz;refine Fk ?_;refine KA ?_;go_wp2
   go_roundw
   case rel=>exact ⟨i+1,ve Aw (i+1) cw,_,by omega,by go_num,kl,kz,kc,Hn,Ko,da,hNz⟩
   case measure=>simp [intOf];omega
  ·obtain rfl:i=T:=by omega
   clear ll;have ll:=kl.lt;have g2:¬((i:Int)<i):=by omega
   go_wp2_with fail
   refine (HT.out _).mono ?_;rintro e w4 ⟨rfl,zb⟩;replace kl:=ia kl zb;replace kz:=ia kz zb;replace kc:=ia kc zb;replace xa:=Xb xa zb zR;replace Pa:=Nj Pa zb;replace da:=ma da zb;replace Vb:=jb Vb zb.size;clear cl ll zb;have q1:=hL.b1;have q2:=hL.b2;have q3:=hL.q1;have q5:=hL.k;have q6:=hL.n2;have w1:vq.wrap ((L.k:Int)+L.block)=(L.k:Int)+L.block:=Vi _ (by omega) (by omega)
   obtain ⟨m2,Pz⟩:=zEX (L.k+L.block-2);obtain ⟨m3,Rp⟩:=zEX (L.block+2*L.queries-1);have w2:vq.wrap ((L.k:Int)+L.block-2)=(m2:Int):=by rw [Vi _ (by omega) (by omega)];omega
   have w5:vq.wrap (2*(L.queries:Int))=2*(L.queries:Int):=Vi _ (by omega) (by omega)
   have w6:vq.wrap ((L.block:Int)+2*(L.queries:Int))=(L.block:Int)+2*(L.queries:Int):=Vi _ (by omega) (by omega)
   have w7:vq.wrap ((L.block:Int)+2*(L.queries:Int)-1)=(m3:Int):=by rw [Vi _ (by omega) (by omega)];omega
   have u1:L.k <= 65536:=by omega
   have u2:m2 <= 65536:=by omega
   have u3:m3 <= 65536:=by omega
   have u4:L.n <= 65536:=by omega
   have HM2:=zH Pz;have HM3:=zH Rp;clear Pz Rp q1 q2 q3 q5 q6 ra hi;have cl:=kl.cell;go_wp2_with fail
   have ja:=(za w4.1.size w4).alloc zR (.cells #[vd vn x,vd vn 1] 22);have kA:=Blk.new w4 22 #[vd vn x,vd vn 1];replace kl:=ia kl ja;replace kz:=ia kz ja;replace kc:=ia kc ja;replace Pa:=Nj Pa ja;replace xa:=Xb xa ja zR;replace da:=ma da ja;replace Vb:=jb Vb ja.size;clear cl ja;generalize w4.alloc _=a1 at kl kz kc Pa xa  da Vb kA |-;generalize w4.1.size=gA1 at kA |-;have HC:=zH (HS.out [1] L.k gA1 a1 (by simpa [Ia] using kA) (by intro y hy;simp at hy;omega) (by simp) u1)
   clear kA
   skip
   refine HC.out.mono ?_;rintro e b1 ⟨v1,rfl,hv,hb⟩;have o1:=Xk hv Vb;replace kl:=ia kl hb;replace kz:=ia kz hb;replace kc:=ia kc hb;replace Pa:=Nj Pa hb;replace xa:=Xb xa hb zR;replace da:=ma da hb;replace Vb:=jb Vb hb.size;clear hv hb HC;obtain ⟨A1,c1,rfl,-⟩:=ud o1;have cc:=kc.cell;have fc:=kc.frozen;go_upto_region 8 with fail
   have Xa:b1.grownBy (b1.setCell ⟨w.1.size+1+1,1,vD⟩ (ve A1 L.k c1)) (vE (w.1.size+1+1)):=Mf (p:=⟨w.1.size+1+1,1,vD⟩) (Vd b1 _) (.inl rfl) _;replace kc:=kc.set_ 1 (ve A1 L.k c1);simp at kc
   replace kl:=kl.grown Xa (fun e=>by have:=db e;omega)
   replace kz:=kz.grown Xa (fun e=>by have:=db e;omega)
   replace Pa:=qJ Pa Xa (by omega)
   replace xa:=ti xa Xa (by omega)
   replace o1:=ti o1 Xa (by omega)
   replace da:=Dd da Xa;replace Vb:=jb Vb Xa.size;clear Xa cc fc;generalize b1.setCell _ _=d1 at kl kz kc Pa xa o1 da Vb |-;have cl:=kl.cell;go_wp2_with fail
   have ja:=(za d1.1.size d1).alloc zR (.cells #[vd vn x,vd vn 2] 22);have kA:=Blk.new d1 22 #[vd vn x,vd vn 2];replace kl:=ia kl ja;replace kz:=ia kz ja;replace kc:=ia kc ja;replace Pa:=Nj Pa ja;replace xa:=Xb xa ja zR;replace o1:=Xb o1 ja zR;replace da:=ma da ja;replace Vb:=jb Vb ja.size;clear cl ja;generalize d1.alloc _=a2 at kl kz kc Pa xa o1 da Vb kA |-;generalize d1.1.size=gA2 at kA |-;have HC:=zH (HS.out [2] m2 gA2 a2 (by simpa [Ia] using kA) (by intro y hy;simp at hy;omega) (by simp) u2)
   clear kA
   skip
   refine HC.out.mono ?_;rintro e b2 ⟨v2,rfl,hv,hb⟩;have o2:=Xk hv Vb;replace kl:=ia kl hb;replace kz:=ia kz hb;replace kc:=ia kc hb;replace Pa:=Nj Pa hb;replace xa:=Xb xa hb zR;replace o1:=Xb o1 hb zR;replace da:=ma da hb;replace Vb:=jb Vb hb.size;clear hv hb HC;obtain ⟨A2,c2,rfl,-⟩:=ud o2;have cc:=kc.cell;have fc:=kc.frozen;go_upto_region 9 with fail
   have Xa:b2.grownBy (b2.setCell ⟨w.1.size+1+1,2,vD⟩ (ve A2 m2 c2)) (vE (w.1.size+1+1)):=Mf (p:=⟨w.1.size+1+1,2,vD⟩) (Vd b2 _) (.inl rfl) _;replace kc:=kc.set_ 2 (ve A2 m2 c2);simp at kc
   replace kl:=kl.grown Xa (fun e=>by have:=db e;omega)
   replace kz:=kz.grown Xa (fun e=>by have:=db e;omega)
   replace Pa:=qJ Pa Xa (by omega)
   replace xa:=ti xa Xa (by omega)
   replace o1:=ti o1 Xa (by omega)
   replace o2:=ti o2 Xa (by omega)
   replace da:=Dd da Xa;replace Vb:=jb Vb Xa.size;clear Xa cc fc;generalize b2.setCell _ _=d2 at kl kz kc Pa xa o1 o2 da Vb |-;have cl:=kl.cell;go_wp2_with fail
   have ja:=(za d2.1.size d2).alloc zR (.cells #[vd vn x,vd vn 3] 22);have kA:=Blk.new d2 22 #[vd vn x,vd vn 3];replace kl:=ia kl ja;replace kz:=ia kz ja;replace kc:=ia kc ja;replace Pa:=Nj Pa ja;replace xa:=Xb xa ja zR;replace o1:=Xb o1 ja zR;replace o2:=Xb o2 ja zR;replace da:=ma da ja;replace Vb:=jb Vb ja.size;clear cl ja;generalize d2.alloc _=a3 at kl kz kc Pa xa o1 o2 da Vb kA |-;generalize d2.1.size=gA3 at kA |-;have HC:=zH (HS.out [3] m3 gA3 a3 (by simpa [Ia] using kA) (by intro y hy;simp at hy;omega) (by simp) u3)
   clear kA
   skip
   refine HC.out.mono ?_;rintro e b3 ⟨v3,rfl,hv,hb⟩;have o3:=Xk hv Vb;replace kl:=ia kl hb;replace kz:=ia kz hb;replace kc:=ia kc hb;replace Pa:=Nj Pa hb;replace xa:=Xb xa hb zR;replace o1:=Xb o1 hb zR;replace o2:=Xb o2 hb zR;replace da:=ma da hb;replace Vb:=jb Vb hb.size;clear hv hb HC;obtain ⟨A3,c3,rfl,-⟩:=ud o3;have cc:=kc.cell;have fc:=kc.frozen;go_upto_region 10 with fail
   have Xa:b3.grownBy (b3.setCell ⟨w.1.size+1+1,3,vD⟩ (ve A3 m3 c3)) (vE (w.1.size+1+1)):=Mf (p:=⟨w.1.size+1+1,3,vD⟩) (Vd b3 _) (.inl rfl) _;replace kc:=kc.set_ 3 (ve A3 m3 c3);simp at kc
   replace kl:=kl.grown Xa (fun e=>by have:=db e;omega)
   replace kz:=kz.grown Xa (fun e=>by have:=db e;omega)
   replace Pa:=qJ Pa Xa (by omega)
   replace xa:=ti xa Xa (by omega)
   replace o1:=ti o1 Xa (by omega)
   replace o2:=ti o2 Xa (by omega)
   replace o3:=ti o3 Xa (by omega)
   replace da:=Dd da Xa;replace Vb:=jb Vb Xa.size;clear Xa cc fc;generalize b3.setCell _ _=d3 at kl kz kc Pa xa o1 o2 o3 da Vb |-;have cl:=kl.cell;go_wp2_with fail
   have ja:=(za d3.1.size d3).alloc zR (.cells #[vd vn x,vd vn 4] 22);have kA:=Blk.new d3 22 #[vd vn x,vd vn 4];replace kl:=ia kl ja;replace kz:=ia kz ja;replace kc:=ia kc ja;replace Pa:=Nj Pa ja;replace xa:=Xb xa ja zR;replace o1:=Xb o1 ja zR;replace o2:=Xb o2 ja zR;replace o3:=Xb o3 ja zR;replace da:=ma da ja;replace Vb:=jb Vb ja.size;clear cl ja;generalize d3.alloc _=a4 at kl kz kc Pa xa o1 o2 o3 da Vb kA |-;generalize d3.1.size=gA4 at kA |-;have HC:=zH (HS4.out [4] L.n gA4 a4 (by simpa [Ia] using kA) (by intro y hy;simp at hy;omega) (by simp) u4)
   clear kA;unfold Za at HC;refine HC.out.mono ?_;rintro e b4 ⟨v4,rfl,hv,hb⟩;have o4:=Xk hv Vb;replace kl:=ia kl hb;replace kz:=ia kz hb;replace kc:=ia kc hb;replace Pa:=Nj Pa hb;replace xa:=Xb xa hb zR;replace o1:=Xb o1 hb zR;replace o2:=Xb o2 hb zR;replace o3:=Xb o3 hb zR;replace da:=ma da hb;replace Vb:=jb Vb hb.size;clear hv hb HC;obtain ⟨A4,c4,rfl,-⟩:=ud o4;have cc:=kc.cell;have fc:=kc.frozen;go_upto_region 11 with fail
   have Xa:b4.grownBy (b4.setCell ⟨w.1.size+1+1,4,vD⟩ (ve A4 L.n c4)) (vE (w.1.size+1+1)):=Mf (p:=⟨w.1.size+1+1,4,vD⟩) (Vd b4 _) (.inl rfl) _;replace kc:=kc.set_ 4 (ve A4 L.n c4);simp at kc
   replace kl:=kl.grown Xa (fun e=>by have:=db e;omega)
   replace kz:=kz.grown Xa (fun e=>by have:=db e;omega)
   replace Pa:=qJ Pa Xa (by omega)
   replace xa:=ti xa Xa (by omega)
   replace o1:=ti o1 Xa (by omega)
   replace o2:=ti o2 Xa (by omega)
   replace o3:=ti o3 Xa (by omega)
   replace o4:=ti o4 Xa (by omega)
   replace da:=Dd da Xa;replace Vb:=jb Vb Xa.size;clear Xa cc fc;generalize b4.setCell _ _=d4 at kl kz kc Pa xa o1 o2 o3 o4 da Vb |-;obtain ⟨Av,cv,rfl,-⟩:=ud xa;have cc:=kc.cell;have fc:=kc.frozen;have zc:=kz.cell;have zf:=kz.frozen;go_wp2_with fail
   have Xa:=PU (w:=d4) (g:=w.1.size+1) (ve Av i cv) (ve A1 L.k c1) (ve A2 m2 c2) (ve A3 m3 c3) (ve A4 L.n c4);replace kz:=OU kz (ve Av i cv) (ve A1 L.k c1) (ve A2 m2 c2) (ve A3 m3 c3) (ve A4 L.n c4);replace Pa:=qJ Pa Xa (by omega)
   replace xa:=ti xa Xa (by omega)
   replace o1:=ti o1 Xa (by omega)
   replace o2:=ti o2 Xa (by omega)
   replace o3:=ti o3 Xa (by omega)
   replace o4:=ti o4 Xa (by omega)
   replace da:=Dd da Xa;clear kl kc cc fc zc zf Xa Vb;generalize ((((d4.setCell _ _).setCell _ _).setCell _ _).setCell _ _).setCell _ _=d5 at kz Pa xa o1 o2 o3 o4 da |-;have zc:=kz.cell;refine ed (v:=vf #[ve Av i cv,ve A1 L.k c1,ve A2 m2 c2,ve A3 m3 c3,ve A4 L.n c4]) (by simp [results,results15,go_sem,zc]) rfl ?_
   obtain rfl:=HM2.out;obtain rfl:=HM3.out;have Nf:0<L.p:=by omega
   exact ⟨_,_,_,_,_,_,_,rfl,Xk xa (by omega),zBU Pa (by omega),Xk o1 (by omega),Xk o2 (by omega),Xk o3 (by omega),Xk o4 (by omega),da⟩
theorem zCU (n:Nat) (hn:n <= 1000000) (w:vw) :
  (Instr.makeSlice 39 (vd vq 0) (vd vq n)).run prog w= .ok (ve (vE ⟨w.1.size,0,vD⟩) 0 n) (w.alloc (.cells (Ng n fun _=>ve vD 0 0) 28)):=by
 obtain ⟨ht,⟨i,hi,hz,hs,Ps⟩,hzs,tb⟩:=Ex;have:=run_make (P:=prog) w 39 28 i _ ht hi hz vq vq 0 (n:Int) (by omega) (by omega) (by rw [Ps];omega) (by omega)
 rw [Lk,hs,xZ] at this;exact this
theorem zDD (n base:Nat) (hn:n <= 1000000) (w:vw) (hb:base <= w.1.size):(w.alloc (.cells (Ng n fun _=>ve vD 0 0) 28)).ownsRow base 28 1 (ve (vE ⟨w.1.size,0,vD⟩) 0 n) 0 [] :=
 World.ownsRow_made w _ n hb (by simp [maxLen];omega) (by simp [Ng])
theorem zCI (L:Ra) (A0 A1 A2 A3 A4 AM:Option vy) (n0 n1 n2 n3 n4 nM c0 c1 c2 c3 c4 cM:Nat) (m r:List (List Nat)) (co li qu:List Nat) (w:vw) (hL:Rb L)
  (hm:mg w [ve AM nM cM] m) (hr:mg w [ve A0 n0 c0] r) (hc:RWd w [ve A1 n1 c1] co) (hl:RWd w [ve A2 n2 c2] li) (hq:RWd w [ve A3 n3 c3] qu)
  (hlen:m.length=r.length) (ij:∀ x∈m,x.length=L.block) (Vz:∀ x∈r,x.length <= 2000) (hT:m.length <= 400000) (h1:co.length <= 2000) (h2:li.length <= 2000) (h3:qu.length <= 2000) :
  vB prog 60 #[vf (Db L),ve AM nM cM,vf #[ve A0 n0 c0,ve A1 n1 c1,ve A2 n2 c2,ve A3 n3 c3,ve A4 n4 c4]] w fun e w'=>∃ v,e=vl v /\ ((∀ q,v.ownBlock=vE q -> w.1.size <= q) /\ ∀ u:vw,(∀ b,w.1.size <= b -> b<w'.1.size -> u.1[b]?=w'.1[b]?) -> mg u [v] ((List.range L.n).map fun i=>(List.range (m.length+3)).map (Hs L (yj L m r co li qu) i))) /\ vA w.1.size w w':=by
 have hp:=hL.p;have Af:=Nb hp;have Aa:=hL.b2;obtain ⟨hmn,-,-,hMd⟩:=zj hm;obtain ⟨PH,-,-,ke⟩:=zj hr;subst hmn;subst PH;have Pe:=zEm L m r co li qu;have Zs:=zEn (L:=L) (m:=m) (r:=r) (c:=co) (l:=li) (q:=qu) Aa Vz h1 h2 h3;have HEv:=zH (fun A k c l w hl hk=>eV L.p A k c L.n L.n.log2 (Mb L.p).1 l w hp hl (yO hL).1 (yO hL).2 (fY hp) hk)
 have HGen:=zH (fun w=>MR L.p w hp)
 have HCV:=zH (show ∀ ps i,(List.range (m.length+3)).map (Hs L ps i)=(List.range (m.length+3)).map (fun j=>Kj L.p L.n L.n.log2 (ps.getD j []) (Mb L.p).1 i) from fun _ _=>rfl)
 have QM:=zH (fun A B n c m d msg af w hl hk hn hm=>uZ L A B n c m d msg af w hL hl hk hn hm)
 have Lt:=zH (fun w' (hb:vA w.1.size w w')=>rZ L (ve A0 r.length c0) (ve A2 n2 c2) (ve A3 n3 c3) (ve A4 n4 c4) A1 n1 c1 co w' ⟨_,_,_,rfl⟩ ⟨_,_,_,rfl⟩ ⟨_,_,_,rfl⟩ ⟨_,_,_,rfl⟩ (Bb hb hc) (by have:=(Qb hc).1;omega))
 have kG:=zH (fun w' (hb:vA w.1.size w w')=>sZ L (ve A0 r.length c0) (ve A1 n1 c1) (ve A3 n3 c3) (ve A4 n4 c4) A2 n2 c2 li w' hL ⟨_,_,_,rfl⟩ ⟨_,_,_,rfl⟩ ⟨_,_,_,rfl⟩ ⟨_,_,_,rfl⟩ (Bb hb hl) (by have:=(Qb hl).1;omega))
 have HQu:=zH (fun w' (hb:vA w.1.size w w')=>tZ L (ve A0 r.length c0) (ve A1 n1 c1) (ve A2 n2 c2) (ve A4 n4 c4) A3 n3 c3 qu w' hL ⟨_,_,_,rfl⟩ ⟨_,_,_,rfl⟩ ⟨_,_,_,rfl⟩ ⟨_,_,_,rfl⟩ (Bb hb hq) (by have:=(Qb hq).1;omega))
 have hlt1:=(Qb hc).2.2.2.1;have xf:=(Qb hl).2.2.2.1;have e1:=(Qb hc).1;have e2:=(Qb hl).1;have e3:=(Qb hq).1;have Wb:=zH (And.intro hlt1 xf);subst e1 e2 e3;clear hlt1 xf hc hl hq hm hr;have Fg:=zH hlen;have lG:=zH ij;have Yw:=zH Vz;have mo:=zH Af;have HL:=zH hL;have Wd:=hL.n2;have LS:min (m.length:Int) (r.length:Int)=m.length:=Int.min_eq_left (by omega)
 obtain ⟨T,hTT⟩:=zEX (m.length);obtain ⟨M,hMM⟩:=zEX (m.length+3);have x1:(m.length:Int)+3=(M:Int):=by omega
 have x2:=Ce M;have x3:(M:Int) <= 400003:=by omega
 have x4:(0:Int)<=M:=by omega
 have x5:(m.length:Int) <= 400000:=by omega
 have nH:M <= 400003:=by omega
 have hM1':M <= 1000000:=by omega
 rw [<- hMM];have BD:=zH hMM;rw [<- hMM] at Pe HCV;obtain ⟨ps,Sp⟩:=zEX (yj L m r co li qu);rw [<- Sp] at Pe Zs |-;have HPE:=zH (show Ay L m r m.length++[co,bg L li,fM L qu]=ps from Sp.symm)
 have Wm:=zH Pe;have Uy:=zH Zs;replace HCV:=zH (HCV.out ps);clear Sp Pe Zs;obtain ⟨gen,hgen⟩:=zEX ((Mb L.p).1);rw [<- hgen] at HEv HGen HCV;clear hgen;have HFF:=zH (show ∀ k q,Kj L.p L.n L.n.log2 (ps.getD q []) gen k<18446744073709551616 from fun k q=>Eh (DN (by have:=mo.out;omega) _ _ _ _ _) mo.out.2)
 have mk0:=zCU M (by omega)
 have mkC:=BZ L.n (by omega)
 have mkM:=Yv M (by omega)
 clear hlen ij Vz Af hL hp hMM hTT;unfold Db fv at *;obtain ⟨kl,kc,kf,da,tb⟩:=rn w 101 41 224 #[vd vn L.p,vd vq L.block,vd vq L.queries,vd vq L.k,vd vq L.n,vd vq L.secret,vd vq L.rows,vd vq L.a,vd vq L.b,vd vq L.b,vd vq L.b] #[ve A0 r.length c0,ve A1 co.length c1,ve A2 li.length c2,ve A3 qu.length c3,ve A4 n4 c4] #[vd vn L.p];go_enter func60,ntmps60
 go_upto_region 2 with fail
 generalize ((w.alloc _).alloc _).alloc _=w1 at kl kc kf da tb |-;have HZ:=zH tb;clear tb;have cc:=kc.cell;go_upto_region 3 with fail
 have xa:=zDD M w1.1.size hM1' w1 zR;have ja:=(za w1.1.size w1).alloc zR (.cells (Ng M fun _=>ve vD 0 0) 28)
 have sn:w1.1.size <= (w1.alloc (.cells (Ng M fun _=>ve vD 0 0) 28)).1.size:=ja.size
 replace kl:=ia kl ja;replace kc:=ia kc ja;replace kf:=ia kf ja;replace da:=ma da ja;clear ja cc mk0;obtain ⟨N,Yh⟩:=zEX (w1.1.size);have xN:w.1.size+3 <= N:=by rw [Yh,HZ.out];omega
 rw [<- Yh] at xa sn |-;clear Yh HZ;generalize w1.alloc _=w2 at kl kc kf da xa sn |-;have cc:=kc.cell;go_wp2_with fail
 clear cc;go_loopw [8,31] (fun u y wr=>∃ (i:Nat) (v:vx) (cs:List vx),v=u /\ i <= m.length /\ y=vd vq i /\ Blk wr w.1.size 101 #[vd vn L.p,vd vq L.block,vd vq L.queries,vd vq L.k,vd vq L.n,vd vq L.secret,vd vq L.rows,vd vq L.a,vd vq L.b,vd vq L.b,vd vq L.b] /\ Blk wr (w.1.size+1) 41 #[ve A0 r.length c0,ve A1 co.length c1,ve A2 li.length c2,ve A3 qu.length c3,ve A4 n4 c4] /\ Blk wr (w.1.size+1+1) 224 #[vd vn L.p] /\ wr.ownsRow N 28 1 v i cs /\ jl N wr v cs (Ay L m r i) /\ vA w.1.size w wr /\ N <= wr.1.size) (fun _ y _=>m.length-(intOf y).toNat)
 case atStart=>exact ⟨0,_,[],rfl,Lb _,rfl,kl,kc,kf,xa,kS _ _ _,da,sn⟩
 case round =>
  clear kl kc kf xa da sn;obtain ⟨i,v,cs,rfl,hi,rfl,kl,kc,kf,xa,Pa,da,Vb⟩:=hrel;by_cases ra:i<m.length
  ·have q1:(0:Int)<=i:=by omega
   have q2:(i:Int)<m.length:=by omega
   have q3:(i:Int)<r.length:=by have:=Fg.out;omega
   obtain ⟨bm,qm,Am,lm,cm,rfl,hbm0,hcm0,hrm0⟩:=Lu hMd ra;have Ux:=(da.cell (p:=⟨bm,qm+i,vD⟩) hbm0).trans hcm0;have rC:=Bb da hrm0;have hbm:bm<N:=by omega
   obtain ⟨br,qr,Ar,lr,cr,rfl,hbr0,hcr0,hrr0⟩:=Lu ke (show i<r.length by have:=Fg.out;omega)
   have Hv:=(da.cell (p:=⟨br,qr+i,vD⟩) hbr0).trans hcr0;have Oo:=Bb da hrr0;have Ab:br<N:=by omega
   have z1:=(Qb rC).1;have z2:=(Qb Oo).1;have z3:lm=L.block:=by have:=lG.out _ (wg ra);omega
   have z4:lr <= 2000:=by have:=Yw.out _ (wg (show i<r.length by have:=Fg.out;omega));omega
   have HC:=zH (fun w' (hb:vA wr.1.size wr w')=>QM.out Am Ar lm cm lr cr m[i] _ w' (Bb hb rC) (Bb hb Oo) z3 (by omega))
   have qq:=zH (show (List.range (L.block+lr)).map (Fu L m[i] (r[i]'(by have:=Fg.out;omega)))=EF L m r i by
    unfold EF;rw [Jb,Jb,oc ra,oc (show i<r.length by have:=Fg.out;omega)]
    simp only [Option.getD_some]
    first | rw [z2] | rw [<- z2])
   have HMX:=zH (show ∀ k,Fu L m[i] (r[i]'(by have:=Fg.out;omega)) k<18446744073709551616 from fun k=>Eh (EZ (by have:=mo.out;omega) _ _ _) mo.out.2)
   have HNX:=zH (zEl L m r i);revert HC qq HMX
   generalize Fu L m[i] (r[i]'(by have:=Fg.out;omega))=PF
   intro HC qq HMX;clear z1 z2 z3 rC Oo hrm0 hrr0 hcm0 hcr0;have n1:w.1.size<N:=by omega
   have n2:w.1.size+1<N:=by omega
   have cl:=kl.cell;have ll:=kl.lt;have cc:=kc.cell;have lc:=kc.lt;go_upto_region 6 with fail
   refine Cd (Iy N) [11,12,13] [0,1,2,3,4,5,6,7,8,9,10,11,12,13,14] (by kernel_rfl) (by kernel_rfl) ?_
   refine De (Oe N) ?_;intro Wc Ha ea;refine MA ?_;have Ja:=Tf Ha;have jc:=Ja.size;have hNw0:=Vb;refine Gc (Oe N) rfl rfl rfl (fun _=>by go_simp <;> rfl) ((HC.out _ Ja).mono ?_)
   rintro e w3 ⟨g',rfl,Dm,Qe,Ua⟩;refine ⟨_,rfl,Bz Ua (jb hNw0 jc),?_⟩;replace ea:=(Oe N).trans _ _ _ ea (Bz Ua (jb hNw0 jc));refine zPU ?_;have zb:=ma Ja Ua;have hNg:N <= g':=by omega
   have hvg:vE g'≠v.ownBlock:=fun e=>by have:=(xa.lt _ e.symm).2;omega
   replace kl:=ia kl zb;replace kc:=ia kc zb;replace kf:=ia kf zb;replace xa:=Xb xa zb zR;replace Pa:=Nj Pa zb;replace da:=ma da zb;replace Vb:=jb Vb zb.size;have hNd:=jb jc Ua.size;have WE:Gi N v.ownBlock w3 (ve (vE ⟨g',0,vD⟩) (L.block+lr) (L.block+lr)) (EF L m r i):=by
    rw [<- qq.out];exact JP Qe (fun k _=>HMX.out k) (by simp [maxLen];omega) hNg hvg
   have HNd:=zH (And.intro hNd (show wr.1.size <= w3.1.size from zb.size))
   clear Qe Ua zb hNg hvg Dm jc Ja HC Ha ea cl ll cc lc hNd;have ea:=(Oe N).refl w3;refine MA ?_;refine Ye (Oe N) rfl rfl rfl ?_;go_simp;refine ⟨Bz ((za _ _).alloc zR _) Vb,?_⟩;have ja:=(za w3.1.size w3).alloc zR (.cells #[ve (vE ⟨g',0,vD⟩) (L.block+lr) (L.block+lr)] 28);have Ma:=Ku w3 (ve (vE ⟨g',0,vD⟩) (L.block+lr) (L.block+lr)) 28;replace WE:=uA WE ja.size (fun b _ h2 _=>ja.block b h2)
   replace kl:=ia kl ja;replace kc:=ia kc ja;replace kf:=ia kf ja;replace xa:=Xb xa ja zR;replace Pa:=Nj Pa ja;replace da:=ma da ja;replace Vb:=jb Vb ja.size;have HNe:=zH (jb HNd.out.2 ja.size)
   refine zPU ?_
   generalize w3.alloc _=w4 at kl kc kf xa Pa WE da Ma Vb HNe |-;generalize w3.1.size=g7 at Ma |-;clear ja HNd ea;have ea:=(Oe N).refl w4;refine MA ?_;refine Ye (Oe N) rfl rfl rfl ?_;refine Ew _ _ rfl Ex rfl xa rfl Ma (by intro u hu;simp at hu;subst hu;rfl) (by omega) Vb ?_
   intro v' wn Kb Va Zb;have Jd:∀ q,v.ownBlock=vE q -> N <= q:=fun q e=>(xa.lt q e).1
   have mH:=Sl xa Va Vb;refine ⟨mH,?_⟩;have Ko:=iS Pa WE Va Zb;rw [HNX.out] at Ko;replace kl:=kl.grown Va (fun e=>by have:=Jd _ e.symm;omega)
   replace kc:=kc.grown Va (fun e=>by have:=Jd _ e.symm;omega)
   replace kf:=kf.grown Va (fun e=>by have:=Jd _ e.symm;omega)
   replace da:=da.trans (mH.mono (by omega))
   have Jg:N <= wn.1.size:=by have:=Va.size;omega
   clear xa Pa WE Va Zb Jd Ma ea mH HNe Vb;have ea:=(Oe N).refl wn
   refine zPU ?_
   refine MA ?_;refine Qc ?_;go_wp2
   go_roundw
   case rel=>exact ⟨i+1,v',_,rfl,by omega,by go_num,kl,kc,kf,Kb,Ko,da,Jg⟩
   case measure=>simp [intOf];omega
  ·obtain rfl:i=m.length:=by omega
   have g2:¬((m.length:Int)<m.length):=by omega
   clear hMd ke QM;have cl:=kl.cell;have cc:=kc.cell;have n1:w.1.size<N:=by omega
   have n2:w.1.size+1<N:=by omega
   go_upto_region 8 with fail
   refine Cd (Iy N) [3,6,9,10,11] [0,1,2,4,5,7,8,3,6,9,10,11,12] (by kernel_rfl) (by kernel_rfl) ?_
   refine De (Oe N) ?_;intro Wc Ha ea;refine MA ?_;have Ja:=Tf Ha;replace kl:=ia kl Ja;replace kc:=ia kc Ja;replace kf:=ia kf Ja;replace xa:=Xb xa Ja zR;replace Pa:=Nj Pa Ja;replace da:=ma da Ja;replace Vb:=jb Vb Ja.size;clear Ja Ha cl cc;refine Gc (Oe N) rfl rfl rfl (fun _=>by go_simp <;> rfl) ((Lt.out _ da).mono ?_)
   rintro e w3 ⟨v1,rfl,o1,Ua⟩;refine ⟨_,rfl,Bz Ua Vb,?_⟩;replace ea:=(Oe N).trans _ _ _ ea (Bz Ua Vb);refine zPU ?_;have Mi:∀ q,v.ownBlock=vE q -> q<Wc.1.size:=fun q e=>(xa.lt q e).2
   have Yc:Gi N v.ownBlock w3 v1 co:=LP o1 Wb.out.1 Vb Mi;obtain ⟨A1',Es,rfl,-⟩:=ud o1;replace kl:=ia kl Ua;replace kc:=ia kc Ua;replace kf:=ia kf Ua;replace xa:=Xb xa Ua zR;replace Pa:=Nj Pa Ua;replace da:=ma da Ua;replace Vb:=jb Vb Ua.size;clear Ua o1 ea Mi;have ea:=(Oe N).refl w3;refine Gc (Oe N) rfl rfl rfl (fun _=>by go_simp <;> rfl) ((kG.out _ da).mono ?_)
   rintro e w4 ⟨v2,rfl,o2,zb⟩;refine ⟨_,rfl,Bz zb Vb,?_⟩;replace ea:=(Oe N).trans _ _ _ ea (Bz zb Vb);refine zPU ?_;have Ni:∀ q,v.ownBlock=vE q -> q<w3.1.size:=fun q e=>(xa.lt q e).2
   have fh:Gi N v.ownBlock w4 v2 (bg L li):=LP o2 (by
    have hp:=mo.out;intro x hx;rcases Xg.1 hx with rfl | hx
    ·exact Eh (NL (by omega) _ _) hp.2
    ·exact Wb.out.2 x hx) Vb Ni
   obtain ⟨A2',rz,rfl,-⟩:=ud o2;replace Yc:=uA Yc zb.size (fun b _ h2 _=>zb.block b h2)
   replace kl:=ia kl zb;replace kc:=ia kc zb;replace kf:=ia kf zb;replace xa:=Xb xa zb zR;replace Pa:=Nj Pa zb;replace da:=ma da zb;replace Vb:=jb Vb zb.size;clear zb o2 ea Ni;have ea:=(Oe N).refl w4;refine Gc (Oe N) rfl rfl rfl (fun _=>by go_simp <;> rfl) ((HQu.out _ da).mono ?_)
   rintro e w5 ⟨g3,rfl,Ph,k3,Wa⟩;refine ⟨_,rfl,Bz Wa Vb,?_⟩;replace ea:=(Oe N).trans _ _ _ ea (Bz Wa Vb);refine zPU ?_;have zC:vE g3≠v.ownBlock:=fun e=>by have:=(xa.lt _ e.symm).2;omega
   have CC:Gi N v.ownBlock w5 (ve (vE ⟨g3,0,vD⟩) (L.block+qu.length) (L.block+qu.length)) (fM L qu) :=
    JP k3 (fun k _=>Eh (rD (by have:=mo.out;omega) _ _ _) mo.out.2) (by simp [maxLen];omega) (by omega) zC
   replace Yc:=uA Yc Wa.size (fun b _ h2 _=>Wa.block b h2)
   replace fh:=uA fh Wa.size (fun b _ h2 _=>Wa.block b h2)
   replace kl:=ia kl Wa;replace kc:=ia kc Wa;replace kf:=ia kf Wa;replace xa:=Xb xa Wa zR;replace Pa:=Nj Pa Wa;replace da:=ma da Wa;replace Vb:=jb Vb Wa.size;clear Wa k3 Ph ea zC Lt kG HQu kc;have ea:=(Oe N).refl w5;refine Ye (Oe N) rfl rfl rfl ?_;go_simp;refine ⟨Bz ((za _ _).alloc zR _) Vb,?_⟩;have ja:=(za w5.1.size w5).alloc zR (.cells #[ve A1' co.length Es,ve A2' (li.length+1) rz,ve (vE ⟨g3,0,vD⟩) (L.block+qu.length) (L.block+qu.length)] 28);have Ma:=zE8 w5 (ve A1' co.length Es) (ve A2' (li.length+1) rz) (ve (vE ⟨g3,0,vD⟩) (L.block+qu.length) (L.block+qu.length)) 28;replace Yc:=uA Yc ja.size (fun b _ h2 _=>ja.block b h2)
   replace fh:=uA fh ja.size (fun b _ h2 _=>ja.block b h2)
   replace CC:=uA CC ja.size (fun b _ h2 _=>ja.block b h2)
   replace kl:=ia kl ja;replace kf:=ia kf ja;replace xa:=Xb xa ja zR;replace Pa:=Nj Pa ja;replace da:=ma da ja;replace Vb:=jb Vb ja.size
   refine zPU ?_
   generalize w5.alloc _=w6 at kl kf xa Pa Yc fh CC da Ma Vb |-;generalize w5.1.size=g7 at Ma |-;clear ja ea;have ea:=(Oe N).refl w6;refine MA ?_;refine Ye (Oe N) rfl rfl rfl ?_;refine Ew _ _ rfl Ex rfl xa rfl Ma (by intro u hu;simp at hu;rcases hu with rfl | rfl | rfl <;> rfl) (by omega) Vb ?_
   intro v' wn Kb Va Zb;have Jd:∀ q,v.ownBlock=vE q -> N <= q:=fun q e=>(xa.lt q e).1
   have mH:=Sl xa Va Vb;refine ⟨mH,?_⟩;have Ko:=zBT Pa Yc fh CC Va Zb;replace kl:=kl.grown Va (fun e=>by have:=Jd _ e.symm;omega)
   replace kf:=kf.grown Va (fun e=>by have:=Jd _ e.symm;omega)
   replace da:=da.trans (mH.mono (by omega))
   have CY:=jS Ko Kb;clear xa Pa Yc fh CC Va Zb Jd Ma ea mH Vb Ko;have ea:=(Oe N).refl wn
   refine zPU ?_
   refine MA ?_;refine Qc ?_;rw [HPE.out] at CY;rw [<- BD.out] at Kb;obtain ⟨Ap,cp,rfl,uH,-⟩:=ud Kb;clear Kb ea HPE BD Fg lG Yw Wb;obtain ⟨-,-,Ux,hPd⟩:=zj CY;obtain ⟨gC,hgC⟩:=zEX (wn.1.size);have y0:w.1.size+3 <= gC:=by rw [hgC];have:=da.size;have:=kf.lt;omega
   have lM:M <= maxLen:=by simp [maxLen];omega
   have hmaxn:max (0:Int) (L.n:Int)=L.n:=Int.max_eq_right (by omega)
   have xn:(L.n:Int) <= 1024:=by omega
   have cl:=kl.cell;go_upto_region 10 with fail
   have kC:=Blk.new wn 28 (Ng L.n fun _=>ve vD 0 0)
   have ja:=(za wn.1.size wn).alloc zR (.cells (Ng L.n fun _=>ve vD 0 0) 28)
   have hs7:(wn.alloc (.cells (Ng L.n fun _=>ve vD 0 0) 28)).1.size=gC+1:=by rw [hgC];simp
   rw [<- hgC] at kC ja |-;clear cl mkC;generalize wn.alloc _=w7 at kC ja hs7 |-;rw [SR (g:=fun k=>if k<0 then Kd M (gC+1+k) else ve vD 0 0) (fun k _=>by simp)] at kC
   have HGC:=zH hgC;have HS7:=zH hs7;clear hgC hs7;go_wp2_with fail
   go_loopw [67] (fun y wr=>∃ i:Nat,i <= L.n /\ y=vd vq i /\ Blk wr gC 28 (Ng L.n fun k=>if k<i then Kd M (gC+1+k) else ve vD 0 0) /\ Hid (∀ k,k<i -> Blk wr (gC+1+k) 22 (Oa M fun _=>0)) /\ Hid (wr.1.size=gC+1+i) /\ vA gC wn wr) (fun y _=>L.n-(intOf y).toNat)
   case atStart=>exact ⟨0,Lb _,rfl,kC,fun k h=>by omega,HS7.out,ja⟩
   case round =>
    clear kC ja HS7;obtain ⟨i,hi,rfl,kC,HK,HSZ,ji⟩:=hrel;by_cases ra:i<L.n
    ·have q1:(0:Int)<=i:=by omega
     have q2:(i:Int)<L.n:=by omega
     have cC:=kC.cell i;rw [RR _ ra,La (Nat.lt_irrefl i)] at cC;have lC:=kC.lt;have fC:=kC.frozen;go_wp2_with fail
     have Ts:=HSZ.out;rw [Ts];have hg:=Bj (w:=wr) gC i (Kd M (gC+1+i));replace kC:=kC.set_ i (Kd M (gC+1+i));rw [zBq,SR (g:=fun k=>if k<i+1 then Kd M (gC+1+k) else ve vD 0 0) (fun k _=>by
      by_cases e:k=i
      ·subst e;simp
      ·rw [La e]
       by_cases e2:k<i
       ·rw [Qa e2,Qa (by omega)]
       ·rw [La e2,La (by omega)])] at kC
     have Lr:Hid (∀ k,k<i -> Blk (wr.setCell ⟨gC,i,vD⟩ (Kd M (gC+1+i))) (gC+1+k) 22 (Oa M fun _=>0)):=fun k h=>(HK.out k h).grown hg (fun e=>by have:=db e;omega)
     have ZS:(wr.setCell ⟨gC,i,vD⟩ (Kd M (gC+1+i))).1.size=gC+1+i:=by simp [vF];exact Ts
     replace ji:=ji.trans (Ok hg (by have:=ji.size;have:=HGC.out;omega) zR)
     clear hg HK Ts HSZ cC fC lC;generalize wr.setCell _ _=w8 at kC Lr ZS ji |-;have ja:=(za w8.1.size w8).alloc zR (.cells (Oa M fun _=>0) 22)
     have kN:=Blk.new w8 22 (Oa M fun _=>0)
     have HSN:=zH (show (w8.alloc (.cells (Oa M fun _=>0) 22)).1.size=gC+1+(i+1) by simp;omega)
     rw [ZS] at kN;replace kC:=ia kC ja;have HK3:Hid (∀ k,k<i+1 -> Blk (w8.alloc (.cells (Oa M fun _=>0) 22)) (gC+1+k) 22 (Oa M fun _=>0)):=fun k h=>by
      by_cases e:k=i
      ·subst e;exact kN
      ·exact (Lr.out k (by omega)).below ja (Lr.out k (by omega)).lt
     replace ji:=ji.trans (ja.mono (by omega))
     clear ja kN Lr ZS;generalize w8.alloc _=w9 at kC HK3 HSN ji |-
     go_roundw
     case rel=>exact ⟨i+1,by omega,by go_num,kC,HK3,HSN,ji⟩
     case measure=>simp [intOf];omega
    ·obtain rfl:i=L.n:=by omega
     rw [SR (g:=fun k=>Kd M (gC+1+k)) (fun k hk=>Qa hk)] at kC
     have hs9:gC+1+L.n <= wr.1.size:=by rw [HSZ.out];omega
     have Lr:Hid (∀ k,k<L.n -> Blk wr (gC+1+k) 22 (Oa M fun q=>if q<0 then Kj L.p L.n L.n.log2 (ps.getD q []) gen k else 0)):=fun k h=>by
      have:=HK.out k h;rw [Qk (g:=fun q=>if q<0 then Kj L.p L.n L.n.log2 (ps.getD q []) gen k else 0) (fun q _=>by simp)] at this
      exact this
     clear HK HSZ mkM;go_wp2_with fail
     go_loopw [79] (fun y wr=>∃ j:Nat,j <= M /\ y=vd vq j /\ Blk wr gC 28 (Ng L.n fun k=>Kd M (gC+1+k)) /\ Hid (∀ k,k<L.n -> Blk wr (gC+1+k) 22 (Oa M fun q=>if q<j then Kj L.p L.n L.n.log2 (ps.getD q []) gen k else 0)) /\ gC+1+L.n <= wr.1.size /\ vA gC wn wr) (fun y _=>M-(intOf y).toNat)
     case atStart=>exact ⟨0,Lb _,rfl,kC,Lr,hs9,ji⟩
     case round =>
      clear kC Lr hs9 ji;obtain ⟨j,hj,rfl,kC,HK,tb,ji⟩:=hrel;by_cases ra:j<M
      ·have q1:(0:Int)<=j:=by omega
       have q2:(j:Int)<M:=by omega
       obtain ⟨bp,qp,Aj,lj,cj,rfl,hbp,hcp',VE⟩:=Lu hPd (show j<ps.length by rw [Wm.out];exact ra)
       have hbp2:bp<gC:=by rw [HGC.out];exact hbp
       have AE:=(ji.cell (p:=⟨bp,qp+j,vD⟩) hbp2).trans hcp';have hbn2:vA wn.1.size wn wr:=by rw [<- HGC.out];exact ji
       have hrj:=Bb hbn2 VE;have hgd:ps[j]'(by rw [Wm.out];exact ra)=ps.getD j []:=by rw [Jb,oc];rfl
       have QE:lj <= 8192:=by have h1:=Uy.out _ (wg (show j<ps.length by rw [Wm.out];exact ra));have h2:=(Qb VE).1;omega
       rw [hgd] at hrj;have HE:=zH (fun w' (hb:vA wr.1.size wr w')=>HEv.out Aj lj cj (ps.getD j []) w' (Bb hb hrj) QE)
       have Wk:=kl.below ji (show w.1.size<gC by omega)
       have Qo:=kf.below ji (show w.1.size+1+1<gC by omega)
       have cl:=Wk.cell;have ll:=Wk.lt;have cf:=Qo.cell;have lf:=Qo.lt;clear hcp' VE hrj hgd hbn2;have hbpw:bp<wr.1.size:=by omega
       go_upto_region 18 with fail
       refine Cd (Tb) [3,6] [0,1,2,4,5,3,6,7,8,9,10,11] (by kernel_rfl) (by kernel_rfl) ?_
       refine De (pa) ?_;intro Wc Ha ea;refine Ob ?_;have Ja:=Tf Ha;refine Gc (pa) rfl rfl rfl (fun _=>by go_simp <;> rfl) ((HGen.out _).mono ?_)
       rintro e w3 ⟨rfl,Ua⟩;refine ⟨_,rfl,Ua,?_⟩;replace ea:=(pa).trans _ _ _ ea (Ua);refine zPU ?_;have zb:=ma Ja Ua;refine Ob ?_;refine Gc (pa) rfl rfl rfl (fun _=>by go_simp <;> rfl) ((HE.out _ zb).mono ?_)
       rintro e w5 ⟨gv,rfl,hgv,kv,Wa⟩;refine ⟨_,rfl,Wa,?_⟩;replace ea:=(pa).trans _ _ _ ea (Wa);refine zPU ?_;have Ec:=ma zb Wa;have hgv2:wr.1.size <= gv:=jb zb.size hgv;replace kC:=ia kC Ec;have Lr:Hid (∀ k,k<L.n -> Blk w5 (gC+1+k) 22 (Oa M fun q=>if q<j \/ (q=j /\ k<0) then Kj L.p L.n L.n.log2 (ps.getD q []) gen k else 0)):=fun k h=>by
        have:=(HK.out k h).below Ec (HK.out k h).lt;rw [Qk (g:=fun q=>if q<j \/ (q=j /\ k<0) then Kj L.p L.n L.n.log2 (ps.getD q []) gen k else 0) (fun q _=>by simp)] at this
        exact this
       have hbn3:=ji.trans (Ec.mono (by omega))
       have hsz2:=jb tb Ec.size;have hgv3:gC+1+L.n <= gv:=by omega
       clear Ja Ua zb Wa Ec Ha ea HK ji tb cl ll cf lf Wk Qo HE AE hgv;refine Ob ?_;refine Qc ?_;obtain ⟨V,hV⟩:∃ V:Nat -> Nat -> Nat,V=fun q k=>Kj L.p L.n L.n.log2 (ps.getD q []) gen k:=⟨_,rfl⟩
       have HV:=zH hV;rw [show Kj L.p L.n L.n.log2 (ps.getD j []) gen=V j by rw [hV]] at kv
       replace Lr:Hid (∀ k,k<L.n -> Blk w5 (gC+1+k) 22 (Oa M fun q=>if q<j \/ (q=j /\ k<0) then V q k else 0)):=by rw [hV];exact Lr
       clear hV;go_wp2_with fail
       go_loopw [96] (fun y wr=>∃ i:Nat,i <= L.n /\ y=vd vq i /\ Blk wr gC 28 (Ng L.n fun k=>Kd M (gC+1+k)) /\ Hid (∀ k,k<L.n -> Blk wr (gC+1+k) 22 (Oa M fun q=>if q<j \/ (q=j /\ k<i) then V q k else 0)) /\ gC+1+L.n <= wr.1.size /\ vA gC wn wr /\ Blk wr gv 22 (Oa L.n (V j))) (fun y _=>L.n-(intOf y).toNat)
       case atStart=>exact ⟨0,Lb _,rfl,kC,Lr,hsz2,hbn3,kv⟩
       case round =>
        clear kC Lr hsz2 hbn3 kv;obtain ⟨i,hi,rfl,kC,HK,tb,ji,kv⟩:=hrel;by_cases iC:i<L.n
        ·have p1:(0:Int)<=i:=by omega
         have p2:(i:Int)<L.n:=by omega
         obtain ⟨x,hx⟩:=zEX (V j i);have cv:=kv.cell i;rw [Ff _ iC,<- hx] at cv;have lv:=kv.lt;have cC:=kC.cell i;rw [RR _ iC] at cC;have lC:=kC.lt;obtain ⟨gi,Ts⟩:=zEX (gC+1+i);have kI:Blk wr gi 22 (Oa M fun q=>if q<j \/ (q=j /\ i<i) then V q i else 0):=by rw [Ts];exact HK.out i iC
         have cI:=kI.cell j;rw [Ff _ ra] at cI;generalize (if j<j \/ (j=j /\ i<i) then V j i else 0)=old at cI
         have lI:=kI.lt;have fI:=kI.frozen;rw [<- Ts] at cC;have ngC:gi≠gC:=by omega
         have ngv:gi≠gv:=by omega
         dsimp only [Kd] at cC
         have HGI:=zH Ts;have Zm:=zH hx;clear Ts hx;go_wp2_with fail
         have hg:=Bj (w:=wr) gi j (vd vn x);have hK2:Hid (∀ k,k<L.n -> Blk (wr.setCell ⟨gi,j,vD⟩ (vd vn x)) (gC+1+k) 22 (Oa M fun q=>if q<j \/ (q=j /\ k<i+1) then V q k else 0)):=fun k h=>by
          by_cases e:k=i
          ·subst e
           have h2:=kI.set_ j (vd vn x);rw [Hq] at h2;rw [<- HGI.out];rw [Qk (g:=fun q=>if q<j \/ (q=j /\ k<k+1) then V q k else 0) (fun q _=>by
            simp only [df];by_cases e:q=j
            ·subst e;rw [Qa rfl,Qa (by omega),Zm.out]
            ·rw [La e]
             by_cases e2:q<j
             ·rw [Qa (.inl e2),Qa (.inl e2)]
             ·rw [La (by omega),La (by omega)])] at h2
           exact h2
          ·have h2:=(HK.out k h).grown hg (fun e2=>by have:=db e2;have:=HGI.out;omega)
           rw [Qk (g:=fun q=>if q<j \/ (q=j /\ k<i+1) then V q k else 0) (fun q _=>by
            by_cases e2:q<j \/ (q=j /\ k<i)
            ·rw [Qa e2,Qa (by omega)]
            ·rw [La e2,La (by omega)])] at h2
           exact h2
         replace kC:=kC.grown hg (fun e=>ngC (db e).symm)
         replace kv:=kv.grown hg (fun e=>ngv (db e).symm)
         replace tb:=jb tb hg.size;replace ji:=ji.trans (Ok hg (by have:=ji.size;have:=HGC.out;omega) (by have:=HGI.out;omega))
         clear hg HK kI cI cC cv lI fI lC lv Zm
         go_roundw
         case rel=>exact ⟨i+1,by omega,by go_num,kC,hK2,tb,ji,kv⟩
         case measure=>simp [intOf];omega
        ·obtain rfl:i=L.n:=by omega
         have HK3:Hid (∀ k,k<L.n -> Blk wr (gC+1+k) 22 (Oa M fun q=>if q<j+1 then Kj L.p L.n L.n.log2 (ps.getD q []) gen k else 0)):=fun k h=>by
          have h2:=HK.out k h;rw [Qk (g:=fun q=>if q<j+1 then Kj L.p L.n L.n.log2 (ps.getD q []) gen k else 0) (fun q _=>by
           rw [HV.out];by_cases e2:q<j+1
           ·rw [Qa e2,Qa (by omega)]
           ·rw [La e2,La (by omega)])] at h2
          exact h2
         clear HK kv;go_wp2
         go_roundw
         case rel=>exact ⟨j+1,by omega,by go_num,kC,HK3,tb,ji⟩
         case measure=>simp [intOf];omega
      ·obtain rfl:j=M:=by omega
       go_wp2;go_ret
       have Yx:w.1.size <= gC:=by have:=HGC.out;have:=da.size;omega
       refine ⟨_,rfl,⟨fun q e=>by have e':gC=q:=db e;omega,fun u hu=>?_⟩,da.trans (ji.mono (by omega))⟩
       rw [show (fun i=>(List.range j).map (Hs L ps i))=fun i=>(List.range j).map fun q=>Kj L.p L.n L.n.log2 (ps.getD q []) gen i from funext fun i=>HCV.out i]
       have kCu:Blk u gC 28 _:=(hu gC Yx kC.lt).trans kC;refine cS (N:=gC+1) (gb:=vD) (cs:=Ng L.n fun k=>Kd j (gC+1+k)) (fun k hk=>⟨_,RR _ hk,?_⟩) kCu (by simp [maxLen];omega)
       have h2:=HK.out k hk;rw [Qk (g:=fun q=>Kj L.p L.n L.n.log2 (ps.getD q []) gen k) (fun q hq=>Qa hq)] at h2
       have h3:Blk u (gC+1+k) 22 _:=(hu (gC+1+k) (by omega) h2.lt).trans h2
       exact JP h3 (fun q _=>HFF.out k q) lM (by omega) (fun e=>by cases e)
def GU (L:Ra) (m r:List (List Nat)) (k:Nat):List Nat:=qM L (m.getD k []) (r.getD k [])
theorem zBP {p a b:Nat} (h:Ib p=true) (qH:a<b) (hb:b-a<p-1):¬Cg p (((Mb p).1:Int)^a) (((Mb p).1:Int)^b):=fun hc=>by
 have hp:=Nb h;refine eY h (k:=b-a) (by omega) hb ?_
 have hv:Cg p (((Mb p).1:Int)*((Mb p).1:Int)^(p-2)) 1:=by
  have:=kH h;rw [show p-1=(p-2)+1 by omega,Xi,Yj] at this
  exact this
 have h1:Cg p (((Mb p).1:Int)^a*(((Mb p).1:Int)^(p-2))^a) 1:=by
  rw [<- Int.mul_pow];exact (hv.pow a).trans (Cg.of_eq Int.one_pow)
 have h2:Cg p (((Mb p).1:Int)^b*(((Mb p).1:Int)^(p-2))^a) (((Mb p).1:Int)^(b-a)):=by
  rw [show ((Mb p).1:Int)^b=((Mb p).1:Int)^(b-a)*((Mb p).1:Int)^a by rw [<- Int.pow_add];congr 1;omega,qo]
  exact (Cg.rfl'.mul h1).trans (Cg.of_eq (Int.mul_one _))
 exact h2.symm.trans ((hc.symm.mul Cg.rfl').trans h1)
theorem xY {p:Nat} (hp:0<p) (l:List Nat) (x:Nat):Xs p x l=Xc p l x:=Cg.eq (p:=p) ((OS l).trans (jJ l).symm) (zB1 hp x l) (ou hp l x)
theorem X5 {p n a b:Nat} (h:Ib p=true) (hn:dk p n) (qH:a<b) (hb:b<n):¬Cg p ((ye p n:Int)^a) ((ye p n:Int)^b):=fun hc=>by
 have hp:=Nb h;have hd:=Nat.div_mul_cancel (Nat.dvd_of_mod_eq_zero hn.dvd);obtain ⟨m,hm⟩:=zEX ((p-1) / n);have he:∀ k,Cg p ((ye p n:Int)^k) (((Mb p).1:Int)^(m*k)):=fun k=>by
  rw [ph,hm];refine Cg.pow ?_ k;unfold ye;exact (Cg.mod _).trans (Cg.of_eq (xp _ _))
 rw [<- hm] at hd;have Gn:0<m:=by
  rcases xo m with e | e
  ·rw [e,Nat.zero_mul] at hd;omega
  ·exact e
 refine zBP h (a:=m*a) (b:=m*b) (Nat.mul_lt_mul_of_pos_left qH Gn) ?_ ((he a).symm.trans (hc.trans (he b)));have h1:m*(b-a)<m*n:=Nat.mul_lt_mul_of_pos_left (by omega) Gn
 rw [Nat.mul_sub] at h1;omega
theorem zFk {p n:Nat} (h:Ib p=true) (hn:dk p n):∀ i j,i<n -> j<n -> i≠j -> ¬Cg p ((ye p n:Int)^i) ((ye p n:Int)^j):=fun i j hi hj Ta hc=>by
 rcases Nat.lt_or_gt_of_ne Ta with h1 | h1
 ·exact X5 h hn h1 hj hc
 ·exact X5 h hn h1 hi hc.symm
theorem IZ {p N J:Nat} (h:Ib p=true) (hN:dk p N) (hJ:N=2^J) (a b:List Nat) (ha:1 <= a.length) (qH:a.length+b.length <= N+1) (k:Nat) (hk:k<N):Cg p (iA p N J a b k:Int) (Fs (Bk p a b) k):=by
 have hp:=Nb h;refine zFB (n:=N) h (a:=fun k=>(iA p N J a b k:Int)) (b:=Fs (Bk p a b)) (xs:=fun k=>(ye p N:Int)^k) (zFk h hN) (fun q hq=>?_) k hk
 unfold iA;refine (eT (q:=q) _ h hN hJ hq).trans ?_;rw [Yk,Qa hq,FR h hN hJ a hq,FR h hN hJ b hq];have hl:=SL p a b;rw [aH _ _ (by omega)]
 refine (Cg.mod _).trans ((Cg.of_eq (ig _ _)).trans ?_);refine ((Dq a).mul (Dq b)).trans ?_;refine (DR a b _).symm.trans ?_;unfold Sc;exact Co (fun _=>Cg.rfl') cL _
theorem JZ {p N J:Nat} (hp:0<p) (a b:List Nat) (k:Nat):iA p N J a b k<p:=ic _ hp
theorem zBz {w:vw} {cs:List vx} (hl:cs.length=11) (h:Fits prog w 32 cs):∃ (p:Nat) (pub vars:Int) (A B:Option vy) (n c m d:Nat) (rows:List Ya) (ws:List Nat) (bl bw qs:Int) (coin seed:Nat) (real:Bool),
  cs=[vd vn p,vd vq pub,vd vq vars,ve A n c,vd vq bl,vd vq bw,vd vq qs,ve B m d,vd vn coin, .bool real,vd vn seed] /\ kQ w p pub vars A B n c m d rows ws /\ coin<18446744073709551616 /\ seed<18446744073709551616:=by
 match cs,hl with
 | [x0,x1,x2,x3,x4,x5,x6,x7,x8,x9,Yn],_ =>
  obtain ⟨p,pub,vars,A,B,n,c,m,d,rows,ws,bl,bw,qs,hc,Kc⟩:=zBy rfl (ym (i:=0) underlying32 rfl rfl zAj h);obtain ⟨a,ha,ja⟩:=nL underlying22 (ym (i:=1) underlying32 rfl rfl XK h);obtain ⟨b,hb⟩:=zBx underlying4 (ym (i:=2) underlying32 rfl rfl zAi h);obtain ⟨e,he,Li⟩:=nL underlying22 (ym (i:=3) underlying32 rfl rfl XK h);simp [jN] at hc ha hb he
  obtain ⟨rfl,rfl,rfl,rfl,rfl,rfl,rfl,rfl⟩:=hc;subst ha hb he;exact ⟨p,pub,vars,A,B,n,c,m,d,rows,ws,bl,bw,qs,a,e,b,rfl,Kc,ja,Li⟩
theorem zDs {w:vw} {Zg:Array vx} (f0:Fits prog w 32 (vf Zg).cells.toList):∃ (p:Nat) (pub vars:Int) (A B:Option vy) (n c m d:Nat) (rows:List Ya) (ws:List Nat) (bl bw qs:Int) (coin seed:Nat) (real:Bool),
  Zg=#[vd vn p,vd vq pub,vd vq vars,ve A n c,vd vq bl,vd vq bw,vd vq qs,ve B m d,vd vn coin, .bool real,vd vn seed] /\ kQ w p pub vars A B n c m d rows ws /\ coin<18446744073709551616 /\ seed<18446744073709551616:=by
 have e0:(vf Zg).cells=Zg:=rfl;rw [e0] at f0;have l0:=(XX underlying32 f0).1;rw [zAk] at l0;obtain ⟨p,pub,vars,A,B,n,c,m,d,rows,ws,bl,bw,qs,coin,seed,real,hc,Kc,h1,h2⟩:=zBz l0 f0;exact ⟨p,pub,vars,A,B,n,c,m,d,rows,ws,bl,bw,qs,coin,seed,real,Array.toList_inj.1 hc,Kc,h1,h2⟩
theorem zDY (p:Nat) (pub vars:Int) (A:Option vy) (n c:Nat) (rows:List Ya) (bl bw qs:Int) (w:vw) (hr:RSl 3 oe w [ve A n c] rows) (ht:Zc p pub vars rows=false) :
  vB prog 55 (Vp p pub vars A n c bl bw qs) w fun e w'=>e=vl (.tuple #[vf Qf,vd vq 1]) /\ vA w.1.size w w':=by
 have HV:=zH (fun w' (hb:vA w.1.size w w')=>WL p pub vars A n c rows w' (Dg Bg _ _ _ _ hb hr))
 rw [ht] at HV;clear hr ht;unfold Vp sc Qf at *;obtain ⟨kt,kx,kz,da,-⟩:=rn w 25 27 101 #[vd vn p,vd vq pub,vd vq vars,ve A n c] #[vd vq bl,vd vq bw,vd vq qs] #[vd vn 0,vd vq 0,vd vq 0,vd vq 0,vd vq 0,vd vq 0,vd vq 0,vd vq 0,vd vq 0,vd vq 0,vd vq 0];go_enter func55,ntmps55
 go_wp2_with fail
 generalize ((w.alloc _).alloc _).alloc _=w0 at kt kx kz da |-;refine (HV.out _ da).mono ?_;rintro e w1 ⟨rfl,Ca⟩;replace kz:=ia kz Ca;replace da:=ma da Ca;clear Ca kt kx;have cz:=kz.cell;have fz:=kz.frozen;go_wp2_with fail
 obtain ⟨wf,dc,kW,hW⟩:=Ct kz da;rw [dc];clear dc cz fz kz da;have c4:=kW.cell;exact ed (v:=.tuple #[vf #[vd vn 0,vd vq 0,vd vq 0,vd vq 0,vd vq 0,vd vq 0,vd vq 0,vd vq 0,vd vq 0,vd vq 0,vd vq 0],vd vq 1]) (by simp [results,results55,go_sem,c4]) rfl ⟨rfl,hW⟩
def Wp (p:Nat) (pub vars:Int) (rows:List Ya) (bl bw qs:Int):Int:=if Zc p pub vars rows then aw ⟨p,pub,vars,rows.length,bl,bw,qs⟩ else 1
def AQ (p:Nat) (pub vars:Int) (rows:List Ya) (bl bw qs:Int) (e:Ending):Prop:=∃ lcs:Array vx,e=vl (.tuple #[vf lcs,vd vq (Wp p pub vars rows bl bw qs)]) /\
 ((Wp p pub vars rows bl bw qs≠0 /\ lcs=Qf) \/ (Wp p pub vars rows bl bw qs=0 /\ Zc p pub vars rows=true /\ ∃ L,Rb L /\ ak L ⟨p,pub,vars,rows.length,bl,bw,qs⟩ /\ lcs=Db L))
theorem zC8 {p:Nat} {pub vars:Int} {rows:List Ya} {bl bw qs:Int} {e:Ending} (ht:Zc p pub vars rows=true) (h:QD ⟨p,pub,vars,rows.length,bl,bw,qs⟩ e):AQ p pub vars rows bl bw qs e:=by
 have hE:Wp p pub vars rows bl bw qs=aw ⟨p,pub,vars,rows.length,bl,bw,qs⟩:=by unfold Wp;rw [Qa ht]
 obtain ⟨lcs,er,he,h | h⟩:=h
 ·obtain ⟨h1,h2,h3⟩:=h
  exact ⟨lcs,by rw [hE,<- h3];exact he, .inl ⟨by rw [hE,<- h3];exact h1,h2⟩⟩
 ·obtain ⟨h1,L,h2,h3,h4⟩:=h
  have h5:=h3.err;exact ⟨lcs,by rw [hE,h5,<- h1];exact he, .inr ⟨by rw [hE,h5],ht,L,h2,h3,h4⟩⟩
theorem zC7 {p:Nat} {pub vars:Int} {rows:List Ya} {bl bw qs:Int} {e:Ending} (ht:Zc p pub vars rows=false) (h:e=vl (.tuple #[vf Qf,vd vq 1])):AQ p pub vars rows bl bw qs e:=by
 have hE:Wp p pub vars rows bl bw qs=1:=by unfold Wp;rw [ht];rfl
 exact ⟨Qf,by rw [hE];exact h, .inl ⟨by rw [hE];decide,rfl⟩⟩
theorem fU (p:Nat) (pub vars:Int) (A:Option vy) (n c:Nat) (rows:List Ya) (bl bw qs:Int) (w:vw) (hr:RSl 3 oe w [ve A n c] rows) :
  vB prog 55 (Vp p pub vars A n c bl bw qs) w fun e w'=>AQ p pub vars rows bl bw qs e /\ vA w.1.size w w':=by
 cases ht:Zc p pub vars rows
 ·exact (zDY p pub vars A n c rows bl bw qs w hr ht).mono fun _ _ h=>⟨zC7 ht h.1,h.2⟩
 ·exact (zDU p pub vars A n c rows bl bw qs w hr ht).mono fun _ _ h=>⟨zC8 ht h.1,h.2⟩
theorem G7 (p:Nat) (A B:Option vy) (len c n d:Nat) (l:List (Int × Nat)) (ws:List Nat) (w:vw) (hl:RLin w [ve A len c] l) (hw:RWd w [ve B n d] ws) (hp:Ib p=true) :
  vB prog 124 #[vd vn p,ve A len c,ve B n d] w fun e w'=>e=vl (vd vn (Mc p l ws:Nat)) /\ vA w.1.size w w':=by
 obtain ⟨A',n',c',he,hlen,He,yf,Ma⟩:=hl;simp at he
 obtain ⟨rfl,rfl,rfl⟩:=he;subst hlen;obtain ⟨B',m',d',he,Mv,hmy,Kg,hlw⟩:=hw;simp at he
 obtain ⟨rfl,rfl,rfl⟩:=he;have hm:ws.length=n:=by have:=Kg.len1;rwa [So] at this
 subst hm;have g0:(l.length:Int) <= 9223372036854775807:=by
  simp [maxLen] at yf
  omega
 have HM:=zH (fun a b w=>Gq p a b w hp)
 have HA:=zH (fun a b w=>xm p a b w hp)
 unfold fv at *;have kf:=Blk.new w 224 #[vd vn p];have da:vA w.1.size w (w.alloc (.cells #[vd vn p] 224)):=(za _ _).alloc zR _;go_enter func124,ntmps124
 go_upto_region 2 with fail
 generalize w.alloc _=w0 at kf da |-;go_wp2_with fail
 go_loopw [8,15] (fun s i wr=>∃ j:Nat,j <= l.length /\ i=vd vq j /\ s=vd vn (Mc p (l.take j) ws:Nat) /\ Blk wr w.1.size 224 #[vd vn p] /\ vA w.1.size w wr)
  (fun _ i _=>l.length-(intOf i).toNat)
 case atStart=>exact ⟨0,Lb _,rfl,rfl,kf,da⟩
 case round =>
  clear kf da;obtain ⟨j,hj,rfl,rfl,kf,hb⟩:=hrel;by_cases ra:j<l.length
  ·have HS:=zH (CO p l ws j ra)
   revert HS
   generalize Mc p (l.take j) ws=s;intro HS;obtain ⟨b,q,rfl⟩:=Ma.base (by omega) (by omega)
   have Ov:=Ma.below lF hb;obtain ⟨c1,c2⟩:=RLin.at_ Ov ra;have Gb:=mf _ _ c1;have HL:=zH ra;have g1:(0:Int)<=j:=by omega
   have g2:(j:Int)<l.length:=by omega
   have HW:=zH (fun (k:Nat) (hk:k<ws.length)=>(Cy (Kg.below hb) (by omega)).imp fun b' h=>h.imp fun q' h=>(⟨h.1,h.2.1,(h.2.2 k hk).trans (YD hk)⟩:_ /\ _ /\ _=vE (vd vn (ws[k]:Int))))
   revert c1 c2 HS
   generalize hx:(l.getD j (0,0))=t;obtain ⟨x,y⟩:=t;clear hx;simp only;intro HS c1 c2;clear Ma Ov Kg;have ja:=(za wr.1.size wr).alloc zR (.cells #[vd vq x,vd vn y] 208);by_cases z1:x<0
   ·have d1:decide (0 <= x)=false:=xb (by omega)
    have HE:=zH (show Mc p (l.take (j+1)) ws=s by rw [HS.out,Xq,La (by simp;omega)])
    replace kf:=ia kf ja;replace hb:=ma hb ja;clear ja;go_wp2_with fail
    go_roundw
    case rel=>exact ⟨j+1,by omega,by go_num,by rw [HE.out],kf,hb⟩
    case measure=>simp [intOf];omega
   ·obtain ⟨k,rfl⟩:=Kk (show 0 <= x by omega)
    by_cases z2:k<ws.length
    ·have d1:decide ((0:Int)<=k)=true:=yb (by omega)
     have d2:decide ((k:Int)<ws.length)=true:=yb (by omega)
     obtain ⟨b',q',rfl,Io,c3⟩:=HW.out k z2;have HE:=zH (show Mc p (l.take (j+1)) ws=(s+y*ws[k]%p)%p by rw [HS.out,Xq,Qa (by simp;omega)];show (s+y*ws.getD ((k:Int)).toNat 0%p)%p=_;rw [Lk,Jb,oc z2,Option.getD_some])
     clear HW HS;revert c3 HE
     generalize ws[k]=v;have Le:=zH (fun w=>HM.out y v w)
     revert Le
     generalize y*v%p=m;intro Le c3 HE;have xe:=zH (fun w=>HA.out s m w)
     have i1:(0:Int)<=k:=by omega
     have i2:(k:Int)<ws.length:=by omega
     have kt:=Blk.new wr 208 #[vd vq k,vd vn y];have c4:=(Below.cell ja (p:=⟨b',q'+k,vD⟩) Io).trans c3;replace kf:=ia kf ja;replace hb:=ma hb ja;go_upto_region 7 with fail
     generalize wr.alloc _=w1 at kt kf hb c4 ja |-;have ct:=kt.cell;have cf:=kf.cell;have lt:=kt.lt;have lf:=kf.lt;have lb:b'<w1.1.size:=Sd Io ja.size;clear c1 c2 c3 ja Gb Io;refine Cd (Tb) [10,11] [0,1,2,3,4,5,6,7,8,9,10,11,12] (by kernel_rfl) (by kernel_rfl) ?_
     refine De (pa) ?_;intro Wc Ha ea;have HB:=zH (show vA w.1.size w Wc by rw [Ha.out];exact hb.drew)
     have KF:=zH (show Blk Wc _ _ _ by rw [Ha.out];exact kf.drew)
     clear Ha;refine Ob ?_;refine Gc (pa) rfl rfl rfl (fun _=>by go_simp <;> rfl) ((Le.out _).mono ?_)
     rintro e w2 ⟨rfl,Aa⟩;refine ⟨_,rfl,Aa,?_⟩;replace ea:=(pa).trans _ _ _ ea (Aa);refine zPU ?_;refine Ob ?_;refine Gc (pa) rfl rfl rfl (fun _=>by go_simp <;> rfl) ((xe.out _).mono ?_)
     rintro e w3 ⟨rfl,Ua⟩;refine ⟨_,rfl,Ua,?_⟩;replace ea:=(pa).trans _ _ _ ea (Ua);refine zPU ?_;have Sx:=ma Aa Ua;have Dn:=ma HB.out Sx;have kfin:=KF.out.below Sx KF.out.lt;refine Ob ?_;refine Qc ?_;clear ct cf lt lf lb c4 ea kt kf hb Aa Ua Sx;go_wp2
     go_roundw
     case rel=>exact ⟨j+1,by omega,by go_num,by rw [HE.out];rfl,kfin,Dn⟩
     case measure=>simp [intOf];omega
    ·have d1:decide ((0:Int)<=k)=true:=yb (by omega)
     have d2:decide ((k:Int)<ws.length)=false:=xb (by omega)
     have HE:=zH (show Mc p (l.take (j+1)) ws=s by rw [HS.out,Xq,La (by simp;omega)])
     replace kf:=ia kf ja;replace hb:=ma hb ja;clear ja;go_wp2_with fail
     go_roundw
     case rel=>exact ⟨j+1,by omega,by go_num,by rw [HE.out],kf,hb⟩
     case measure=>simp [intOf];omega
  ·have e:j=l.length:=by omega
   subst e;go_wp2;go_ret
   exact ⟨by rw [Cp];rfl,hb⟩
theorem zD6 (p:Nat) (pub vars:Int) (A B:Option vy) (n c m d:Nat) (rows:List Ya) (ws:List Nat) (w:vw) (hr:RSl 3 oe w [ve A n c] rows) (hw:RWd w [ve B m d] ws) (hp:Ib p=true) :
  vB prog 122 #[sc p pub vars (ve A n c),ve B m d] w fun e w'=>(∃ n:Int,e=vl (vd vq n) /\ decide (n<0)=qw p rows ws) /\ vA w.1.size w w':=by
 have HV:=zH (fun A1 n1 c1 l w' (hb:vA w.1.size w w') (hl:RLin w' [ve A1 n1 c1] l)=>G7 p A1 B n1 c1 m d l ws w' hl (Bb hb hw) hp)
 have HM:=zH (fun a b w=>Gq p a b w hp)
 obtain ⟨A',n',c',he,hlen,He,yf,Ma⟩:=hr;simp at he
 obtain ⟨rfl,rfl,rfl⟩:=he;subst hlen;unfold sc fv at *;have gm:(rows.length:Int) <= 9223372036854775807:=by
  simp [maxLen] at yf
  omega
 obtain ⟨kt,kf,da,-⟩:=Ih w 25 224 #[vd vn p,vd vq pub,vd vq vars,ve A rows.length c] #[vd vn p];clear hw;go_enter func122,ntmps122
 go_upto_region 2 with fail
 generalize (w.alloc _).alloc _=w0 at kt kf da |-;have ct:=kt.cell;go_wp2_with fail
 clear ct;go_loopw [14] (fun i wr=>∃ j:Nat,j <= rows.length /\ i=vd vq j /\ Blk wr w.1.size 25 #[vd vn p,vd vq pub,vd vq vars,ve A rows.length c] /\ Blk wr (w.1.size+1) 224 #[vd vn p] /\ vA w.1.size w wr /\ Hid (∀ k (hk:k<rows.length),k<j -> Dy p rows[k] ws=true))
  (fun i _=>rows.length-(intOf i).toNat)
 case atStart=>exact ⟨0,Lb _,rfl,kt,kf,da,fun k _ hk=>by omega⟩
 case round =>
  clear kt kf da;obtain ⟨j,hj,rfl,kt,kf,da,Jw⟩:=hrel;by_cases ra:j<rows.length
  ·have Wb:=zH ra
   obtain ⟨b,q,rfl⟩:=Ma.base (by omega) (by omega)
   obtain ⟨cs,-,hc,x,y,z,rfl,Yc,de,Nd⟩:=(Ma.below Bg da).get ra;have h0:wr.cell? ⟨b,q+j*3,vD⟩=vE x:=hc 0 (by omega)
   have h1:wr.cell? ⟨b,q+j*3+1,vD⟩=vE y:=hc 1 (by omega)
   have h2:wr.cell? ⟨b,q+j*3+2,vD⟩=vE z:=hc 2 (by omega)
   have i1:(0:Int)<=j:=by omega
   have i2:(j:Int)<rows.length:=by omega
   have Gb:=mf _ _ h0;simp only at Gb;obtain ⟨A1,n1,c1,rfl⟩:=RSl.slc Yc;obtain ⟨A2,n2,c2,rfl⟩:=RSl.slc de;obtain ⟨A3,n3,c3,rfl⟩:=RSl.slc Nd;have tl:=zH (fun w' (hb:vA wr.1.size wr w')=>HV.out A1 n1 c1 rows[j].a w' (ma da hb) (gh _ _ _ _ hb Yc))
   have fp:=zH (fun w' (hb:vA wr.1.size wr w')=>HV.out A2 n2 c2 rows[j].b w' (ma da hb) (gh _ _ _ _ hb de))
   have Ny:=zH (fun w' (hb:vA wr.1.size wr w')=>HV.out A3 n3 c3 rows[j].c w' (ma da hb) (gh _ _ _ _ hb Nd))
   have ja:=(za wr.1.size wr).alloc zR (.cells #[ve A1 n1 c1,ve A2 n2 c2,ve A3 n3 c3] 211);have kr:=Blk.new wr 211 #[ve A1 n1 c1,ve A2 n2 c2,ve A3 n3 c3];obtain ⟨v1,Mi⟩:=zEX (Mc p rows[j].a ws*Mc p rows[j].b ws%p);obtain ⟨v2,Ni⟩:=zEX (Mc p rows[j].c ws);obtain ⟨ro,Se⟩:=zEX (Dy p rows[j] ws);have d1:((v1:Int)!=v2)=!ro:=by rw [Se];unfold Dy;rw [<- Mi,<- Ni];exact Bool.eq_iff_iff.2 (by simp;omega)
   have Le:=zH (fun w=>by have:=HM.out (Mc p rows[j].a ws) (Mc p rows[j].b ws) w;rw [<- Mi] at this;exact this)
   rw [<- Ni] at Ny;have Vf:=zH Se;obtain ⟨x1,hx1'⟩:∃ v,v=Mc p rows[j].a ws:=⟨_,rfl⟩;obtain ⟨x2,hx2'⟩:∃ v,v=Mc p rows[j].b ws:=⟨_,rfl⟩;rw [<- hx1'] at tl Le;rw [<- hx2'] at fp Le;clear hc Yc de Nd Mi Ni Se hx1' hx2' ra;go_upto_region 5 with fail
   replace kt:=ia kt ja;replace kf:=ia kf ja;replace da:=ma da ja;generalize wr.alloc _=w1 at kr kt kf da ja |-;have ct:=kt.cell;have cf:=kf.cell;have cr:=kr.cell;have lt:=kt.lt;have lf:=kf.lt;have lr:=kr.lt;have HAL1:=zH ja;clear ja h0 h1 h2;refine Cd (Tb) [6,12,13,19] [0,1,2,3,4,5,7,8,9,10,11,14,15,16,17,18,6,12,13,19,20] (by kernel_rfl) (by kernel_rfl) ?_
   refine De (pa) ?_;intro Wc Ha ea;have tp:=zH (show vA wr.1.size wr Wc by rw [Ha.out];exact HAL1.out.drew)
   have HB:=zH (show vA w.1.size w Wc by rw [Ha.out];exact da.drew)
   have KT:=zH (show Blk Wc _ _ _ by rw [Ha.out];exact kt.drew)
   have KF:=zH (show Blk Wc _ _ _ by rw [Ha.out];exact kf.drew)
   clear Ha;refine Ob ?_;refine Gc (pa) rfl rfl rfl (fun _=>by go_simp <;> rfl) ((tl.out _ tp.out).mono ?_)
   rintro e w2 ⟨rfl,Aa⟩;refine ⟨_,rfl,Aa,?_⟩;replace ea:=(pa).trans _ _ _ ea (Aa);refine zPU ?_;replace tp:=zH (ma tp.out Aa);have jm:=zH Aa;clear Aa;refine Ob ?_;refine Gc (pa) rfl rfl rfl (fun _=>by go_simp <;> rfl) ((fp.out _ tp.out).mono ?_)
   rintro e w3 ⟨rfl,Aa⟩;refine ⟨_,rfl,Aa,?_⟩;replace ea:=(pa).trans _ _ _ ea (Aa);refine zPU ?_;replace tp:=zH (ma tp.out Aa);replace jm:=zH (ma jm.out Aa);clear Aa;refine Ob ?_;refine Gc (pa) rfl rfl rfl (fun _=>by go_simp <;> rfl) ((Le.out _).mono ?_)
   rintro e w4 ⟨rfl,Aa⟩;refine ⟨_,rfl,Aa,?_⟩;replace ea:=(pa).trans _ _ _ ea (Aa);refine zPU ?_;replace tp:=zH (ma tp.out Aa);replace jm:=zH (ma jm.out Aa);clear Aa;refine Ob ?_;refine Gc (pa) rfl rfl rfl (fun _=>by go_simp <;> rfl) ((Ny.out _ tp.out).mono ?_)
   rintro e w5 ⟨rfl,Aa⟩;refine ⟨_,rfl,Aa,?_⟩;replace ea:=(pa).trans _ _ _ ea (Aa);refine zPU ?_;replace jm:=zH (ma jm.out Aa);clear Aa;have Dn:=ma HB.out jm.out;have ktf:=KT.out.below jm.out KT.out.lt;have kff:=KF.out.below jm.out KF.out.lt;refine Ob ?_;refine Qc ?_;clear ct cf cr lt lf lr kt kf da kr ea tl fp Ny Le;cases ro
   ·simp only [Bool.not_false] at d1
    go_wp2;go_ret
    exact ⟨⟨_,rfl,(xb (by omega)).trans (O6 Wb.out Vf.out.symm).symm⟩,Dn⟩
   ·simp only [Bool.not_true] at d1
    go_wp2
    go_roundw
    case rel =>
     refine ⟨j+1,Wb.out,by go_num,ktf,kff,Dn,fun k hk hkj=>?_⟩
     by_cases e:k<j
     ·exact Jw.out k hk e
     ·obtain rfl:k=j:=by omega
      exact Vf.out.symm
    case measure=>have:=Wb.out;simp [intOf];omega
  ·have HS:=zH (N6 fun k hk=>Jw.out k hk (by omega))
   go_wp2;go_ret
   exact ⟨⟨_,rfl,(yb (by omega)).trans HS.out.symm⟩,da⟩
theorem zDL (p:Nat) (pub vars:Int) (T:vx) (A:Option vy) (n c:Nat) (l:List Nat) (w:vw) (hl:RWd w [ve A n c] l) (hv:0<vars) :
  vB prog 121 #[sc p pub vars T,ve A n c] w fun e w'=>e=vl (.bool (Gh p vars l)) /\ vA w.1.size w w':=by
 obtain ⟨rfl,He,yf,ra,Ma⟩:=Qb hl;have gm:=Tl He yf;clear hl He yf;unfold sc;have kt:=Blk.new w 25 #[vd vn p,vd vq pub,vd vq vars,T];have da:vA w.1.size w (w.alloc (.cells #[vd vn p,vd vq pub,vd vq vars,T] 25)):=(za _ _).alloc zR _;by_cases z1:(l.length:Int)=vars
 rotate_left
 ·have d1:((l.length:Int) != vars)=true:=by rw [Df];exact z1
  have E:=zH (show Gh p vars l=false by simp [Gh,z1])
  rw [E.out];clear z1 Ma ra;go_enter func121,ntmps121
  go_wp2_with fail
  go_ret
  exact ⟨rfl,da⟩
 have d1:((l.length:Int) != vars)=false:=by rw [z1];simp
 have z2:0<l.length:=by omega
 obtain ⟨b,q,rfl,Gb,hc⟩:=Ie (Ma.below da) z2;have xg:(w.alloc (.cells #[vd vn p,vd vq pub,vd vq vars,T] 25)).cell? ⟨b,q,vD⟩=vE (vd vn ((l.getD 0 0:Nat):Int)):=hc;have g1:(0:Int)<l.length:=by omega
 by_cases z3:l.getD 0 0=1
 rotate_left
 ·have d3:(((l.getD 0 0:Nat):Int) != 1)=true:=by rw [Df];omega
  have E:=zH (show Gh p vars l=false by unfold Gh;rw [d3];simp)
  rw [E.out];clear hc z3 Ma ra E;revert xg d3
  generalize l.getD 0 0=y;intro xg d3;go_enter func121,ntmps121
  go_wp2_with fail
  go_ret
  exact ⟨rfl,da⟩
 rw [z3] at xg;have E:=zH (show Gh p vars l=l.all fun x=>decide (x<p) by
  unfold Gh;rw [d1,z3,show ((l.length:Int) == 0)=false by rw [pd];omega]
  simp)
 have Wb:=zH ra;have Z1:=zH z1;clear hc z3 ra z1;go_enter func121,ntmps121
 go_wp2_with fail
 generalize w.alloc _=w0 at kt da xg Gb |-;clear xg Gb;go_loopw [20] (fun i wr=>∃ j:Nat,j <= l.length /\ i=vd vq j /\ Blk wr w.1.size 25 #[vd vn p,vd vq pub,vd vq vars,T] /\ vA w.1.size w wr /\ Hid (∀ k<j,l.getD k 0<p))
  (fun i _=>l.length-(intOf i).toNat)
 case atStart=>exact ⟨0,Lb _,rfl,kt,da,fun k hk=>by omega⟩
 case round =>
  clear kt da;obtain ⟨j,hj,rfl,kt,da,HB⟩:=hrel;have ct:=kt.cell;by_cases Tk:j<l.length
  ·obtain ⟨b',q',he,Io,hc⟩:=Ie (Ma.below da) Tk
   injection he with he
   injection he with he1 he2
   subst he1 he2;have g2:(0:Int)<=j:=by omega
   have g3:(j:Int)<l.length:=by omega
   have HL:=zH Tk;obtain ⟨y,hy⟩:=zEX (l.getD j 0);rw [<- hy] at hc;have HY:=zH hy;clear hy Tk;by_cases z4:p <= y
   ·have d4:decide ((p:Int)<=y)=true:=yb (by omega)
    have HA:Hid ((l.all fun x=>decide (x<p))=false):=zH (by
     refine bz.2 ⟨l[j]'HL.out,wg HL.out,?_⟩;have h1:=HY.out;simp [Jb,HL.out] at h1
     simp [<- h1]
     omega)
    have d4n:=yb z4;go_wp2_with fail
    go_ret
    exact ⟨by rw [E.out,HA.out];rfl,da⟩
   ·have d4:decide ((p:Int)<=y)=false:=xb (by omega)
    have HZ:=zH z4;have d4n:=xb z4;go_wp2_with fail
    go_roundw
    case rel =>
     refine ⟨j+1,HL.out,by go_num,kt,da,fun k hk=>?_⟩
     rcases Hg k j with h5 | h5
     ·exact HB.out k h5
     ·have e:k=j:=by omega
      subst e;have h1:=HY.out;have h2:=HZ.out;omega
    case measure=>have:=HL.out;simp [intOf];omega
  ·have HA:Hid ((l.all fun x=>decide (x<p))=true):=zH (by
    refine Xd.2 ?_;intro x hx;obtain ⟨k,hk,rfl⟩:=uo hx;have:=HB.out k (by omega)
    simpa [Jb,hk] using this)
   go_wp2;go_ret
   exact ⟨by rw [E.out,HA.out];rfl,da⟩
theorem zD1 (p:Nat) (pub vars:Int) (A B:Option vy) (n c m d:Nat) (rows:List Ya) (ws:List Nat) (w:vw) (hr:RSl 3 oe w [ve A n c] rows) (hw:RWd w [ve B m d] ws) :
  vB prog 58 #[sc p pub vars (ve A n c),ve B m d] w fun e w'=>e=vl (.bool (Zc p pub vars rows&&Gh p vars ws&&qw p rows ws)) /\ vA w.1.size w w':=by
 have HV:=zH (fun w' (hb:vA w.1.size w w')=>WL p pub vars A n c rows w' (Dg Bg _ _ _ _ hb hr))
 obtain ⟨bt,Nq⟩:=zEX (Zc p pub vars rows);obtain ⟨ba,tk⟩:=zEX (Gh p vars ws);obtain ⟨bs,yn⟩:=zEX (qw p rows ws);have HA:=zH (fun (h:bt=true) w' (hb:vA w.1.size w w')=>by
  have:=zDL p pub vars (ve A n c) B m d ws w' (Bb hb hw) (by
   rw [Nq] at h;simp only [Zc,Cc,il,qv] at h;omega)
  rw [<- tk] at this;exact this)
 have HU:=zH (fun (h:bt=true) w' (hb:vA w.1.size w w')=>by
  have:=zD6 p pub vars A B n c m d rows ws w' (Dg Bg _ _ _ _ hb hr) (Bb hb hw) (TF (by rw [Nq] at h;exact h))
  rw [<- yn] at this;exact this)
 rw [<- Nq] at HV;rw [<- Nq,<- tk,<- yn];clear Nq tk yn hr hw;unfold sc at *;have kt:=Blk.new w 25 #[vd vn p,vd vq pub,vd vq vars,ve A n c];have da:vA w.1.size w (w.alloc (.cells #[vd vn p,vd vq pub,vd vq vars,ve A n c] 25)):=(za _ _).alloc zR _;go_enter func58,ntmps58
 go_wp2_with fail
 generalize w.alloc _=w0 at kt da |-;refine (HV.out _ da).mono ?_;rintro e w1 ⟨rfl,Ca⟩;replace kt:=ia kt Ca;replace da:=ma da Ca;clear Ca;have ct:=kt.cell;cases bt
 ·go_wp2
  go_ret
  exact ⟨rfl,da⟩
 go_wp2_with fail
 refine (HA.out (by first | trivial | rfl) _ da).mono ?_
 rintro e w2 ⟨rfl,Aa⟩;replace kt:=ia kt Aa;replace da:=ma da Aa;clear Aa ct;have ct:=kt.cell;cases ba
 ·go_wp2
  go_ret
  exact ⟨rfl,da⟩
 go_wp2_with fail
 refine (HU.out (by first | trivial | rfl) _ da).mono ?_
 rintro e w3 ⟨⟨x,rfl,hx⟩,Ua⟩;go_wp2;go_ret
 exact ⟨by simp,ma da Ua⟩
end Go.Proofs.YteoghgbnielkpaaGreat
