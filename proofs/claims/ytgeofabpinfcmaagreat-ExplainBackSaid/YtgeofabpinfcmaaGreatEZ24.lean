/- A part of the proof. No condition. -/
import Derived.Test.YtgeofabpinfcmaaGreatProg
import Derived.Test.YtgeofabpinfcmaaGreatEZ22
import Derived.Test.YtgeofabpinfcmaaGreatEZ13
import Derived.Test.YtgeofabpinfcmaaGreatEZ17
import Derived.Test.YtgeofabpinfcmaaGreatEZ19

set_option maxRecDepth 100000
set_option maxHeartbeats 8000000
set_option linter.unusedVariables false
set_option linter.unusedSimpArgs false
namespace Go.Proofs.YtgeofabpinfcmaaGreat
def Sa (f:Nat -> Int):Nat -> Int
 | 0=>0
 | n+1=>Sa f n+f n
theorem su (a:Nat -> Int) (x:Int):∀ n,Xa a x n=Sa (fun i=>a i*x^i) n
 | 0=>rfl
 | n+1=>by rw [Xa,Sa,su a x n]
theorem Ti {p:Nat} {f g:Nat -> Int}:∀ n,(∀ i,i<n -> Cg p (f i) (g i)) -> Cg p (Sa f n) (Sa g n)
 | 0,_=>Cg.rfl'
 | n+1,h=>(Ti n fun i hi=>h i (by omega)).add (h n (by omega))
theorem jD (c:Int) (f:Nat -> Int):∀ n,c*Sa f n=Sa (fun i=>c*f i) n
 | 0=>by simp [Sa]
 | n+1=>by rw [Sa,Sa,Int.mul_add,jD c f n]
theorem Kz (f g:Nat -> Int):∀ n,Sa (fun i=>f i+g i) n=Sa f n+Sa g n
 | 0=>rfl
 | n+1=>by rw [Sa,Sa,Sa,Kz f g n];omega
theorem Mt:∀ n,Sa (fun _=>0) n=0
 | 0=>rfl
 | n+1=>by rw [Sa,Mt n];rfl
theorem Lz (f:Nat -> Nat -> Int) (m:Nat):∀ n,Sa (fun i=>Sa (fun k=>f i k) m) n=Sa (fun k=>Sa (fun i=>f i k) n) m
 | 0=>by simp only [Sa];rw [Mt]
 | n+1=>by
  rw [Sa,Lz f m n,<- Kz]
  rfl
theorem KI {p n q:Nat} {f:Nat -> Int} {y:Int} (hq:q<n) (h0:∀ k,k<n -> k≠q -> Cg p (f k) 0) (h1:Cg p (f q) y):Cg p (Sa f n) y:=by
 induction n with
 | zero=>omega
 | succ n ih =>
  rw [Sa];by_cases e:q=n
  ·subst e
   have hz:Cg p (Sa f q) (Sa (fun _=>0) q):=Ti q fun i hi=>h0 i (by omega) (by omega)
   rw [Mt] at hz;exact (hz.add h1).trans (Cg.of_eq (by omega))
  ·exact ((ih (by omega) fun k hk Bb=>h0 k (by omega) Bb).add (h0 n (by omega) (by omega))).trans (Cg.of_eq (by omega))
theorem cK:∀ n:Nat,Xa (fun _=>1) 1 n=(n:Int)
 | 0=>rfl
 | n+1=>by rw [Xa,cK n,Int.one_pow];omega
theorem JP {p j:Nat} {w v:Int} (hw:Cg p (w^(2^(j-1))) (-1)) (hv:Cg p (w*v) 1):Cg p (v^(2^(j-1))) (-1):=by
 have h1:=hv.pow (2^(j-1));rw [Int.mul_pow,Int.one_pow] at h1;have h2:=((hw.mul (Cg.rfl' (x:=v^(2^(j-1))))).symm.trans h1).neg;exact Cg.trans (Cg.of_eq (by omega)) h2
theorem FH {p:Nat} {w v:Int} (hv:Cg p (w*v) 1) (q:Nat):Cg p (v^q*w^q) 1:=by
 rw [<- Int.mul_pow,Int.mul_comm v w];exact (hv.pow q).trans (Cg.of_eq Int.one_pow)
theorem lX {p n j:Nat} (m:Nat -> Int) (w v s:Int) (hn:n=2^j) (hw:j=0 \/ Cg p (w^(2^(j-1))) (-1)) (hv:Cg p (w*v) 1) (hs:Cg p ((n:Int)*s) 1) (q:Nat) (hq:q<n) :
  Cg p (Xa (fun i=>s*Xa m (v^i) n) (w^q) n) (m q):=by
 have hx:∀ k,k<n -> k≠q -> Cg p (Xa (fun _=>1) (v^k*w^q) n) 0:=by
  intro k hk Bb;have hj:j≠0:=by rintro rfl;omega
  have ai:Cg p (w^(2^(j-1))) (-1):=hw.resolve_left hj;rcases Nat.lt_or_gt_of_ne Bb with h | h
  ·have e:Cg p (v^k*w^q) (w^(q-k)):=by
    obtain ⟨d,rfl⟩:∃ d,q=k+d:=⟨q-k,by omega⟩
    rw [Nat.add_sub_cancel_left,Int.pow_add,<- Int.mul_assoc];exact ((FH hv k).mul Cg.rfl').trans (Cg.of_eq (Int.one_mul _))
   rw [hn];exact (Dj (fun _=>Cg.rfl') e _).trans (IM ai (by omega) (by omega))
  ·have e:Cg p (v^k*w^q) (v^(k-q)):=by
    obtain ⟨d,rfl⟩:∃ d,k=q+d:=⟨k-q,by omega⟩
    rw [Nat.add_sub_cancel_left,Int.pow_add,Int.mul_assoc,Int.mul_comm (v^d),<- Int.mul_assoc];exact ((FH hv q).mul Cg.rfl').trans (Cg.of_eq (Int.one_mul _))
   rw [hn];exact (Dj (fun _=>Cg.rfl') e _).trans (IM (JP ai hv) (by omega) (by omega))
 have Xf:Cg p (Xa (fun _=>1) (v^q*w^q) n) (n:Int):=(Dj (fun _=>Cg.rfl') (FH hv q) n).trans (Cg.of_eq (cK n))
 have e1:Xa (fun i=>s*Xa m (v^i) n) (w^q) n=Sa (fun k=>s*m k*Xa (fun _=>1) (v^k*w^q) n) n:=by
  rw [su];have e2:(fun i=>s*Xa m (v^i) n*(w^q)^i)=fun i=>Sa (fun k=>s*m k*(v^k*w^q)^i) n:=by
   funext i
   rw [su,Int.mul_comm (s*_),<- Int.mul_assoc,jD]
   congr 1
   funext k
   rw [Int.mul_pow,<- Int.pow_mul (a:=v),<- Int.pow_mul (a:=v),Nat.mul_comm i k]
   grind
  rw [e2,Lz]
  congr 1
  funext k
  rw [su,jD]
  congr 1
  funext i
  rw [Int.one_mul]
 rw [e1];refine KI hq (fun k hk Bb=>?_) ?_
 ·exact (Cg.rfl'.mul (hx k hk Bb)).trans (Cg.of_eq (Int.mul_zero _))
 ·refine (Cg.rfl'.mul Xf).trans (Cg.trans (Cg.of_eq (y:=(n:Int)*s*m q) (by grind)) ?_)
  exact (hs.mul Cg.rfl').trans (Cg.of_eq (Int.one_mul _))
end Go.Proofs.YtgeofabpinfcmaaGreat
namespace Go.Proofs.YtgeofabpinfcmaaGreat
theorem bQ {p n j:Nat} (l:List Nat) (h:ab p=true) (hn:Vg p n) (hj:n=2^j) {i:Nat} (hi:i<n) :
  Cg p (Nj p n j l i:Int) (((n^(p-2)%p:Nat):Int)*Xa (fun k=>((l.getD k 0:Nat):Int)) (((ie p n^(p-2)%p:Nat):Int)^i) n):=by
 have hp:=Va h;have hv:j=0 \/ Cg p (((ie p n^(p-2)%p:Nat):Int)^(2^(j-1))) (-1):=(yI h hn hj).imp id fun h1=>JP h1 (oL h hn)
 have h1:=kH p (by omega) j (YC p l) (ie p n^(p-2)%p) hv i (by omega)
 rw [<- hj] at h1;refine (Cg.mod _).trans ?_;rw [Int.natCast_mul,Int.mul_comm];exact Cg.rfl'.mul (h1.trans (Dj (fun k=>Cg.mod _) Cg.rfl' n))
theorem aF {p:Nat} {a b:Nat -> Int} (x:Int):∀ n,(∀ i,i<n -> Cg p (a i) (b i)) -> Cg p (Xa a x n) (Xa b x n)
 | 0,_=>Cg.rfl'
 | n+1,h=>(aF x n fun i hi=>h i (by omega)).add ((h n (by omega)).mul Cg.rfl')
theorem mL {p n j:Nat} (l:List Nat) (h:ab p=true) (hn:Vg p n) (hj:n=2^j) {q:Nat} (hq:q<n) :
  Cg p (Xa (fun i=>(Nj p n j l i:Int)) ((ie p n:Int)^q) n) ((l.getD q 0:Nat):Int) :=
 (aF _ n fun _ hi=>bQ l h hn hj hi).trans (lX (fun k=>((l.getD k 0:Nat):Int)) _ _ _ hj (yI h hn hj) (oL h hn) (dQ h hj) q hq)
end Go.Proofs.YtgeofabpinfcmaaGreat
namespace Go.Proofs.YtgeofabpinfcmaaGreat
theorem fH {a b:Nat -> Int} (x:Int):∀ n,(∀ i,i<n -> a i=b i) -> Xa a x n=Xa b x n
 | 0,_=>rfl
 | n+1,h=>by rw [Xa,Xa,fH x n fun i hi=>h i (by omega),h n (by omega)]
theorem eH (a:Nat -> Nat) (k v:Nat) (x:Int):∀ n,k<n -> Xa (fun i=>(ef a k v i:Int)) x n=Xa (fun i=>(a i:Int)) x n+((v:Int)-a k)*x^k
 | 0,h=>by omega
 | n+1,h=>by
  rw [Xa,Xa];by_cases e:k=n
  ·subst e
   rw [fH (b:=fun i=>(a i:Int)) x k fun i hi=>by simp only [ef];rw [if_neg (by omega)]]
   simp only [ef,if_true]
   grind
  ·rw [eH a k v x n (by omega)]
   simp only [ef];rw [if_neg (by omega)]
   omega
theorem SI {p b:Nat} (hp:0<p) (l:List Nat) (x:Int) (m:Nat):∀ i,i <= m -> Cg p (Xa (fun k=>(pg p b l i k:Int)) x (b+m)) ((x^b-1)*Xa (fun k=>((l.getD k 0:Nat):Int)) x i)
 | 0,_=>by
  refine Cg.of_eq ?_;show Xa (fun k=>((0:Nat):Int)) x (b+m)=(x^b-1)*0
  rw [su,Int.mul_zero,<- Mt (b+m)]
  congr 1
  funext k
  simp
 | i+1,hi=>by
  have ih:=SI hp (b:=b) l x m i (by omega)
  rw [pg];rw [eH _ _ _ _ _ (by omega),eH _ _ _ _ _ (by omega),Xa]
  generalize ef (pg p b l i) i ((pg p b l i i+oc p (l.getD i 0))%p)=v;have h1:Cg p (((pg p b l i i+oc p (l.getD i 0))%p:Nat)-(pg p b l i i:Int)) (-((l.getD i 0:Nat):Int)):=by
   have:=((Cg.mod (p:=p) (pg p b l i i+oc p (l.getD i 0))).trans (Cg.trans (Cg.of_eq (Int.natCast_add _ _)) (Cg.rfl'.add (Nn p (l.getD i 0) hp)))).add (Cg.rfl' (x:=-(pg p b l i i:Int)));exact Cg.trans (Cg.of_eq (by omega)) (this.trans (Cg.of_eq (by omega)))
  have h2:Cg p (((v (b+i)+l.getD i 0)%p:Nat)-(v (b+i):Int)) ((l.getD i 0:Nat):Int):=by
   have:=((Cg.mod (p:=p) (v (b+i)+l.getD i 0)).trans (Cg.of_eq (Int.natCast_add _ _))).add (Cg.rfl' (x:=-(v (b+i):Int)));exact Cg.trans (Cg.of_eq (by omega)) (this.trans (Cg.of_eq (by omega)))
  refine ((ih.add (h1.mul Cg.rfl')).add (h2.mul Cg.rfl')).trans (Cg.of_eq ?_);rw [Int.pow_add]
  grind
end Go.Proofs.YtgeofabpinfcmaaGreat
namespace Go.Proofs.YtgeofabpinfcmaaGreat
theorem uN {p b:Nat} (hp:0<p) (hb:0<b) (l:List Nat):∀ i k,Cg p (pg p b l i k:Int) ((if b <= k /\ k<b+i then ((l.getD (k-b) 0:Nat):Int) else 0)-(if k<i then ((l.getD k 0:Nat):Int) else 0))
 | 0,k=>by
  rw [if_neg (by omega),if_neg (by omega)]
  exact Cg.of_eq rfl
 | i+1,k=>by
  have ih:=uN hp hb l i;rw [pg];simp only [ef];by_cases h1:k=b+i
  ·subst h1
   rw [if_pos rfl,if_neg (by omega),if_pos (by omega),Nat.add_sub_cancel_left]
   have h:=ih (b+i);rw [if_neg (by omega)] at h
   refine (Cg.mod _).trans (Cg.trans (Cg.of_eq (Int.natCast_add _ _)) ?_);by_cases h2:b+i<i+1
   ·omega
   ·rw [if_neg h2]
    rw [if_neg (by omega)] at h
    exact (h.add Cg.rfl').trans (Cg.of_eq (by omega))
  ·rw [if_neg h1]
   by_cases h2:k=i
   ·subst h2
    rw [if_pos rfl,if_pos (show k<k+1 by omega)]
    have h:=ih k;rw [if_neg (by omega:¬k<k)] at h
    refine (Cg.mod _).trans (Cg.trans (Cg.of_eq (Int.natCast_add _ _)) ?_);have e:(if b <= k /\ k<b+(k+1) then ((l.getD (k-b) 0:Nat):Int) else 0)=(if b <= k /\ k<b+k then ((l.getD (k-b) 0:Nat):Int) else 0):=by
     by_cases h3:b <= k
     ·rw [if_pos (by omega),if_pos (by omega)]
     ·rw [if_neg (by omega),if_neg (by omega)]
    rw [e];exact (h.add (Nn p _ hp)).trans (Cg.of_eq (by omega))
   ·rw [if_neg h2]
    have h:=ih k;refine h.trans (Cg.of_eq ?_)
    congr 1
    ·by_cases h3:b <= k /\ k<b+i
     ·rw [if_pos h3,if_pos (by omega)]
     ·rw [if_neg h3,if_neg (by omega)]
    ·by_cases h3:k<i
     ·rw [if_pos h3,if_pos (by omega)]
     ·rw [if_neg h3,if_neg (by omega)]
theorem PN (p b i:Nat):(De p b).getD i 0=if i<b+1 then Qr p b i else 0:=Qf _ _ _
theorem LQ {p b:Nat} (hp:1<p) (hb:0<b) (m:List Nat) (i:Nat):∀ j,j<b -> Cg p ((xg p (De p b) m (j+1)).getD i 0:Int) (-((m.getD i 0:Nat):Int))
 | 0,_=>by
  have hz:(De p b).getD 0 0=p-1:=by rw [PN,if_pos (by omega)];rfl
  rw [xg,Jk,iD,if_neg (by omega),Hz,hz]
  have e0:(xg p (De p b) m 0).getD i 0=0:=by rw [xg];rfl
  rw [e0,Nat.sub_zero];refine (Cg.mod _).trans ?_;rw [Nat.zero_add];refine (Cg.mod _).trans ?_;rw [Int.natCast_mul];have h1:Cg p ((p-1:Nat):Int) (-1):=⟨1,by omega⟩
  exact ((Cg.rfl' (x:=((m.getD i 0:Nat):Int))).mul h1).trans (Cg.of_eq (by omega))
 | j+1,hj=>by
  have hz:(De p b).getD (j+1) 0=0:=by
   rw [PN,if_pos (by omega),Qr,if_neg (by omega),if_neg (by omega)]
  rw [IQ _ _ _ _ hz];exact (Cg.mod _).trans (LQ hp hb m i j (by omega))
theorem cY {p b:Nat} (hp:1<p) (hb:0<b) (m:List Nat) (i:Nat):Cg p ((Be p (De p b) m).getD i 0:Int) ((if b <= i then ((m.getD (i-b) 0:Nat):Int) else 0)-((m.getD i 0:Nat):Int)):=by
 have hz:(De p b).getD b 0=1:=by rw [PN,if_pos (by omega),Qr,if_neg (by omega),if_pos rfl]
 obtain ⟨c,rfl⟩:∃ c,b=c+1:=⟨b-1,by omega⟩
 rw [Be,Ut,xg,Jk,iD,Hz,hz,Nat.mul_one];have h:=LQ hp hb m i c (by omega)
 refine (Cg.mod _).trans (Cg.trans (Cg.of_eq (Int.natCast_add _ _)) ?_);by_cases h1:i<c+1
 ·rw [if_pos h1,if_neg (by omega)]
  exact (h.add Cg.rfl').trans (Cg.of_eq (by omega))
 ·rw [if_neg h1,if_pos (by omega)]
  exact (h.add (Cg.mod _)).trans (Cg.of_eq (by omega))
theorem MQ {p b:Nat} (hp:1<p) (hb:0<b) (m:List Nat) (i:Nat):(Be p (De p b) m).getD i 0=pg p b m m.length i:=by
 refine Cg.eq (p:=p) ((cY hp hb m i).trans (Cg.trans (Cg.of_eq ?_) (uN (by omega) hb m m.length i).symm)) (aY (by omega) _ _ _ _) (Mz (by omega) _ _ _)
 congr 1
 ·by_cases h1:b <= i
  ·rw [if_pos h1]
   by_cases h2:i<b+m.length
   ·rw [if_pos ⟨h1,h2⟩]
   ·rw [if_neg (by omega),ym (by omega)];rfl
  ·rw [if_neg h1,if_neg (by omega)]
 ·by_cases h1:i<m.length
  ·rw [if_pos h1]
  ·rw [if_neg h1,ym (by omega)];rfl
theorem xK {p a b:Nat}:∀ k,Cg p (tu p a b k:Int) ((a:Int)*(b:Int)^k)
 | 0=>Cg.of_eq (by rw [tu,Int.pow_zero,Int.mul_one])
 | k+1=>by
  rw [tu];refine (Cg.mod _).trans ?_;rw [Int.natCast_mul,Int.pow_succ,<- Int.mul_assoc];exact (xK k).mul Cg.rfl'
theorem FD {p s n:Nat} (k:Nat):Cg p (Vb p s n k:Int) ((s:Int)*(ie p n:Int)^k):=(xK k).trans ((Cg.mod s).mul Cg.rfl')
theorem JD (a:Nat -> Int) (x:Int):∀ n,Xa a x (n+1)=a 0+x*Xa (fun i=>a (i+1)) x n
 | 0=>by simp [Xa]
 | n+1=>by
  rw [Xa,JD a x n,Xa,Int.pow_succ]
  grind
theorem CF {p x:Nat}:∀ l:List Nat,Cg p (ug p x l:Int) (Xa (fun i=>((l.getD i 0:Nat):Int)) (x:Int) l.length)
 | []=>Cg.rfl'
 | c :: l=>by
  rw [ug,List.length_cons,JD];refine (Cg.mod _).trans (Cg.trans (Cg.of_eq (Int.natCast_add _ _)) ?_);refine (((Cg.mod (ug p x l*x)).trans (Cg.trans (Cg.of_eq (Int.natCast_mul _ _)) ((CF l).mul Cg.rfl'))).add Cg.rfl').trans (Cg.of_eq ?_);show Xa (fun i=>((l.getD i 0:Nat):Int)) (x:Int) l.length*(x:Int)+(c:Int)=(c:Int)+(x:Int)*Xa (fun i=>((l.getD i 0:Nat):Int)) (x:Int) l.length
  rw [Int.mul_comm,Int.add_comm]
theorem FR {p x:Nat}:∀ k,Cg p (yg p x k:Int) ((x:Int)^k)
 | 0=>Cg.rfl'
 | k+1=>by
  rw [yg];refine (Cg.mod _).trans ?_;rw [Int.natCast_mul,Int.pow_succ];exact (FR k).mul Cg.rfl'
theorem fP {p x:Nat} (l:List Nat):∀ k,Cg p (evS p l (yg p x) k:Int) (Xa (fun i=>((l.getD i 0:Nat):Int)) (x:Int) k)
 | 0=>Cg.rfl'
 | k+1=>by
  rw [evS,Xa];refine (Cg.mod _).trans (Cg.trans (Cg.of_eq (Int.natCast_add _ _)) ?_);refine (fP l k).add ((Cg.mod _).trans ?_);rw [Int.natCast_mul];exact Cg.rfl'.mul (FR k)
theorem Ey {p x:Nat} (l:List Nat):Cg p (Bc p l x:Int) (Xa (fun i=>((l.getD i 0:Nat):Int)) (x:Int) l.length):=fP l _
theorem qn {p:Nat} (hp:0<p) (l:List Nat) (x:Nat):Bc p l x<p:=by
 rw [Bc];cases l.length with
 | zero=>exact hp
 | succ k=>exact Nat.mod_lt _ hp
theorem oX {p n i:Nat} {w v:Int} (h1:Cg p (w^n) 1) (h2:Cg p (w*v) 1) (hi:i<n):Cg p (w^((n-i)%n)) (v^i):=by
 have h3:Cg p (w^((n-i)%n)*w^i) 1:=by
  rcases Nat.eq_zero_or_pos i with h | h
  ·subst h
   rw [Nat.sub_zero,Nat.mod_self];exact Cg.of_eq (by simp)
  ·rw [Nat.mod_eq_of_lt (by omega),<- Int.pow_add,show n-i+i=n by omega]
   exact h1
 have h4:=FH h2 i;have h5:Cg p (w^((n-i)%n)) (w^((n-i)%n)*(v^i*w^i)):=(Cg.of_eq (Int.mul_one _).symm).trans (Cg.rfl'.mul h4.symm);refine h5.trans ((Cg.of_eq ?_).trans ((h3.mul Cg.rfl').trans (Cg.of_eq (Int.one_mul _))));rw [Int.mul_comm (v^i),Int.mul_assoc]
theorem kL {p j:Nat} (l:List Nat) (h:ab p=true) (hn:Vg p l.length) (hj:l.length=2^j) {i:Nat} (hi:i<l.length):Lm p l 1 i=Nj p l.length j l i:=by
 have hp:=Va h;refine Cg.eq (p:=p) ?_ (Nat.mod_lt _ (by omega)) (Nat.mod_lt _ (by omega))
 refine Cg.trans ?_ (bQ l h hn hj hi).symm;refine (Cg.mod _).trans ?_;rw [Int.natCast_mul,Int.mul_comm];have e1:(1%p)^(p-2)%p=1:=by rw [Nat.mod_eq_of_lt (show 1<p by omega),Nat.one_pow,Nat.mod_eq_of_lt (by omega)]
 rw [e1];refine Cg.mul ((xK i).trans (Cg.of_eq ?_)) ?_
 ·rw [show ((1:Nat):Int)=1 from rfl,Int.one_pow,Int.mul_one]
 ·rw [jL]
  refine (CF l).trans (Dj (fun _=>Cg.rfl') ?_ _)
  refine (FD _).trans (Cg.trans (Cg.of_eq ?_) (oX (zI h hn) (oL h hn) hi));exact Int.one_mul _
def Bi (L:Ja) (msg masks:List Nat):List Nat:=(List.range (L.block+masks.length)).map (oq L msg masks)
def Pg (L:Ja) (q:List Nat):List Nat:=(List.range (L.block+q.length)).map (pg L.p L.block q q.length)
theorem LS {L:Ja} (hL:Db L) {msg masks:List Nat} (h1:msg.length=L.block) (h2:masks.length=L.queries):tq L msg masks=Bi L msg masks:=by
 have hp:=Va hL.p;have hb:=hL.b1;have hk:=hL.k;obtain ⟨hlen,j,hj⟩:=Uk hL;have En:L.block.log2=j:=by rw [hj];exact Nat.log2_two_pow
 have fj:(tq L msg masks).length=L.block+masks.length:=by
  rw [tq,Uu];have h3:=nn L.p ((List.range msg.length).map (Lm L.p msg 1)) (Be L.p (De L.p L.block) masks);have h4:=Dr L.p (De L.p L.block) masks;rw [Ut] at h4;rw [List.length_map,List.length_range] at h3;omega
 refine Om (by rw [fj,Bi,List.length_map,List.length_range]) fun i hi=>?_
 rw [fj] at hi;rw [tq,Ir,Jk,Qf,MQ (by omega) (by omega),Bi,Qf,if_pos hi,oq,Dz]
 by_cases h3:i<L.block
 ·rw [if_pos (by omega),if_pos h3,En,kL (j:=j) msg hL.p (by rw [h1];exact hlen) (by rw [h1];exact hj) (by omega),h1,Nat.add_comm]
 ·rw [if_neg (by omega),if_neg h3,Nat.zero_add]
  exact Nat.mod_eq_of_lt (Mz (by omega) _ _ _)
theorem Dx {L:Ja} (hL:Db L) {q:List Nat} (h:q.length=L.block+2*L.queries-1):Gg L q=Pg L q:=by
 have hp:=Va hL.p;have hb:=hL.b1;have hk:=hL.k;have fj:(Gg L q).length=L.block+q.length:=by
  rw [Gg,Uu];have h4:=Dr L.p (De L.p L.block) q;rw [Ut] at h4;omega
 refine Om (by rw [fj,Pg,List.length_map,List.length_range]) fun i hi=>?_
 rw [fj] at hi;rw [Gg,Ir,MQ (by omega) (by omega),Pg,Qf,if_pos hi]
end Go.Proofs.YtgeofabpinfcmaaGreat
namespace Go.Proofs.YtgeofabpinfcmaaGreat
theorem dK {p nb:Nat} (A B:Nat -> Nat) (x:Int):∀ n,Cg p (Xa (fun k=>(Dz p nb A B k:Int)) x n) (Xa (fun k=>(A k:Int)) x n+Xa (fun k=>(B k:Int)) x (min n nb))
 | 0=>by rw [Nat.zero_min];exact Cg.rfl'
 | n+1=>by
  have ih:=dK A B x (p:=p) (nb:=nb) n;rw [Xa,Xa];by_cases h:n<nb
  ·rw [show min (n+1) nb=n+1 by omega,Xa,Dz,if_pos h]
   rw [show min n nb=n by omega] at ih
   refine (ih.add (((Cg.mod (A n+B n)).trans (Cg.of_eq (Int.natCast_add _ _))).mul (Cg.rfl' (x:=x^n)))).trans (Cg.of_eq ?_);rw [Int.add_mul];omega
  ·rw [show min (n+1) nb=nb by omega,Dz,if_neg h]
   rw [show min n nb=nb by omega] at ih
   exact (ih.add Cg.rfl').trans (Cg.of_eq (by omega))
theorem ID (f:Nat -> Nat) (x:Int) (n:Nat):Xa (fun i=>((((List.range n).map f).getD i 0:Nat):Int)) x n=Xa (fun i=>(f i:Int)) x n :=
 fH x n fun i hi=>by rw [Qf,if_pos hi]
theorem GM {p n:Nat} (h:ab p=true) (hn:Vg p n) (k:Nat):Cg p (((ie p n:Int)^k)^n) 1:=by
 rw [<- Int.pow_mul,Nat.mul_comm,Int.pow_mul];exact ((zI h hn).pow k).trans (Cg.of_eq Int.one_pow)
theorem QA {p n k:Nat}:Cg p (Vb p 1 n k:Int) ((ie p n:Int)^k):=FD k |>.trans (Cg.of_eq (Int.one_mul _))
theorem kQ {p:Nat} {x:Int} (h:Cg p x 1):Cg p (x-1) 0:=by
 obtain ⟨c,hc⟩:=h;exact ⟨c,by rw [<- hc];omega⟩
theorem W1 {L:Ja} (hL:Db L) {msg masks:List Nat} (hm:∀ i,msg.getD i 0<L.p) {k:Nat} (hk:k<L.block):Bc L.p (Bi L msg masks) (Vb L.p 1 L.block k)=msg.getD k 0:=by
 have hp:=Va hL.p;obtain ⟨hlen,j,hj⟩:=Uk hL;have En:L.block.log2=j:=by rw [hj];exact Nat.log2_two_pow
 refine Cg.eq (p:=L.p) ?_ (qn (by omega) _ _) (hm k)
 refine (Ey _).trans ?_;have hl:(Bi L msg masks).length=L.block+masks.length:=by rw [Bi,List.length_map,List.length_range]
 rw [hl,Bi,ID];refine (Dj (fun _=>Cg.rfl') QA _).trans ?_
 refine (dK _ _ _ _).trans ?_;rw [show min (L.block+masks.length) L.block=L.block by omega]
 have hv:=SI (p:=L.p) (b:=L.block) (by omega) masks ((ie L.p L.block:Int)^k) masks.length masks.length zR
 have h0:Cg L.p (((ie L.p L.block:Int)^k)^L.block-1) 0:=kQ (GM hL.p hlen k);have hi:=mL (q:=k) msg hL.p hlen hj hk;rw [En];refine ((hv.trans (h0.mul Cg.rfl')).add hi).trans (Cg.of_eq ?_);rw [Int.zero_mul,Int.zero_add]
theorem PR {L:Ja} (hL:Db L) (q:List Nat) (k:Nat):Bc L.p (Pg L q) (Vb L.p 1 L.block k)=0:=by
 have hp:=Va hL.p;obtain ⟨hlen,j,hj⟩:=Uk hL;refine Cg.eq (p:=L.p) ?_ (qn (by omega) _ _) (by omega)
 refine (Ey _).trans ?_;have hl:(Pg L q).length=L.block+q.length:=by rw [Pg,List.length_map,List.length_range]
 rw [hl,Pg,ID];refine (Dj (fun _=>Cg.rfl') QA _).trans ?_
 have hv:=SI (p:=L.p) (b:=L.block) (by omega) q ((ie L.p L.block:Int)^k) q.length q.length zR
 have h0:Cg L.p (((ie L.p L.block:Int)^k)^L.block-1) 0:=kQ (GM hL.p hlen k);refine (hv.trans (h0.mul Cg.rfl')).trans (Cg.of_eq ?_);rw [Int.zero_mul]
 rfl
def Nt (p:Nat) (f:Nat -> Nat):Nat -> Nat
 | 0=>0
 | k+1=>(Nt p f k+f k)%p
theorem lG {p:Nat} (f:Nat -> Nat):∀ k,Cg p (Nt p f k:Int) (Sa (fun i=>(f i:Int)) k)
 | 0=>Cg.rfl'
 | k+1=>by
  rw [Nt,Sa];exact (Cg.mod _).trans (Cg.trans (Cg.of_eq (Int.natCast_add _ _)) ((lG f k).add Cg.rfl'))
theorem sT {p:Nat} (hp:0<p) (f:Nat -> Nat):∀ k,Nt p f k<p
 | 0=>hp
 | _+1=>Nat.mod_lt _ hp
theorem jM {p n:Nat} {x:Int} (h:Cg p (x^n) 1) (i:Nat):Cg p (x^i) (x^(i%n)):=by
 have e:=Nat.div_add_mod i n;rw [<- e];rw [Int.pow_add,Int.pow_mul,Nat.mul_add_mod,Nat.mod_mod];exact ((h.pow _).mul Cg.rfl').trans (Cg.of_eq (by rw [Int.one_pow,Int.one_mul]))
theorem iY {p n:Nat} (h:ab p=true) (hn:Vg p n) (i:Nat):Cg p (Xa (fun _=>1) ((ie p n:Int)^i) n) (if i%n=0 then (n:Int) else 0):=by
 obtain ⟨j,hj⟩:=hn.two;have h1:=jM (zI h hn) i;refine (Dj (fun _=>Cg.rfl') h1 n).trans ?_
 split
 ·rename_i h0
  rw [h0,Int.pow_zero];exact Cg.of_eq (cK n)
 ·rename_i h0
  have za:i%n<n:=Nat.mod_lt _ hn.pos;rcases yI h hn hj with h2 | h2
  ·subst h2
   rw [hj] at h0 za;omega
  ·have:=IM (p:=p) (j:=j) (d:=i%n) h2 (by omega) (by rw [<- hj];exact za)
   rw [<- hj] at this;exact this
theorem L5 {p n m:Nat} (h:ab p=true) (hn:Vg p n) (a:Nat -> Int):Cg p (Sa (fun k=>Xa a ((ie p n:Int)^k) m) n) ((n:Int)*Sa (fun i=>if i%n=0 then a i else 0) m):=by
 have e1:Sa (fun k=>Xa a ((ie p n:Int)^k) m) n=Sa (fun i=>a i*Xa (fun _=>1) ((ie p n:Int)^i) n) m:=by
  have e2:(fun k=>Xa a ((ie p n:Int)^k) m)=fun k=>Sa (fun i=>a i*((ie p n:Int)^k)^i) m:=by funext k;rw [su]
  rw [e2,Lz]
  congr 1
  funext i
  rw [su,jD]
  congr 1
  funext k
  rw [Int.one_mul,<- Int.pow_mul,<- Int.pow_mul,Nat.mul_comm]
 rw [e1,jD];refine Ti m fun i _=>?_
 refine (Cg.rfl'.mul (iY h hn i)).trans (Cg.of_eq ?_);split
 ·rw [Int.mul_comm]
 ·rw [Int.mul_zero,Int.mul_zero]
theorem dN {g:Nat -> Int} {s:Nat}:∀ t,(∀ i,i<t -> g (s+i)=0) -> Sa g (s+t)=Sa g s
 | 0,_=>rfl
 | t+1,h=>by
  rw [<- Nat.add_assoc,Sa,dN t fun i hi=>h i (by omega),h t (by omega)]
  omega
theorem tT {n:Nat} (hn:0<n) (a:Nat -> Int):∀ q,Sa (fun i=>if i%n=0 then a i else 0) (q*n+1)=a 0+Sa (fun k=>a ((k+1)*n)) q
 | 0=>by
  rw [Nat.zero_mul];simp [Sa]
 | q+1=>by
  have h1:=tT hn a q;have h2:=dN (g:=fun i=>if i%n=0 then a i else 0) (s:=q*n+1) (n-1) fun i hi=>by
   rw [if_neg];rw [show q*n+1+i=(1+i)+n*q by rw [Nat.mul_comm];omega,Nat.add_mul_mod_self_left,Nat.mod_eq_of_lt (by omega)]
   omega
  rw [Nat.succ_mul,show q*n+n+1=(q*n+1+(n-1))+1 by omega,Sa,h2,h1,show q*n+1+(n-1)=(q+1)*n by rw [Nat.succ_mul];omega,Sa]
  rw [if_pos (Nat.mul_mod_left _ _)];omega
theorem rL {p b:Nat} (hp:0<p) (l:List Nat):∀ q,Cg p (Ol p b l q:Int) (-(Sa (fun k=>((l.getD ((k+1)*b-1) 0:Nat):Int)) q))
 | 0=>Cg.rfl'
 | q+1=>by
  rw [Ol,Sa];refine (Cg.mod _).trans (Cg.trans (Cg.of_eq (Int.natCast_add _ _)) ?_);exact ((rL hp l q).add (Nn p _ hp)).trans (Cg.of_eq (by omega))
theorem pQ {L:Ja} (hL:Db L) (l:List Nat):Nt L.p (fun k=>Bc L.p (Bd L l) (Vb L.p 1 L.block k)) L.block=0:=by
 have hp:=Va hL.p;have hb:=hL.b1;obtain ⟨hlen,j,hj⟩:=Uk hL;refine Cg.eq (p:=L.p) ?_ (sT (by omega) _ _) (by omega)
 refine (lG _ _).trans ?_;refine (Ti (g:=fun k=>Xa (fun i=>(((Bd L l).getD i 0:Nat):Int)) ((ie L.p L.block:Int)^k) (Bd L l).length) L.block fun k _=>(Ey _).trans (Dj (fun _=>Cg.rfl') QA _)).trans ?_
 refine (L5 hL.p hlen _).trans ?_;have hl:(Bd L l).length=l.length / L.block*L.block+1+l.length%L.block:=by
  have:=Nat.div_add_mod l.length L.block;rw [Bd,List.length_cons,Nat.mul_comm];omega
 have hf:=dN (g:=fun i=>if i%L.block=0 then (((Bd L l).getD i 0:Nat):Int) else 0) (s:=l.length / L.block*L.block+1) (l.length%L.block) fun i hi=>by
  have hm:l.length%L.block<L.block:=Nat.mod_lt _ (by omega)
  rw [if_neg];rw [show l.length / L.block*L.block+1+i=(1+i)+L.block*(l.length / L.block) by rw [Nat.mul_comm];omega,Nat.add_mul_mod_self_left,Nat.mod_eq_of_lt (by omega)]
  omega
 rw [hl,hf,tT (by omega)]
 have e0:((((Bd L l).getD 0 0:Nat):Int))=(Ol L.p L.block l (l.length / L.block):Int):=rfl;have e1:(fun k=>(((Bd L l).getD ((k+1)*L.block) 0:Nat):Int))=fun k=>((l.getD ((k+1)*L.block-1) 0:Nat):Int):=by
  funext k
  have:0<(k+1)*L.block:=Nat.mul_pos (by omega) (by omega)
  obtain ⟨c,hc⟩:∃ c,(k+1)*L.block=c+1:=⟨(k+1)*L.block-1,by omega⟩
  rw [hc,Bd,Nat.add_sub_cancel]
  rfl
 rw [e0,e1];refine (Cg.rfl'.mul (((rL (by omega) l _).add Cg.rfl').trans (Cg.of_eq (Int.add_left_neg _)))).trans (Cg.of_eq ?_)
 rw [Int.mul_zero]
 rfl
theorem XN {p n:Nat} (hn:0<n) (l:List Nat) (s:Nat) (x:Int) (hx:Cg p (x^n) 1):∀ i,Cg p (Xa (fun k=>(Bj p n l s i k:Int)) x n) (Xa (fun k=>((l.getD k 0:Nat):Int)) ((s:Int)*x) i)
 | 0=>by
  refine Cg.of_eq ?_;show Xa (fun k=>((0:Nat):Int)) x n=0
  rw [su,<- Mt n]
  congr 1
  funext k
  simp
 | i+1=>by
  have ih:=XN hn l s x hx i;rw [Bj,eH _ _ _ _ _ (Nat.mod_lt _ hn),Xa];refine ih.add ?_;have h1:Cg p (((Bj p n l s i (i%n)+l.getD i 0*Pn p s i%p)%p:Nat)-(Bj p n l s i (i%n):Int)) (((l.getD i 0:Nat):Int)*(s:Int)^i):=by
   have h2:Cg p ((l.getD i 0*Pn p s i%p:Nat):Int) (((l.getD i 0:Nat):Int)*(s:Int)^i):=(Cg.mod _).trans (Cg.trans (Cg.of_eq (Int.natCast_mul _ _)) (Cg.rfl'.mul (ZH p s i)));have h3:=((Cg.mod (p:=p) (Bj p n l s i (i%n)+l.getD i 0*Pn p s i%p)).trans (Cg.trans (Cg.of_eq (Int.natCast_add _ _)) (Cg.rfl'.add h2))).add (Cg.rfl' (x:=-(Bj p n l s i (i%n):Int)));exact Cg.trans (Cg.of_eq (by omega)) (h3.trans (Cg.of_eq (by omega)))
  refine (h1.mul (jM hx i).symm).trans (Cg.of_eq ?_);rw [Int.mul_pow,Int.mul_assoc]
theorem dF {p n j s k:Nat} (h:ab p=true) (hn:Vg p n) (hj:n=2^j) (l:List Nat) (hk:k<n):Fi p n j l s k=Bc p l (Vb p s n k):=by
 have hp:=Va h;refine Cg.eq (p:=p) ?_ (eF (by omega) _ _ _ _ _) (qn (by omega) _ _)
 have h1:=kH p (by omega) j (Bj p n l (s%p) l.length) (ie p n) (yI h hn hj) k (by rw [<- hj];exact hk)
 rw [<- hj] at h1;refine h1.trans ((XN hn.pos l _ _ (GM h hn k) _).trans (Cg.trans ?_ (Ey l).symm));exact Dj (fun _=>Cg.rfl') ((((Cg.mod s).mul Cg.rfl')).trans (FD k).symm) _
end Go.Proofs.YtgeofabpinfcmaaGreat
namespace Go.Proofs.YtgeofabpinfcmaaGreat
open Go.RowKit
theorem VU {p:Nat} {pub vars:Int} {rows:List Cb} {ws:List Nat} (ht:dd p pub vars rows=true) (ha:Dd p vars ws=true) :
  ∃ pu:Nat,pub=(pu:Int) /\ 1+pu <= ws.length /\ rows.length <= 16384 /\ ∀ x∈ws,x<p:=by
 simp only [dd,Bool.and_eq_true,Bool.not_eq_true',decide_eq_false_iff_not] at ht;simp only [Dd,Bool.and_eq_true,Bool.not_eq_true',bne_eq_false_iff_eq,List.all_eq_true] at ha;obtain ⟨⟨⟨⟨⟨-,h1⟩,h2⟩,-⟩,h4⟩,-⟩:=ht;obtain ⟨⟨⟨h5,-⟩,-⟩,h6⟩:=ha;refine ⟨pub.toNat,by omega,by omega,by omega,fun x hx=>?_⟩
 have:=h6 x hx;simp at this
 omega
theorem wV (B:Nat) (v:List Nat) (n:Nat):(ak B v n).length=n:=by simp [ak]
theorem Qq (B:Nat) (l:Nat -> List Nat) (ps:Nat -> Nat):∀ i,(Vh B l ps (i+1)).length=(Vh B l ps i).length+ps i:=fun i=>by rw [DD,List.length_append,wV]
theorem Vk (L:Ja) (rows:List Cb) (ws:List Nat) (pu:Nat):(Ia L rows ws pu).length=L.a+L.b+L.b+L.b:=by
 unfold Ia sj;rw [Qq,Qq,Qq,Qq];show 0+L.a+L.b+L.b+L.b=_
 omega
theorem YG {B:Nat} {l:Nat -> List Nat} {ps:Nat -> Nat} {r:List Nat} (h:r∈sj B l ps):∃ i k,i<4 /\ k<ps i /\ r=Al B (l i) k:=by
 unfold sj Vh at h;obtain ⟨i,hi,hr⟩:=List.mem_flatMap.1 h;obtain ⟨k,hk,rfl⟩:=List.mem_map.1 hr;exact ⟨i,k,List.mem_range.1 hi,List.mem_range.1 hk,rfl⟩
theorem qx {L:Ja} {rows:List Cb} {ws:List Nat} {pu:Nat} {r:List Nat} (h:r∈Ia L rows ws pu):r.length=L.block:=by
 obtain ⟨i,k,-,-,rfl⟩:=YG h;simp [Al]
theorem Wg {l:List Nat} {p:Nat} (hp:0<p) (h:∀ x∈l,x<p) (i:Nat):l.getD i 0<p:=by
 rw [List.getD_eq_getElem?_getD];cases e:l[i]? with
 | none=>exact hp
 | some x=>exact h x (List.mem_of_getElem? e)
theorem ZX {L:Ja} {rows:List Cb} {ws:List Nat} {pu:Nat} (hp:0<L.p) (hw:∀ x∈ws,x<L.p) {r:List Nat} (h:r∈Ia L rows ws pu) (j:Nat):r.getD j 0<L.p:=by
 obtain ⟨i,k,hi,-,rfl⟩:=YG h;rw [Al,Qf];split
 ·refine Wg hp ?_ _
  rcases (show i=0 \/ i=1 \/ i=2 \/ i=3 by omega) with rfl | rfl | rfl | rfl
  ·exact fun x hx=>hw x (List.mem_of_mem_drop hx)
  all_goals
   intro x hx;obtain ⟨r,-,rfl⟩:=List.mem_map.1 hx;exact xL hp _ _
 ·exact hp
theorem nI (A:Option Addr) (n c m:Nat) (l:List Nat) (w:World) (hl:RWd w [.slice A n c] l) (hn:n <= 100000) (hm:m <= 100000) :
  Calls Tryz.prog 200 #[.slice A n c, .int .i64 m] w fun e w'=>∃ v,e= .returned v /\ w'.ownsRow w.heap.size 22 1 v (Te l m).length (Fa (Te l m)) /\ Below w.heap.size w w':=by
 obtain ⟨rfl,h1,h2,za,La⟩:=Ra hl;have ma:=(Below.refl w.heap.size w).alloc zR (.cells #[] 22);have HS:=zH (show ∀ k,l++List.replicate k 0++[0]=l++List.replicate (k+1) 0 from fun k=>by rw [List.append_assoc,List.replicate_succ'])
 have HP:=zH (show Te l m=l++List.replicate (m-l.length) 0 from rfl)
 rw [HP.out];obtain ⟨f,hf⟩:=zEX (fun k=>l++List.replicate k 0)
 have H0:=zH (show f 0=l by rw [hf];simp)
 have HF:=zH (show ∀ k,f k++[0]=f (k+1) from fun k=>by rw [hf];exact HS.out k)
 rw [show l++List.replicate (m-l.length) 0=f (m-l.length) by rw [hf]]
 clear HS HP hf za h1 h2 hl;go_enter Tryz.func200,Tryz.ntmps200
 go_wp2_with (at_builtin;refine Mf rfl _ _ rfl xf rfl (Wk w 22 zR) rfl (La.alloc _) (mg l) (by omega) (by simp) ?_)
 intro v1 w1 ra Ma Lb;have hB:=Ae (Wk w 22 zR) Ma (by simp)
 replace hB:=ma.trans hB;obtain ⟨t,ht⟩:=zEX (l.length);have zk:w1.ownsRow w.heap.size 22 1 v1 t (Fa (f 0)):=by
  rw [H0.out,ht];simpa using ra
 have HT:=zH ht;clear Ma Lb ra ma ht La;go_wp2_with fail
 go_loopw [5] (fun v wr=>∃ k s:Nat,Hid (s=t+k /\ (k=0 \/ s <= m)) /\ s <= 200000 /\ wr.ownsRow w.heap.size 22 1 v s (Fa (f k)) /\ Below w.heap.size w wr) (fun v _=>match v with | .slice _ n _=>m-n | _=>0)
 case atStart=>exact ⟨0,t,zH ⟨rfl, .inl rfl⟩,by have:=HT.out;omega,zk,hB⟩
 case round =>
  clear zk hB;obtain ⟨k,s,HK,hs,ra,hb⟩:=hrel;obtain ⟨A1,c1,rfl,-⟩:=Ob ra;by_cases za:s<m
  ·have g1:(s:Int)<(m:Int):=by omega
   have Yd:=zH (HF.out k);go_wp2_with (at_builtin;refine Mf rfl _ _ rfl xf rfl (ra.alloc _) rfl (Lf _ _ _) (mg [0]) (by omega) (by simp;have:=hb.size;omega) ?_)
   intro v' wn db Ma Lb;have ma:=(Below.refl wr.heap.size wr).alloc zR (.cells #[.int .u64 (0:Int)] 22);have hB:=Ae (ra.alloc _) Ma (by simp;have:=hb.size;omega)
   replace hb:=(Uh hb ma hb.size).trans hB;replace ra:wn.ownsRow w.heap.size 22 1 v' (s+1) (Fa (f (k+1))):=Qi (b:=[0]) db Yd.out;clear db Ma Lb ma hB;obtain ⟨A2,c2,rfl,-⟩:=Ob ra;go_wp2
   go_roundw
   case rel=>exact ⟨k+1,s+1,zH (by have:=HK.out;omega),by omega,ra,hb⟩
   case measure=>simp;omega
  ·have g1:¬((s:Int)<(m:Int)):=by omega
   have HE:=zH (show f k=f (m-l.length) by
    have h:=HK.out;have h2:=HT.out;rcases h.2 with h3 | h3
    ·rw [h3,show m-l.length=0 by omega]
    ·rw [show k=m-l.length by omega])
   rw [HE.out] at ra;have Hk:=zH (show (f (m-l.length)).length=s by
    have:=ra.1
    simpa [Fa] using this)
   go_wp2;go_ret
   exact ⟨_,rfl,by rw [Hk.out];exact ra,hb⟩
theorem qS (L:Ja) (A B:Option Addr) (n c m d:Nat) (msg masks:List Nat) (w:World) (hL:Db L) (hl:RWd w [.slice A n c] msg) (hk:RWd w [.slice B m d] masks) (hn:n=L.block) (hm:m <= 30000) :
  Calls Tryz.prog 122 #[.agg (Ya L), .slice A n c, .slice B m d] w fun e w'=>∃ v,e= .returned v /\ w'.ownsRow w.heap.size 22 1 v (tq L msg masks).length (Fa (tq L msg masks)) /\ Below w.heap.size w w':=by
 obtain ⟨jc,Kb⟩:=Va hL.p;have Ka:=hL.b2;have Ld:L.k <= 400:=by have:=hL.k;have:=hL.q2;omega
 obtain ⟨hlen,-⟩:=Uk hL;have Ud:=(Ra hk).1;have ot:=(Ra hl).1;subst hn;have HI:=zH (fun w' (hb:Below w.heap.size w w')=>xM L.p 1 L.block A c msg w' hL.p (ta hb hl) hlen (by rw [Nat.mod_eq_of_lt (by omega)];decide))
 have HZ:=zH (fun w=>sI L w hL)
 have HM:=zH (fun A n c w' (hb:Below w.heap.size w w') ha hn=>WC L.p A B n c m d (De L.p L.block) masks w' hL.p ha (ta hb hk) hn (by omega))
 have HA:=zH (fun A B n c m d a b w ha hb hn hm=>Ex L.p A B n c m d a b w hL.p ha hb hn hm)
 have HP:=zH (fun A n c l w hl hn=>nI A n c L.k l w hl hn (by omega))
 have HIL:=zH (show ∀ x∈(List.range L.block).map (Lm L.p msg 1),x<18446744073709551616 from fun x hx=>by
  obtain ⟨i,-,rfl⟩:=List.mem_map.1 hx;exact Nat.lt_trans (lL (by omega) _ _ _) Kb)
 have HR:=zH (show tq L msg masks=Te (Pe L.p ((List.range L.block).map (Lm L.p msg 1)) (Be L.p (De L.p L.block) masks)) L.k by rw [tq,<- ot])
 rw [HR.out];have h1:=zH (show (Be L.p (De L.p L.block) masks).length <= 40000 by have:=Dr L.p (De L.p L.block) masks;rw [Ut] at this;omega)
 have h2:=zH (show (Pe L.p ((List.range L.block).map (Lm L.p msg 1)) (Be L.p (De L.p L.block) masks)).length <= 40000 by have:=nn L.p ((List.range L.block).map (Lm L.p msg 1)) (Be L.p (De L.p L.block) masks);rw [List.length_map,List.length_range] at this;have:=h1.out;omega)
 have h3:=zH (Ut L.p L.block);have h4:L.block <= 256:=Ka;generalize Be L.p (De L.p L.block) masks=M at *;generalize (List.range L.block).map (Lm L.p msg 1)=I at *;clear HR hL hl hk hlen Ud ot jc Kb Ld Ka hm;unfold Ya at *;have kl:=Blk.new w 39 #[.int .u64 L.p, .int .i64 L.block, .int .i64 L.queries, .int .i64 L.k, .int .i64 L.n, .int .i64 L.secret, .int .i64 L.rows, .int .i64 L.a, .int .i64 L.b, .int .i64 L.b, .int .i64 L.b];have da:Below w.heap.size w (w.alloc (.cells #[.int .u64 L.p, .int .i64 L.block, .int .i64 L.queries, .int .i64 L.k, .int .i64 L.n, .int .i64 L.secret, .int .i64 L.rows, .int .i64 L.a, .int .i64 L.b, .int .i64 L.b, .int .i64 L.b] 39)):=(Below.refl _ _).alloc zR _;go_enter Tryz.func122,Tryz.ntmps122
 go_wp2_with fail
 generalize w.alloc _=w1 at kl da |-;refine (HI.out _ da).mono ?_;rintro e w2 ⟨v1,rfl,ra,ea⟩;replace kl:=ia kl ea;replace da:=oa da ea;clear ea;obtain ⟨A1,c1,rfl,-⟩:=Ob ra;have hI:=qf ra HIL.out;clear ra HIL HI;have cl:=kl.cell;have ll:=kl.lt;go_upto_region 2 with fail
 refine Rc (Ib) [6,8,9,12] [0,1,2,3,4,5,7,10,11,6,8,9,12,13] (by kernel_rfl) (by kernel_rfl) ?_
 refine vd (xa) ?_;intro Wc Na ja;have ya:=Cc Na;replace da:=oa da ya;replace hI:=ta ya hI;refine pb ?_;refine Mb (xa) rfl rfl rfl (fun _=>by go_simp <;> rfl) ((HZ.out _).mono ?_)
 rintro e w3 ⟨v3,rfl,hZ,ib⟩;refine ⟨_,rfl,ib,?_⟩;replace ja:=(xa).trans _ _ _ ja (ib);simp only [Act.put,zLa,zLb,zLc];replace da:=oa da ib;replace hI:=ta ib hI;obtain ⟨A3,c3,rfl⟩:=Le hZ;refine pb ?_;refine Mb (xa) rfl rfl rfl (fun _=>by go_simp <;> rfl) ((HM.out _ _ _ _ da hZ (by rw [h3.out];omega)).mono ?_)
 rintro e w4 ⟨v4,rfl,hM,Fb⟩;refine ⟨_,rfl,Fb,?_⟩;replace ja:=(xa).trans _ _ _ ja (Fb);simp only [Act.put,zLa,zLb,zLc];replace da:=oa da Fb;replace hI:=ta Fb hI;obtain ⟨A4,c4,rfl⟩:=Le hM;refine pb ?_;refine Mb (xa) rfl rfl rfl (fun _=>by go_simp <;> rfl) ((HA.out _ _ _ _ _ _ _ _ _ hI hM (by omega) (by have:=h1.out;omega)).mono ?_)
 rintro e w5 ⟨v5,rfl,hA,jb⟩;refine ⟨_,rfl,jb,?_⟩;replace ja:=(xa).trans _ _ _ ja (jb);simp only [Act.put,zLa,zLb,zLc];replace da:=oa da jb;obtain ⟨A5,c5,rfl⟩:=Le hA;refine pb ?_;have iC:=da.size;refine Mb (xa) rfl rfl rfl (fun _=>by go_simp <;> rfl) ((HP.out _ _ _ _ _ hA (by have:=h2.out;omega)).mono ?_)
 rintro e w6 ⟨v6,rfl,hP,Zb⟩;refine ⟨_,rfl,Zb,?_⟩;replace ja:=(xa).trans _ _ _ ja (Zb);simp only [Act.put,zLa,zLb,zLc];replace da:=oa da Zb;refine pb ?_;refine Fc ?_;go_wp2;go_ret
 exact ⟨_,rfl,Pf hP iC,da⟩
theorem RZ (L:Ja) (v0 v1 v2 v4:Value) (B:Option Addr) (m d:Nat) (q:List Nat) (w:World) (hL:Db L) (g0:slc v0) (g1:slc v1) (g2:slc v2) (g4:slc v4) (hk:RWd w [.slice B m d] q) (hm:m <= 30000) :
  Calls Tryz.prog 125 #[.agg (Ya L), .agg #[v0,v1,v2, .slice B m d,v4]] w fun e w'=>∃ v,e= .returned v /\ w'.ownsRow w.heap.size 22 1 v (Gg L q).length (Fa (Gg L q)) /\ Below w.heap.size w w':=by
 obtain ⟨jc,Kb⟩:=Va hL.p;have Ka:=hL.b2;have Ld:L.k <= 400:=by have:=hL.k;have:=hL.q2;omega
 have Ih:2 <= L.k:=by have:=hL.k;have:=hL.b1;omega
 have Ud:=(Ra hk).1;obtain ⟨A0,n0,c0,rfl⟩:=g0;obtain ⟨A1,n1,c1,rfl⟩:=g1;obtain ⟨A2,n2,c2,rfl⟩:=g2;obtain ⟨A4,n4,c4,rfl⟩:=g4;obtain ⟨t,ht⟩:=zEX (2*L.k-1);obtain ⟨u,hu⟩:=zEX (2*L.k);have HZ:=zH (fun w=>sI L w hL)
 have HM:=zH (fun A n c w' (hb:Below w.heap.size w w') ha hn=>WC L.p A B n c m d (De L.p L.block) q w' hL.p ha (ta hb hk) hn (by omega))
 have HP:=zH (fun A n c l w hl hn=>nI A n c t l w hl hn (by omega))
 have HR:=zH (show Gg L q=Te (Be L.p (De L.p L.block) q) t by rw [Gg,ht])
 rw [HR.out];have h1:=zH (show (Be L.p (De L.p L.block) q).length <= 40000 by have:=Dr L.p (De L.p L.block) q;rw [Ut] at this;omega)
 have h3:=zH (Ut L.p L.block);have h4:L.block <= 256:=Ka;have e1:(2:Int)*(L.k:Int)=(u:Int):=by omega
 have e2:=Yb u;have e3:(u:Int)-1=(t:Int):=by omega
 have e4:=Yb t;generalize Be L.p (De L.p L.block) q=M at *;clear HR hL hk Ud jc Kb Ld Ih Ka hm ht hu;unfold Ya at *;obtain ⟨kl,kc,da,-⟩:=Ue w 39 42 #[.int .u64 L.p, .int .i64 L.block, .int .i64 L.queries, .int .i64 L.k, .int .i64 L.n, .int .i64 L.secret, .int .i64 L.rows, .int .i64 L.a, .int .i64 L.b, .int .i64 L.b, .int .i64 L.b] #[.slice A0 n0 c0, .slice A1 n1 c1, .slice A2 n2 c2, .slice B m d, .slice A4 n4 c4];go_enter Tryz.func125,Tryz.ntmps125
 go_upto_region 1 with fail
 generalize (w.alloc _).alloc _=w2 at kl kc da |-;have cl:=kl.cell;have ll:=kl.lt;have cc:=kc.cell;have lc:=kc.lt;refine Rc (Ib) [3,6,11] [0,1,2,4,5,7,8,9,10,3,6,11,12] (by kernel_rfl) (by kernel_rfl) ?_
 refine vd (xa) ?_;intro Wc Na ja;have ya:=Cc Na;replace da:=oa da ya;refine pb ?_;refine Mb (xa) rfl rfl rfl (fun _=>by go_simp <;> rfl) ((HZ.out _).mono ?_)
 rintro e w3 ⟨v3,rfl,hZ,ib⟩;refine ⟨_,rfl,ib,?_⟩;replace ja:=(xa).trans _ _ _ ja (ib);simp only [Act.put,zLa,zLb,zLc];replace da:=oa da ib;obtain ⟨A3,c3,rfl⟩:=Le hZ;refine pb ?_;refine Mb (xa) rfl rfl rfl (fun _=>by go_simp <;> rfl) ((HM.out _ _ _ _ da hZ (by rw [h3.out];omega)).mono ?_)
 rintro e w4 ⟨v4,rfl,hM,Fb⟩;refine ⟨_,rfl,Fb,?_⟩;replace ja:=(xa).trans _ _ _ ja (Fb);simp only [Act.put,zLa,zLb,zLc];replace da:=oa da Fb;obtain ⟨A5,c5,rfl⟩:=Le hM;refine pb ?_;have iC:=da.size;refine Mb (xa) rfl rfl rfl (fun _=>by go_simp <;> rfl) ((HP.out _ _ _ _ _ hM (by have:=h1.out;omega)).mono ?_)
 rintro e w6 ⟨v6,rfl,hP,Zb⟩;refine ⟨_,rfl,Zb,?_⟩;replace ja:=(xa).trans _ _ _ ja (Zb);simp only [Act.put,zLa,zLb,zLc];replace da:=oa da Zb;refine pb ?_;refine Fc ?_;go_wp2;go_ret
 exact ⟨_,rfl,Pf hP iC,da⟩
theorem VH {l:List Nat} {B n:Nat} (hB:0<B) (h:∀ x∈l,x<B):∀ x∈Te l n,x<B:=fun x hx=>by
 rcases List.mem_append.1 hx with h' | h'
 ·exact h x h'
 ·rw [(List.mem_replicate.1 h').2];exact hB
theorem KQ {p:Nat} (hp:0<p) {a b:List Nat} {x:Nat} (h:x∈Be p a b):x<p:=by
 unfold Be at h;cases e:a.length with
 | zero=>rw [e] at h;cases h
 | succ k=>rw [e,xg] at h;exact nG hp h
theorem K3 {w u:World} {v:Value} {l:List Nat} (h:RWd w [v] l) (ha:∀ b,b<w.heap.size -> u.heap[b]?=w.heap[b]?):RWd u [v] l:=by
 obtain ⟨A,n,c,he,h1,h2,h3,h4⟩:=h;refine ⟨A,n,c,he,h1,h2,⟨h3.1,fun h0=>?_⟩,h4⟩
 obtain ⟨ad,e,hc⟩:=h3.2 h0;refine ⟨ad,e,fun j x hj=>?_⟩
 have hx:=hc j x hj;have hb:=World.block_lt_of_cell? _ _ hx;rw [<- hx];unfold World.cell?;rw [ha _ hb]
theorem W3 {w0 w:World} {gb:Option Nat} {v:Value} {l:List Nat} (h:RWd w0 [v] l) (hb:Below w0.heap.size w0 w) (hg:∀ q,gb=some q -> w0.heap.size <= q):Jc 0 gb w v l:=fun u hu =>
 K3 h fun b za=>(hu b (Nat.zero_le _) (Nat.lt_of_lt_of_le za hb.size) fun e=>by have:=hg b e.symm;omega).trans (hb.block b za)
end Go.Proofs.YtgeofabpinfcmaaGreat
namespace Go.Proofs.YtgeofabpinfcmaaGreat
def Qb (l:List Nat) (i:Nat):Int:=((l.getD i 0:Nat):Int)
def Jb (l:List Nat) (x:Int):Int:=Xa (Qb l) x l.length
theorem bK {a:Nat -> Int} {x:Int} {m:Nat} (h:∀ i,m <= i -> a i=0):∀ t,Xa a x (m+t)=Xa a x m
 | 0=>rfl
 | t+1=>by
  rw [<- Nat.add_assoc,Xa,bK h t,h (m+t) (by omega),Int.zero_mul,Int.add_zero]
theorem Is (l:List Nat) (x:Int) {n:Nat} (h:l.length <= n):Xa (Qb l) x n=Jb l x:=by
 obtain ⟨t,rfl⟩:∃ t,n=l.length+t:=⟨n-l.length,by omega⟩
 exact bK (fun i hi=>by rw [Qb,ym hi];rfl) t
theorem WA (a b:Nat -> Int) (x:Int):∀ n,Xa (fun i=>a i+b i) x n=Xa a x n+Xa b x n
 | 0=>rfl
 | n+1=>by rw [Xa,Xa,Xa,WA a b x n,Int.add_mul];omega
theorem XA (c:Int) (a:Nat -> Int) (x:Int):∀ n,Xa (fun i=>c*a i) x n=c*Xa a x n
 | 0=>by rw [Xa,Xa,Int.mul_zero]
 | n+1=>by rw [Xa,Xa,XA c a x n,Int.mul_add,Int.mul_assoc]
theorem PV {p:Nat} {a b:List Nat} (x:Int) (h:∀ i,Cg p (Qb a i) (Qb b i)):Cg p (Jb a x) (Jb b x):=by
 rw [<- Is a x (n:=max a.length b.length) (by omega),<- Is b x (n:=max a.length b.length) (by omega)]
 exact Dj h Cg.rfl' _
theorem SV {p:Nat} (l:List Nat) (x:Int):Cg p (Jb (Ui p l) x) (Jb l x):=PV x fun i=>by
 unfold Qb;rw [lN];exact Cg.mod _
theorem hH (l:List Nat) (n:Nat) (x:Int):Jb (Te l n) x=Jb l x:=by
 rw [<- Is l x (n:=(Te l n).length) (by rw [Uu];omega)]
 unfold Jb
 congr 1
 funext i
 unfold Qb;rw [Ir]
theorem ow {p:Nat} (a b:List Nat) (x:Int):Cg p (Jb (Pe p a b) x) (Jb a x+Jb b x):=by
 have hl:=nn p a b;rw [<- Is (Pe p a b) x (n:=max a.length b.length) hl,<- Is a x (n:=max a.length b.length) (by omega),<- Is b x (n:=max a.length b.length) (by omega),<- WA]
 refine Dj (fun i=>?_) Cg.rfl' _
 unfold Qb;rw [Jk];exact (Cg.mod _).trans (Cg.of_eq (Int.natCast_add _ _))
theorem bF {p:Nat} (a:List Nat) (n:Nat) (x:Int):Cg p (Jb (xh p a n) x) ((n:Int)*Jb a x):=by
 rw [<- Is (xh p a n) x (uq p a n),Jb,<- XA];refine Dj (fun i=>?_) Cg.rfl' _
 unfold Qb;rw [Hz];exact (Cg.mod _).trans (Cg.of_eq (by rw [Int.natCast_mul,Int.mul_comm]))
theorem aP (a:Nat -> Int) (x:Int) (k:Nat) (h:∀ i,i<k -> a i=0):∀ n,Xa a x (k+n)=x^k*Xa (fun i=>a (k+i)) x n
 | 0=>by
  show Xa a x k=x^k*0
  rw [Int.mul_zero,su,<- Mt k];have:∀ n,n <= k -> Sa (fun i=>a i*x^i) n=Sa (fun _=>0) n:=fun n=>by
   induction n with
   | zero=>exact fun _=>rfl
   | succ n ih=>intro hn;rw [Sa,Sa,ih (by omega),h n (by omega),Int.zero_mul]
  exact this k zR
 | n+1=>by
  rw [<- Nat.add_assoc,Xa,aP a x k h n,Xa,Int.mul_add,Int.pow_add]
  congr 1
  rw [<- Int.mul_assoc,<- Int.mul_assoc,Int.mul_comm (a (k+n))]
theorem QV (a:List Nat) (k:Nat) (x:Int):Jb (xj a k) x=x^k*Jb a x:=by
 have e:(xj a k).length=k+a.length:=JI a k;unfold Jb;rw [e,aP _ _ k (fun i hi=>by unfold Qb;rw [iD,if_pos hi];rfl)]
 congr 2
 funext i
 unfold Qb;rw [iD,if_neg (by omega),Nat.add_sub_cancel_left]
theorem jP {p:Nat} (a b:List Nat) (x:Int):∀ k,Cg p (Jb (xg p a b k) x) (Xa (Qb a) x k*Jb b x)
 | 0=>Cg.of_eq (by rw [xg,Xa,Int.zero_mul];rfl)
 | k+1=>by
  rw [xg,Xa,Int.add_mul];refine (ow _ _ x).trans ((jP a b x k).add ?_);rw [QV];refine (Cg.rfl'.mul (bF b _ x)).trans (Cg.of_eq ?_);rw [<- Int.mul_assoc,Int.mul_comm (x^k)]
  rfl
theorem gH {p:Nat} (a b:List Nat) (x:Int):Cg p (Jb (Be p a b) x) (Jb a x*Jb b x):=jP a b x _
theorem ik {p x:Nat} (l:List Nat):Cg p (Bc p l x:Int) (Jb l x):=Ey l
def ji (a:Nat -> Int) (r:Int) (n i:Nat):Int:=Xa (fun j=>a (i+j)) r (n-i)
theorem UR (a:Nat -> Int) (r:Int) {n i:Nat} (h:i<n):ji a r n i=a i+r*ji a r n (i+1):=by
 unfold ji;rw [show n-i=(n-(i+1))+1 by omega,JD]
 rw [Nat.add_zero]
 congr 3
 funext j
 congr 1
 omega
theorem WR (a:Nat -> Int) (r x:Int) (n:Nat):∀ m,m <= n -> Xa a x m=ji a r n 0+(x-r)*Xa (fun i=>ji a r n (i+1)) x m-ji a r n m*x^m
 | 0,_=>by rw [Xa,Xa,Int.mul_zero,Int.pow_zero];omega
 | m+1,h=>by
  rw [Xa,WR a r x n m (by omega),Xa,UR a r (i:=m) (by omega),Int.pow_succ]
  grind
theorem YR (a:Nat -> Int) (r x:Int) (n:Nat):Xa a x (n+1)=Xa a r (n+1)+(x-r)*Xa (fun i=>ji a r (n+1) (i+1)) x n:=by
 have h:=WR a r x (n+1) (n+1) zR;have h1:ji a r (n+1) (n+1)=0:=by unfold ji;rw [Nat.sub_self];rfl
 have h0:ji a r (n+1) 0=Xa a r (n+1):=by
  unfold ji;rw [Nat.sub_zero]
  congr 1
  funext j
  rw [Nat.zero_add]
 rw [h1,h0,Int.zero_mul,Int.sub_zero] at h;have e:Xa (fun i=>ji a r (n+1) (i+1)) x (n+1)=Xa (fun i=>ji a r (n+1) (i+1)) x n:=by rw [Xa,h1,Int.zero_mul,Int.add_zero]
 rw [h,e]
theorem OG {p:Nat} (h:ab p=true):∀ (n:Nat) (a:Nat -> Int) (xs:Nat -> Int),(∀ i j,i<n -> j<n -> i≠j -> ¬Cg p (xs i) (xs j)) -> (∀ k,k<n -> Cg p (Xa a (xs k) n) 0) -> ∀ i,i<n -> Cg p (a i) 0
 | 0,_,_,_,_=>fun i hi=>absurd hi (Nat.not_lt_zero _)
 | n+1,a,xs,hx,hr=>by
  have hq:∀ i,i<n -> Cg p (ji a (xs n) (n+1) (i+1)) 0:=OG h n (fun i=>ji a (xs n) (n+1) (i+1)) xs (fun i j hi hj Bb=>hx i j (by omega) (by omega) Bb) fun k hk=>by
   have h1:=hr k (by omega)
   rw [YR a (xs n) (xs k) n] at h1;have h2:=hr n (by omega)
   have h3:Cg p ((xs k-xs n)*Xa (fun i=>ji a (xs n) (n+1) (i+1)) (xs k) n) 0:=by
    have:=(h1.trans h2.symm);obtain ⟨c,hc⟩:=this;exact ⟨c,by rw [<- hc];omega⟩
   rcases JL h h3 with h4 | h4
   ·exact absurd (by obtain ⟨c,hc⟩:=h4;exact ⟨c,by rw [<- hc];omega⟩) (hx k n (by omega) (by omega) (by omega))
   ·exact h4
  have hq':∀ i,i<n+1 -> Cg p (ji a (xs n) (n+1) (i+1)) 0:=fun i hi=>by
   rcases Nat.lt_or_ge i n with h1 | h1
   ·exact hq i h1
   ·have e:i=n:=by omega
    subst e;unfold ji;rw [Nat.sub_self];exact Cg.rfl'
  have h0:Cg p (ji a (xs n) (n+1) 0) 0:=by
   have e:ji a (xs n) (n+1) 0=Xa a (xs n) (n+1):=by
    unfold ji;rw [Nat.sub_zero]
    congr 1
    funext j
    rw [Nat.zero_add]
   rw [e];exact hr n (by omega)
  intro i hi;have hs:=UR a (xs n) hi;have h1:Cg p (ji a (xs n) (n+1) i) 0:=by
   cases i with
   | zero=>exact h0
   | succ i=>exact hq' i (by omega)
  rw [hs] at h1;have h2:=(Cg.rfl' (p:=p) (x:=xs n)).mul (hq' i hi);rw [Int.mul_zero] at h2;obtain ⟨c,hc⟩:=h1;obtain ⟨d,hd⟩:=h2;exact ⟨c-d,by rw [Int.mul_sub,<- hc,<- hd];omega⟩
theorem PM {p n:Nat} (h:ab p=true) {a b:Nat -> Int} {xs:Nat -> Int} (hx:∀ i j,i<n -> j<n -> i≠j -> ¬Cg p (xs i) (xs j)) (hv:∀ k,k<n -> Cg p (Xa a (xs k) n) (Xa b (xs k) n)):∀ i,i<n -> Cg p (a i) (b i):=fun i hi=>by
 have:=OG h n (fun i=>a i+(-1)*b i) xs hx (fun k hk=>by
  rw [WA,XA];exact ((hv k hk).add (Cg.rfl' (x:=(-1)*Xa b (xs k) n))).trans (Cg.of_eq (by omega))) i hi
 obtain ⟨c,hc⟩:=this;exact ⟨c,by rw [<- hc];omega⟩
end Go.Proofs.YtgeofabpinfcmaaGreat
