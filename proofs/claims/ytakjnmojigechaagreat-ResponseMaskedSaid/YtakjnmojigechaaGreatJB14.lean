/- A part of the proof. No condition. -/
import Derived.Test.YtakjnmojigechaaGreatProg
import Derived.Test.YtakjnmojigechaaGreatJB13
import Derived.Test.YtakjnmojigechaaGreatJB8
import Derived.Test.YtakjnmojigechaaGreatJB12
import Derived.Test.YtakjnmojigechaaGreatJB10
import Derived.Test.YtakjnmojigechaaGreatJB7

namespace Go.Proofs.YtakjnmojigechaaGreat
def Cg (p:Nat) (x y:Int):Prop:=(p:Int)∣x-y
theorem Cg.rfl' {p:Nat} {x:Int}:Cg p x x:=⟨0,by omega⟩
theorem Cg.of_eq {p:Nat} {x y:Int} (h:x=y):Cg p x y:=h ▸ Cg.rfl'
theorem Cg.symm {p:Nat} {x y:Int} (h:Cg p x y):Cg p y x:=by
 obtain ⟨c,hc⟩:=h
 exact ⟨-c,by rw [Int.mul_neg,←hc];omega⟩
theorem Cg.trans {p:Nat} {x y z:Int} (h:Cg p x y) (h2:Cg p y z):Cg p x z:=by
 obtain ⟨c,hc⟩:=h
 obtain ⟨d,hd⟩:=h2
 exact ⟨c+d,by rw [Int.mul_add,←hc,←hd];omega⟩
theorem Cg.add {p:Nat} {x y u v:Int} (h:Cg p x y) (h2:Cg p u v):Cg p (x+u) (y+v):=by
 obtain ⟨c,hc⟩:=h
 obtain ⟨d,hd⟩:=h2
 exact ⟨c+d,by rw [Int.mul_add,←hc,←hd];omega⟩
theorem Cg.mul {p:Nat} {x y u v:Int} (h:Cg p x y) (h2:Cg p u v):Cg p (x*u) (y*v):=by
 obtain ⟨c,hc⟩:=h
 obtain ⟨d,hd⟩:=h2
 refine ⟨c*u+y*d,?_⟩
 have e:x*u-y*v=(x-y)*u+y*(u-v):=by rw [Int.sub_mul,Int.mul_sub];omega
 rw [e,hc,hd,Int.mul_add,Int.mul_assoc,←Int.mul_assoc y,Int.mul_comm y (p:Int),Int.mul_assoc]
theorem Cg.neg {p:Nat} {x y:Int} (h:Cg p x y):Cg p (-x) (-y):=by
 obtain ⟨c,hc⟩:=h
 exact ⟨-c,by rw [Int.mul_neg,←hc];omega⟩
theorem Cg.mod {p:Nat} (x:Nat):Cg p ((x%p:Nat):Int) (x:Int):=by
 refine ⟨-((x / p:Nat):Int),?_⟩
 have h:=Nat.div_add_mod x p
 have h2:((p*(x / p)+x%p:Nat):Int)=(x:Int):=by rw [h]
 rw [Int.natCast_add,Int.natCast_mul] at h2
 rw [Int.mul_neg]
 omega
theorem Cg.pow {p:Nat} {x y:Int} (h:Cg p x y) (k:Nat):Cg p (x^k) (y^k):=by
 induction k with
 | zero=>exact Cg.of_eq (by rw [Int.pow_zero,Int.pow_zero])
 | succ k ih=>rw [Int.pow_succ,Int.pow_succ];exact ih.mul h
theorem Cg.eq {p a b:Nat} (h:Cg p (a:Int) (b:Int)) (ha:a<p) (hb:b<p):a=b:=by
 obtain ⟨c,hc⟩:=h
 rcases Int.lt_trichotomy c 0 with h1 | h1 | h1
 ·have:(p:Int)*c≤(p:Int)*(-1):=Int.mul_le_mul_of_nonneg_left (by omega) (by omega)
  omega
 ·subst h1;omega
 ·have:(p:Int)*1≤(p:Int)*c:=Int.mul_le_mul_of_nonneg_left (by omega) (by omega)
  omega
def evI (a:Nat→Int) (x:Int):Nat→Int
 | 0=>0
 | n+1=>evI a x n+a n*x^n
theorem Vv {p:Nat} {a b:Nat→Int} {x y:Int} (h:∀ i,Cg p (a i) (b i)) (hx:Cg p x y):∀ n,Cg p (evI a x n) (evI b y n)
 | 0=>Cg.rfl'
 | n+1=>(Vv h hx n).add ((h n).mul (hx.pow n))
theorem zt (a:Nat→Int) (x:Int):∀ n,evI a x (2*n)=evI (fun i=>a (2*i)) (x*x) n+x*evI (fun i=>a (2*i+1)) (x*x) n
 | 0=>by simp [evI]
 | n+1=>by
  have e:(x*x)^n=x^(2*n):=by rw [Int.pow_mul];congr 1;rw [Int.pow_succ,Int.pow_succ,Int.pow_zero,Int.one_mul]
  show evI a x (2*n)+a (2*n)*x^(2*n)+a (2*n+1)*x^(2*n+1)=_
  rw [zt a x n]
  show _=(evI (fun i=>a (2*i)) (x*x) n+a (2*n)*(x*x)^n)+x*(evI (fun i=>a (2*i+1)) (x*x) n+a (2*n+1)*(x*x)^n)
  rw [e,Int.pow_succ]
  grind
theorem yj (p w:Nat):∀ k,Cg p (Gt p w k:Int) ((w:Int)^k)
 | 0=>Cg.rfl'
 | k+1=>by
  show Cg p ((Gt p w k*w%p:Nat):Int) _
  refine (Cg.mod _).trans ?_
  rw [Int.natCast_mul,Int.pow_succ]
  exact (yj p w k).mul Cg.rfl'
theorem UV (p a:Nat) (hp:0<p):Cg p (Y1 p a:Int) (-(a:Int)):=by
 have h1:Cg p ((a%p:Nat):Int) (a:Int):=Cg.mod a
 refine Cg.trans ?_ h1.neg
 have h:=Nat.mod_lt a hp
 unfold Y1
 split
 ·rename_i h0
  rw [h0]
  exact Cg.rfl'
 ·exact ⟨1,by omega⟩
theorem yn (p:Nat) (hp:0<p):∀ (j:Nat) (a:Nat→Nat) (w:Nat),(j=0∨Cg p ((w:Int)^(2^(j-1))) (-1))→∀ k,k<2^j→Cg p (Jb p j a w k:Int) (evI (fun i=>(a i:Int)) ((w:Int)^k) (2^j))
 | 0,a,w,_,k,hk=>by
  obtain rfl:k=0:=by omega
  show Cg p (a 0:Int) _
  exact Cg.of_eq (by simp [evI])
 | j+1,a,w,hw,k,hk=>by
  have hw1:Cg p ((w:Int)^(2^j)) (-1):=by
   rcases hw with h | h
   ·omega
   ·exact h
  have hw2:j=0∨Cg p (((w*w%p:Nat):Int)^(2^(j-1))) (-1):=by
   rcases Nat.eq_zero_or_pos j with h | h
   ·exact Or.inl h
   ·refine Or.inr (((Cg.mod (p:=p) (w*w)).pow _).trans ?_)
    have e:((w*w:Nat):Int)^(2^(j-1))=(w:Int)^(2^j):=by
     rw [Int.natCast_mul,show 2^j=2*2^(j-1) by rw [Nat.mul_comm,←Nat.pow_succ];congr 1;omega,Int.pow_mul]
     congr 1
     rw [Int.pow_succ,Int.pow_succ,Int.pow_zero,Int.one_mul]
    rw [e]
    exact hw1
  have key:∀ i,i<2^j→∀ x:Int,Cg p (x*x) (((w:Int)^i)*((w:Int)^i))→Cg p ((Jb p j (fun i=>a (2*i)) (w*w%p) i:Int)+x*(Jb p j (fun i=>a (2*i+1)) (w*w%p) i:Int)) (evI (fun i=>(a i:Int)) x (2^(j+1))):=by
   intro i hi x hx
   have e0:Cg p (((w*w%p:Nat):Int)^i) (x*x):=by
    refine ((Cg.mod (p:=p) (w*w)).pow _).trans (Cg.trans (Cg.of_eq ?_) hx.symm)
    rw [Int.natCast_mul,Int.mul_pow]
   have h1:=(yn p hp j (fun i=>a (2*i)) (w*w%p) hw2 i hi).trans (Vv (fun _=>Cg.rfl') e0 _)
   have h2:=(yn p hp j (fun i=>a (2*i+1)) (w*w%p) hw2 i hi).trans (Vv (fun _=>Cg.rfl') e0 _)
   rw [show 2^(j+1)=2*2^j by rw [Nat.pow_succ,Nat.mul_comm],zt]
   exact h1.add (Cg.rfl'.mul h2)
  rw [Jb]
  simp only []
  split
  ·rename_i hlt
   refine (Cg.mod _).trans (Cg.trans ?_ (key k hlt ((w:Int)^k) Cg.rfl'))
   rw [Int.natCast_add]
   refine Cg.rfl'.add ((Cg.mod _).trans ?_)
   rw [Int.natCast_mul]
   exact (yj p w k).mul Cg.rfl'
  ·rename_i hge
   obtain ⟨i,rfl⟩:∃ i,k=2^j+i:=⟨k-2^j,by omega⟩
   have hi:i<2^j:=by rw [Nat.pow_succ] at hk;omega
   rw [Nat.add_sub_cancel_left]
   have ex:Cg p ((w:Int)^(2^j+i)) (-((w:Int)^i)):=by
    rw [Int.pow_add]
    refine (hw1.mul Cg.rfl').trans (Cg.of_eq (by omega))
   refine (Cg.mod _).trans (Cg.trans ?_ (key i hi ((w:Int)^(2^j+i)) ?_))
   ·rw [Int.natCast_add]
    refine Cg.rfl'.add ((UV p _ hp).trans ?_)
    refine ((Cg.mod _).neg).trans ?_
    rw [Int.natCast_mul]
    refine (((yj p w i).mul Cg.rfl').neg).trans ?_
    rw [←Int.neg_mul]
    exact ex.symm.mul Cg.rfl'
   ·refine (ex.mul ex).trans (Cg.of_eq ?_)
    rw [Int.neg_mul_neg]
end Go.Proofs.YtakjnmojigechaaGreat
namespace Go.Proofs.YtakjnmojigechaaGreat
def sqm (p:Nat):Nat→Nat→Nat→Nat
 | 0,_,_=>1
 | f+1,b,e=>if e%2=1 then b*sqm p f (b*b%p) (e / 2)%p else sqm p f (b*b%p) (e / 2)
theorem xP (p:Nat):∀ (f b e:Nat),e<2^f→Cg p (sqm p f b e:Int) ((b:Int)^e)
 | 0,b,e,h=>by
  obtain rfl:e=0:=by omega
  exact Cg.of_eq (by simp [sqm])
 | f+1,b,e,h=>by
  have h2:e / 2<2^f:=by rw [Nat.pow_succ] at h;omega
  have ih:=(xP p f (b*b%p) (e / 2) h2).trans ((Cg.mod (p:=p) (b*b)).pow _)
  have e1:((b*b:Nat):Int)^(e / 2)=(b:Int)^(2*(e / 2)):=by
   rw [Int.natCast_mul,Int.pow_mul]
   congr 1
   rw [Int.pow_succ,Int.pow_succ,Int.pow_zero,Int.one_mul]
  rw [e1] at ih
  rw [sqm]
  split
  ·rename_i h1
   refine (Cg.mod _).trans ?_
   rw [Int.natCast_mul,show (b:Int)^e=(b:Int)*(b:Int)^(2*(e / 2)) by rw [Int.mul_comm,←Int.pow_succ];congr 1;omega]
   exact Cg.rfl'.mul ih
  ·rw [show 2*(e / 2)=e by omega] at ih
   exact ih
theorem zHo {p:Nat} (h:okP p=true):sqm p 64 (ZJ p).1 ((p-1) / 2)=p-1∧(p-1)%2=0∧(p-1) / 2<2^64:=by
 rcases Xh h with rfl | rfl | rfl | rfl | rfl | rfl | rfl <;> decide +kernel
theorem zKp {p:Nat} (h:okP p=true):Cg p (((ZJ p).1:Int)^((p-1) / 2)) (-1):=by
 obtain ⟨h1,-,h3⟩:=zHo h
 have h4:=xP p 64 (ZJ p).1 ((p-1) / 2) h3
 rw [h1] at h4
 refine h4.symm.trans ⟨1,?_⟩
 have:=(Zr h).1
 omega
theorem K9 {p n j:Nat} (h:okP p=true) (hn:XS p n) (hj:n=2^j):j=0∨Cg p ((Yz p n:Int)^(2^(j-1))) (-1):=by
 rcases Nat.eq_zero_or_pos j with h0 | h0
 ·exact Or.inl h0
 ·right
  refine ((Cg.mod (p:=p) _).pow _).trans (Cg.trans (Cg.of_eq ?_) (zKp h))
  rw [Int.natCast_pow,←Int.pow_mul]
  congr 1
  have e:n=2*2^(j-1):=by rw [hj,Nat.mul_comm,←Nat.pow_succ];congr 1;omega
  have hd:=hn.dvd
  have hpos:=hn.pos
  obtain ⟨q,hq⟩:∃ q,p-1=n*q:=⟨(p-1) / n,by have:=Nat.div_add_mod (p-1) n;omega⟩
  rw [hq,Nat.mul_div_cancel_left _ (by omega),e,Nat.mul_assoc,Nat.mul_div_cancel_left _ (by omega),Nat.mul_comm]
end Go.Proofs.YtakjnmojigechaaGreat
namespace Go.Proofs.YtakjnmojigechaaGreat
theorem yN {p:Nat} (h:okP p=true):sqm p 64 2 (p-1)=1∧sqm p 64 (ZJ p).1 (p-1)=1∧p-1<2^64:=by
 rcases Xh h with rfl | rfl | rfl | rfl | rfl | rfl | rfl <;> decide +kernel
theorem zKl {p:Nat} (h:okP p=true):Cg p ((2:Int)^(p-1)) 1:=by
 obtain ⟨h1,-,h3⟩:=yN h
 have h4:=xP p 64 2 (p-1) h3
 rw [h1] at h4
 exact h4.symm
theorem J6 {p:Nat} (h:okP p=true):Cg p (((ZJ p).1:Int)^(p-1)) 1:=by
 obtain ⟨-,h1,h3⟩:=yN h
 have h4:=xP p 64 (ZJ p).1 (p-1) h3
 rw [h1] at h4
 exact h4.symm
theorem zJ7 {p n j:Nat} (h:okP p=true) (hj:n=2^j):Cg p ((n:Int)*((n^(p-2)%p:Nat):Int)) 1:=by
 have hp:=Zr h
 refine (Cg.rfl'.mul (Cg.mod _)).trans ?_
 have e:(n:Int)*((n^(p-2):Nat):Int)=((2:Int)^(p-1))^j:=by
  rw [Int.natCast_pow,hj,Int.natCast_pow,Int.mul_comm,←Int.pow_succ,←Int.pow_mul,←Int.pow_mul,Nat.succ_eq_add_one,show p-2+1=p-1 by omega,Nat.mul_comm]
  rfl
 rw [e]
 refine ((zKl h).pow j).trans (Cg.of_eq ?_)
 exact Int.one_pow
theorem G0 {p n:Nat} (h:okP p=true) (hn:XS p n):Cg p ((Yz p n:Int)^n) 1:=by
 refine ((Cg.mod (p:=p) _).pow _).trans (Cg.trans (Cg.of_eq ?_) (J6 h))
 rw [Int.natCast_pow,←Int.pow_mul]
 congr 1
 have hd:=hn.dvd
 have:=Nat.div_add_mod (p-1) n
 rw [Nat.mul_comm]
 omega
theorem yX {p n:Nat} (h:okP p=true) (hn:XS p n):Cg p ((Yz p n:Int)*((Yz p n^(p-2)%p:Nat):Int)) 1:=by
 have hp:=Zr h
 refine (Cg.rfl'.mul (Cg.mod _)).trans ?_
 have e:(Yz p n:Int)*((Yz p n^(p-2):Nat):Int)=((Yz p n:Int)^n)^((p-1) / n):=by
  have hd:=hn.dvd
  have h2:=Nat.div_add_mod (p-1) n
  rw [Int.natCast_pow,Int.mul_comm,←Int.pow_succ,←Int.pow_mul]
  congr 1
  omega
 rw [e]
 exact ((G0 h hn).pow _).trans (Cg.of_eq Int.one_pow)
end Go.Proofs.YtakjnmojigechaaGreat
namespace Go.Proofs.YtakjnmojigechaaGreat
theorem GS {p:Nat}:∀ (j:Nat) (x:Int) (t:Nat),t<j→Cg p (x^(2^t)) (-1)→Cg p (evI (fun _=>1) x (2^j)) 0
 | 0,_,t,ht,_=>absurd ht (Nat.not_lt_zero t)
 | j+1,x,t,ht,hx=>by
  rw [show 2^(j+1)=2*2^j by rw [Nat.pow_succ,Nat.mul_comm],zt]
  show Cg p (evI (fun _=>1) (x*x) (2^j)+x*evI (fun _=>1) (x*x) (2^j)) 0
  cases t with
  | zero =>
   rw [Nat.pow_zero,Int.pow_succ,Int.pow_zero,Int.one_mul] at hx
   exact (Cg.rfl'.add (hx.mul Cg.rfl')).trans (Cg.of_eq (by omega))
  | succ t =>
   have ih:=GS j (x*x) t (by omega) (by
    refine Cg.trans (Cg.of_eq ?_) hx
    rw [show x*x=x^2 by rw [Int.pow_succ,Int.pow_succ,Int.pow_zero,Int.one_mul],←Int.pow_mul]
    congr 1
    rw [Nat.pow_succ,Nat.mul_comm])
   exact (ih.add (Cg.rfl'.mul ih)).trans (Cg.of_eq (by omega))
theorem zE5:∀ o:Nat,(-1:Int)^(2*o+1)=-1
 | 0=>by decide
 | o+1=>by rw [show 2*(o+1)+1=(2*o+1)+1+1 by omega,Int.pow_succ,Int.pow_succ,zE5 o];decide
theorem zBm {p:Nat}:∀ (j:Nat) (w:Int) (d:Nat),Cg p (w^(2^(j-1))) (-1)→0<d→d<2^j→∃ t,t<j∧Cg p ((w^d)^(2^t)) (-1)
 | 0,_,d,_,h0,h1=>by omega
 | j+1,w,d,hw,h0,h1=>by
  rcases Nat.mod_two_eq_zero_or_one d with h | h
  ·obtain ⟨e,rfl⟩:∃ e,d=2*e:=⟨d / 2,by omega⟩
   have hj:j≠0:=by rintro rfl;omega
   have he:e<2^j:=by rw [Nat.pow_succ] at h1;omega
   obtain ⟨t,ht,hc⟩:=zBm j (w^2) e (by
    refine Cg.trans (Cg.of_eq ?_) hw
    rw [←Int.pow_mul]
    congr 1
    show 2*2^(j-1)=2^j
    rw [Nat.mul_comm,←Nat.pow_succ]
    congr 1
    omega) (by omega) he
   exact ⟨t,by omega,by rw [Int.pow_mul (a:=w)];exact hc⟩
  ·obtain ⟨o,rfl⟩:∃ o,d=2*o+1:=⟨d / 2,by omega⟩
   refine ⟨j,by omega,?_⟩
   rw [←Int.pow_mul,Nat.mul_comm,Int.pow_mul]
   exact (Cg.pow hw _).trans (Cg.of_eq (zE5 o))
theorem xu {p j d:Nat} {w:Int} (hw:Cg p (w^(2^(j-1))) (-1)) (h0:0<d) (h1:d<2^j):Cg p (evI (fun _=>1) (w^d) (2^j)) 0:=by
 obtain ⟨t,ht,hc⟩:=zBm j w d hw h0 h1
 exact GS j _ t ht hc
end Go.Proofs.YtakjnmojigechaaGreat
namespace Go.Proofs.YtakjnmojigechaaGreat
def ZY (f:Nat→Int):Nat→Int
 | 0=>0
 | n+1=>ZY f n+f n
theorem VK (a:Nat→Int) (x:Int):∀ n,evI a x n=ZY (fun i=>a i*x^i) n
 | 0=>rfl
 | n+1=>by rw [evI,ZY,VK a x n]
theorem Y8 {p:Nat} {f g:Nat→Int}:∀ n,(∀ i,i<n→Cg p (f i) (g i))→Cg p (ZY f n) (ZY g n)
 | 0,_=>Cg.rfl'
 | n+1,h=>(Y8 n fun i hi=>h i (by omega)).add (h n (by omega))
theorem Ue (c:Int) (f:Nat→Int):∀ n,c*ZY f n=ZY (fun i=>c*f i) n
 | 0=>by simp [ZY]
 | n+1=>by rw [ZY,ZY,Int.mul_add,Ue c f n]
theorem yz (f g:Nat→Int):∀ n,ZY (fun i=>f i+g i) n=ZY f n+ZY g n
 | 0=>rfl
 | n+1=>by rw [ZY,ZY,ZY,yz f g n];omega
theorem U0:∀ n,ZY (fun _=>0) n=0
 | 0=>rfl
 | n+1=>by rw [ZY,U0 n];rfl
theorem Uo (f:Nat→Nat→Int) (m:Nat):∀ n,ZY (fun i=>ZY (fun k=>f i k) m) n=ZY (fun k=>ZY (fun i=>f i k) n) m
 | 0=>by simp only [ZY];rw [U0]
 | n+1=>by
  rw [ZY,Uo f m n,←yz]
  rfl
theorem zJa {p n q:Nat} {f:Nat→Int} {y:Int} (hq:q<n) (h0:∀ k,k<n→k≠q→Cg p (f k) 0) (h1:Cg p (f q) y):Cg p (ZY f n) y:=by
 induction n with
 | zero=>omega
 | succ n ih =>
  rw [ZY]
  by_cases e:q=n
  ·subst e
   have hz:Cg p (ZY f q) (ZY (fun _=>0) q):=Y8 q fun i hi=>h0 i (by omega) (by omega)
   rw [U0] at hz
   exact (hz.add h1).trans (Cg.of_eq (by omega))
  ·exact ((ih (by omega) fun k hk hne=>h0 k (by omega) hne).add (h0 n (by omega) (by omega))).trans (Cg.of_eq (by omega))
theorem xY:∀ n:Nat,evI (fun _=>1) 1 n=(n:Int)
 | 0=>rfl
 | n+1=>by rw [evI,xY n,Int.one_pow];omega
theorem zCm {p j:Nat} {w v:Int} (hw:Cg p (w^(2^(j-1))) (-1)) (hv:Cg p (w*v) 1):Cg p (v^(2^(j-1))) (-1):=by
 have h1:=hv.pow (2^(j-1))
 rw [Int.mul_pow,Int.one_pow] at h1
 have h2:=((hw.mul (Cg.rfl' (x:=v^(2^(j-1))))).symm.trans h1).neg
 exact Cg.trans (Cg.of_eq (by omega)) h2
theorem yi {p:Nat} {w v:Int} (hv:Cg p (w*v) 1) (q:Nat):Cg p (v^q*w^q) 1:=by
 rw [←Int.mul_pow,Int.mul_comm v w]
 exact (hv.pow q).trans (Cg.of_eq Int.one_pow)
theorem zH6 {p n j:Nat} (m:Nat→Int) (w v s:Int) (hn:n=2^j) (hw:j=0∨Cg p (w^(2^(j-1))) (-1)) (hv:Cg p (w*v) 1) (hs:Cg p ((n:Int)*s) 1) (q:Nat) (hq:q<n) :
  Cg p (evI (fun i=>s*evI m (v^i) n) (w^q) n) (m q):=by
 have hx:∀ k,k<n→k≠q→Cg p (evI (fun _=>1) (v^k*w^q) n) 0:=by
  intro k hk hne
  have hj:j≠0:=by rintro rfl;omega
  have hw1:Cg p (w^(2^(j-1))) (-1):=hw.resolve_left hj
  rcases Nat.lt_or_gt_of_ne hne with h | h
  ·have e:Cg p (v^k*w^q) (w^(q-k)):=by
    obtain ⟨d,rfl⟩:∃ d,q=k+d:=⟨q-k,by omega⟩
    rw [Nat.add_sub_cancel_left,Int.pow_add,←Int.mul_assoc]
    exact ((yi hv k).mul Cg.rfl').trans (Cg.of_eq (Int.one_mul _))
   rw [hn]
   exact (Vv (fun _=>Cg.rfl') e _).trans (xu hw1 (by omega) (by omega))
  ·have e:Cg p (v^k*w^q) (v^(k-q)):=by
    obtain ⟨d,rfl⟩:∃ d,k=q+d:=⟨k-q,by omega⟩
    rw [Nat.add_sub_cancel_left,Int.pow_add,Int.mul_assoc,Int.mul_comm (v^d),←Int.mul_assoc]
    exact ((yi hv q).mul Cg.rfl').trans (Cg.of_eq (Int.one_mul _))
   rw [hn]
   exact (Vv (fun _=>Cg.rfl') e _).trans (xu (zCm hw1 hv) (by omega) (by omega))
 have hq1:Cg p (evI (fun _=>1) (v^q*w^q) n) (n:Int):=(Vv (fun _=>Cg.rfl') (yi hv q) n).trans (Cg.of_eq (xY n))
 have e1:evI (fun i=>s*evI m (v^i) n) (w^q) n=ZY (fun k=>s*m k*evI (fun _=>1) (v^k*w^q) n) n:=by
  rw [VK]
  have e2:(fun i=>s*evI m (v^i) n*(w^q)^i)=fun i=>ZY (fun k=>s*m k*(v^k*w^q)^i) n:=by
   funext i
   rw [VK,Int.mul_comm (s*_),←Int.mul_assoc,Ue]
   congr 1
   funext k
   rw [Int.mul_pow,←Int.pow_mul (a:=v),←Int.pow_mul (a:=v),Nat.mul_comm i k]
   grind
  rw [e2,Uo]
  congr 1
  funext k
  rw [VK,Ue]
  congr 1
  funext i
  rw [Int.one_mul]
 rw [e1]
 refine zJa hq (fun k hk hne=>?_) ?_
 ·exact (Cg.rfl'.mul (hx k hk hne)).trans (Cg.of_eq (Int.mul_zero _))
 ·refine (Cg.rfl'.mul hq1).trans (Cg.trans (Cg.of_eq (y:=(n:Int)*s*m q) (by grind)) ?_)
  exact (hs.mul Cg.rfl').trans (Cg.of_eq (Int.one_mul _))
end Go.Proofs.YtakjnmojigechaaGreat
namespace Go.Proofs.YtakjnmojigechaaGreat
theorem yp {p n j:Nat} (l:List Nat) (h:okP p=true) (hn:XS p n) (hj:n=2^j) {i:Nat} (hi:i<n) :
  Cg p (J2 p n j l i:Int) (((n^(p-2)%p:Nat):Int)*evI (fun k=>((l.getD k 0:Nat):Int)) (((Yz p n^(p-2)%p:Nat):Int)^i) n):=by
 have hp:=Zr h
 have hv:j=0∨Cg p (((Yz p n^(p-2)%p:Nat):Int)^(2^(j-1))) (-1):=(K9 h hn hj).imp id fun h1=>zCm h1 (yX h hn)
 have h1:=yn p (by omega) j (zCz p l) (Yz p n^(p-2)%p) hv i (by omega)
 rw [←hj] at h1
 refine (Cg.mod _).trans ?_
 rw [Int.natCast_mul,Int.mul_comm]
 exact Cg.rfl'.mul (h1.trans (Vv (fun k=>Cg.mod _) Cg.rfl' n))
theorem zEj {p:Nat} {a b:Nat→Int} (x:Int):∀ n,(∀ i,i<n→Cg p (a i) (b i))→Cg p (evI a x n) (evI b x n)
 | 0,_=>Cg.rfl'
 | n+1,h=>(zEj x n fun i hi=>h i (by omega)).add ((h n (by omega)).mul Cg.rfl')
theorem xo {p n j:Nat} (l:List Nat) (h:okP p=true) (hn:XS p n) (hj:n=2^j) {q:Nat} (hq:q<n) :
  Cg p (evI (fun i=>(J2 p n j l i:Int)) ((Yz p n:Int)^q) n) ((l.getD q 0:Nat):Int) :=
 (zEj _ n fun _ hi=>yp l h hn hj hi).trans (zH6 (fun k=>((l.getD k 0:Nat):Int)) _ _ _ hj (K9 h hn hj) (yX h hn) (zJ7 h hj) q hq)
end Go.Proofs.YtakjnmojigechaaGreat
namespace Go.Proofs.YtakjnmojigechaaGreat
theorem yH {a b:Nat→Int} (x:Int):∀ n,(∀ i,i<n→a i=b i)→evI a x n=evI b x n
 | 0,_=>rfl
 | n+1,h=>by rw [evI,evI,yH x n fun i hi=>h i (by omega),h n (by omega)]
theorem yk (a:Nat→Nat) (k v:Nat) (x:Int):∀ n,k<n→evI (fun i=>(VB a k v i:Int)) x n=evI (fun i=>(a i:Int)) x n+((v:Int)-a k)*x^k
 | 0,h=>by omega
 | n+1,h=>by
  rw [evI,evI]
  by_cases e:k=n
  ·subst e
   rw [yH (b:=fun i=>(a i:Int)) x k fun i hi=>by simp only [VB];rw [if_neg (by omega)]]
   simp only [VB,if_true]
   grind
  ·rw [yk a k v x n (by omega)]
   simp only [VB]
   rw [if_neg (by omega)]
   omega
end Go.Proofs.YtakjnmojigechaaGreat
namespace Go.Proofs.YtakjnmojigechaaGreat
open Go.RowKit
theorem xR:Tryz.prog.cellsOf 30=8:=by kernel_rfl
theorem xc:Tryz.prog.cellsOf 27=3:=by kernel_rfl
structure CaseIn (w:World) (p:Nat) (pub vars:Int) (A B:Option Addr) (n c m d:Nat) (rows:List Ya) (ws:List Nat):Prop where
 p:p<18446744073709551616
 rows:RSl 3 Xb w [.slice A n c] rows
 ws:RWd w [.slice B m d] ws
theorem zA7 {w:World} {cs:List Value} (hl:cs.length=8) (h:Fits Tryz.prog w 30 cs):∃ (p:Nat) (pub vars:Int) (A B:Option Addr) (n c m d:Nat) (rows:List Ya) (ws:List Nat) (bl bw qs:Int),cs=(xM p pub vars (.slice A n c) bl bw qs (.slice B m d)).toList∧CaseIn w p pub vars A B n c m d rows ws:=by
 match cs,hl with
 | [x0,x1,x2,x3,x4,x5,x6,x7],_ =>
  obtain ⟨t,y,ht,h1,h2,h3,h4⟩:=zGq rfl (Z5 (i:=0) Tryz.underlying30 rfl rfl zCs h)
  have hx:=Z5 (i:=1) Tryz.underlying30 rfl rfl xc h
  obtain ⟨a,ha,-⟩:=JP Tryz.underlying3 (Z5 (i:=0) Tryz.underlying27 rfl rfl Vp hx)
  obtain ⟨b,hb,-⟩:=JP Tryz.underlying3 (Z5 (i:=1) Tryz.underlying27 rfl rfl Vp hx)
  obtain ⟨e,he,-⟩:=JP Tryz.underlying3 (Z5 (i:=2) Tryz.underlying27 rfl rfl Vp hx)
  obtain ⟨ws,hw⟩:=yK Tryz.underlying28 Tryz.underlying22 Xf (Z5 (i:=2) Tryz.underlying30 rfl rfl Gg h)
  simp at ht ha hb he hw
  obtain ⟨rfl,rfl,rfl,rfl⟩:=ht
  subst ha hb he
  obtain ⟨A,n,c,rfl⟩:=RSl.slc h4
  have hw2:=hw
  obtain ⟨B,m,d,he,-⟩:=hw
  simp at he
  subst he
  exact ⟨t.p,t.pub,t.vars,A,B,n,c,m,d,t.rows,ws,a,b,e,rfl,h1,h4,hw2⟩
def ye (p:Nat) (a b:List Nat):List Nat:=Vf p a (Xl p b (Y1 p 1))
def VZ (p:Nat) (rows:List (List Nat)) (al:Nat):Nat→List Nat
 | 0=>[]
 | i+1=>Vf p (VZ p rows al i) (Xl p (rows.getD i []) (X7 p al (i+1)))
def JD (p:Nat) (rows ws:List (List Nat)):Nat→List Nat
 | 0=>[]
 | i+1=>Vf p (JD p rows ws i) (Vs p (ws.getD i []) (rows.getD i []))
def zD3 (p a b:Nat) (rows:List (List Nat)) (j:Nat):List Nat:=ye p (Vs p (rows.getD (a+j) []) (rows.getD (a+b+j) [])) (rows.getD (a+b+b+j) [])
def XX (p a b:Nat) (rows:List (List Nat)) (be:Nat):Nat→List Nat
 | 0=>[]
 | j+1=>Vf p (XX p a b rows be j) (Xl p (zD3 p a b rows j) (X7 p be (j+1)))
theorem JK {rows:List (List Nat)} {M:Nat} (h:∀ r∈rows,r.length≤M) (i:Nat):(rows.getD i []).length≤M:=by
 rw [List.getD_eq_getElem?_getD]
 by_cases hi:i<rows.length
 ·rw [List.getElem?_eq_getElem hi];exact h _ (List.getElem_mem hi)
 ·rw [List.getElem?_eq_none (by omega)];exact Nat.zero_le _
theorem K6 {p al M:Nat} {rows:List (List Nat)} (h:∀ r∈rows,r.length≤M):∀ i,(VZ p rows al i).length≤M
 | 0=>Nat.zero_le _
 | i+1=>by
  have h1:=XT p (VZ p rows al i) (Xl p (rows.getD i []) (X7 p al (i+1)))
  have h2:=XF p (rows.getD i []) (X7 p al (i+1))
  have h3:=K6 (p:=p) (al:=al) h i
  have h4:=JK h i
  rw [VZ]
  omega
theorem zj {p M m:Nat} {rows ws:List (List Nat)} (h:∀ r∈rows,r.length≤M) (h2:∀ r∈ws,r.length≤m):∀ i,(JD p rows ws i).length≤m-1+M
 | 0=>Nat.zero_le _
 | i+1=>by
  have h3:=XT p (JD p rows ws i) (Vs p (ws.getD i []) (rows.getD i []))
  have h4:=Uc p (ws.getD i []) (rows.getD i [])
  have h5:=zj (p:=p) h h2 i
  have h6:=JK h i
  have h7:=JK h2 i
  rw [JD]
  omega
theorem zCb (p:Nat) (a b:List Nat):(ye p a b).length≤max a.length b.length:=by
 have h1:=XT p a (Xl p b (Y1 p 1))
 have h2:=XF p b (Y1 p 1)
 unfold ye
 omega
theorem zI5 {p a b M:Nat} {rows:List (List Nat)} (h:∀ r∈rows,r.length≤M) (j:Nat):(zD3 p a b rows j).length≤M-1+M:=by
 have h1:=zCb p (Vs p (rows.getD (a+j) []) (rows.getD (a+b+j) [])) (rows.getD (a+b+b+j) [])
 have h2:=Uc p (rows.getD (a+j) []) (rows.getD (a+b+j) [])
 have h3:=JK h (a+j)
 have h4:=JK h (a+b+j)
 have h5:=JK h (a+b+b+j)
 unfold zD3
 omega
theorem K7 {p a b be M:Nat} {rows:List (List Nat)} (h:∀ r∈rows,r.length≤M):∀ i,(XX p a b rows be i).length≤M-1+M
 | 0=>Nat.zero_le _
 | i+1=>by
  have h1:=XT p (XX p a b rows be i) (Xl p (zD3 p a b rows i) (X7 p be (i+1)))
  have h2:=XF p (zD3 p a b rows i) (X7 p be (i+1))
  have h3:=K7 (p:=p) (a:=a) (b:=b) (be:=be) h i
  have h4:=zI5 (p:=p) (a:=a) (b:=b) h i
  rw [XX]
  omega
theorem X0 {rows:List (List Nat)} {i:Nat} (h:i<rows.length):rows.getD i []=rows[i]:=by rw [List.getD_eq_getElem?_getD,List.getElem?_eq_getElem h];rfl
def Va (l:List Nat) (n p:Nat):Bool:=decide (l.length=n)&&l.all fun x=>decide (x<p)
set_option maxRecDepth 100000 in
set_option maxHeartbeats 400000 in
theorem zKi (x p B:Nat) (w:World) (hc:w.cell? ⟨B,0,none⟩=some (.int .u64 (p:Int))) :
  Calls Tryz.prog 135 #[.int .u64 (x:Int), .pointer (some ⟨B,0,none⟩)] w fun e w'=>e= .returned (.bool (decide (p≤x)))∧Below w.heap.size w w':=by
 obtain ⟨v,hv⟩:∃ v,v=decide (p≤x):=⟨_,rfl⟩
 have e1:decide ((p:Int)≤(x:Int))=v:=by rw [hv];by_cases h:p≤x <;> simp [h]
 rw [←hv]
 have HV:=Lib.hid hv.symm
 clear hv
 go_enter Tryz.func135,Tryz.ntmps135
 go_wp2_with fail
 go_ret
 exact ⟨by first | rfl | (simp [HV.out]),Below.refl _ _⟩
theorem xz {l:List Nat} {p i:Nat} (h:(l.take i).all (fun x=>decide (x<p))=true) (hi:i<l.length) (hx:¬p≤l.getD i 0):(l.take (i+1)).all (fun x=>decide (x<p))=true:=by
 rw [Jx l i hi,List.all_append,h]
 have:decide (l.getD i 0<p)=true:=decide_eq_true (by omega)
 rw [List.all_cons,this]
 rfl
theorem j6 {l:List Nat} {p i:Nat} (hi:i<l.length) (hx:p≤l.getD i 0):l.all (fun x=>decide (x<p))=false:=by
 rw [List.all_eq_false]
 refine ⟨l.getD i 0,?_,by rw [decide_eq_true_iff];omega⟩
 rw [List.getD_eq_getElem?_getD,List.getElem?_eq_getElem hi]
 exact List.getElem_mem _
set_option maxRecDepth 100000 in
set_option maxHeartbeats 1000000 in
theorem zJw (A:Option Addr) (n c p B:Nat) (l:List Nat) (w:World) (hl:RWd w [.slice A n c] l) (hc:w.cell? ⟨B,0,none⟩=some (.int .u64 (p:Int))) :
  Calls Tryz.prog 156 #[.slice A n c, .func (.func 135) #[] #[.pointer (some ⟨B,0,none⟩)]] w fun e w'=>∃ r:Int,e= .returned (.int .i64 r)∧decide (0≤r)=!(l.all fun x=>decide (x<p))∧Below w.heap.size w w':=by
 obtain ⟨rfl,h1,h2,hlt,hrd⟩:=Zy hl
 have gm:=YR h1 h2
 have lB:B<w.heap.size:=World.block_lt_of_cell? _ _ hc
 have HX:=Lib.hid (fun x w' (hb:Below w.heap.size w w')=>zKi x p B w' ((hb.cell (p:=⟨B,0,none⟩) lB).trans hc))
 clear hl h1 h2 hlt hc lB
 obtain ⟨ans,ha⟩:∃ ans,ans=!(l.all fun x=>decide (x<p)):=⟨_,rfl⟩
 rw [←ha]
 have HA:=Lib.hid ha
 clear ha
 go_enter Tryz.func156,Tryz.ntmps156
 go_wp2_with fail
 go_loopw [5,8] (fun _ y wr=>∃ i:Nat,i≤l.length∧y= .int .i64 (i:Int)∧Hid ((l.take i).all (fun x=>decide (x<p))=true)∧Below w.heap.size w wr) (fun _ y _=>l.length-(intOf y).toNat)
 case atStart=>exact ⟨0,Nat.zero_le _,rfl,rfl,Below.refl _ _⟩
 case round =>
  obtain ⟨i,hi,rfl,HT,hbr⟩:=hrel
  by_cases hlt:i<l.length
  ·have g1:(0:Int)≤(i:Int):=by omega
   have g2:(i:Int)<(l.length:Int):=by omega
   obtain ⟨b,q,rfl,hbl,hc⟩:=Ym (hrd.below hbr) hlt
   by_cases hx:p≤l.getD i 0
   ·have HF:=Lib.hid (show ans=true by rw [HA.out,j6 hlt hx];rfl)
    have HC:=Lib.hid (by have:=HX.out (l.getD i 0) wr hbr;rw [decide_eq_true hx] at this;exact this)
    generalize l.getD i 0=z at *
    clear hx HT
    go_wp2_with fail
    refine HC.out.mono ?_
    rintro e w1 ⟨rfl,hb1⟩
    go_wp2
    go_ret
    exact ⟨_,rfl,by rw [HF.out];exact decide_eq_true g1,Za hbr hb1⟩
   ·have HT2:=Lib.hid (xz HT.out hlt hx)
    have HC:=Lib.hid (by have:=HX.out (l.getD i 0) wr hbr;rw [decide_eq_false hx] at this;exact this)
    generalize l.getD i 0=z at *
    clear hx HT
    go_wp2_with fail
    refine HC.out.mono ?_
    rintro e w1 ⟨rfl,hb1⟩
    replace hbr:=Za hbr hb1
    clear hc hb1 hbl
    go_wp2
    go_roundw
    case rel=>exact ⟨i+1,by omega,by go_num,HT2.out,hbr⟩
    case measure=>simp [intOf];omega
  ·obtain rfl:i=l.length:=by omega
   have HF:=Lib.hid (show ans=false by rw [HA.out];have:=HT.out;rw [List.take_length] at this;rw [this];rfl)
   go_wp2
   go_ret
   exact ⟨_,rfl,by rw [HF.out];rfl,hbr⟩
set_option maxRecDepth 100000 in
set_option maxHeartbeats 400000 in
theorem zH7 (A:Option Addr) (n c p B:Nat) (l:List Nat) (w:World) (hl:RWd w [.slice A n c] l) (hc:w.cell? ⟨B,0,none⟩=some (.int .u64 (p:Int))) :
  Calls Tryz.prog 134 #[.slice A n c, .func (.func 135) #[] #[.pointer (some ⟨B,0,none⟩)]] w fun e w'=>e= .returned (.bool (!(l.all fun x=>decide (x<p))))∧Below w.heap.size w w':=by
 have HI:=Lib.hid (zJw A n c p B l w hl hc)
 clear hl hc
 generalize (!(l.all fun x=>decide (x<p)))=ans at *
 go_enter Tryz.func134,Tryz.ntmps134
 go_wp2_with fail
 refine HI.out.mono ?_
 rintro e w1 ⟨r,rfl,hr,hb1⟩
 go_wp2
 go_ret
 exact ⟨by first | rfl | (simp [hr]),hb1⟩
set_option maxRecDepth 100000 in
set_option maxHeartbeats 400000 in
theorem Kw (A:Option Addr) (n c m p:Nat) (l:List Nat) (w:World) (hl:RWd w [.slice A n c] l) :
  Calls Tryz.prog 86 #[.slice A n c, .int .i64 (m:Int), .int .u64 (p:Int)] w fun e w'=>e= .returned (.bool (Va l m p))∧Below w.heap.size w w':=by
 have hba:Below w.heap.size w (w.alloc (.cells #[.int .u64 (p:Int)] 22)):=(Below.refl _ _).alloc (Nat.le_refl _) _
 have kb:=Blk.new w 22 #[.int .u64 (p:Int)]
 have HC:=Lib.hid (zH7 A n c p w.heap.size l (w.alloc (.cells #[.int .u64 (p:Int)] 22)) (Zc _ _ _ _ hba hl) (by rw [kb.cell];rfl))
 obtain ⟨rfl,h1,h2,hlt,hrd⟩:=Zy hl
 clear hl h1 h2 hlt hrd kb
 have HE:=Lib.hid (show Va l m p=(decide (l.length=m)&&l.all fun x=>decide (x<p)) from rfl)
 by_cases hm:l.length=m
 ·have HF:=Lib.hid (show Va l m p=l.all fun x=>decide (x<p) by rw [HE.out,decide_eq_true hm];rfl)
  have t1:((l.length:Int) == (m:Int))=true:=by rw [beq_iff_eq];omega
  rw [HF.out]
  clear hm HF HE
  generalize l.length=n at *
  generalize (l.all fun x=>decide (x<p))=v at *
  go_enter Tryz.func86,Tryz.ntmps86
  go_wp2_with fail
  refine HC.out.mono ?_
  rintro e w1 ⟨rfl,hb1⟩
  go_wp2
  go_ret
  exact ⟨by cases v <;> rfl,Za hba hb1⟩
 ·have HF:=Lib.hid (show Va l m p=false by rw [HE.out,decide_eq_false hm];rfl)
  have t1:((l.length:Int) == (m:Int))=false:=by rw [beq_eq_false_iff_ne];omega
  rw [HF.out]
  clear hm HF HE HC
  generalize l.length=n at *
  go_enter Tryz.func86,Tryz.ntmps86
  go_wp2_with fail
  go_ret
  exact ⟨rfl,hba⟩
set_option maxRecDepth 100000 in
set_option maxHeartbeats 400000 in
theorem zKj (x p B:Nat) (w:World) (hc:w.cell? ⟨B,0,none⟩=some (.int .u64 (p:Int))) :
  Calls Tryz.prog 136 #[.int .u64 (x:Int), .pointer (some ⟨B,0,none⟩)] w fun e w'=>e= .returned (.bool (decide (p≤x)))∧Below w.heap.size w w':=by
 obtain ⟨v,hv⟩:∃ v,v=decide (p≤x):=⟨_,rfl⟩
 have e1:decide ((p:Int)≤(x:Int))=v:=by rw [hv];by_cases h:p≤x <;> simp [h]
 rw [←hv]
 have HV:=Lib.hid hv.symm
 clear hv
 go_enter Tryz.func136,Tryz.ntmps136
 go_wp2_with fail
 go_ret
 exact ⟨by first | rfl | (simp [HV.out]),Below.refl _ _⟩
set_option maxRecDepth 100000 in
set_option maxHeartbeats 1000000 in
theorem zJd (A:Option Addr) (n c p B:Nat) (l:List Nat) (w:World) (hl:RWd w [.slice A n c] l) (hc:w.cell? ⟨B,0,none⟩=some (.int .u64 (p:Int))) :
  Calls Tryz.prog 156 #[.slice A n c, .func (.func 136) #[] #[.pointer (some ⟨B,0,none⟩)]] w fun e w'=>∃ r:Int,e= .returned (.int .i64 r)∧decide (0≤r)=!(l.all fun x=>decide (x<p))∧Below w.heap.size w w':=by
 obtain ⟨rfl,h1,h2,hlt,hrd⟩:=Zy hl
 have gm:=YR h1 h2
 have lB:B<w.heap.size:=World.block_lt_of_cell? _ _ hc
 have HX:=Lib.hid (fun x w' (hb:Below w.heap.size w w')=>zKj x p B w' ((hb.cell (p:=⟨B,0,none⟩) lB).trans hc))
 clear hl h1 h2 hlt hc lB
 obtain ⟨ans,ha⟩:∃ ans,ans=!(l.all fun x=>decide (x<p)):=⟨_,rfl⟩
 rw [←ha]
 have HA:=Lib.hid ha
 clear ha
 go_enter Tryz.func156,Tryz.ntmps156
 go_wp2_with fail
 go_loopw [5,8] (fun _ y wr=>∃ i:Nat,i≤l.length∧y= .int .i64 (i:Int)∧Hid ((l.take i).all (fun x=>decide (x<p))=true)∧Below w.heap.size w wr) (fun _ y _=>l.length-(intOf y).toNat)
 case atStart=>exact ⟨0,Nat.zero_le _,rfl,rfl,Below.refl _ _⟩
 case round =>
  obtain ⟨i,hi,rfl,HT,hbr⟩:=hrel
  by_cases hlt:i<l.length
  ·have g1:(0:Int)≤(i:Int):=by omega
   have g2:(i:Int)<(l.length:Int):=by omega
   obtain ⟨b,q,rfl,hbl,hc⟩:=Ym (hrd.below hbr) hlt
   by_cases hx:p≤l.getD i 0
   ·have HF:=Lib.hid (show ans=true by rw [HA.out,j6 hlt hx];rfl)
    have HC:=Lib.hid (by have:=HX.out (l.getD i 0) wr hbr;rw [decide_eq_true hx] at this;exact this)
    generalize l.getD i 0=z at *
    clear hx HT
    go_wp2_with fail
    refine HC.out.mono ?_
    rintro e w1 ⟨rfl,hb1⟩
    go_wp2
    go_ret
    exact ⟨_,rfl,by rw [HF.out];exact decide_eq_true g1,Za hbr hb1⟩
   ·have HT2:=Lib.hid (xz HT.out hlt hx)
    have HC:=Lib.hid (by have:=HX.out (l.getD i 0) wr hbr;rw [decide_eq_false hx] at this;exact this)
    generalize l.getD i 0=z at *
    clear hx HT
    go_wp2_with fail
    refine HC.out.mono ?_
    rintro e w1 ⟨rfl,hb1⟩
    replace hbr:=Za hbr hb1
    clear hc hb1 hbl
    go_wp2
    go_roundw
    case rel=>exact ⟨i+1,by omega,by go_num,HT2.out,hbr⟩
    case measure=>simp [intOf];omega
  ·obtain rfl:i=l.length:=by omega
   have HF:=Lib.hid (show ans=false by rw [HA.out];have:=HT.out;rw [List.take_length] at this;rw [this];rfl)
   go_wp2
   go_ret
   exact ⟨_,rfl,by rw [HF.out];rfl,hbr⟩
set_option maxRecDepth 100000 in
set_option maxHeartbeats 400000 in
theorem zGd (A:Option Addr) (n c p B:Nat) (l:List Nat) (w:World) (hl:RWd w [.slice A n c] l) (hc:w.cell? ⟨B,0,none⟩=some (.int .u64 (p:Int))) :
  Calls Tryz.prog 134 #[.slice A n c, .func (.func 136) #[] #[.pointer (some ⟨B,0,none⟩)]] w fun e w'=>e= .returned (.bool (!(l.all fun x=>decide (x<p))))∧Below w.heap.size w w':=by
 have HI:=Lib.hid (zJd A n c p B l w hl hc)
 clear hl hc
 generalize (!(l.all fun x=>decide (x<p)))=ans at *
 go_enter Tryz.func134,Tryz.ntmps134
 go_wp2_with fail
 refine HI.out.mono ?_
 rintro e w1 ⟨r,rfl,hr,hb1⟩
 go_wp2
 go_ret
 exact ⟨by first | rfl | (simp [hr]),hb1⟩
set_option maxRecDepth 100000 in
set_option maxHeartbeats 400000 in
theorem Jt (L:ZO) (A:Option Addr) (n c:Nat) (l:List Nat) (w:World) (hl:RWd w [.slice A n c] l) :
  Calls Tryz.prog 88 #[.agg (Zz L), .slice A n c] w fun e w'=>e= .returned (.bool (l.all fun x=>decide (x<L.p)))∧Below w.heap.size w w':=by
 unfold Zz
 have hba:Below w.heap.size w (w.alloc (.cells #[.int .u64 (L.p:Int), .int .i64 (L.block:Int), .int .i64 (L.queries:Int), .int .i64 (L.k:Int), .int .i64 (L.n:Int), .int .i64 (L.secret:Int), .int .i64 (L.rows:Int), .int .i64 (L.a:Int), .int .i64 (L.b:Int), .int .i64 (L.b:Int), .int .i64 (L.b:Int)] 55)):=(Below.refl _ _).alloc (Nat.le_refl _) _
 have kb:=Blk.new w 55 #[.int .u64 (L.p:Int), .int .i64 (L.block:Int), .int .i64 (L.queries:Int), .int .i64 (L.k:Int), .int .i64 (L.n:Int), .int .i64 (L.secret:Int), .int .i64 (L.rows:Int), .int .i64 (L.a:Int), .int .i64 (L.b:Int), .int .i64 (L.b:Int), .int .i64 (L.b:Int)]
 have HC:=Lib.hid (zGd A n c L.p w.heap.size l (w.alloc (.cells #[.int .u64 (L.p:Int), .int .i64 (L.block:Int), .int .i64 (L.queries:Int), .int .i64 (L.k:Int), .int .i64 (L.n:Int), .int .i64 (L.secret:Int), .int .i64 (L.rows:Int), .int .i64 (L.a:Int), .int .i64 (L.b:Int), .int .i64 (L.b:Int), .int .i64 (L.b:Int)] 55)) (Zc _ _ _ _ hba hl) (by rw [kb.cell];rfl))
 clear hl kb
 generalize (l.all fun x=>decide (x<L.p))=v at *
 go_enter Tryz.func88,Tryz.ntmps88
 go_wp2_with fail
 refine HC.out.mono ?_
 rintro e w1 ⟨rfl,hb1⟩
 go_wp2
 go_ret
 exact ⟨by cases v <;> rfl,Za hba hb1⟩
def Vc (L:ZO) (a b c:List Nat):Bool :=
 decide (a.length=L.k)&&decide (b.length=L.k+L.block-1)&&decide (c.length=2*L.k-1)&&(a.all fun x=>decide (x<L.p))&&(b.all fun x=>decide (x<L.p))&&(c.all fun x=>decide (x<L.p))
set_option maxRecDepth 100000 in
set_option maxHeartbeats 2000000 in
theorem zEp (L:ZO) (A B C:Option Addr) (n1 c1 n2 c2 n3 c3:Nat) (a b c:List Nat) (w:World) (hL:ZU L) (ha:RWd w [.slice A n1 c1] a) (hb:RWd w [.slice B n2 c2] b) (hc:RWd w [.slice C n3 c3] c) (hn:n1=a.length∧n2=b.length∧n3=c.length) :
  Calls Tryz.prog 87 #[.agg (Zz L), .slice A n1 c1, .slice B n2 c2, .slice C n3 c3] w fun e w'=>e= .returned (.bool (Vc L a b c))∧Below w.heap.size w w':=by
 obtain ⟨rfl,rfl,rfl⟩:=hn
 have hb1:=hL.b1
 have hb2:=hL.b2
 have hq1:=hL.q1
 have hq2:=hL.q2
 have hk:=hL.k
 have HA:=Lib.hid (fun w' (h:Below w.heap.size w w')=>Jt L A a.length c1 a w' (Zc _ _ _ _ h ha))
 have HB:=Lib.hid (fun w' (h:Below w.heap.size w w')=>Jt L B b.length c2 b w' (Zc _ _ _ _ h hb))
 have HC:=Lib.hid (fun w' (h:Below w.heap.size w w')=>Jt L C c.length c3 c w' (Zc _ _ _ _ h hc))
 obtain ⟨t1,ht1⟩:∃ t1,t1=L.k+L.block:=⟨_,rfl⟩
 obtain ⟨t2,ht2⟩:∃ t2,t2=L.k+L.block-1:=⟨_,rfl⟩
 obtain ⟨t3,ht3⟩:∃ t3,t3=2*L.k:=⟨_,rfl⟩
 obtain ⟨t4,ht4⟩:∃ t4,t4=2*L.k-1:=⟨_,rfl⟩
 have e1:(L.k:Int)+(L.block:Int)=(t1:Int):=by omega
 have e2:IntKind.i64.wrap (t1:Int)=(t1:Int):=ZD _ (by omega) (by omega)
 have e3:(t1:Int)-1=(t2:Int):=by omega
 have e4:IntKind.i64.wrap (t2:Int)=(t2:Int):=ZD _ (by omega) (by omega)
 have e5:(2:Int)*(L.k:Int)=(t3:Int):=by omega
 have e6:IntKind.i64.wrap (t3:Int)=(t3:Int):=ZD _ (by omega) (by omega)
 have e7:(t3:Int)-1=(t4:Int):=by omega
 have e8:IntKind.i64.wrap (t4:Int)=(t4:Int):=ZD _ (by omega) (by omega)
 have HE:=Lib.hid (show Vc L a b c=(decide (a.length=L.k)&&decide (b.length=t2)&&decide (c.length=t4)&&(a.all fun x=>decide (x<L.p))&&(b.all fun x=>decide (x<L.p))&&(c.all fun x=>decide (x<L.p))) by rw [ht2,ht4];rfl)
 clear ht1 ht2 ht3 ht4 hb1 hb2 hq1 hq2 hk hL ha hb hc
 generalize (a.all fun x=>decide (x<L.p))=b1 at *
 generalize (b.all fun x=>decide (x<L.p))=b2 at *
 generalize (c.all fun x=>decide (x<L.p))=b3 at *
 obtain ⟨R,hR⟩:∃ R,R=Vc L a b c:=⟨_,rfl⟩
 rw [←hR] at HE ⊢
 clear hR
 generalize a.length=n1 at *
 generalize b.length=n2 at *
 generalize c.length=n3 at *
 unfold Zz at *
 have hb0:Below w.heap.size w (w.alloc (.cells #[.int .u64 (L.p:Int), .int .i64 (L.block:Int), .int .i64 (L.queries:Int), .int .i64 (L.k:Int), .int .i64 (L.n:Int), .int .i64 (L.secret:Int), .int .i64 (L.rows:Int), .int .i64 (L.a:Int), .int .i64 (L.b:Int), .int .i64 (L.b:Int), .int .i64 (L.b:Int)] 55)):=(Below.refl _ _).alloc (Nat.le_refl _) _
 have kl:=Blk.new w 55 #[.int .u64 (L.p:Int), .int .i64 (L.block:Int), .int .i64 (L.queries:Int), .int .i64 (L.k:Int), .int .i64 (L.n:Int), .int .i64 (L.secret:Int), .int .i64 (L.rows:Int), .int .i64 (L.a:Int), .int .i64 (L.b:Int), .int .i64 (L.b:Int), .int .i64 (L.b:Int)]
 by_cases h1:n1=L.k
 rotate_left
 ·have d1:((n1:Int) != (L.k:Int))=true:=by simp;omega
  have HF:=Lib.hid (show R=false by rw [HE.out,decide_eq_false h1];rfl)
  clear h1 HE HA HB HC
  go_enter Tryz.func87,Tryz.ntmps87
  go_wp2
  go_ret
  exact ⟨by rw [HF.out];rfl,hb0⟩
 have d1:((n1:Int) != (L.k:Int))=false:=by simp;omega
 by_cases h2:n2=t2
 rotate_left
 ·have d2:((n2:Int) != (t2:Int))=true:=by simp;omega
  have HF:=Lib.hid (show R=false by rw [HE.out,decide_eq_false h2];simp)
  clear h1 h2 HE HA HB HC
  go_enter Tryz.func87,Tryz.ntmps87
  go_wp2
  go_ret
  exact ⟨by rw [HF.out];rfl,hb0⟩
 have d2:((n2:Int) != (t2:Int))=false:=by simp;omega
 by_cases h3:n3=t4
 rotate_left
 ·have d3:((n3:Int) != (t4:Int))=true:=by simp;omega
  have HF:=Lib.hid (show R=false by rw [HE.out,decide_eq_false h3];simp)
  clear h1 h2 h3 HE HA HB HC
  go_enter Tryz.func87,Tryz.ntmps87
  go_wp2
  go_ret
  exact ⟨by rw [HF.out];rfl,hb0⟩
 have d3:((n3:Int) != (t4:Int))=false:=by simp;omega
 have HF:=Lib.hid (show R=(b1&&b2&&b3) by rw [HE.out,decide_eq_true h1,decide_eq_true h2,decide_eq_true h3];rfl)
 clear h1 h2 h3 HE
 go_enter Tryz.func87,Tryz.ntmps87
 go_wp2_with fail
 generalize w.alloc _=w1 at kl hb0 ⊢
 refine (HA.out _ hb0).mono ?_
 rintro e w2 ⟨rfl,hbx⟩
 replace kl:=kl.below hbx kl.lt
 replace hb0:=Za hb0 hbx
 clear hbx
 cases b1
 ·go_wp2
  go_ret
  exact ⟨by rw [HF.out];rfl,hb0⟩
 have cl:=kl.cell
 go_wp2_with fail
 refine (HB.out _ hb0).mono ?_
 rintro e w3 ⟨rfl,hbx⟩
 replace kl:=kl.below hbx kl.lt
 replace hb0:=Za hb0 hbx
 clear hbx cl
 cases b2
 ·go_wp2
  go_ret
  exact ⟨by rw [HF.out];rfl,hb0⟩
 have cl:=kl.cell
 go_wp2_with fail
 refine (HC.out _ hb0).mono ?_
 rintro e w4 ⟨rfl,hbx⟩
 go_wp2
 go_ret
 exact ⟨by rw [HF.out];simp,Za hb0 hbx⟩
def Um (p s:Nat) (F G:Nat→Nat) (t:Nat):Nat→Nat:=X8 (fun k=>(F k+s*G k%p)%p) F t
set_option maxRecDepth 100000 in
set_option maxHeartbeats 2000000 in
theorem yt (p s g base gb na ca nb cb mb t:Nat) (F G:Nat→Nat) (w:World) (hp:okP p=true) (ka:w.ownsRow base 22 1 (.slice (some ⟨g,0,none⟩) na ca) na (U64 ((List.range na).map F))) (kb:Blk w gb 22 (Zm mb G)) (hg:g≠gb) (hb:nb≤mb) (ht:t=min na nb) (hm:na≤65536) :
  Calls Tryz.prog 82 #[fv p, .slice (some ⟨g,0,none⟩) na ca, .slice (some ⟨gb,0,none⟩) nb cb, .int .u64 (s:Int)] w fun e w'=>e= .returned (.tuple #[])∧w'.ownsRow base 22 1 (.slice (some ⟨g,0,none⟩) na ca) na (U64 ((List.range na).map (Um p s F G t)))∧w.grownBy w' (some g):=by
 have HA:=Lib.hid (fun a b w=>YX p a b w hp)
 have HM:=Lib.hid (fun a b w=>XI p a b w hp)
 have hmin:min (na:Int) (nb:Int)=(t:Int):=by omega
 have gl:(na:Int)≤65536:=by omega
 have lg:g<w.heap.size:=(ka.lt g rfl).2
 have lgb:=kb.lt
 have ht1:t≤na:=by omega
 have ht2:t≤nb:=by omega
 have gt:(t:Int)≤65536:=by omega
 clear ht hp
 unfold fv Um at *
 have hb0:Below w.heap.size w (w.alloc (.cells #[.int .u64 (p:Int)] 96)):=(Below.refl _ _).alloc (Nat.le_refl _) _
 have kf:=Blk.new w 96 #[.int .u64 (p:Int)]
 have g1:w.heap.size≠g:=by omega
 replace ka:=Zh ka hb0 (Nat.le_refl _)
 replace kb:=kb.below hb0 kb.lt
 have hgr:=ZI (Zv w (some g)) hb0 (Nat.le_refl _)
 clear hb0
 obtain ⟨S,hS⟩:∃ S:Nat→Nat,S=fun k=>(F k+s*G k%p)%p:=⟨_,rfl⟩
 have HSE:=Lib.hid (show ∀ k,(F k+s*G k%p)%p=S k from fun k=>by rw [hS])
 rw [←hS]
 clear hS
 have HZ:=Lib.hid (zD na S F)
 go_enter Tryz.func82,Tryz.ntmps82
 go_upto_region 1 with fail
 generalize w.alloc _=w0 at kf ka kb hgr ⊢
 go_wp2_with fail
 go_loopw [14] (fun y wr=>∃ i:Nat,i≤t∧y= .int .i64 (i:Int)∧Blk wr w.heap.size 96 #[.int .u64 (p:Int)]∧wr.ownsRow base 22 1 (.slice (some ⟨g,0,none⟩) na ca) na (U64 ((List.range na).map (X8 S F i)))∧Blk wr gb 22 (Zm mb G)∧w.grownBy wr (some g)) (fun y _=>t-(intOf y).toNat)
 case atStart=>exact ⟨0,Nat.zero_le _,rfl,kf,by rw [HZ.out];exact ka,kb,hgr⟩
 case round =>
  clear kf ka kb hgr
  obtain ⟨i,hi,rfl,kf,ka,kb,hgr⟩:=hrel
  by_cases hlt:i<t
  ·have q1:(0:Int)≤(i:Int):=by omega
   have q2:(i:Int)<(t:Int):=by omega
   have q3:(i:Int)<(na:Int):=by omega
   have q4:(i:Int)<(nb:Int):=by omega
   have him:i<na:=by omega
   have himb:i<mb:=by omega
   have HSi:=Lib.hid (HSE.out i)
   obtain ⟨x,hx⟩:∃ x,x=F i:=⟨_,rfl⟩
   obtain ⟨y,hy⟩:∃ y,y=G i:=⟨_,rfl⟩
   obtain ⟨u,hu⟩:∃ u,u=s*y%p:=⟨_,rfl⟩
   obtain ⟨z,hz⟩:∃ z,z=S i:=⟨_,rfl⟩
   have HST:=Lib.hid (yY (n:=na) (G:=F) hz)
   rw [←hx,←hy,←hu,←hz] at HSi
   have HX:=Lib.hid (show (U64 ((List.range na).map (X8 S F i)))[i]?=some (.int .u64 (x:Int)) by rw [zh _ _ him,hx])
   have HM1:Hid (∀ w:World,Calls Tryz.prog 56 #[.agg #[.int .u64 (p:Int)], .int .u64 (s:Int), .int .u64 (y:Int)] w fun e w'=>e= .returned (.int .u64 (u:Int))∧Below w.heap.size w w'):=Lib.hid (fun w=>by rw [hu];exact HM.out s y w)
   have HC:Hid (∀ w:World,Calls Tryz.prog 111 #[.agg #[.int .u64 (p:Int)], .int .u64 (x:Int), .int .u64 (u:Int)] w fun e w'=>e= .returned (.int .u64 (z:Int))∧Below w.heap.size w w'):=Lib.hid (fun w=>by rw [←HSi.out];exact HA.out x u w)
   have ca1:=ka.cellAt i (by omega)
   rw [HX.out] at ca1
   have cb1:=kb.cell i
   rw [Z4 _ himb,←hy] at cb1
   clear hx hy hz hu
   have cf:=kf.cell
   have lf:=kf.lt
   have la:g<wr.heap.size:=(ka.lt g rfl).2
   have lb:=kb.lt
   go_upto_region 4 with fail
   refine ZF (ZK) (later_moves) [16] [16] [0,1,2,3,4,5,6,7,8,9,10,11,12,13,14,15,16] (by kernel_rfl) (by kernel_rfl) ?_
   refine ZG (later_moves) ?_
   intro Wc hacc
   repeat (first | (refine Zl (later_moves) rfl rfl rfl rfl (fun _ _ _ h=>h) ?_;simp only [Act.put,zLa,zLb,zLc]) | (refine Zi (v:=?_) (later_moves) rfl rfl rfl rfl (fun _ _ _ h=>h) ?_ ?_;rotate_left;(· (intro w' hR;(first | have hcells:=Zb ((later_moves).trans _ _ _ hacc hR) | skip);go_simp;try with_reducible rfl));simp only [Act.put,zLa,zLb,zLc]) | (refine Zu (v:=?_) rfl rfl rfl rfl (fun _ _ _ h=>h) ?_ ?_;rotate_left;(· (intro w';go_simp;try with_reducible rfl));simp only [Act.put,zLa,zLb,zLc]))
   refine Zs (later_moves) rfl rfl rfl rfl (fun _ _ _ h=>h) (fun _=>by go_simp <;> rfl) (fun w' hR=>HM1.out _) ?_
   simp only [Act.put,zLa,zLb,zLc]
   repeat (first | (refine Zl (later_moves) rfl rfl rfl rfl (fun _ _ _ h=>h) ?_;simp only [Act.put,zLa,zLb,zLc]) | (refine Zi (v:=?_) (later_moves) rfl rfl rfl rfl (fun _ _ _ h=>h) ?_ ?_;rotate_left;(· (intro w' hR;(first | have hcells:=Zb ((later_moves).trans _ _ _ hacc hR) | skip);go_simp;try with_reducible rfl));simp only [Act.put,zLa,zLb,zLc]) | (refine Zu (v:=?_) rfl rfl rfl rfl (fun _ _ _ h=>h) ?_ ?_;rotate_left;(· (intro w';go_simp;try with_reducible rfl));simp only [Act.put,zLa,zLb,zLc]))
   refine Zs (later_moves) rfl rfl rfl rfl (fun _ _ _ h=>h) (fun _=>by go_simp <;> rfl) (fun w' hR=>HC.out _) ?_
   simp only [Act.put,zLa,zLb,zLc]
   repeat (first | (refine Zl (later_moves) rfl rfl rfl rfl (fun _ _ _ h=>h) ?_;simp only [Act.put,zLa,zLb,zLc]) | (refine Zi (v:=?_) (later_moves) rfl rfl rfl rfl (fun _ _ _ h=>h) ?_ ?_;rotate_left;(· (intro w' hR;(first | have hcells:=Zb ((later_moves).trans _ _ _ hacc hR) | skip);go_simp;try with_reducible rfl));simp only [Act.put,zLa,zLb,zLc]) | (refine Zu (v:=?_) rfl rfl rfl rfl (fun _ _ _ h=>h) ?_ ?_;rotate_left;(· (intro w';go_simp;try with_reducible rfl));simp only [Act.put,zLa,zLb,zLc]))
   refine Z7 rfl rfl rfl rfl ?_
   intro wh hRh
   replace hacc:=(later_moves).trans _ _ _ hacc hRh
   have hxd:=Za (Below.refl wr.heap.size wr).drew hacc
   have hgr2:=ZI hgr hxd hgr.size
   replace kf:=kf.below hxd kf.lt
   replace ka:=Zh ka hxd (Nat.le_refl _)
   replace kb:=kb.below hxd kb.lt
   clear hxd hacc hRh cf lf la lb ca1 cb1 hgr
   have c2:=ka.cellAt i (by omega)
   rw [HX.out] at c2
   have f2:=ka.frozenAt i
   go_simp
   refine ⟨fun h=>Bool.noConfusion h,?_⟩
   obtain ⟨ka,hg3⟩:=ka.stored i (.int .u64 (z:Int))
   replace kf:=kf.grown hg3 (fun e=>g1 (Option.some.inj e))
   replace kb:=kb.grown hg3 (fun e=>hg (Option.some.inj e).symm)
   rw [HST.out] at ka
   have hgr:=Yy hgr2 hg3 (fun _ e=>.inl e)
   clear hg3 f2 c2 hgr2
   generalize wh.setCell _ _=we at kf ka kb hgr ⊢
   refine Z8 rfl ?_
   go_wp2_with fail
   go_roundw
   case rel=>exact ⟨i+1,by omega,by go_num,kf,ka,kb,hgr⟩
   case measure=>simp [intOf];omega
  ·obtain rfl:i=t:=by omega
   have q2:¬((i:Int)<(i:Int)):=by omega
   go_wp2
   exact bodyPost_end (v:=.tuple #[]) (by simp [results,Tryz.results82,go_sem]) rfl ⟨rfl,ka,hgr⟩
def jd (A:Option Addr) (c t m:Nat):Value:=.slice (if c=t then A else Option.map (fun x=>x.add t) A) (m-t) (c-t)
set_option maxRecDepth 100000 in
set_option maxHeartbeats 1000000 in
theorem zD1 (L:ZO) (A:Option Addr) (n c x y z:Nat) (w:World) (hL:ZU L) (hx:x=L.a) (hy:y=L.a+L.b) (hz:z=L.a+L.b+L.b) (hn:z≤n) (hnc:n≤c) (hm:c≤maxLen) :
  Calls Tryz.prog 59 #[.agg (Zz L), .slice A n c] w fun e w'=>e= .returned (.tuple #[.slice A x c,jd A c x y,jd A c y z,jd A c z n])∧Below w.heap.size w w':=by
 have hla:=hL.a
 have hlb:=hL.b
 have gm:(c:Int)≤9223372036854775807:=by
  simp [maxLen] at hm
  omega
 have e1:(L.a:Int)+(L.b:Int)=(y:Int):=by omega
 have e2:IntKind.i64.wrap (y:Int)=(y:Int):=ZD _ (by omega) (by omega)
 have e3:(y:Int)+(L.b:Int)=(z:Int):=by omega
 have e4:IntKind.i64.wrap (z:Int)=(z:Int):=ZD _ (by omega) (by omega)
 have i0:(0:Int)≤(x:Int):=by omega
 have i1:(x:Int)≤(y:Int):=by omega
 have i2:(y:Int)≤(z:Int):=by omega
 have i3:(z:Int)≤(n:Int):=by omega
 have i4:(n:Int)≤(c:Int):=by omega
 have i5:(x:Int)≤(c:Int):=by omega
 have i6:(y:Int)≤(c:Int):=by omega
 have i7:(z:Int)≤(c:Int):=by omega
 have i8:(0:Int)≤(y:Int):=by omega
 have i9:(0:Int)≤(z:Int):=by omega
 have hb0:Below w.heap.size w (w.alloc (.cells #[.int .u64 (L.p:Int), .int .i64 (L.block:Int), .int .i64 (L.queries:Int), .int .i64 (L.k:Int), .int .i64 (L.n:Int), .int .i64 (L.secret:Int), .int .i64 (L.rows:Int), .int .i64 (L.a:Int), .int .i64 (L.b:Int), .int .i64 (L.b:Int), .int .i64 (L.b:Int)] 55)):=(Below.refl _ _).alloc (Nat.le_refl _) _
 have kl:=Blk.new w 55 #[.int .u64 (L.p:Int), .int .i64 (L.block:Int), .int .i64 (L.queries:Int), .int .i64 (L.k:Int), .int .i64 (L.n:Int), .int .i64 (L.secret:Int), .int .i64 (L.rows:Int), .int .i64 (L.a:Int), .int .i64 (L.b:Int), .int .i64 (L.b:Int), .int .i64 (L.b:Int)]
 clear hL hla hlb hn hy hz hnc hm
 subst hx
 unfold Zz jd
 obtain ⟨B1,hB1⟩:∃ B1,B1=(if c=L.a then A else Option.map (fun x=>x.add L.a) A):=⟨_,rfl⟩
 obtain ⟨B2,hB2⟩:∃ B2,B2=(if c=y then A else Option.map (fun x=>x.add y) A):=⟨_,rfl⟩
 obtain ⟨B3,hB3⟩:∃ B3,B3=(if c=z then A else Option.map (fun x=>x.add z) A):=⟨_,rfl⟩
 obtain ⟨n1,hn1⟩:∃ n1,n1=y-L.a:=⟨_,rfl⟩
 obtain ⟨n2,hn2⟩:∃ n2,n2=z-y:=⟨_,rfl⟩
 obtain ⟨n3,hn3⟩:∃ n3,n3=n-z:=⟨_,rfl⟩
 obtain ⟨c1,hc1⟩:∃ c1,c1=c-L.a:=⟨_,rfl⟩
 obtain ⟨c2,hc2⟩:∃ c2,c2=c-y:=⟨_,rfl⟩
 obtain ⟨c3,hc3⟩:∃ c3,c3=c-z:=⟨_,rfl⟩
 rw [←hB1,←hB2,←hB3,←hn1,←hn2,←hn3,←hc1,←hc2,←hc3]
 have HX:=Lib.hid (And.intro hB1 (And.intro hB2 (And.intro hB3 (And.intro hn1 (And.intro hn2 (And.intro hn3 (And.intro hc1 (And.intro hc2 hc3))))))))
 clear hB1 hB2 hB3 hn1 hn2 hn3 hc1 hc2 hc3
 go_enter Tryz.func59,Tryz.ntmps59
 go_upto_region 1 with fail
 generalize w.alloc _=w1 at kl hb0 ⊢
 have cl:=kl.cell
 go_upto_region 4 with fail
 refine Zq (ZK) [] [0,1,2,3,4,5,6,7,8,9,10,11,12,13,14,15,16,17] (by kernel_rfl) (by kernel_rfl) ?_
 refine Zp (later_moves) ?_
 intro Wc HWc hacc
 have hbW:Below w1.heap.size w1 Wc:=by rw [HWc.out];exact (Below.refl _ _).drew
 repeat (first | (refine Zf (later_moves) rfl rfl (fun _ _ _ h=>h) ?_;simp only [Act.put,zLa,zLb,zLc]) | (refine Ze (v:=?_) (later_moves) rfl rfl (fun _ _ _ h=>h) ?_ ?_;rotate_left;(· (intro w' hR;(first | have hcells:=Zb ((later_moves).trans _ _ _ hacc hR) | skip);go_simp;try with_reducible rfl));simp only [Act.put,zLa,zLb,zLc]))
 refine Zt ?_
 obtain ⟨hB1,hB2,hB3,hn1,hn2,hn3,hc1,hc2,hc3⟩:=HX.out
 rw [←hB1,←hB2,←hB3,←hn1,←hn2,←hn3,←hc1,←hc2,←hc3]
 clear hB1 hB2 hB3 hn1 hn2 hn3 hc1 hc2 hc3
 go_wp2
 exact bodyPost_ret (v:=.tuple #[.slice A L.a c, .slice B1 n1 c1, .slice B2 n2 c2, .slice B3 n3 c3]) (by simp [results,Tryz.results59,go_sem]) rfl ⟨rfl,Za hb0 hbW⟩
set_option maxRecDepth 100000 in
set_option maxHeartbeats 1000000 in
theorem zDr (L:ZO) (A:Option Addr) (n c x y z:Nat) (w:World) (hL:ZU L) (hx:x=L.a) (hy:y=L.a+L.b) (hz:z=L.a+L.b+L.b) (hn:z≤n) (hnc:n≤c) (hm:c≤maxLen) :
  Calls Tryz.prog 84 #[.agg (Zz L), .slice A n c] w fun e w'=>e= .returned (.tuple #[.slice A x c,jd A c x y,jd A c y z,jd A c z n])∧Below w.heap.size w w':=by
 have hla:=hL.a
 have hlb:=hL.b
 have gm:(c:Int)≤9223372036854775807:=by
  simp [maxLen] at hm
  omega
 have e1:(L.a:Int)+(L.b:Int)=(y:Int):=by omega
 have e2:IntKind.i64.wrap (y:Int)=(y:Int):=ZD _ (by omega) (by omega)
 have e3:(y:Int)+(L.b:Int)=(z:Int):=by omega
 have e4:IntKind.i64.wrap (z:Int)=(z:Int):=ZD _ (by omega) (by omega)
 have i0:(0:Int)≤(x:Int):=by omega
 have i1:(x:Int)≤(y:Int):=by omega
 have i2:(y:Int)≤(z:Int):=by omega
 have i3:(z:Int)≤(n:Int):=by omega
 have i4:(n:Int)≤(c:Int):=by omega
 have i5:(x:Int)≤(c:Int):=by omega
 have i6:(y:Int)≤(c:Int):=by omega
 have i7:(z:Int)≤(c:Int):=by omega
 have i8:(0:Int)≤(y:Int):=by omega
 have i9:(0:Int)≤(z:Int):=by omega
 have hb0:Below w.heap.size w (w.alloc (.cells #[.int .u64 (L.p:Int), .int .i64 (L.block:Int), .int .i64 (L.queries:Int), .int .i64 (L.k:Int), .int .i64 (L.n:Int), .int .i64 (L.secret:Int), .int .i64 (L.rows:Int), .int .i64 (L.a:Int), .int .i64 (L.b:Int), .int .i64 (L.b:Int), .int .i64 (L.b:Int)] 55)):=(Below.refl _ _).alloc (Nat.le_refl _) _
 have kl:=Blk.new w 55 #[.int .u64 (L.p:Int), .int .i64 (L.block:Int), .int .i64 (L.queries:Int), .int .i64 (L.k:Int), .int .i64 (L.n:Int), .int .i64 (L.secret:Int), .int .i64 (L.rows:Int), .int .i64 (L.a:Int), .int .i64 (L.b:Int), .int .i64 (L.b:Int), .int .i64 (L.b:Int)]
 clear hL hla hlb hn hy hz hnc hm
 subst hx
 unfold Zz jd
 obtain ⟨B1,hB1⟩:∃ B1,B1=(if c=L.a then A else Option.map (fun x=>x.add L.a) A):=⟨_,rfl⟩
 obtain ⟨B2,hB2⟩:∃ B2,B2=(if c=y then A else Option.map (fun x=>x.add y) A):=⟨_,rfl⟩
 obtain ⟨B3,hB3⟩:∃ B3,B3=(if c=z then A else Option.map (fun x=>x.add z) A):=⟨_,rfl⟩
 obtain ⟨n1,hn1⟩:∃ n1,n1=y-L.a:=⟨_,rfl⟩
 obtain ⟨n2,hn2⟩:∃ n2,n2=z-y:=⟨_,rfl⟩
 obtain ⟨n3,hn3⟩:∃ n3,n3=n-z:=⟨_,rfl⟩
 obtain ⟨c1,hc1⟩:∃ c1,c1=c-L.a:=⟨_,rfl⟩
 obtain ⟨c2,hc2⟩:∃ c2,c2=c-y:=⟨_,rfl⟩
 obtain ⟨c3,hc3⟩:∃ c3,c3=c-z:=⟨_,rfl⟩
 rw [←hB1,←hB2,←hB3,←hn1,←hn2,←hn3,←hc1,←hc2,←hc3]
 have HX:=Lib.hid (And.intro hB1 (And.intro hB2 (And.intro hB3 (And.intro hn1 (And.intro hn2 (And.intro hn3 (And.intro hc1 (And.intro hc2 hc3))))))))
 clear hB1 hB2 hB3 hn1 hn2 hn3 hc1 hc2 hc3
 go_enter Tryz.func84,Tryz.ntmps84
 go_upto_region 1 with fail
 generalize w.alloc _=w1 at kl hb0 ⊢
 have cl:=kl.cell
 go_upto_region 4 with fail
 refine Zq (ZK) [] [0,1,2,3,4,5,6,7,8,9,10,11,12,13,14,15,16,17] (by kernel_rfl) (by kernel_rfl) ?_
 refine Zp (later_moves) ?_
 intro Wc HWc hacc
 have hbW:Below w1.heap.size w1 Wc:=by rw [HWc.out];exact (Below.refl _ _).drew
 repeat (first | (refine Zf (later_moves) rfl rfl (fun _ _ _ h=>h) ?_;simp only [Act.put,zLa,zLb,zLc]) | (refine Ze (v:=?_) (later_moves) rfl rfl (fun _ _ _ h=>h) ?_ ?_;rotate_left;(· (intro w' hR;(first | have hcells:=Zb ((later_moves).trans _ _ _ hacc hR) | skip);go_simp;try with_reducible rfl));simp only [Act.put,zLa,zLb,zLc]))
 refine Zt ?_
 obtain ⟨hB1,hB2,hB3,hn1,hn2,hn3,hc1,hc2,hc3⟩:=HX.out
 rw [←hB1,←hB2,←hB3,←hn1,←hn2,←hn3,←hc1,←hc2,←hc3]
 clear hB1 hB2 hB3 hn1 hn2 hn3 hc1 hc2 hc3
 go_wp2
 exact bodyPost_ret (v:=.tuple #[.slice A L.a c, .slice B1 n1 c1, .slice B2 n2 c2, .slice B3 n3 c3]) (by simp [results,Tryz.results84,go_sem]) rfl ⟨rfl,Za hb0 hbW⟩
def jb (p N J:Nat) (a b:List Nat):Nat→Nat:=J2 p N J ((List.range N).map fun i=>Jf p N J a 1 i*Jf p N J b 1 i%p)
set_option maxRecDepth 100000 in
set_option maxHeartbeats 4000000 in
theorem Gn (p:Nat) (A B:Option Addr) (n c m d J N len:Nat) (a b:List Nat) (w:World) (hp:okP p=true) (ha:RWd w [.slice A n c] a) (hb:RWd w [.slice B m d] b) (hn1:1≤n) (hm1:1≤m) (hn8:n≤4096) (hm8:m≤4096) (hN:XS p N) (hJ:N=2^J) (hlen:n+m=len+1) (h1:len≤N) (h2:∀ j,j<J→2^j<len) :
  Calls Tryz.prog 83 #[fv p, .slice A n c, .slice B m d] w fun e w'=>∃ g,e= .returned (.tuple #[.slice (some ⟨g,0,none⟩) len N, .int .i64 0])∧w.heap.size≤g∧Blk w' g 22 (Zm N (jb p N J a b))∧Below w.heap.size w w':=by
 obtain ⟨hp1,hp2⟩:=Zr hp
 have hN4:=hN.le
 have hN1:=hN.pos
 have HV:=Lib.hid (fun w=>YK p w hp)
 have HR:=Lib.hid (fun w=>KR p N w hp hN)
 have HEa:=Lib.hid (fun w' (hb':Below w.heap.size w w')=>JB p A n c N J 1 a w' hp (Zc _ _ _ _ hb' ha) hN hJ (by rw [Nat.mod_eq_of_lt (by omega)];decide) (by omega))
 have HEb:=Lib.hid (fun w' (hb':Below w.heap.size w w')=>JB p B m d N J 1 b w' hp (Zc _ _ _ _ hb' hb) hN hJ (by rw [Nat.mod_eq_of_lt (by omega)];decide) (by omega))
 have HM:=Lib.hid (fun x y w=>XI p x y w hp)
 have HI:=Lib.hid (fun g l w hl=>UR p (some ⟨g,0,none⟩) N N J l w hp hl hN hJ)
 have HJ:=Lib.hid hJ
 have H2:=Lib.hid h2
 have HQ:=Lib.hid (show ∀ j,j≤J→2^j≤N from fun j hj=>by rw [hJ];exact Nat.pow_le_pow_right (by decide) hj)
 obtain ⟨Ea,hEa⟩:∃ Ea,Ea=Jf p N J a 1:=⟨_,rfl⟩
 obtain ⟨Eb,hEb⟩:∃ Eb,Eb=Jf p N J b 1:=⟨_,rfl⟩
 obtain ⟨Pr,hPr⟩:∃ Pr:Nat→Nat,Pr=fun i=>Ea i*Eb i%p:=⟨_,rfl⟩
 have HPS:=Lib.hid (show ∀ i,Ea i*Eb i%p=Pr i from fun i=>by rw [hPr])
 have HPX:=Lib.hid (show ∀ i,Pr i<18446744073709551616 from fun i=>by rw [hPr];exact Nat.lt_trans (Nat.mod_lt _ (by omega)) hp2)
 rw [show jb p N J a b=J2 p N J ((List.range N).map Pr) by rw [hPr,hEa,hEb];rfl]
 rw [←hEa] at HEa
 rw [←hEb] at HEb
 have e1:(n:Int)+(m:Int)=((len+1:Nat):Int):=by omega
 obtain ⟨s,hs⟩:∃ s,s=len+1:=⟨_,rfl⟩
 rw [←hs] at e1
 have e2:IntKind.i64.wrap (s:Int)=(s:Int):=ZD _ (by omega) (by omega)
 have e3:(s:Int)-1=(len:Int):=by omega
 have e4:IntKind.i64.wrap (len:Int)=(len:Int):=ZD _ (by omega) (by omega)
 have d1:((n:Int) == 0)=false:=by rw [beq_eq_false_iff_ne];omega
 have d2:((m:Int) == 0)=false:=by rw [beq_eq_false_iff_ne];omega
 have z1:¬((n:Int)=0):=by omega
 have z2:¬((m:Int)=0):=by omega
 have z3:¬(n=0):=by omega
 have z4:¬(m=0):=by omega
 have gN:(N:Int)≤4096:=by omega
 have gl:(len:Int)≤(N:Int):=by omega
 have gl2:len≤N:=h1
 have gl0:(0:Int)≤(len:Int):=by omega
 unfold fv at *
 have kf:=Blk.new w 96 #[.int .u64 (p:Int)]
 have hb0:Below w.heap.size w (w.alloc (.cells #[.int .u64 (p:Int)] 96)):=(Below.refl _ _).alloc (Nat.le_refl _) _
 clear hEa hEb hPr hJ h2 ha hb hp hN hs hlen h1
 go_enter Tryz.func83,Tryz.ntmps83
 go_wp2_with fail
 generalize w.alloc _=w1 at kf hb0 ⊢
 refine (HV.out _).mono ?_
 rintro e w2 ⟨rfl,hbx⟩
 replace kf:=kf.below hbx kf.lt
 replace hb0:=Za hb0 hbx
 clear hbx
 go_wp2_with fail
 go_loopw [9] (fun v wr=>∃ j q:Nat,j≤J∧Hid (q=2^j)∧v= .int .i64 (q:Int)∧Blk wr w.heap.size 96 #[.int .u64 (p:Int)]∧Below w.heap.size w wr) (fun v _=>8194-(intOf v).toNat)
 case atStart=>exact ⟨0,1,Nat.zero_le _,Lib.hid rfl,rfl,kf,hb0⟩
 case round =>
  clear kf hb0
  obtain ⟨j,q,hj,HQj,rfl,kf,hb0⟩:=hrel
  by_cases hlt:j<J
  ·have hq1:q<len:=by have:=H2.out j hlt;rw [HQj.out];exact this
   have hq2:q≤N:=by have:=HQ.out j hj;rw [HQj.out];exact this
   have hq3:1≤q:=by rw [HQj.out];exact Nat.one_le_two_pow
   have q1:(q:Int)<(len:Int):=by omega
   have q2:(q:Int)≤4096:=by omega
   have q1d:decide ((q:Int)<(len:Int))=true:=decide_eq_true q1
   have q2d:decide ((q:Int)≤4096)=true:=decide_eq_true q2
   obtain ⟨r,hr⟩:∃ r,r=q*2:=⟨_,rfl⟩
   have x1:(q:Int)*2=(r:Int):=by omega
   have x2:IntKind.i64.wrap (r:Int)=(r:Int):=ZD _ (by omega) (by omega)
   have HQn:Hid (r=2^(j+1)):=Lib.hid (by rw [hr,HQj.out,Nat.pow_succ])
   have hrq:q<r:=by omega
   have hr2:r≤8192:=by omega
   clear hr
   go_wp2
   go_roundw
   case rel=>exact ⟨j+1,r,by omega,HQn,rfl,kf,hb0⟩
   case measure=>simp [intOf];omega
  ·obtain rfl:j=J:=by omega
   have hqN:q=N:=by rw [HQj.out,HJ.out]
   subst hqN
   have q1:¬((q:Int)<(len:Int)):=by omega
   have q1d:decide ((q:Int)<(len:Int))=false:=decide_eq_false q1
   clear H2 HQ HQj HJ
   have cf:=kf.cell
   go_wp2_with fail
   refine (HR.out _).mono ?_
   rintro e w3 ⟨rfl,hbx⟩
   replace kf:=kf.below hbx kf.lt
   replace hb0:=Za hb0 hbx
   clear hbx cf HR
   have cf:=kf.cell
   go_wp2_with fail
   refine (HEa.out _ hb0).mono ?_
   rintro e w4 ⟨g1,rfl,hg1,k1,hbx⟩
   have hf1:=kf.lt
   replace kf:=kf.below hbx kf.lt
   replace hb0:=Za hb0 hbx
   clear hbx cf HEa
   have cf:=kf.cell
   go_wp2_with fail
   refine (HEb.out _ hb0).mono ?_
   rintro e w5 ⟨g2,rfl,hg2,k2,hbx⟩
   have hf2:=k1.lt
   replace kf:=kf.below hbx kf.lt
   replace k1:=k1.below hbx k1.lt
   replace hb0:=Za hb0 hbx
   clear hbx cf HEb HV
   have hgf:w.heap.size<g1:=by omega
   have hg12:g1<g2:=by omega
   have HZ:=Lib.hid (VX q Pr Ea)
   clear hg1 hg2 hf1 hf2 q1d
   go_wp2_with fail
   go_loopw [73] (fun y wr=>∃ i:Nat,i≤q∧y= .int .i64 (i:Int)∧Blk wr w.heap.size 96 #[.int .u64 (p:Int)]∧Blk wr g1 22 (Zm q (X8 Pr Ea i))∧Blk wr g2 22 (Zm q Eb)∧Below w.heap.size w wr) (fun y _=>q-(intOf y).toNat)
   case atStart=>exact ⟨0,Nat.zero_le _,rfl,kf,by rw [HZ.out];exact k1,k2,hb0⟩
   case round =>
    clear kf k1 k2 hb0
    obtain ⟨i,hi,rfl,kf,k1,k2,hb0⟩:=hrel
    by_cases hlt:i<q
    ·have q3:(i:Int)<(q:Int):=by omega
     have q4:(0:Int)≤(i:Int):=by omega
     have c1:=k1.cell i
     rw [Vw _ _ hlt] at c1
     have c2:=k2.cell i
     rw [Z4 _ hlt] at c2
     have HPi:=Lib.hid (HPS.out i)
     obtain ⟨x,hx⟩:∃ x,x=Ea i:=⟨_,rfl⟩
     obtain ⟨y,hy⟩:∃ y,y=Eb i:=⟨_,rfl⟩
     obtain ⟨z,hz⟩:∃ z,z=Pr i:=⟨_,rfl⟩
     have HST:=Lib.hid (VF (n:=q) (G:=Ea) hz)
     have HX:=Lib.hid hx
     rw [←hx] at c1 HPi
     rw [←hy] at c2 HPi
     rw [←hz] at HPi
     have HM1:=Lib.hid (fun w=>by have:=HM.out x y w;rw [HPi.out] at this;exact this)
     clear hx hy hz HPi
     have cf:=kf.cell
     have lf:=kf.lt
     have l1:=k1.lt
     have l2:=k2.lt
     go_upto_region 20 with fail
     refine ZF (ZK) (later_moves) [13] [13] [0,1,2,3,4,5,6,7,8,9,10,11,12,13] (by kernel_rfl) (by kernel_rfl) ?_
     refine ZG (later_moves) ?_
     intro Wc hacc
     repeat (first | (refine Zl (later_moves) rfl rfl rfl rfl (fun _ _ _ h=>h) ?_;simp only [Act.put,zLa,zLb,zLc]) | (refine Zi (v:=?_) (later_moves) rfl rfl rfl rfl (fun _ _ _ h=>h) ?_ ?_;rotate_left;(· (intro w' hR;(first | have hcells:=Zb ((later_moves).trans _ _ _ hacc hR) | skip);go_simp;try with_reducible rfl));simp only [Act.put,zLa,zLb,zLc]) | (refine Zu (v:=?_) rfl rfl rfl rfl (fun _ _ _ h=>h) ?_ ?_;rotate_left;(· (intro w';go_simp;try with_reducible rfl));simp only [Act.put,zLa,zLb,zLc]))
     refine Zs (later_moves) rfl rfl rfl rfl (fun _ _ _ h=>h) (fun _=>by go_simp <;> rfl) (fun w' hR=>HM1.out _) ?_
     simp only [Act.put,zLa,zLb,zLc]
     repeat (first | (refine Zl (later_moves) rfl rfl rfl rfl (fun _ _ _ h=>h) ?_;simp only [Act.put,zLa,zLb,zLc]) | (refine Zi (v:=?_) (later_moves) rfl rfl rfl rfl (fun _ _ _ h=>h) ?_ ?_;rotate_left;(· (intro w' hR;(first | have hcells:=Zb ((later_moves).trans _ _ _ hacc hR) | skip);go_simp;try with_reducible rfl));simp only [Act.put,zLa,zLb,zLc]) | (refine Zu (v:=?_) rfl rfl rfl rfl (fun _ _ _ h=>h) ?_ ?_;rotate_left;(· (intro w';go_simp;try with_reducible rfl));simp only [Act.put,zLa,zLb,zLc]))
     refine Z7 rfl rfl rfl rfl ?_
     intro wh hRh
     replace hacc:=(later_moves).trans _ _ _ hacc hRh
     have hxd:=Za (Below.refl wr.heap.size wr).drew hacc
     replace kf:=kf.below hxd kf.lt
     replace k1:=k1.below hxd k1.lt
     replace k2:=k2.below hxd k2.lt
     replace hb0:=Za hb0 hxd
     clear hxd hacc hRh cf lf l1 l2 c1 c2
     have c3:=k1.cell i
     rw [Vw _ _ hlt,←HX.out] at c3
     have f3:=k1.frozen
     go_simp
     refine ⟨fun h=>Bool.noConfusion h,?_⟩
     have hg:=Yl (w:=wh) g1 i (.int .u64 (z:Int))
     replace k1:=k1.set_ i (.int .u64 (z:Int))
     rw [HST.out] at k1
     replace kf:=kf.grown hg (fun e=>by have:=Option.some.inj e;omega)
     replace k2:=k2.grown hg (fun e=>by have:=Option.some.inj e;omega)
     replace hb0:=hb0.trans (Zg hg hb0.size (by omega))
     clear hg f3 c3
     generalize wh.setCell _ _=we at kf k1 k2 hb0 ⊢
     refine Z8 rfl ?_
     go_wp2_with fail
     go_roundw
     case rel=>exact ⟨i+1,by omega,by go_num,kf,k1,k2,hb0⟩
     case measure=>simp [intOf];omega
    ·obtain rfl:i=q:=by omega
     have q3:¬((i:Int)<(i:Int)):=by omega
     rw [JU] at k1
     have hl:=XR k1 (fun k _=>HPX.out k) (by simp [maxLen];omega)
     have cf:=kf.cell
     clear k2 k1
     go_wp2_with fail
     refine (HI.out _ _ _ hl).mono ?_
     rintro e w7 ⟨g3,rfl,hg3,k3,hbx⟩
     have hs:=hb0.size
     go_wp2
     go_ret2
     exact ⟨g3,rfl,by omega,k3,Za hb0 hbx⟩
def Uy (L:ZO) (rows:List (List Nat)) (l1 l2 l3 l4:List Nat):Bool :=
 decide (rows.length=L.a+L.b+L.b+L.b)&&(rows.all (fun r=>Va r L.queries L.p)&&(Va l1 L.k L.p&&(Va l2 (L.k+L.block-2) L.p&&(Va l3 (L.block+2*L.queries-1) L.p&&Va l4 L.n Xq))))
theorem zGz {l:List (List Nat)} {f:List Nat→Bool} {i:Nat} (h:(l.take i).all f=true) (hi:i<l.length) (hx:f l[i]=true):(l.take (i+1)).all f=true:=by
 rw [List.take_succ_eq_append_getElem hi,List.all_append,h,List.all_cons,hx]
 rfl
theorem zHy {l:List (List Nat)} {f:List Nat→Bool} {i:Nat} (hi:i<l.length) (hx:f l[i]=false):l.all f=false:=by
 rw [List.all_eq_false]
 exact ⟨l[i],List.getElem_mem _,by rw [hx];decide⟩
set_option maxRecDepth 100000 in
set_option maxHeartbeats 2000000 in
theorem xL (L:ZO) (A0 A1 A2 A3 A4:Option Addr) (n0 c0 n1 c1 n2 c2 n3 c3 n4 c4:Nat) (rows:List (List Nat)) (l1 l2 l3 l4:List Nat) (w:World) (hL:ZU L)
  (h0:YN w [.slice A0 n0 c0] rows) (h1:RWd w [.slice A1 n1 c1] l1) (h2:RWd w [.slice A2 n2 c2] l2) (h3:RWd w [.slice A3 n3 c3] l3) (h4:RWd w [.slice A4 n4 c4] l4) :
  Calls Tryz.prog 35 #[.agg (Zz L), .agg #[.slice A0 n0 c0, .slice A1 n1 c1, .slice A2 n2 c2, .slice A3 n3 c3, .slice A4 n4 c4]] w fun e w'=>e= .returned (.bool (Uy L rows l1 l2 l3 l4))∧Below w.heap.size w w':=by
 have HC:=Lib.hid (fun w=>zi L w hL)
 have HT:=Lib.hid (fun w=>VN L.p L.block L.queries L.k L.n L.secret L.rows L.a L.b L.b L.b w hL.a hL.b hL.b hL.b)
 have HE1:=Lib.hid (fun w' (hb:Below w.heap.size w w')=>Kw A1 n1 c1 L.k L.p l1 w' (Zc _ _ _ _ hb h1))
 have HE2:=Lib.hid (fun w' (hb:Below w.heap.size w w')=>Kw A2 n2 c2 (L.k+L.block-2) L.p l2 w' (Zc _ _ _ _ hb h2))
 have HE3:=Lib.hid (fun w' (hb:Below w.heap.size w w')=>Kw A3 n3 c3 (L.block+2*L.queries-1) L.p l3 w' (Zc _ _ _ _ hb h3))
 have HE4:=Lib.hid (fun w' (hb:Below w.heap.size w w')=>Kw A4 n4 c4 L.n Xq l4 w' (Zc _ _ _ _ hb h4))
 obtain ⟨hn0,a1,a2,r0⟩:=Yi h0
 have gm:=YR a1 a2
 obtain ⟨ans,ha⟩:∃ ans,ans=Uy L rows l1 l2 l3 l4:=⟨_,rfl⟩
 rw [←ha]
 unfold Uy at ha
 rw [hn0] at ha
 have HN:=Lib.hid hn0
 obtain ⟨kl,kc,hba,hsz⟩:=YB w 55 42 (Zz L) #[.slice A0 n0 c0, .slice A1 n1 c1, .slice A2 n2 c2, .slice A3 n3 c3, .slice A4 n4 c4]
 generalize Va l1 L.k L.p=b1 at *
 generalize Va l2 (L.k+L.block-2) L.p=b2 at *
 generalize Va l3 (L.block+2*L.queries-1) L.p=b3 at *
 generalize Va l4 L.n Xq=b4 at *
 generalize L.k+L.block-2=m2 at *
 generalize L.block+2*L.queries-1=m3 at *
 generalize L.a+L.b+L.b+L.b=T at *
 have HA:=Lib.hid ha
 clear ha h0 h1 h2 h3 h4 hL a1 a2 hn0
 unfold Zz at *
 unfold Xq at HE4
 go_enter Tryz.func35,Tryz.ntmps35
 go_wp2_with fail
 generalize (w.alloc _).alloc _=w1 at kl kc hba hsz ⊢
 refine (HC.out _).mono ?_
 rintro e w2 ⟨rfl,hb2⟩
 have ks:=Blk.new w2 123 #[.int .i64 (L.k:Int), .int .i64 (m2:Int), .int .i64 (m3:Int)]
 have hbs:=(Below.refl w2.heap.size w2).alloc (Nat.le_refl _) (.cells #[.int .i64 (L.k:Int), .int .i64 (m2:Int), .int .i64 (m3:Int)] 123)
 replace kl:=kl.below hb2 kl.lt
 replace kc:=kc.below hb2 kc.lt
 replace kl:=kl.below hbs kl.lt
 replace kc:=kc.below hbs kc.lt
 have hb0:=Za (Za hba hb2) hbs
 go_upto_region 2 with fail
 generalize w2.alloc _=w3 at kl kc ks hb0 ⊢
 generalize w2.heap.size=gs at ks ⊢
 clear hba hb2 hbs hsz HC
 have cl:=kl.cell
 have cc:=kc.cell
 have cs:=ks.cell
 have ll:=kl.lt
 have lc:=kc.lt
 have ls:=ks.lt
 by_cases hT:n0=T
 rotate_left
 ·have HF:=Lib.hid (show ans=false by rw [HA.out,decide_eq_false hT];rfl)
  have t1:((n0:Int) != (T:Int))=true:=by rw [bne_iff_ne];omega
  have t2:((n0:Int) == (T:Int))=false:=by rw [beq_eq_false_iff_ne];omega
  clear HA hT
  refine ZF (ZK) (later_moves) [] [] [0,1,2,3,4,5,6,7,8,9,10,11,12,13,14,15,16,17,18,19,20,21,22,23,24,25] (by kernel_rfl) (by kernel_rfl) ?_
  refine ZG (later_moves) ?_
  intro Wc hacc
  repeat (first | (refine Zl (later_moves) rfl rfl rfl rfl (fun _ _ _ h=>h) ?_;simp only [Act.put,zLa,zLb,zLc]) | (refine Zi (v:=?_) (later_moves) rfl rfl rfl rfl (fun _ _ _ h=>h) ?_ ?_;rotate_left;(· (intro w' hR;(first | have hcells:=Zb ((later_moves).trans _ _ _ hacc hR) | skip);go_simp;try with_reducible rfl));simp only [Act.put,zLa,zLb,zLc]))
  refine Zs (later_moves) rfl rfl rfl rfl (fun _ _ _ h=>h) (fun _=>by go_simp <;> rfl) (fun w' hR=>HT.out _) ?_
  simp only [Act.put,zLa,zLb,zLc]
  repeat (first | (refine Zl (later_moves) rfl rfl rfl rfl (fun _ _ _ h=>h) ?_;simp only [Act.put,zLa,zLb,zLc]) | (refine Zi (v:=?_) (later_moves) rfl rfl rfl rfl (fun _ _ _ h=>h) ?_ ?_;rotate_left;(· (intro w' hR;(first | have hcells:=Zb ((later_moves).trans _ _ _ hacc hR) | skip);go_simp;try with_reducible rfl));simp only [Act.put,zLa,zLb,zLc]))
  refine YD rfl ?_
  intro wd hRd
  replace hacc:=(later_moves).trans _ _ _ hacc hRd
  clear hRd
  go_wp2_with fail
  go_ret
  exact ⟨by rw [HF.out];rfl,Za hb0.drew hacc⟩
 have t1:((n0:Int) != (T:Int))=false:=by rw [bne_eq_false_iff_eq];omega
 have t2:((n0:Int) == (T:Int))=true:=by rw [beq_iff_eq];omega
 have HB:=Lib.hid (show ans=(rows.all (fun r=>Va r L.queries L.p)&&(b1&&(b2&&(b3&&b4)))) by rw [HA.out,decide_eq_true hT];rfl)
 clear HA hT
 cases b1
 ·have HF:=Lib.hid (show ans=false by rw [HB.out];simp)
  refine ZF (ZK) (later_moves) [] [] [0,1,2,3,4,5,6,7,8,9,10,11,12,13,14,15,16,17,18,19,20,21,22,23,24,25] (by kernel_rfl) (by kernel_rfl) ?_
  refine ZG (later_moves) ?_
  intro Wc hacc
  repeat (first | (refine Zl (later_moves) rfl rfl rfl rfl (fun _ _ _ h=>h) ?_;simp only [Act.put,zLa,zLb,zLc]) | (refine Zi (v:=?_) (later_moves) rfl rfl rfl rfl (fun _ _ _ h=>h) ?_ ?_;rotate_left;(· (intro w' hR;(first | have hcells:=Zb ((later_moves).trans _ _ _ hacc hR) | skip);go_simp;try with_reducible rfl));simp only [Act.put,zLa,zLb,zLc]))
  refine Zs (later_moves) rfl rfl rfl rfl (fun _ _ _ h=>h) (fun _=>by go_simp <;> rfl) (fun w' hR=>HT.out _) ?_
  simp only [Act.put,zLa,zLb,zLc]
  repeat (first | (refine Zl (later_moves) rfl rfl rfl rfl (fun _ _ _ h=>h) ?_;simp only [Act.put,zLa,zLb,zLc]) | (refine Zi (v:=?_) (later_moves) rfl rfl rfl rfl (fun _ _ _ h=>h) ?_ ?_;rotate_left;(· (intro w' hR;(first | have hcells:=Zb ((later_moves).trans _ _ _ hacc hR) | skip);go_simp;try with_reducible rfl));simp only [Act.put,zLa,zLb,zLc]))
  refine Zs (later_moves) rfl rfl rfl rfl (fun _ _ _ h=>h) (fun _=>by go_simp <;> rfl) (fun w' hR=>HE1.out _ (Za hb0.drew (Za hacc hR))) ?_
  simp only [Act.put,zLa,zLb,zLc]
  repeat (first | (refine Zl (later_moves) rfl rfl rfl rfl (fun _ _ _ h=>h) ?_;simp only [Act.put,zLa,zLb,zLc]) | (refine Zi (v:=?_) (later_moves) rfl rfl rfl rfl (fun _ _ _ h=>h) ?_ ?_;rotate_left;(· (intro w' hR;(first | have hcells:=Zb ((later_moves).trans _ _ _ hacc hR) | skip);go_simp;try with_reducible rfl));simp only [Act.put,zLa,zLb,zLc]))
  refine YD rfl ?_
  intro wd hRd
  replace hacc:=(later_moves).trans _ _ _ hacc hRd
  clear hRd
  go_wp2_with fail
  go_ret
  exact ⟨by rw [HF.out];rfl,Za hb0.drew hacc⟩
 cases b2
 ·have HF:=Lib.hid (show ans=false by rw [HB.out];simp)
  refine ZF (ZK) (later_moves) [] [] [0,1,2,3,4,5,6,7,8,9,10,11,12,13,14,15,16,17,18,19,20,21,22,23,24,25] (by kernel_rfl) (by kernel_rfl) ?_
  refine ZG (later_moves) ?_
  intro Wc hacc
  repeat (first | (refine Zl (later_moves) rfl rfl rfl rfl (fun _ _ _ h=>h) ?_;simp only [Act.put,zLa,zLb,zLc]) | (refine Zi (v:=?_) (later_moves) rfl rfl rfl rfl (fun _ _ _ h=>h) ?_ ?_;rotate_left;(· (intro w' hR;(first | have hcells:=Zb ((later_moves).trans _ _ _ hacc hR) | skip);go_simp;try with_reducible rfl));simp only [Act.put,zLa,zLb,zLc]))
  refine Zs (later_moves) rfl rfl rfl rfl (fun _ _ _ h=>h) (fun _=>by go_simp <;> rfl) (fun w' hR=>HT.out _) ?_
  simp only [Act.put,zLa,zLb,zLc]
  repeat (first | (refine Zl (later_moves) rfl rfl rfl rfl (fun _ _ _ h=>h) ?_;simp only [Act.put,zLa,zLb,zLc]) | (refine Zi (v:=?_) (later_moves) rfl rfl rfl rfl (fun _ _ _ h=>h) ?_ ?_;rotate_left;(· (intro w' hR;(first | have hcells:=Zb ((later_moves).trans _ _ _ hacc hR) | skip);go_simp;try with_reducible rfl));simp only [Act.put,zLa,zLb,zLc]))
  refine Zs (later_moves) rfl rfl rfl rfl (fun _ _ _ h=>h) (fun _=>by go_simp <;> rfl) (fun w' hR=>HE1.out _ (Za hb0.drew (Za hacc hR))) ?_
  simp only [Act.put,zLa,zLb,zLc]
  repeat (first | (refine Zl (later_moves) rfl rfl rfl rfl (fun _ _ _ h=>h) ?_;simp only [Act.put,zLa,zLb,zLc]) | (refine Zi (v:=?_) (later_moves) rfl rfl rfl rfl (fun _ _ _ h=>h) ?_ ?_;rotate_left;(· (intro w' hR;(first | have hcells:=Zb ((later_moves).trans _ _ _ hacc hR) | skip);go_simp;try with_reducible rfl));simp only [Act.put,zLa,zLb,zLc]))
  refine Zs (later_moves) rfl rfl rfl rfl (fun _ _ _ h=>h) (fun _=>by go_simp <;> rfl) (fun w' hR=>HE2.out _ (Za hb0.drew (Za hacc hR))) ?_
  simp only [Act.put,zLa,zLb,zLc]
  repeat (first | (refine Zl (later_moves) rfl rfl rfl rfl (fun _ _ _ h=>h) ?_;simp only [Act.put,zLa,zLb,zLc]) | (refine Zi (v:=?_) (later_moves) rfl rfl rfl rfl (fun _ _ _ h=>h) ?_ ?_;rotate_left;(· (intro w' hR;(first | have hcells:=Zb ((later_moves).trans _ _ _ hacc hR) | skip);go_simp;try with_reducible rfl));simp only [Act.put,zLa,zLb,zLc]))
  refine YD rfl ?_
  intro wd hRd
  replace hacc:=(later_moves).trans _ _ _ hacc hRd
  clear hRd
  go_wp2_with fail
  go_ret
  exact ⟨by rw [HF.out];rfl,Za hb0.drew hacc⟩
 refine ZF (ZK) (later_moves) [] [] [0,1,2,3,4,5,6,7,8,9,10,11,12,13,14,15,16,17,18,19,20,21,22,23,24,25] (by kernel_rfl) (by kernel_rfl) ?_
 refine ZG (later_moves) ?_
 intro Wc hacc
 repeat (first | (refine Zl (later_moves) rfl rfl rfl rfl (fun _ _ _ h=>h) ?_;simp only [Act.put,zLa,zLb,zLc]) | (refine Zi (v:=?_) (later_moves) rfl rfl rfl rfl (fun _ _ _ h=>h) ?_ ?_;rotate_left;(· (intro w' hR;(first | have hcells:=Zb ((later_moves).trans _ _ _ hacc hR) | skip);go_simp;try with_reducible rfl));simp only [Act.put,zLa,zLb,zLc]))
 refine Zs (later_moves) rfl rfl rfl rfl (fun _ _ _ h=>h) (fun _=>by go_simp <;> rfl) (fun w' hR=>HT.out _) ?_
 simp only [Act.put,zLa,zLb,zLc]
 repeat (first | (refine Zl (later_moves) rfl rfl rfl rfl (fun _ _ _ h=>h) ?_;simp only [Act.put,zLa,zLb,zLc]) | (refine Zi (v:=?_) (later_moves) rfl rfl rfl rfl (fun _ _ _ h=>h) ?_ ?_;rotate_left;(· (intro w' hR;(first | have hcells:=Zb ((later_moves).trans _ _ _ hacc hR) | skip);go_simp;try with_reducible rfl));simp only [Act.put,zLa,zLb,zLc]))
 refine Zs (later_moves) rfl rfl rfl rfl (fun _ _ _ h=>h) (fun _=>by go_simp <;> rfl) (fun w' hR=>HE1.out _ (Za hb0.drew (Za hacc hR))) ?_
 simp only [Act.put,zLa,zLb,zLc]
 repeat (first | (refine Zl (later_moves) rfl rfl rfl rfl (fun _ _ _ h=>h) ?_;simp only [Act.put,zLa,zLb,zLc]) | (refine Zi (v:=?_) (later_moves) rfl rfl rfl rfl (fun _ _ _ h=>h) ?_ ?_;rotate_left;(· (intro w' hR;(first | have hcells:=Zb ((later_moves).trans _ _ _ hacc hR) | skip);go_simp;try with_reducible rfl));simp only [Act.put,zLa,zLb,zLc]))
 refine Zs (later_moves) rfl rfl rfl rfl (fun _ _ _ h=>h) (fun _=>by go_simp <;> rfl) (fun w' hR=>HE2.out _ (Za hb0.drew (Za hacc hR))) ?_
 simp only [Act.put,zLa,zLb,zLc]
 repeat (first | (refine Zl (later_moves) rfl rfl rfl rfl (fun _ _ _ h=>h) ?_;simp only [Act.put,zLa,zLb,zLc]) | (refine Zi (v:=?_) (later_moves) rfl rfl rfl rfl (fun _ _ _ h=>h) ?_ ?_;rotate_left;(· (intro w' hR;(first | have hcells:=Zb ((later_moves).trans _ _ _ hacc hR) | skip);go_simp;try with_reducible rfl));simp only [Act.put,zLa,zLb,zLc]))
 refine YD rfl ?_
 intro wd hRd
 replace hacc:=(later_moves).trans _ _ _ hacc hRd
 clear hRd
 replace kl:=kl.drew.below hacc kl.lt
 replace kc:=kc.drew.below hacc kc.lt
 replace ks:=ks.drew.below hacc ks.lt
 replace hb0:=Za hb0.drew hacc
 clear cl cc cs ll lc ls hacc HE1 HE2 HT
 have cl:=kl.cell
 have cc:=kc.cell
 have cs:=ks.cell
 have HE3a:=Lib.hid (HE3.out _ hb0)
 cases b3
 ·have HF:=Lib.hid (show ans=false by rw [HB.out];simp)
  go_wp2_with fail
  refine HE3a.out.mono ?_
  rintro e w5 ⟨rfl,hb5⟩
  go_wp2
  go_ret
  exact ⟨by rw [HF.out];rfl,Za hb0 hb5⟩
 go_wp2_with fail
 refine HE3a.out.mono ?_
 rintro e w5 ⟨rfl,hb5⟩
 replace kl:=kl.below hb5 kl.lt
 replace kc:=kc.below hb5 kc.lt
 replace hb0:=Za hb0 hb5
 clear cl cc cs ks hb5 HE3a HE3
 have cl:=kl.cell
 have cc:=kc.cell
 have HE4a:=Lib.hid (HE4.out _ hb0)
 cases b4
 ·have HF:=Lib.hid (show ans=false by rw [HB.out];simp)
  go_wp2_with fail
  refine HE4a.out.mono ?_
  rintro e w6 ⟨rfl,hb6⟩
  go_wp2
  go_ret
  exact ⟨by rw [HF.out];rfl,Za hb0 hb6⟩
 go_wp2_with fail
 refine HE4a.out.mono ?_
 rintro e w6 ⟨rfl,hb6⟩
 replace kl:=kl.below hb6 kl.lt
 replace kc:=kc.below hb6 kc.lt
 replace hb0:=Za hb0 hb6
 clear cl cc hb6 HE4a HE4
 have HB2:=Lib.hid (show ans=rows.all (fun r=>Va r L.queries L.p) by rw [HB.out];simp)
 clear HB
 have cc:=kc.cell
 go_wp2_with fail
 clear cc
 go_loopw [55] (fun y wr=>∃ i:Nat,i≤n0∧y= .int .i64 (i:Int)∧Hid ((rows.take i).all (fun r=>Va r L.queries L.p)=true)∧Blk wr w.heap.size 55 #[.int .u64 (L.p:Int), .int .i64 (L.block:Int), .int .i64 (L.queries:Int), .int .i64 (L.k:Int), .int .i64 (L.n:Int), .int .i64 (L.secret:Int), .int .i64 (L.rows:Int), .int .i64 (L.a:Int), .int .i64 (L.b:Int), .int .i64 (L.b:Int), .int .i64 (L.b:Int)]∧Below w.heap.size w wr) (fun y _=>n0-(intOf y).toNat)
 case atStart=>exact ⟨0,Nat.zero_le _,rfl,rfl,kl,hb0⟩
 case round =>
  clear kl kc hb0
  obtain ⟨i,hi,rfl,HTk,kl,hb0⟩:=hrel
  by_cases hlt:i<n0
  ·have g1:(0:Int)≤(i:Int):=by omega
   have g2:(i:Int)<(n0:Int):=by omega
   have i1:i<rows.length:=by rw [HN.out];exact hlt
   obtain ⟨x1,y1,B1,m1,k1,rfl,v1,d1,s1⟩:=Yq (r0.below Zc hb0) i1
   have HS:=Lib.hid (Kw B1 m1 k1 L.queries L.p rows[i] wr s1)
   have cl:=kl.cell
   clear s1
   cases hx:Va rows[i] L.queries L.p
   ·have HF:=Lib.hid (HB2.out.trans (zHy i1 hx))
    rw [hx] at HS
    clear hx HTk i1
    go_wp2_with fail
    refine HS.out.mono ?_
    rintro e w7 ⟨rfl,hb7⟩
    go_wp2
    go_ret
    exact ⟨by rw [HF.out];rfl,Za hb0 hb7⟩
   ·have HT2:=Lib.hid (zGz HTk.out i1 hx)
    rw [hx] at HS
    clear hx HTk i1
    go_wp2_with fail
    refine HS.out.mono ?_
    rintro e w7 ⟨rfl,hb7⟩
    replace kl:=kl.below hb7 kl.lt
    replace hb0:=Za hb0 hb7
    clear cl hb7 d1 v1
    go_wp2
    go_roundw
    case rel=>exact ⟨i+1,by omega,by go_num,HT2.out,kl,hb0⟩
    case measure=>simp [intOf];omega
  ·obtain rfl:i=n0:=by omega
   have HF:=Lib.hid (show ans=true by rw [HB2.out];have:=HTk.out;rwa [←HN.out,List.take_length] at this)
   go_wp2
   go_ret
   exact ⟨by rw [HF.out];rfl,hb0⟩
end Go.Proofs.YtakjnmojigechaaGreat
namespace Go.Proofs.YtakjnmojigechaaGreat
def zD4 (p:Nat):List Nat :=
 if p=97 then [2,3] else if p=193 then [2,3] else if p=12289 then [2,3] else if p=18446744069414584321 then [2,3,5,17,257,65537] else [2]
theorem zF6 {p:Nat} (h:okP p=true):∀ q∈zD4 p,(p-1)%q=0∧sqm p 64 (ZJ p).1 ((p-1) / q)≠1∧sqm p 64 (ZJ p).1 ((p-1) / q)<p∧(p-1) / q<2^64:=by
 rcases Xh h with rfl | rfl | rfl | rfl | rfl | rfl | rfl <;> decide +kernel
def yy:List (Nat × Nat)→Nat
 | []=>1
 | (q,e) :: l=>q^e*yy l
def facE (p:Nat):List (Nat × Nat) :=
 if p=97 then [(2,5),(3,1)] else if p=193 then [(2,6),(3,1)] else if p=12289 then [(2,12),(3,1)] else if p=18446744069414584321 then [(2,32),(3,1),(5,1),(17,1),(257,1),(65537,1)] else [(2,(ZJ p).2.1)]
theorem zK1 {p:Nat} (h:okP p=true):yy (facE p)=p-1∧((facE p).map (·.1))=zD4 p:=by
 rcases Xh h with rfl | rfl | rfl | rfl | rfl | rfl | rfl <;> decide +kernel
theorem zDd {p q:Nat} (h:okP p=true) (hq:q∈zD4 p):2≤q∧q≤65537:=by
 have:∀ q∈zD4 p,2≤q∧q≤65537:=by
  rcases Xh h with rfl | rfl | rfl | rfl | rfl | rfl | rfl <;> decide +kernel
 exact this q hq
theorem zAh {p:Nat} {g:Int} (hg:∃ v,Cg p (g*v) 1):∀ (n a b:Nat),a+b≤n→Cg p (g^a) 1→Cg p (g^b) 1→Cg p (g^Nat.gcd a b) 1
 | 0,a,b,h,ha,hb=>by
  have h1:a=0:=by omega
  have h2:b=0:=by omega
  subst h1 h2
  exact ha
 | n+1,a,b,h,ha,hb=>by
  obtain ⟨v,hv⟩:=hg
  rcases Nat.eq_zero_or_pos a with h0 | h0
  ·subst h0;rw [Nat.gcd_zero_left];exact hb
  rcases Nat.eq_zero_or_pos b with h1 | h1
  ·subst h1;rw [Nat.gcd_zero_right];exact ha
  have cancel:∀ s t:Nat,Cg p (g^(s+t)) 1→Cg p (g^s) 1→Cg p (g^t) 1:=fun s t h1 h2=>by
   rw [Int.pow_add] at h1
   exact ((Cg.of_eq (Int.one_mul _).symm).trans (h2.symm.mul Cg.rfl')).trans h1
  rcases Nat.le_total a b with hab | hab
  ·obtain ⟨d,rfl⟩:∃ d,b=a+d:=⟨b-a,by omega⟩
   have:=zAh ⟨v,hv⟩ n a d (by omega) ha (cancel _ _ hb ha)
   rwa [Nat.gcd_self_add_right]
  ·obtain ⟨d,rfl⟩:∃ d,a=b+d:=⟨a-b,by omega⟩
   have:=zAh ⟨v,hv⟩ n d b (by omega) (cancel _ _ ha hb) hb
   rwa [Nat.gcd_self_add_left]
theorem zC2:∀ (l:List (Nat × Nat)) (d:Nat),(∀ x∈l,∀ k,k∣x.1→k=1∨k=x.1)→d∣yy l→d≠yy l→∃ x∈l,d∣yy l / x.1
 | l,d,hp,hd,hne=>by
  obtain ⟨m,hm⟩:=hd
  have hm1:m≠1:=fun e=>by rw [e,Nat.mul_one] at hm;exact hne hm.symm
  have key:∀ (l':List (Nat × Nat)),(∀ x∈l',∀ k,k∣x.1→k=1∨k=x.1)→(∀ x∈l',¬x.1∣m)→Nat.Coprime m (yy l'):=by
   intro l'
   induction l' with
   | nil=>intro _ _;exact Nat.coprime_one_right m
   | cons x l' ih =>
    intro h1 h2
    have hc:Nat.Coprime m x.1:=by
     rcases h1 x (.head _) (Nat.gcd m x.1) (Nat.gcd_dvd_right _ _) with e | e
     ·exact e
     ·exact absurd (e ▸ Nat.gcd_dvd_left m x.1) (h2 x (.head _))
    exact Nat.Coprime.mul_right (Nat.Coprime.pow_right _ hc) (ih (fun y hy=>h1 y (.tail _ hy)) fun y hy=>h2 y (.tail _ hy))
  by_cases hx:∃ x∈l,x.1∣m
  ·obtain ⟨x,hxl,c,hc⟩:=hx
   refine ⟨x,hxl,?_⟩
   rcases Nat.eq_zero_or_pos x.1 with h0 | h0
   ·rw [h0,Nat.div_zero]
    exact Nat.dvd_zero _
   ·rw [hm,hc,←Nat.mul_assoc,Nat.mul_comm d x.1,Nat.mul_assoc,Nat.mul_div_cancel_left _ h0]
    exact Nat.dvd_mul_right _ _
  ·have hco:=key l hp fun x hx' hd'=>hx ⟨x,hx',hd'⟩
   have hmd:m∣yy l:=by rw [hm];exact Nat.dvd_mul_left _ _
   exact absurd (hco.eq_one_of_dvd hmd) hm1
end Go.Proofs.YtakjnmojigechaaGreat
namespace Go.Proofs.YtakjnmojigechaaGreat
theorem zBy:∀ q∈[2,3,5,17,257,65537],∀ k∈List.range 257,q%k=0→k=1∨k=q:=by decide +kernel
theorem zJb {p q:Nat} (h:okP p=true) (hq:q∈zD4 p):∀ k,k∣q→k=1∨k=q:=by
 have hin:q∈[2,3,5,17,257,65537]:=by
  have:∀ q∈zD4 p,q∈[2,3,5,17,257,65537]:=by
   rcases Xh h with rfl | rfl | rfl | rfl | rfl | rfl | rfl <;> decide +kernel
  exact this q hq
 obtain ⟨h2,hle⟩:=zDd h hq
 intro k ⟨c,hc⟩
 rcases Nat.lt_or_ge k 257 with hk | hk
 ·exact zBy q hin k (List.mem_range.2 hk) (by rw [hc];exact Nat.mul_mod_right _ _)
 ·have hcl:c<257:=by
   rcases Nat.lt_or_ge c 257 with h' | h'
   ·exact h'
   ·have:=Nat.mul_le_mul hk h'
    omega
  rcases zBy q hin c (List.mem_range.2 hcl) (by rw [hc];exact Nat.mul_mod_left _ _) with h' | h'
  ·right;rw [hc,h',Nat.mul_one]
  ·left
   rw [h'] at hc
   have:q*1=q*k:=by rw [Nat.mul_one,Nat.mul_comm];exact hc
   exact (Nat.eq_of_mul_eq_mul_left (by omega) this).symm
theorem zBu {p k:Nat} (h:okP p=true) (h0:0<k) (hk:k<p-1):¬Cg p (((ZJ p).1:Int)^k) 1:=by
 intro hc
 have hp:=Zr h
 have hinv:∃ v,Cg p (((ZJ p).1:Int)*v) 1:=⟨((ZJ p).1:Int)^(p-2),by
  rw [Int.mul_comm,←Int.pow_succ,show (p-2).succ=p-1 by omega]
  exact J6 h⟩
 have hd:=zAh hinv _ k (p-1) (Nat.le_refl _) hc (J6 h)
 have hdd:Nat.gcd k (p-1)∣p-1:=Nat.gcd_dvd_right _ _
 have hdk:Nat.gcd k (p-1)≤k:=Nat.le_of_dvd h0 (Nat.gcd_dvd_left _ _)
 obtain ⟨e1,e2⟩:=zK1 h
 have hmem:∀ x∈facE p,x.1∈zD4 p:=fun x hx=>by rw [←e2];exact List.mem_map.2 ⟨x,hx,rfl⟩
 obtain ⟨x,hx,hdx⟩:=zC2 (facE p) (Nat.gcd k (p-1)) (fun x hx=>zJb h (hmem x hx)) (by rw [e1];exact hdd) (by rw [e1];omega)
 rw [e1] at hdx
 obtain ⟨-,g1,g2,g3⟩:=zF6 h x.1 (hmem x hx)
 have hs:=xP p 64 (ZJ p).1 ((p-1) / x.1) g3
 obtain ⟨c,hc'⟩:=hdx
 have h1:Cg p (((ZJ p).1:Int)^((p-1) / x.1)) 1:=by
  rw [hc',Int.pow_mul]
  exact (hd.pow c).trans (Cg.of_eq Int.one_pow)
 exact g1 (Cg.eq (p:=p) (hs.trans h1) g2 (by omega))
theorem zHf:∀ (n:Nat) (f:Nat→Nat),(∀ i,i<n+1→f i<n)→(∀ i j,i<n+1→j<n+1→f i=f j→i=j)→False
 | 0,f,h,_=>absurd (h 0 (by omega)) (Nat.not_lt_zero _)
 | n+1,f,h,hi=>by
  have hne:∀ i,i<n+1→f i≠f (n+1):=fun i h1 e=>by
   have:=hi i (n+1) (by omega) (by omega) e
   omega
  refine zHf n (fun i=>if f i=n then f (n+1) else f i) (fun i h1=>?_) fun i j h1 h2 e=>?_
  ·split
   ·rename_i e
    have h3:=hne i h1
    have h4:=h (n+1) (by omega)
    omega
   ·have:=h i (by omega)
    omega
  ·change (if f i=n then f (n+1) else f i)=(if f j=n then f (n+1) else f j) at e
   by_cases e1:f i=n <;> by_cases e2:f j=n
   ·exact hi i j (by omega) (by omega) (by omega)
   ·rw [if_pos e1,if_neg e2] at e
    exact absurd e.symm (hne j h2)
   ·rw [if_neg e1,if_pos e2] at e
    exact absurd e (hne i h1)
   ·rw [if_neg e1,if_neg e2] at e
    exact hi i j (by omega) (by omega) e
theorem onto {n:Nat} {f:Nat→Nat} (h:∀ i,i<n→f i<n) (hi:∀ i j,i<n→j<n→f i=f j→i=j) {y:Nat} (hy:y<n):∃ i,i<n∧f i=y:=by
 refine Classical.byContradiction fun hno=>?_
 have hne:∀ i,i<n→f i≠y:=fun i h1 e=>hno ⟨i,h1,e⟩
 obtain ⟨m,rfl⟩:∃ m,n=m+1:=⟨n-1,by omega⟩
 refine zHf m (fun i=>if f i=m then y else f i) (fun i h1=>?_) fun i j h1 h2 e=>?_
 ·split
  ·rename_i e
   have:=hne i h1
   omega
  ·have:=h i h1
   omega
 ·change (if f i=m then y else f i)=(if f j=m then y else f j) at e
  by_cases e1:f i=m <;> by_cases e2:f j=m
  ·exact hi i j h1 h2 (by omega)
  ·rw [if_pos e1,if_neg e2] at e
   exact absurd e.symm (hne j h2)
  ·rw [if_neg e1,if_pos e2] at e
   exact absurd e (hne i h1)
  ·rw [if_neg e1,if_neg e2] at e
   exact hi i j h1 h2 e
theorem one_ne {p:Nat} (h:okP p=true):¬Cg p (0:Int) 1:=by
 have hp:=Zr h
 intro hc
 have:=Cg.eq (p:=p) (a:=0) (b:=1) hc (by omega) (by omega)
 omega
theorem zF0 {p a:Nat} (h:okP p=true) (h0:0<a) (ha:a<p):∃ k,(ZJ p).1^k%p=a:=by
 have hp:=Zr h
 have hpos:∀ i,0<(ZJ p).1^i%p:=fun i=>by
  rcases Nat.eq_zero_or_pos ((ZJ p).1^i%p) with e | e
  ·exfalso
   have h1:Cg p (((ZJ p).1:Int)^i) 0:=by
    have h2:=Cg.mod (p:=p) ((ZJ p).1^i)
    rw [e,Int.natCast_pow] at h2
    exact h2.symm
   have h2:Cg p ((((ZJ p).1:Int)^i)^(p-1)) 1:=by
    rw [←Int.pow_mul,Nat.mul_comm,Int.pow_mul]
    exact ((J6 h).pow i).trans (Cg.of_eq Int.one_pow)
   have h3:=(h1.pow (p-1)).symm.trans h2
   rw [Int.zero_pow (by omega)] at h3
   exact one_ne h h3
  ·exact e
 obtain ⟨i,-,hi⟩:=onto (n:=p-1) (f:=fun i=>(ZJ p).1^i%p-1) (fun i _=>by
   have:=hpos i
   have:=Nat.mod_lt ((ZJ p).1^i) (show p > 0 by omega)
   show (ZJ p).1^i%p-1<p-1
   omega) (fun i j h1 h2 e=>by
   have e':(ZJ p).1^i%p=(ZJ p).1^j%p:=by
    have:=hpos i
    have:=hpos j
    change (ZJ p).1^i%p-1=(ZJ p).1^j%p-1 at e
    omega
   have key:∀ i j,i<j→j<p-1→(ZJ p).1^i%p=(ZJ p).1^j%p→False:=fun i j hij hj e=>by
    have c1:Cg p (((ZJ p).1:Int)^i) (((ZJ p).1:Int)^j):=by
     have h1:=Cg.mod (p:=p) ((ZJ p).1^i)
     have h2:=Cg.mod (p:=p) ((ZJ p).1^j)
     rw [e] at h1
     rw [Int.natCast_pow] at h1 h2
     exact h1.symm.trans h2
    obtain ⟨d,rfl⟩:∃ d,j=i+d:=⟨j-i,by omega⟩
    rw [Int.pow_add] at c1
    have c2:Cg p (((ZJ p).1:Int)^(i*(p-2))*((ZJ p).1:Int)^i) 1:=by
     rw [←Int.pow_add,show i*(p-2)+i=(p-1)*i by
      rw [Nat.mul_comm (p-1),←Nat.mul_succ]
      congr 1
      omega,Int.pow_mul]
     exact ((J6 h).pow i).trans (Cg.of_eq Int.one_pow)
    have c3:=(Cg.rfl' (x:=((ZJ p).1:Int)^(i*(p-2)))).mul c1
    rw [←Int.mul_assoc] at c3
    have c4:Cg p (((ZJ p).1:Int)^d) 1:=((Cg.of_eq (Int.one_mul _).symm).trans (c2.symm.mul Cg.rfl')).trans (c3.symm.trans c2)
    exact zBu h (by omega) (by omega) c4
   rcases Nat.lt_trichotomy i j with hlt | heq | hgt
   ·exact absurd e' fun e=>key i j hlt h2 e
   ·exact heq
   ·exact absurd e'.symm fun e=>key j i hgt h1 e) (y:=a-1) (by omega)
 refine ⟨i,?_⟩
 have:=hpos i
 change (ZJ p).1^i%p-1=a-1 at hi
 omega
theorem zKc {p a:Nat} (h:okP p=true) (h0:0<a) (ha:a<p):Cg p ((a:Int)*((a^(p-2)%p:Nat):Int)) 1:=by
 have hp:=Zr h
 obtain ⟨k,hk⟩:=zF0 h h0 ha
 have h1:Cg p (a:Int) (((ZJ p).1:Int)^k):=by
  have:=Cg.mod (p:=p) ((ZJ p).1^k)
  rw [hk,Int.natCast_pow] at this
  exact this
 refine (Cg.rfl'.mul (Cg.mod _)).trans ?_
 rw [Int.natCast_pow,Int.mul_comm,←Int.pow_succ,show (p-2).succ=p-1 by omega]
 refine (h1.pow _).trans ?_
 rw [←Int.pow_mul,Nat.mul_comm,Int.pow_mul]
 exact ((J6 h).pow k).trans (Cg.of_eq Int.one_pow)
theorem zJ3 {p a:Nat} (h:okP p=true) (h0:¬Cg p (a:Int) 0):Cg p ((a:Int)*((a^(p-2)%p:Nat):Int)) 1:=by
 have hp:=Zr h
 have h1:a%p≠0:=fun e=>h0 (by
  have:=Cg.mod (p:=p) a
  rw [e] at this
  exact this.symm)
 have:=zKc h (Nat.pos_of_ne_zero h1) (Nat.mod_lt a (by omega))
 rw [←Nat.pow_mod] at this
 exact ((Cg.mod a).symm.mul Cg.rfl').trans this
theorem zKq {p:Nat} {x:Int} (h:okP p=true) (h0:¬Cg p x 0):∃ v,Cg p (x*v) 1:=by
 have hp:=Zr h
 obtain ⟨a,ha⟩:∃ a:Nat,(a:Int)=x%(p:Int):=⟨(x%(p:Int)).toNat,Int.toNat_of_nonneg (Int.emod_nonneg _ (by omega))⟩
 have hx:Cg p x (a:Int):=⟨x / (p:Int),by rw [ha];have:=Int.mul_ediv_add_emod x (p:Int);omega⟩
 exact ⟨_,(hx.mul Cg.rfl').trans (zJ3 h fun e=>h0 (hx.trans e))⟩
theorem zCg {p:Nat} {x y:Int} (h:okP p=true) (hxy:Cg p (x*y) 0):Cg p x 0∨Cg p y 0:=by
 by_cases hx:Cg p x 0
 ·exact .inl hx
 ·obtain ⟨v,hv⟩:=zKq h hx
  refine .inr ?_
  have h1:Cg p y (v*(x*y)):=(Cg.of_eq (Int.one_mul y).symm).trans ((hv.symm.mul Cg.rfl').trans (Cg.of_eq (by rw [Int.mul_comm x v,Int.mul_assoc])))
  exact h1.trans ((Cg.rfl'.mul hxy).trans (Cg.of_eq (Int.mul_zero _)))
end Go.Proofs.YtakjnmojigechaaGreat
