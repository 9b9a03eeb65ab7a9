/- A part of the proof. No condition. -/
import Derived.Test.YtakjnmojigechaaGreatProg
import Derived.Test.YtakjnmojigechaaGreatJB10
import Derived.Test.YtakjnmojigechaaGreatJB17
import Derived.Test.YtakjnmojigechaaGreatJB14
import Derived.Test.YtakjnmojigechaaGreatJB18
import Derived.Test.YtakjnmojigechaaGreatJB22
import Derived.Test.YtakjnmojigechaaGreatJB19
import Derived.Laws.OwnMore
import Derived.Carry
import Derived.Deep.AppendLies
import Derived.Maps.OwnSet
import Derived.Maps.Views
import Derived.Test.YtakjnmojigechaaGreatJB15
import Derived.Test.YtakjnmojigechaaGreatJB12

namespace Go.Proofs.YtakjnmojigechaaGreat
open Go.RowKit
theorem KT {w:World} {g n:Nat} {t:TypeId} {l:List Nat} (h:Blk w g t (U64 l).toArray) (hn:l.length=n) (hl:∀ x∈l,x<18446744073709551616) (hm:n≤maxLen):RWd w [.slice (some ⟨g,0,none⟩) n n] l:=by
 subst hn
 exact zm h hl hm
theorem zJ6 {p:Nat} (hp:0<p) {a b:List Nat} {x:Nat} (h:x∈Vs p a b):x<p:=by
 unfold Vs at h
 cases e:a.length with
 | zero=>rw [e] at h;cases h
 | succ k=>rw [e,Uj] at h;exact yq hp h
end Go.Proofs.YtakjnmojigechaaGreat
namespace Go.Proofs.YtakjnmojigechaaGreat
theorem zEg {p b:Nat} (hp:0<p) (hb:0<b) (l:List Nat):∀ i k,Cg p (Vi p b l i k:Int) ((if b≤k∧k<b+i then ((l.getD (k-b) 0:Nat):Int) else 0)-(if k<i then ((l.getD k 0:Nat):Int) else 0))
 | 0,k=>by
  rw [if_neg (by omega),if_neg (by omega)]
  exact Cg.of_eq rfl
 | i+1,k=>by
  have ih:=zEg hp hb l i
  rw [Vi]
  simp only [VB]
  by_cases h1:k=b+i
  ·subst h1
   rw [if_pos rfl,if_neg (by omega),if_pos (by omega),Nat.add_sub_cancel_left]
   have h:=ih (b+i)
   rw [if_neg (by omega)] at h
   refine (Cg.mod _).trans (Cg.trans (Cg.of_eq (Int.natCast_add _ _)) ?_)
   by_cases h2:b+i<i+1
   ·omega
   ·rw [if_neg h2]
    rw [if_neg (by omega)] at h
    exact (h.add Cg.rfl').trans (Cg.of_eq (by omega))
  ·rw [if_neg h1]
   by_cases h2:k=i
   ·subst h2
    rw [if_pos rfl,if_pos (show k<k+1 by omega)]
    have h:=ih k
    rw [if_neg (by omega:¬k<k)] at h
    refine (Cg.mod _).trans (Cg.trans (Cg.of_eq (Int.natCast_add _ _)) ?_)
    have e:(if b≤k∧k<b+(k+1) then ((l.getD (k-b) 0:Nat):Int) else 0)=(if b≤k∧k<b+k then ((l.getD (k-b) 0:Nat):Int) else 0):=by
     by_cases h3:b≤k
     ·rw [if_pos (by omega),if_pos (by omega)]
     ·rw [if_neg (by omega),if_neg (by omega)]
    rw [e]
    exact (h.add (UV p _ hp)).trans (Cg.of_eq (by omega))
   ·rw [if_neg h2]
    have h:=ih k
    refine h.trans (Cg.of_eq ?_)
    congr 1
    ·by_cases h3:b≤k∧k<b+i
     ·rw [if_pos h3,if_pos (by omega)]
     ·rw [if_neg h3,if_neg (by omega)]
    ·by_cases h3:k<i
     ·rw [if_pos h3,if_pos (by omega)]
     ·rw [if_neg h3,if_neg (by omega)]
theorem zK (p b i:Nat):(XC p b).getD i 0=if i<b+1 then Gm p b i else 0:=Yp _ _ _
theorem zBa {p b:Nat} (hp:1<p) (hb:0<b) (m:List Nat) (i:Nat):∀ j,j<b→Cg p ((Uj p (XC p b) m (j+1)).getD i 0:Int) (-((m.getD i 0:Nat):Int))
 | 0,_=>by
  have hz:(XC p b).getD 0 0=p-1:=by rw [zK,if_pos (by omega)];rfl
  rw [Uj,XO,Jl,if_neg (by omega),VP,hz]
  have e0:(Uj p (XC p b) m 0).getD i 0=0:=by rw [Uj];rfl
  rw [e0,Nat.sub_zero]
  refine (Cg.mod _).trans ?_
  rw [Nat.zero_add]
  refine (Cg.mod _).trans ?_
  rw [Int.natCast_mul]
  have h1:Cg p ((p-1:Nat):Int) (-1):=⟨1,by omega⟩
  exact ((Cg.rfl' (x:=((m.getD i 0:Nat):Int))).mul h1).trans (Cg.of_eq (by omega))
 | j+1,hj=>by
  have hz:(XC p b).getD (j+1) 0=0:=by
   rw [zK,if_pos (by omega),Gm,if_neg (by omega),if_neg (by omega)]
  rw [ji _ _ _ _ hz]
  exact (Cg.mod _).trans (zBa hp hb m i j (by omega))
theorem zJp {p b:Nat} (hp:1<p) (hb:0<b) (m:List Nat) (i:Nat):Cg p ((Vs p (XC p b) m).getD i 0:Int) ((if b≤i then ((m.getD (i-b) 0:Nat):Int) else 0)-((m.getD i 0:Nat):Int)):=by
 have hz:(XC p b).getD b 0=1:=by rw [zK,if_pos (by omega),Gm,if_neg (by omega),if_pos rfl]
 obtain ⟨c,rfl⟩:∃ c,b=c+1:=⟨b-1,by omega⟩
 rw [Vs,Uv,Uj,XO,Jl,VP,hz,Nat.mul_one]
 have h:=zBa hp hb m i c (by omega)
 refine (Cg.mod _).trans (Cg.trans (Cg.of_eq (Int.natCast_add _ _)) ?_)
 by_cases h1:i<c+1
 ·rw [if_pos h1,if_neg (by omega)]
  exact (h.add Cg.rfl').trans (Cg.of_eq (by omega))
 ·rw [if_neg h1,if_pos (by omega)]
  exact (h.add (Cg.mod _)).trans (Cg.of_eq (by omega))
theorem zCt {p b:Nat} (hp:1<p) (hb:0<b) (m:List Nat) (i:Nat):(Vs p (XC p b) m).getD i 0=Vi p b m m.length i:=by
 refine Cg.eq (p:=p) ((zJp hp hb m i).trans (Cg.trans (Cg.of_eq ?_) (zEg (by omega) hb m m.length i).symm)) (zKm (by omega) _ _ _ _) (JA (by omega) _ _ _)
 congr 1
 ·by_cases h1:b≤i
  ·rw [if_pos h1]
   by_cases h2:i<b+m.length
   ·rw [if_pos ⟨h1,h2⟩]
   ·rw [if_neg (by omega),UH (by omega)];rfl
  ·rw [if_neg h1,if_neg (by omega)]
 ·by_cases h1:i<m.length
  ·rw [if_pos h1]
  ·rw [if_neg h1,UH (by omega)];rfl
theorem zAd {p a b:Nat}:∀ k,Cg p (zCp p a b k:Int) ((a:Int)*(b:Int)^k)
 | 0=>Cg.of_eq (by rw [zCp,Int.pow_zero,Int.mul_one])
 | k+1=>by
  rw [zCp]
  refine (Cg.mod _).trans ?_
  rw [Int.natCast_mul,Int.pow_succ,←Int.mul_assoc]
  exact (zAd k).mul Cg.rfl'
theorem zAp {p s n:Nat} (k:Nat):Cg p (Xv p s n k:Int) ((s:Int)*(Yz p n:Int)^k):=(zAd k).trans ((Cg.mod s).mul Cg.rfl')
theorem zo (a:Nat→Int) (x:Int):∀ n,evI a x (n+1)=a 0+x*evI (fun i=>a (i+1)) x n
 | 0=>by simp [evI]
 | n+1=>by
  rw [evI,zo a x n,evI,Int.pow_succ]
  grind
theorem xU {p x:Nat}:∀ l:List Nat,Cg p (Vm p x l:Int) (evI (fun i=>((l.getD i 0:Nat):Int)) (x:Int) l.length)
 | []=>Cg.rfl'
 | c :: l=>by
  rw [Vm,List.length_cons,zo]
  refine (Cg.mod _).trans (Cg.trans (Cg.of_eq (Int.natCast_add _ _)) ?_)
  refine (((Cg.mod (Vm p x l*x)).trans (Cg.trans (Cg.of_eq (Int.natCast_mul _ _)) ((xU l).mul Cg.rfl'))).add Cg.rfl').trans (Cg.of_eq ?_)
  show evI (fun i=>((l.getD i 0:Nat):Int)) (x:Int) l.length*(x:Int)+(c:Int)=(c:Int)+(x:Int)*evI (fun i=>((l.getD i 0:Nat):Int)) (x:Int) l.length
  rw [Int.mul_comm,Int.add_comm]
theorem zEo {p x:Nat}:∀ k,Cg p (X7 p x k:Int) ((x:Int)^k)
 | 0=>Cg.rfl'
 | k+1=>by
  rw [X7]
  refine (Cg.mod _).trans ?_
  rw [Int.natCast_mul,Int.pow_succ]
  exact (zEo k).mul Cg.rfl'
theorem zJk {p x:Nat} (l:List Nat):∀ k,Cg p (evS p l (X7 p x) k:Int) (evI (fun i=>((l.getD i 0:Nat):Int)) (x:Int) k)
 | 0=>Cg.rfl'
 | k+1=>by
  rw [evS,evI]
  refine (Cg.mod _).trans (Cg.trans (Cg.of_eq (Int.natCast_add _ _)) ?_)
  refine (zJk l k).add ((Cg.mod _).trans ?_)
  rw [Int.natCast_mul]
  exact Cg.rfl'.mul (zEo k)
theorem JH {p x:Nat} (l:List Nat):Cg p (ZT p l x:Int) (evI (fun i=>((l.getD i 0:Nat):Int)) (x:Int) l.length):=zJk l _
theorem XP {p:Nat} (hp:0<p) (l:List Nat) (x:Nat):ZT p l x<p:=by
 rw [ZT]
 cases l.length with
 | zero=>exact hp
 | succ k=>exact Nat.mod_lt _ hp
theorem zIi {p n i:Nat} {w v:Int} (h1:Cg p (w^n) 1) (h2:Cg p (w*v) 1) (hi:i<n):Cg p (w^((n-i)%n)) (v^i):=by
 have h3:Cg p (w^((n-i)%n)*w^i) 1:=by
  rcases Nat.eq_zero_or_pos i with h | h
  ·subst h
   rw [Nat.sub_zero,Nat.mod_self]
   exact Cg.of_eq (by simp)
  ·rw [Nat.mod_eq_of_lt (by omega),←Int.pow_add,show n-i+i=n by omega]
   exact h1
 have h4:=yi h2 i
 have h5:Cg p (w^((n-i)%n)) (w^((n-i)%n)*(v^i*w^i)):=(Cg.of_eq (Int.mul_one _).symm).trans (Cg.rfl'.mul h4.symm)
 refine h5.trans ((Cg.of_eq ?_).trans ((h3.mul Cg.rfl').trans (Cg.of_eq (Int.one_mul _))))
 rw [Int.mul_comm (v^i),Int.mul_assoc]
theorem zBw {p j:Nat} (l:List Nat) (h:okP p=true) (hn:XS p l.length) (hj:l.length=2^j) {i:Nat} (hi:i<l.length):Gv p l 1 i=J2 p l.length j l i:=by
 have hp:=Zr h
 refine Cg.eq (p:=p) ?_ (Nat.mod_lt _ (by omega)) (Nat.mod_lt _ (by omega))
 refine Cg.trans ?_ (yp l h hn hj hi).symm
 refine (Cg.mod _).trans ?_
 rw [Int.natCast_mul,Int.mul_comm]
 have e1:(1%p)^(p-2)%p=1:=by rw [Nat.mod_eq_of_lt (show 1<p by omega),Nat.one_pow,Nat.mod_eq_of_lt (by omega)]
 rw [e1]
 refine Cg.mul ((zAd i).trans (Cg.of_eq ?_)) ?_
 ·rw [show ((1:Nat):Int)=1 from rfl,Int.one_pow,Int.mul_one]
 ·rw [intE]
  refine (xU l).trans (Vv (fun _=>Cg.rfl') ?_ _)
  refine (zAp _).trans (Cg.trans (Cg.of_eq ?_) (zIi (G0 h hn) (yX h hn) hi))
  exact Int.one_mul _
def Gk (L:ZO) (msg masks:List Nat):List Nat:=(List.range (L.block+masks.length)).map (JG L msg masks)
def Gf (L:ZO) (q:List Nat):List Nat:=(List.range (L.block+q.length)).map (Vi L.p L.block q q.length)
theorem zKx {L:ZO} (hL:ZU L) {msg masks:List Nat} (h1:msg.length=L.block) (h2:masks.length=L.queries):yx L msg masks=Gk L msg masks:=by
 have hp:=Zr hL.p
 have hb:=hL.b1
 have hk:=hL.k
 obtain ⟨hlen,j,hj⟩:=Ub hL
 have hlog:L.block.log2=j:=by rw [hj];exact Nat.log2_two_pow
 have hl1:(yx L msg masks).length=L.block+masks.length:=by
  rw [yx,JV]
  have h3:=XT L.p ((List.range msg.length).map (Gv L.p msg 1)) (Vs L.p (XC L.p L.block) masks)
  have h4:=Uc L.p (XC L.p L.block) masks
  rw [Uv] at h4
  rw [List.length_map,List.length_range] at h3
  omega
 refine VY (by rw [hl1,Gk,List.length_map,List.length_range]) fun i hi=>?_
 rw [hl1] at hi
 rw [yx,JJ,XO,Yp,zCt (by omega) (by omega),Gk,Yp,if_pos hi,JG,zM]
 by_cases h3:i<L.block
 ·rw [if_pos (by omega),if_pos h3,hlog,zBw (j:=j) msg hL.p (by rw [h1];exact hlen) (by rw [h1];exact hj) (by omega),h1,Nat.add_comm]
 ·rw [if_neg (by omega),if_neg h3,Nat.zero_add]
  exact Nat.mod_eq_of_lt (JA (by omega) _ _ _)
theorem KC {L:ZO} (hL:ZU L) {q:List Nat} (h:q.length=L.block+2*L.queries-1):Ui L q=Gf L q:=by
 have hp:=Zr hL.p
 have hb:=hL.b1
 have hk:=hL.k
 have hl1:(Ui L q).length=L.block+q.length:=by
  rw [Ui,JV]
  have h4:=Uc L.p (XC L.p L.block) q
  rw [Uv] at h4
  omega
 refine VY (by rw [hl1,Gf,List.length_map,List.length_range]) fun i hi=>?_
 rw [hl1] at hi
 rw [Ui,JJ,zCt (by omega) (by omega),Gf,Yp,if_pos hi]
end Go.Proofs.YtakjnmojigechaaGreat
namespace Go.Proofs.YtakjnmojigechaaGreat
theorem xC {p n:Nat} (h:okP p=true) (hn:XS p n) (k:Nat):Cg p (((Yz p n:Int)^k)^n) 1:=by
 rw [←Int.pow_mul,Nat.mul_comm,Int.pow_mul]
 exact ((G0 h hn).pow k).trans (Cg.of_eq Int.one_pow)
theorem KE {p n k:Nat}:Cg p (Xv p 1 n k:Int) ((Yz p n:Int)^k):=zAp k |>.trans (Cg.of_eq (Int.one_mul _))
theorem zb {p n:Nat} {x:Int} (h:Cg p (x^n) 1) (i:Nat):Cg p (x^i) (x^(i%n)):=by
 have e:=Nat.div_add_mod i n
 rw [←e]
 rw [Int.pow_add,Int.pow_mul,Nat.mul_add_mod,Nat.mod_mod]
 exact ((h.pow _).mul Cg.rfl').trans (Cg.of_eq (by rw [Int.one_pow,Int.one_mul]))
theorem zEf {p n:Nat} (hn:0<n) (l:List Nat) (s:Nat) (x:Int) (hx:Cg p (x^n) 1):∀ i,Cg p (evI (fun k=>(JO p n l s i k:Int)) x n) (evI (fun k=>((l.getD k 0:Nat):Int)) ((s:Int)*x) i)
 | 0=>by
  refine Cg.of_eq ?_
  show evI (fun k=>((0:Nat):Int)) x n=0
  rw [VK,←U0 n]
  congr 1
  funext k
  simp
 | i+1=>by
  have ih:=zEf hn l s x hx i
  rw [JO,yk _ _ _ _ _ (Nat.mod_lt _ hn),evI]
  refine ih.add ?_
  have h1:Cg p (((JO p n l s i (i%n)+l.getD i 0*Gt p s i%p)%p:Nat)-(JO p n l s i (i%n):Int)) (((l.getD i 0:Nat):Int)*(s:Int)^i):=by
   have h2:Cg p ((l.getD i 0*Gt p s i%p:Nat):Int) (((l.getD i 0:Nat):Int)*(s:Int)^i):=(Cg.mod _).trans (Cg.trans (Cg.of_eq (Int.natCast_mul _ _)) (Cg.rfl'.mul (yj p s i)))
   have h3:=((Cg.mod (p:=p) (JO p n l s i (i%n)+l.getD i 0*Gt p s i%p)).trans (Cg.trans (Cg.of_eq (Int.natCast_add _ _)) (Cg.rfl'.add h2))).add (Cg.rfl' (x:=-(JO p n l s i (i%n):Int)))
   exact Cg.trans (Cg.of_eq (by omega)) (h3.trans (Cg.of_eq (by omega)))
  refine (h1.mul (zb hx i).symm).trans (Cg.of_eq ?_)
  rw [Int.mul_pow,Int.mul_assoc]
theorem zAu {p n j s k:Nat} (h:okP p=true) (hn:XS p n) (hj:n=2^j) (l:List Nat) (hk:k<n):Jf p n j l s k=ZT p l (Xv p s n k):=by
 have hp:=Zr h
 refine Cg.eq (p:=p) ?_ (zEt (by omega) _ _ _ _ _) (XP (by omega) _ _)
 have h1:=yn p (by omega) j (JO p n l (s%p) l.length) (Yz p n) (K9 h hn hj) k (by rw [←hj];exact hk)
 rw [←hj] at h1
 refine h1.trans ((zEf hn.pos l _ _ (xC h hn k) _).trans (Cg.trans ?_ (JH l).symm))
 exact Vv (fun _=>Cg.rfl') ((((Cg.mod s).mul Cg.rfl')).trans (zAp k).symm) _
end Go.Proofs.YtakjnmojigechaaGreat
namespace Go.Proofs.YtakjnmojigechaaGreat
def kR (p:Nat) (f:Nat→Nat):Nat→Nat
 | 0=>0
 | k+1=>(kR p f k+f k)%p
end Go.Proofs.YtakjnmojigechaaGreat
namespace Go.Proofs.YtakjnmojigechaaGreat
open Go.RowKit
def G3 (L:ZO) (m r:List (List Nat)) (k:Nat):List Nat:=yx L (m.getD k []) (r.getD k [])
theorem KA (f:Nat→List Nat) (k:Nat):(List.range k).map f++[f k]=(List.range (k+1)).map f:=by simp [List.range_succ]
theorem zC4 {p:Nat} {pub vars:Int} {rows:List Ya} {ws:List Nat} (ht:YC p pub vars rows=true) (ha:JL p vars ws=true) :
  ∃ pu:Nat,pub=(pu:Int)∧1+pu≤ws.length∧rows.length≤16384∧∀ x∈ws,x<p:=by
 simp only [YC,Bool.and_eq_true,Bool.not_eq_true',decide_eq_false_iff_not] at ht
 simp only [JL,Bool.and_eq_true,Bool.not_eq_true',bne_eq_false_iff_eq,List.all_eq_true] at ha
 obtain ⟨⟨⟨⟨⟨-,h1⟩,h2⟩,-⟩,h4⟩,-⟩:=ht
 obtain ⟨⟨⟨h5,-⟩,-⟩,h6⟩:=ha
 refine ⟨pub.toNat,by omega,by omega,by omega,fun x hx=>?_⟩
 have:=h6 x hx
 simp at this
 omega
theorem zIl (B:Nat) (v:List Nat) (n:Nat):(KN B v n).length=n:=by simp [KN]
theorem Y5 (B:Nat) (l:Nat→List Nat) (ps:Nat→Nat):∀ i,(Vb B l ps (i+1)).length=(Vb B l ps i).length+ps i:=fun i=>by rw [KI,List.length_append,zIl]
theorem zGx (L:ZO) (rows:List Ya) (ws:List Nat) (pu:Nat):(Gq L rows ws pu).length=L.a+L.b+L.b+L.b:=by
 unfold Gq Ga
 rw [Y5,Y5,Y5,Y5]
 show 0+L.a+L.b+L.b+L.b=_
 omega
theorem G5 {B:Nat} {l:Nat→List Nat} {ps:Nat→Nat} {r:List Nat} (h:r∈Ga B l ps):∃ i k,i<4∧k<ps i∧r=Ji B (l i) k:=by
 unfold Ga Vb at h
 obtain ⟨i,hi,hr⟩:=List.mem_flatMap.1 h
 obtain ⟨k,hk,rfl⟩:=List.mem_map.1 hr
 exact ⟨i,k,List.mem_range.1 hi,List.mem_range.1 hk,rfl⟩
theorem zFo {L:ZO} {rows:List Ya} {ws:List Nat} {pu:Nat} {r:List Nat} (h:r∈Gq L rows ws pu):r.length=L.block:=by
 obtain ⟨i,k,-,-,rfl⟩:=G5 h
 simp [Ji]
theorem Uz {l:List Nat} {p:Nat} (hp:0<p) (h:∀ x∈l,x<p) (i:Nat):l.getD i 0<p:=by
 rw [List.getD_eq_getElem?_getD]
 cases e:l[i]? with
 | none=>exact hp
 | some x=>exact h x (List.mem_of_getElem? e)
theorem zI2 {L:ZO} {rows:List Ya} {ws:List Nat} {pu:Nat} (hp:0<L.p) (hw:∀ x∈ws,x<L.p) {r:List Nat} (h:r∈Gq L rows ws pu) (j:Nat):r.getD j 0<L.p:=by
 obtain ⟨i,k,hi,-,rfl⟩:=G5 h
 rw [Ji,Yp]
 split
 ·refine Uz hp ?_ _
  rcases (show i=0∨i=1∨i=2∨i=3 by omega) with rfl | rfl | rfl | rfl
  ·exact fun x hx=>hw x (List.mem_of_mem_drop hx)
  all_goals
   intro x hx
   obtain ⟨r,-,rfl⟩:=List.mem_map.1 hx
   exact jy hp _ _
 ·exact hp
def docI (p pu n rho:Nat) (rows:List Ya) (k:Nat) (f:Nat→Nat):Nat→(Nat→Nat)
 | 0=>f
 | i+1=>Kq p pu (rho^(k*n+i)%p) (docI p pu n rho rows k f i) (YA (rows.getD i ⟨[],[],[]⟩) k) (YA (rows.getD i ⟨[],[],[]⟩) k).length
def zDy (p pu n rho:Nat) (rows:List Ya):Nat→(Nat→Nat)
 | 0=>fun _=>0
 | k+1=>docI p pu n rho rows k (zDy p pu n rho rows k) n
def Z9 (L:ZO) (pu rho:Nat) (rows:List Ya):List (List Nat) :=
 Ga L.block (Yg ((List.range L.secret).map (zDy L.p pu rows.length rho rows 3)) (pwL L.p rows.length rho 0) (pwL L.p rows.length rho 1) (pwL L.p rows.length rho 2)) (Yg L.a L.b L.b L.b)
def wtF (p:Nat) (cs:List (List Nat)) (i:Nat):List Nat:=(List.range (cs.getD i []).length).map (Gv p (cs.getD i []) 1)
def wtD (p:Nat) (cs:List (List Nat)):List (List Nat):=(List.range cs.length).map (wtF p cs)
theorem Xy (L:ZO) (pu rho:Nat) (rows:List Ya):(Z9 L pu rho rows).length=L.a+L.b+L.b+L.b:=by
 unfold Z9 Ga
 rw [Y5,Y5,Y5,Y5]
 simp [Vb,Yg]
theorem YU {L:ZO} {pu rho:Nat} {rows:List Ya}:∀ r∈Z9 L pu rho rows,r.length=L.block:=fun r h=>by
 unfold Z9 at h
 obtain ⟨i,k,-,-,rfl⟩:=G5 h
 simp [Ji]
end Go.Proofs.YtakjnmojigechaaGreat
namespace Go.Proofs.YtakjnmojigechaaGreat
def cfI (l:List Nat) (i:Nat):Int:=((l.getD i 0:Nat):Int)
def evL (l:List Nat) (x:Int):Int:=evI (cfI l) x l.length
theorem zB2 {a:Nat→Int} {x:Int} {m:Nat} (h:∀ i,m≤i→a i=0):∀ t,evI a x (m+t)=evI a x m
 | 0=>rfl
 | t+1=>by
  rw [←Nat.add_assoc,evI,zB2 h t,h (m+t) (by omega),Int.zero_mul,Int.add_zero]
theorem Kh (l:List Nat) (x:Int) {n:Nat} (h:l.length≤n):evI (cfI l) x n=evL l x:=by
 obtain ⟨t,rfl⟩:∃ t,n=l.length+t:=⟨n-l.length,by omega⟩
 exact zB2 (fun i hi=>by rw [cfI,UH hi];rfl) t
theorem kT (a b:Nat→Int) (x:Int):∀ n,evI (fun i=>a i+b i) x n=evI a x n+evI b x n
 | 0=>rfl
 | n+1=>by rw [evI,evI,evI,kT a b x n,Int.add_mul];omega
theorem zAk (c:Int) (a:Nat→Int) (x:Int):∀ n,evI (fun i=>c*a i) x n=c*evI a x n
 | 0=>by rw [evI,evI,Int.mul_zero]
 | n+1=>by rw [evI,evI,zAk c a x n,Int.mul_add,Int.mul_assoc]
theorem Jw {p:Nat} (a b:List Nat) (x:Int):Cg p (evL (Vf p a b) x) (evL a x+evL b x):=by
 have hl:=XT p a b
 rw [←Kh (Vf p a b) x (n:=max a.length b.length) hl,←Kh a x (n:=max a.length b.length) (by omega),←Kh b x (n:=max a.length b.length) (by omega),←kT]
 refine Vv (fun i=>?_) Cg.rfl' _
 unfold cfI
 rw [XO]
 exact (Cg.mod _).trans (Cg.of_eq (Int.natCast_add _ _))
theorem KS {p:Nat} (a:List Nat) (n:Nat) (x:Int):Cg p (evL (Xl p a n) x) ((n:Int)*evL a x):=by
 rw [←Kh (Xl p a n) x (XF p a n),evL,←zAk]
 refine Vv (fun i=>?_) Cg.rfl' _
 unfold cfI
 rw [VP]
 exact (Cg.mod _).trans (Cg.of_eq (by rw [Int.natCast_mul,Int.mul_comm]))
theorem zCv (a:Nat→Int) (x:Int) (k:Nat) (h:∀ i,i<k→a i=0):∀ n,evI a x (k+n)=x^k*evI (fun i=>a (k+i)) x n
 | 0=>by
  show evI a x k=x^k*0
  rw [Int.mul_zero,VK,←U0 k]
  have:∀ n,n≤k→ZY (fun i=>a i*x^i) n=ZY (fun _=>0) n:=fun n=>by
   induction n with
   | zero=>exact fun _=>rfl
   | succ n ih=>intro hn;rw [ZY,ZY,ih (by omega),h n (by omega),Int.zero_mul]
  exact this k (Nat.le_refl _)
 | n+1=>by
  rw [←Nat.add_assoc,evI,zCv a x k h n,evI,Int.mul_add,Int.pow_add]
  congr 1
  rw [←Int.mul_assoc,←Int.mul_assoc,Int.mul_comm (a (k+n))]
theorem zFm (a:List Nat) (k:Nat) (x:Int):evL (Uq a k) x=x^k*evL a x:=by
 have e:(Uq a k).length=k+a.length:=GF a k
 unfold evL
 rw [e,zCv _ _ k (fun i hi=>by unfold cfI;rw [Jl,if_pos hi];rfl)]
 congr 2
 funext i
 unfold cfI
 rw [Jl,if_neg (by omega),Nat.add_sub_cancel_left]
theorem zFa {p:Nat} (a b:List Nat) (x:Int):∀ k,Cg p (evL (Uj p a b k) x) (evI (cfI a) x k*evL b x)
 | 0=>Cg.of_eq (by rw [Uj,evI,Int.zero_mul];rfl)
 | k+1=>by
  rw [Uj,evI,Int.add_mul]
  refine (Jw _ _ x).trans ((zFa a b x k).add ?_)
  rw [zFm]
  refine (Cg.rfl'.mul (KS b _ x)).trans (Cg.of_eq ?_)
  rw [←Int.mul_assoc,Int.mul_comm (x^k)]
  rfl
theorem zAt {p:Nat} (a b:List Nat) (x:Int):Cg p (evL (Vs p a b) x) (evL a x*evL b x):=zFa a b x _
theorem Xr {p x:Nat} (l:List Nat):Cg p (ZT p l x:Int) (evL l x):=JH l
def Jo (a:Nat→Int) (r:Int) (n i:Nat):Int:=evI (fun j=>a (i+j)) r (n-i)
theorem jR (a:Nat→Int) (r:Int) {n i:Nat} (h:i<n):Jo a r n i=a i+r*Jo a r n (i+1):=by
 unfold Jo
 rw [show n-i=(n-(i+1))+1 by omega,zo]
 rw [Nat.add_zero]
 congr 3
 funext j
 congr 1
 omega
theorem zHe (a:Nat→Int) (r x:Int) (n:Nat):∀ m,m≤n→evI a x m=Jo a r n 0+(x-r)*evI (fun i=>Jo a r n (i+1)) x m-Jo a r n m*x^m
 | 0,_=>by rw [evI,evI,Int.mul_zero,Int.pow_zero];omega
 | m+1,h=>by
  rw [evI,zHe a r x n m (by omega),evI,jR a r (i:=m) (by omega),Int.pow_succ]
  grind
theorem zH5 (a:Nat→Int) (r x:Int) (n:Nat):evI a x (n+1)=evI a r (n+1)+(x-r)*evI (fun i=>Jo a r (n+1) (i+1)) x n:=by
 have h:=zHe a r x (n+1) (n+1) (Nat.le_refl _)
 have h1:Jo a r (n+1) (n+1)=0:=by unfold Jo;rw [Nat.sub_self];rfl
 have h0:Jo a r (n+1) 0=evI a r (n+1):=by
  unfold Jo
  rw [Nat.sub_zero]
  congr 1
  funext j
  rw [Nat.zero_add]
 rw [h1,h0,Int.zero_mul,Int.sub_zero] at h
 have e:evI (fun i=>Jo a r (n+1) (i+1)) x (n+1)=evI (fun i=>Jo a r (n+1) (i+1)) x n:=by rw [evI,h1,Int.zero_mul,Int.add_zero]
 rw [h,e]
theorem zCu {p:Nat} (h:okP p=true):∀ (n:Nat) (a:Nat→Int) (xs:Nat→Int),(∀ i j,i<n→j<n→i≠j→¬Cg p (xs i) (xs j))→(∀ k,k<n→Cg p (evI a (xs k) n) 0)→∀ i,i<n→Cg p (a i) 0
 | 0,_,_,_,_=>fun i hi=>absurd hi (Nat.not_lt_zero _)
 | n+1,a,xs,hx,hr=>by
  have hq:∀ i,i<n→Cg p (Jo a (xs n) (n+1) (i+1)) 0:=zCu h n (fun i=>Jo a (xs n) (n+1) (i+1)) xs (fun i j hi hj hne=>hx i j (by omega) (by omega) hne) fun k hk=>by
   have h1:=hr k (by omega)
   rw [zH5 a (xs n) (xs k) n] at h1
   have h2:=hr n (by omega)
   have h3:Cg p ((xs k-xs n)*evI (fun i=>Jo a (xs n) (n+1) (i+1)) (xs k) n) 0:=by
    have:=(h1.trans h2.symm)
    obtain ⟨c,hc⟩:=this
    exact ⟨c,by rw [←hc];omega⟩
   rcases zCg h h3 with h4 | h4
   ·exact absurd (by obtain ⟨c,hc⟩:=h4;exact ⟨c,by rw [←hc];omega⟩) (hx k n (by omega) (by omega) (by omega))
   ·exact h4
  have hq':∀ i,i<n+1→Cg p (Jo a (xs n) (n+1) (i+1)) 0:=fun i hi=>by
   rcases Nat.lt_or_ge i n with h1 | h1
   ·exact hq i h1
   ·have e:i=n:=by omega
    subst e
    unfold Jo
    rw [Nat.sub_self]
    exact Cg.rfl'
  have h0:Cg p (Jo a (xs n) (n+1) 0) 0:=by
   have e:Jo a (xs n) (n+1) 0=evI a (xs n) (n+1):=by
    unfold Jo
    rw [Nat.sub_zero]
    congr 1
    funext j
    rw [Nat.zero_add]
   rw [e]
   exact hr n (by omega)
  intro i hi
  have hs:=jR a (xs n) hi
  have h1:Cg p (Jo a (xs n) (n+1) i) 0:=by
   cases i with
   | zero=>exact h0
   | succ i=>exact hq' i (by omega)
  rw [hs] at h1
  have h2:=(Cg.rfl' (p:=p) (x:=xs n)).mul (hq' i hi)
  rw [Int.mul_zero] at h2
  obtain ⟨c,hc⟩:=h1
  obtain ⟨d,hd⟩:=h2
  exact ⟨c-d,by rw [Int.mul_sub,←hc,←hd];omega⟩
theorem zCj {p n:Nat} (h:okP p=true) {a b:Nat→Int} {xs:Nat→Int} (hx:∀ i j,i<n→j<n→i≠j→¬Cg p (xs i) (xs j)) (hv:∀ k,k<n→Cg p (evI a (xs k) n) (evI b (xs k) n)):∀ i,i<n→Cg p (a i) (b i):=fun i hi=>by
 have:=zCu h n (fun i=>a i+(-1)*b i) xs hx (fun k hk=>by
  rw [kT,zAk]
  exact ((hv k hk).add (Cg.rfl' (x:=(-1)*evI b (xs k) n))).trans (Cg.of_eq (by omega))) i hi
 obtain ⟨c,hc⟩:=this
 exact ⟨c,by rw [←hc];omega⟩
end Go.Proofs.YtakjnmojigechaaGreat
namespace Go.Proofs.YtakjnmojigechaaGreat
theorem zAm (l:List Nat) (n:Nat) (x:Int):evL (Vn l n) x=evL l x:=by
 rw [←Kh l x (n:=(Vn l n).length) (by rw [JV];omega)]
 unfold evL
 congr 1
 funext i
 unfold cfI
 rw [JJ]
end Go.Proofs.YtakjnmojigechaaGreat
namespace Go.Proofs.YtakjnmojigechaaGreat
open Go.RowKit
set_option maxRecDepth 100000 in
set_option maxHeartbeats 1000000 in
theorem jW (p:Nat) (A:Option Addr) (n c x:Nat) (l:List Nat) (w:World) (hp:okP p=true) (hl:RWd w [.slice A n c] l) :
  Calls Tryz.prog 53 #[fv p, .slice A n c, .int .u64 (x:Int)] w fun e w'=>e= .returned (.int .u64 ((Vm p x l:Nat):Int))∧Below w.heap.size w w':=by
 obtain ⟨rfl,h1,h2,hlt,hrd⟩:=Zy hl
 have gm:=YR h1 h2
 have HM:=Lib.hid (fun a b w=>XI p a b w hp)
 have HA:=Lib.hid (fun a b w=>YX p a b w hp)
 have HD:=Lib.hid (xl p x l)
 obtain ⟨f,hf⟩:∃ f,f=fun k=>Vm p x (l.drop k):=⟨_,rfl⟩
 have HF0:=Lib.hid (show f 0=Vm p x l by rw [hf];rfl)
 have HF9:=Lib.hid (show f l.length=0 by rw [hf];simp [Vm])
 have HF:=Lib.hid (fun k (hk:k<l.length)=>show f k=(f (k+1)*x%p+l.getD k 0)%p by rw [hf];exact HD.out k hk)
 rw [←HF0.out]
 clear HD hl h1 h2 hp hlt hf HF0
 obtain ⟨m,hm⟩:∃ m:Int,m=(l.length:Int)-1:=⟨_,rfl⟩
 have g0:(l.length:Int)-1=m:=hm.symm
 have gw:IntKind.i64.wrap m=m:=ZD _ (by omega) (by omega)
 have HMM:=Lib.hid hm
 clear hm
 unfold fv at *
 have kf:=Blk.new w 96 #[.int .u64 (p:Int)]
 have hb0:Below w.heap.size w (w.alloc (.cells #[.int .u64 (p:Int)] 96)):=(Below.refl _ _).alloc (Nat.le_refl _) _
 go_enter Tryz.func53,Tryz.ntmps53
 go_upto_region 1 with fail
 generalize w.alloc _=w0 at kf hb0 ⊢
 go_wp2_with fail
 clear g0 gw
 go_loopw [7,8] (fun y i wr=>∃ (k:Nat) (j:Int),Hid (j+1=(k:Int))∧k≤l.length∧i= .int .i64 j∧y= .int .u64 (f k:Int)∧Blk wr w.heap.size 96 #[.int .u64 (p:Int)]∧Below w.heap.size w wr) (fun _ i _=>(intOf i+1).toNat)
 case atStart=>exact ⟨l.length,m,Lib.hid (by have:=HMM.out;omega),Nat.le_refl _,rfl,by rw [HF9.out];rfl,kf,hb0⟩
 case round =>
  clear kf hb0
  obtain ⟨k,j,HJ,hk,rfl,rfl,kf,hb⟩:=hrel
  rcases Nat.eq_zero_or_pos k with h0 | h0
  ·subst h0
   have hj:j=-1:=by have:=HJ.out;omega
   subst hj
   go_wp2
   go_ret
   exact ⟨rfl,hb⟩
  ·obtain ⟨i,hi⟩:∃ i,i=k-1:=⟨_,rfl⟩
   have hj:j=(i:Int):=by have:=HJ.out;omega
   subst hj
   have hil:i<l.length:=by omega
   obtain ⟨b,q,rfl,hbl,hc⟩:=Ym (hrd.below hb) hil
   have HF1:=Lib.hid (HF.out i hil)
   rw [show i+1=k by omega] at HF1
   obtain ⟨y,hy⟩:∃ y,y=f k:=⟨_,rfl⟩
   rw [←hy] at HF1 ⊢
   generalize l.getD i 0=a at *
   obtain ⟨z,hz⟩:∃ z,z=y*x%p:=⟨_,rfl⟩
   have HM1:=Lib.hid (fun w=>by have:=HM.out y x w;rw [←hz] at this;exact this)
   rw [←hz] at HF1
   have HA1:=Lib.hid (fun w=>by have:=HA.out z a w;rw [←HF1.out] at this;exact this)
   have HI:=Lib.hid hi
   obtain ⟨y2,hy2⟩:∃ y2,y2=f i:=⟨_,rfl⟩
   rw [←hy2] at HA1
   have HY2:=Lib.hid hy2
   have gi1:(0:Int)≤(i:Int):=by omega
   have gi2:(i:Int)<(l.length:Int):=by omega
   obtain ⟨j2,hj2⟩:∃ j2:Int,j2=(i:Int)-1:=⟨_,rfl⟩
   have gj:(i:Int)-1=j2:=hj2.symm
   have gw:IntKind.i64.wrap j2=j2:=ZD _ (by omega) (by omega)
   have HJ2:=Lib.hid hj2
   clear hz hy hi HF1 hy2 hj2
   have cf:=kf.cell
   have lf:=kf.lt
   go_upto_region 5 with fail
   refine ZF (ZK) (later_moves) [] [] [0,1,2,3,4,5,6,7,8,9,10] (by kernel_rfl) (by kernel_rfl) ?_
   refine ZG (later_moves) ?_
   intro Wc hacc
   repeat (first | (refine Zl (later_moves) rfl rfl rfl rfl (fun _ _ _ h=>h) ?_;simp only [Act.put,zLa,zLb,zLc]) | (refine Zi (v:=?_) (later_moves) rfl rfl rfl rfl (fun _ _ _ h=>h) ?_ ?_;rotate_left;(· (intro w' hR;(first | have hcells:=Zb ((later_moves).trans _ _ _ hacc hR) | skip);go_simp;try with_reducible rfl));simp only [Act.put,zLa,zLb,zLc]))
   refine Zs (later_moves) rfl rfl rfl rfl (fun _ _ _ h=>h) (fun _=>by go_simp <;> rfl) (fun w' hR=>HM1.out _) ?_
   simp only [Act.put,zLa,zLb,zLc]
   repeat (first | (refine Zl (later_moves) rfl rfl rfl rfl (fun _ _ _ h=>h) ?_;simp only [Act.put,zLa,zLb,zLc]) | (refine Zi (v:=?_) (later_moves) rfl rfl rfl rfl (fun _ _ _ h=>h) ?_ ?_;rotate_left;(· (intro w' hR;(first | have hcells:=Zb ((later_moves).trans _ _ _ hacc hR) | skip);go_simp;try with_reducible rfl));simp only [Act.put,zLa,zLb,zLc]))
   refine Zs (later_moves) rfl rfl rfl rfl (fun _ _ _ h=>h) (fun _=>by go_simp <;> rfl) (fun w' hR=>HA1.out _) ?_
   simp only [Act.put,zLa,zLb,zLc]
   repeat (first | (refine Zl (later_moves) rfl rfl rfl rfl (fun _ _ _ h=>h) ?_;simp only [Act.put,zLa,zLb,zLc]) | (refine Zi (v:=?_) (later_moves) rfl rfl rfl rfl (fun _ _ _ h=>h) ?_ ?_;rotate_left;(· (intro w' hR;(first | have hcells:=Zb ((later_moves).trans _ _ _ hacc hR) | skip);go_simp;try with_reducible rfl));simp only [Act.put,zLa,zLb,zLc]))
   refine YD rfl ?_
   intro wd hRd
   replace hacc:=(later_moves).trans _ _ _ hacc hRd
   clear hRd
   have hxd:=Za (Below.refl wr.heap.size wr).drew hacc
   replace kf:=kf.below hxd kf.lt
   replace hb:=Za hb hxd
   clear hxd hacc cf lf
   go_wp2
   go_roundw
   case rel=>exact ⟨i,j2,Lib.hid (by have:=HJ2.out;omega),by omega,rfl,by rw [HY2.out],kf,hb⟩
   case measure=>have:=HJ2.out;simp [intOf];omega
set_option maxRecDepth 100000 in
set_option maxHeartbeats 1000000 in
theorem zN (p s n:Nat) (w:World) (hp:okP p=true) (hn:XS p n) (hs:s%p≠0) :
  Calls Tryz.prog 108 #[fv p, .int .u64 (s:Int), .int .i64 (n:Int)] w fun e w'=>∃ g,e= .returned (.tuple #[.slice (some ⟨g,0,none⟩) n n, .int .i64 0])∧w.heap.size≤g∧Blk w' g 22 (Zm n (Xv p s n))∧Below w.heap.size w w':=by
 have hn4:=hn.le
 have HV:=Lib.hid (fun w=>YK p w hp)
 have HR:=Lib.hid (fun w=>KR p n w hp hn)
 have HD:=Lib.hid (fun w=>Vr p s w hp)
 have HM:=Lib.hid (fun a b w=>XI p a b w hp)
 obtain ⟨r,hr⟩:∃ r,r=Yz p n:=⟨_,rfl⟩
 obtain ⟨x0,hx0⟩:∃ x0,x0=s%p:=⟨_,rfl⟩
 obtain ⟨F,hF⟩:∃ F,F=Xv p s n:=⟨_,rfl⟩
 have HF0:=Lib.hid (show F 0=x0 by rw [hF,hx0];rfl)
 have HF:=Lib.hid (show ∀ k,F (k+1)=F k*r%p from fun k=>by rw [hF,hr];rfl)
 rw [←hr] at HR
 rw [←hx0] at HD hs
 rw [←hF]
 have d0:((x0:Int) == 0)=false:=by rw [beq_eq_false_iff_ne];omega
 have mk:=YS n (by omega)
 have gn:(n:Int)≤4096:=by omega
 have gn0:(0:Int)≤(n:Int):=by omega
 clear hr hx0 hF hp hn hs
 unfold fv at *
 have kf:=Blk.new w 96 #[.int .u64 (p:Int)]
 have hb0:Below w.heap.size w (w.alloc (.cells #[.int .u64 (p:Int)] 96)):=(Below.refl _ _).alloc (Nat.le_refl _) _
 go_enter Tryz.func108,Tryz.ntmps108
 go_wp2_with fail
 generalize w.alloc _=w1 at kf hb0 ⊢
 refine (HV.out _).mono ?_
 rintro e w2 ⟨rfl,hbx⟩
 replace kf:=kf.below hbx kf.lt
 replace hb0:=Za hb0 hbx
 clear hbx
 have cf:=kf.cell
 go_wp2_with fail
 refine (HR.out _).mono ?_
 rintro e w3 ⟨rfl,hbx⟩
 replace kf:=kf.below hbx kf.lt
 replace hb0:=Za hb0 hbx
 clear hbx cf
 have cf:=kf.cell
 go_wp2_with fail
 refine (HD.out _).mono ?_
 rintro e w4 ⟨rfl,hbx⟩
 replace kf:=kf.below hbx kf.lt
 replace hb0:=Za hb0 hbx
 clear hbx cf
 have cf:=kf.cell
 go_wp2_with fail
 have kg:=Blk.new w4 22 (Zm n fun _=>0)
 have hal:=(Below.refl w4.heap.size w4).alloc (Nat.le_refl _) (.cells (Zm n fun _=>0) 22)
 have hg1:w.heap.size<w4.heap.size:=kf.lt
 replace kf:=kf.below hal kf.lt
 replace hb0:=Za hb0 hal
 clear hal mk cf
 generalize w4.alloc _=w5 at kf kg hb0 ⊢
 generalize w4.heap.size=g at kg hg1 ⊢
 have H0:=Lib.hid (VX n F fun _=>0)
 go_loopw [1,34] (fun y i wr=>∃ k:Nat,k≤n∧i= .int .i64 (k:Int)∧y= .int .u64 (F k:Int)∧Blk wr w.heap.size 96 #[.int .u64 (p:Int)]∧Blk wr g 22 (Zm n (X8 F (fun _=>0) k))∧Below w.heap.size w wr) (fun _ i _=>n-(intOf i).toNat)
 case atStart=>exact ⟨0,Nat.zero_le _,rfl,by rw [HF0.out],kf,by rw [H0.out];exact kg,hb0⟩
 case round =>
  clear kf kg hb0
  obtain ⟨k,hk,rfl,rfl,kf,kg,hb0⟩:=hrel
  by_cases hlt:k<n
  ·have q1:(k:Int)<(n:Int):=by omega
   have q2:(0:Int)≤(k:Int):=by omega
   obtain ⟨z,hz⟩:∃ z,z=F k:=⟨_,rfl⟩
   obtain ⟨z2,hz2⟩:∃ z2,z2=F (k+1):=⟨_,rfl⟩
   have HST:=Lib.hid (VF (n:=n) (G:=fun _=>0) hz)
   have HF1:=Lib.hid (HF.out k)
   rw [←hz,←hz2] at HF1
   have HM1:=Lib.hid (fun w=>by have:=HM.out z r w;rw [←HF1.out] at this;exact this)
   have HZ2:=Lib.hid hz2
   rw [←hz]
   clear hz hz2 HF1
   have cg:=kg.cell k
   rw [Vw _ _ hlt] at cg
   have fg:=kg.frozen
   have lg:=kg.lt
   have cf:=kf.cell
   have lf:=kf.lt
   have nfg:w.heap.size≠g:=by omega
   go_upto_region 12 with fail
   have hg:=Yl (w:=wr) g k (.int .u64 (z:Int))
   replace kg:=kg.set_ k (.int .u64 (z:Int))
   rw [HST.out] at kg
   replace kf:=kf.grown hg (fun e=>by have:=Option.some.inj e;first | omega | (exact absurd this (by assumption)) | (exact absurd this.symm (by assumption)))
   replace hb0:=hb0.trans (Zg hg hb0.size (by omega))
   clear hg cg fg lg cf lf
   generalize wr.setCell _ _=w6 at kf kg hb0 ⊢
   have cf:=kf.cell
   go_wp2_with fail
   refine (HM1.out _).mono ?_
   rintro e w7 ⟨rfl,hbx⟩
   replace kf:=kf.below hbx kf.lt
   replace kg:=kg.below hbx kg.lt
   replace hb0:=Za hb0 hbx
   clear hbx cf
   go_wp2_with fail
   go_roundw
   case rel=>exact ⟨k+1,by omega,by go_num,by rw [HZ2.out],kf,kg,hb0⟩
   case measure=>simp [intOf];omega
  ·obtain rfl:k=n:=by omega
   have q1:¬((k:Int)<(k:Int)):=by omega
   rw [JU] at kg
   go_wp2
   go_ret2
   exact ⟨g,rfl,by omega,kg,hb0⟩
set_option maxRecDepth 100000 in
set_option maxHeartbeats 1000000 in
theorem zP (L:ZO) (w:World) (hL:ZU L) :
  Calls Tryz.prog 51 #[.agg (Zz L)] w fun e w'=>∃ g1 g2,e= .returned (.tuple #[.slice (some ⟨g1,0,none⟩) L.block L.block, .slice (some ⟨g2,0,none⟩) L.n L.n])∧Blk w' g1 22 (Zm L.block (Xv L.p 1 L.block))∧Blk w' g2 22 (Zm L.n (Xv L.p (ZJ L.p).1 L.n))∧w.heap.size≤g1∧w.heap.size≤g2∧Below w.heap.size w w':=by
 obtain ⟨hp1,hp2⟩:=Zr hL.p
 have H1:=Lib.hid (fun w=>zN L.p 1 L.block w hL.p (Ub hL).1 (by rw [Nat.mod_eq_of_lt (by omega)];decide))
 have H2:=Lib.hid (fun w=>zN L.p (ZJ L.p).1 L.n w hL.p (GU hL).1 (kP hL.p))
 have HG:=Lib.hid (fun w=>xO L.p w hL.p)
 generalize (ZJ L.p).1=gn at *
 clear hL hp1 hp2
 unfold Zz fv at *
 obtain ⟨kl,kf,hb0,hsz⟩:=YB w 55 96 #[.int .u64 (L.p:Int), .int .i64 (L.block:Int), .int .i64 (L.queries:Int), .int .i64 (L.k:Int), .int .i64 (L.n:Int), .int .i64 (L.secret:Int), .int .i64 (L.rows:Int), .int .i64 (L.a:Int), .int .i64 (L.b:Int), .int .i64 (L.b:Int), .int .i64 (L.b:Int)] #[.int .u64 (L.p:Int)]
 go_enter Tryz.func51,Tryz.ntmps51
 go_upto_region 2 with fail
 generalize (w.alloc _).alloc _=w1 at kl kf hb0 hsz ⊢
 have hs1:w.heap.size+2≤w1.heap.size:=by omega
 clear hsz
 have cl:=kl.cell
 have cf:=kf.cell
 have ll:=kl.lt
 have lf:=kf.lt
 go_wp2_with fail
 refine (H1.out _).mono ?_
 rintro e w2 ⟨g1,rfl,hg1,k1,hbx⟩
 replace kl:=kl.below hbx kl.lt
 replace kf:=kf.below hbx kf.lt
 replace hb0:=Za hb0 hbx
 have hs2:=Nat.le_trans hs1 hbx.size
 clear hbx cl cf ll lf
 have cl:=kl.cell
 have cf:=kf.cell
 have ll:=kl.lt
 have lf:=kf.lt
 go_upto_region 3 with fail
 refine Zq (ZK) [2,5] [0,1,3,4,2,5,6,7,8,9,10] (by kernel_rfl) (by kernel_rfl) ?_
 refine Zp (later_moves) ?_
 intro Wc HWc hacc
 have hbW:Below w2.heap.size w2 Wc:=by rw [HWc.out];exact (Below.refl _ _).drew
 replace k1:=k1.below hbW k1.lt
 replace hb0:=Za hb0 hbW
 have hs3:=Nat.le_trans hs2 hbW.size
 repeat (first | (refine Zf (later_moves) rfl rfl (fun _ _ _ h=>h) ?_;simp only [Act.put,zLa,zLb,zLc]) | (refine Ze (v:=?_) (later_moves) rfl rfl (fun _ _ _ h=>h) ?_ ?_;rotate_left;(· (intro w' hR;(first | have hcells:=Zb ((later_moves).trans _ _ _ hacc hR) | skip);go_simp;try with_reducible rfl));simp only [Act.put,zLa,zLb,zLc]))
 refine Zk (later_moves) rfl rfl rfl (fun _=>by go_simp <;> rfl) ((HG.out _).mono ?_)
 rintro e w3 ⟨rfl,hb3⟩
 refine ⟨_,rfl,hb3,?_⟩
 replace hacc:=(later_moves).trans _ _ _ hacc (hb3)
 simp only [Act.put,zLa,zLb,zLc]
 replace k1:=k1.below hb3 k1.lt
 replace hb0:=Za hb0 hb3
 have hs4:=Nat.le_trans hs3 hb3.size
 repeat (first | (refine Zf (later_moves) rfl rfl (fun _ _ _ h=>h) ?_;simp only [Act.put,zLa,zLb,zLc]) | (refine Ze (v:=?_) (later_moves) rfl rfl (fun _ _ _ h=>h) ?_ ?_;rotate_left;(· (intro w' hR;(first | have hcells:=Zb ((later_moves).trans _ _ _ hacc hR) | skip);go_simp;try with_reducible rfl));simp only [Act.put,zLa,zLb,zLc]))
 refine Zk (later_moves) rfl rfl rfl (fun _=>by go_simp <;> rfl) ((H2.out _).mono ?_)
 rintro e w4 ⟨g2,rfl,hg2,k2,hb4⟩
 refine ⟨_,rfl,hb4,?_⟩
 replace hacc:=(later_moves).trans _ _ _ hacc (hb4)
 simp only [Act.put,zLa,zLb,zLc]
 replace k1:=k1.below hb4 k1.lt
 replace hb0:=Za hb0 hb4
 repeat (first | (refine Zf (later_moves) rfl rfl (fun _ _ _ h=>h) ?_;simp only [Act.put,zLa,zLb,zLc]) | (refine Ze (v:=?_) (later_moves) rfl rfl (fun _ _ _ h=>h) ?_ ?_;rotate_left;(· (intro w' hR;(first | have hcells:=Zb ((later_moves).trans _ _ _ hacc hR) | skip);go_simp;try with_reducible rfl));simp only [Act.put,zLa,zLb,zLc]))
 refine Zt ?_
 go_wp2
 go_ret2
 exact ⟨g1,g2,rfl,k1,k2,by omega,by omega,hb0⟩
end Go.Proofs.YtakjnmojigechaaGreat
namespace Go.Proofs.YtakjnmojigechaaGreat
theorem zH2 {p a b:Nat} (h:okP p=true) (hab:a<b) (hb:b-a<p-1):¬Cg p (((ZJ p).1:Int)^a) (((ZJ p).1:Int)^b):=fun hc=>by
 have hp:=Zr h
 refine zBu h (k:=b-a) (by omega) hb ?_
 have hv:Cg p (((ZJ p).1:Int)*((ZJ p).1:Int)^(p-2)) 1:=by
  have:=J6 h
  rw [show p-1=(p-2)+1 by omega,Int.pow_succ,Int.mul_comm] at this
  exact this
 have h1:Cg p (((ZJ p).1:Int)^a*(((ZJ p).1:Int)^(p-2))^a) 1:=by
  rw [←Int.mul_pow]
  exact (hv.pow a).trans (Cg.of_eq Int.one_pow)
 have h2:Cg p (((ZJ p).1:Int)^b*(((ZJ p).1:Int)^(p-2))^a) (((ZJ p).1:Int)^(b-a)):=by
  rw [show ((ZJ p).1:Int)^b=((ZJ p).1:Int)^(b-a)*((ZJ p).1:Int)^a by rw [←Int.pow_add];congr 1;omega,Int.mul_assoc]
  exact (Cg.rfl'.mul h1).trans (Cg.of_eq (Int.mul_one _))
 exact h2.symm.trans ((hc.symm.mul Cg.rfl').trans h1)
theorem jA {p:Nat} (hp:0<p) (l:List Nat) (x:Nat):Vm p x l=ZT p l x:=Cg.eq (p:=p) ((xU l).trans (JH l).symm) (zI8 hp x l) (XP hp l x)
end Go.Proofs.YtakjnmojigechaaGreat
namespace Go.Proofs.YtakjnmojigechaaGreat
theorem jT {p n a b:Nat} (h:okP p=true) (hn:XS p n) (hab:a<b) (hb:b<n):¬Cg p ((Yz p n:Int)^a) ((Yz p n:Int)^b):=fun hc=>by
 have hp:=Zr h
 have hd:=Nat.div_mul_cancel (Nat.dvd_of_mod_eq_zero hn.dvd)
 obtain ⟨m,hm⟩:∃ m,m=(p-1) / n:=⟨_,rfl⟩
 have he:∀ k,Cg p ((Yz p n:Int)^k) (((ZJ p).1:Int)^(m*k)):=fun k=>by
  rw [Int.pow_mul,hm]
  refine Cg.pow ?_ k
  unfold Yz
  exact (Cg.mod _).trans (Cg.of_eq (Int.natCast_pow _ _))
 rw [←hm] at hd
 have hm1:0<m:=by
  rcases Nat.eq_zero_or_pos m with e | e
  ·rw [e,Nat.zero_mul] at hd;omega
  ·exact e
 refine zH2 h (a:=m*a) (b:=m*b) (Nat.mul_lt_mul_of_pos_left hab hm1) ?_ ((he a).symm.trans (hc.trans (he b)))
 have h1:m*(b-a)<m*n:=Nat.mul_lt_mul_of_pos_left (by omega) hm1
 rw [Nat.mul_sub] at h1
 omega
theorem zKe {p n:Nat} (h:okP p=true) (hn:XS p n):∀ i j,i<n→j<n→i≠j→¬Cg p ((Yz p n:Int)^i) ((Yz p n:Int)^j):=fun i j hi hj hne hc=>by
 rcases Nat.lt_or_gt_of_ne hne with h1 | h1
 ·exact jT h hn h1 hj hc
 ·exact jT h hn h1 hi hc.symm
theorem zEs {p N J:Nat} (h:okP p=true) (hN:XS p N) (hJ:N=2^J) (a b:List Nat) (ha:1≤a.length) (hab:a.length+b.length≤N+1) (k:Nat) (hk:k<N):Cg p (jb p N J a b k:Int) (cfI (Vs p a b) k):=by
 have hp:=Zr h
 refine zCj (n:=N) h (a:=fun k=>(jb p N J a b k:Int)) (b:=cfI (Vs p a b)) (xs:=fun k=>(Yz p N:Int)^k) (zKe h hN) (fun q hq=>?_) k hk
 unfold jb
 refine (xo (q:=q) _ h hN hJ hq).trans ?_
 rw [Yp,if_pos hq,zAu h hN hJ a hq,zAu h hN hJ b hq]
 have hl:=Uc p a b
 rw [Kh _ _ (by omega)]
 refine (Cg.mod _).trans ((Cg.of_eq (Int.natCast_mul _ _)).trans ?_)
 refine ((Xr a).mul (Xr b)).trans ?_
 refine (zAt a b _).symm.trans ?_
 unfold evL
 exact Vv (fun _=>Cg.rfl') KE _
theorem zE9 {p N J:Nat} (hp:0<p) (a b:List Nat) (k:Nat):jb p N J a b k<p:=Nat.mod_lt _ hp
end Go.Proofs.YtakjnmojigechaaGreat
namespace Go.Proofs.YtakjnmojigechaaGreat
def zFf (s pu x:Nat) (t:Int × Nat):Int:=if t.1-1-(pu:Int)=(s:Int) then (x:Int)*(t.2:Int) else 0
theorem zIt {p:Nat} (hp:1<p) (pu x:Nat) (f:Nat→Nat) (t:Int × Nat) (s:Nat):Cg p (JT p pu x f t s:Int) ((f s:Int)-zFf s pu x t):=by
 unfold JT zFf
 by_cases h:0≤t.1-1-(pu:Int)
 ·rw [if_pos h]
  by_cases e:t.1-1-(pu:Int)=(s:Int)
  ·rw [if_pos e,e,Int.toNat_natCast]
   unfold VB
   rw [if_pos rfl]
   refine (Cg.mod _).trans ((Cg.of_eq (Int.natCast_add _ _)).trans ?_)
   refine (Cg.rfl'.add ((UV p _ (by omega)).trans ?_)).trans (Cg.of_eq (Int.sub_eq_add_neg).symm)
   exact Cg.neg ((Cg.mod _).trans (Cg.of_eq (Int.natCast_mul _ _)))
  ·rw [if_neg e]
   unfold VB
   rw [if_neg (by omega)]
   exact Cg.of_eq (by omega)
 ·rw [if_neg h,if_neg (by omega)]
  exact Cg.of_eq (by omega)
theorem yu {p:Nat} {a b t u:Int} (h:Cg p a (b-t)):Cg p (a-u) (b-(t+u)):=by
 obtain ⟨c,hc⟩:=h
 exact ⟨c,by omega⟩
theorem zB1 {p:Nat} {a t u:Int} (h:Cg p a (-t)):Cg p (a-u) (-(t+u)):=by
 obtain ⟨c,hc⟩:=h
 exact ⟨c,by omega⟩
theorem km {p:Nat} (hp:1<p) (pu x:Nat) (f:Nat→Nat) (ts:List (Int × Nat)) (s:Nat):∀ n,Cg p (Kq p pu x f ts n s:Int) ((f s:Int)-ZY (fun t=>zFf s pu x (ts.getD t (0,0))) n)
 | 0=>Cg.of_eq (by rw [ZY];show (f s:Int)=_;omega)
 | n+1=>by
  rw [ZY]
  refine (zIt hp pu x _ _ s).trans ?_
  exact yu (km hp pu x f ts s n)
def zAz (p pu n rho:Nat) (rows:List Ya) (s j i:Nat):Int:=ZY (fun t=>zFf s pu (rho^(j*n+i)%p) ((YA (rows.getD i ⟨[],[],[]⟩) j).getD t (0,0))) (YA (rows.getD i ⟨[],[],[]⟩) j).length
theorem zEq {p:Nat} (hp:1<p) (pu n rho:Nat) (rows:List Ya) (i:Nat) (f:Nat→Nat) (s:Nat):∀ j,Cg p (jk p pu n rho (rows.getD i ⟨[],[],[]⟩) i f j s:Int) ((f s:Int)-ZY (fun j=>zAz p pu n rho rows s j i) j)
 | 0=>Cg.of_eq (by rw [ZY];show (f s:Int)=_;omega)
 | j+1=>by
  rw [ZY]
  refine (km hp pu _ _ _ s _).trans ?_
  exact yu (zEq hp pu n rho rows i f s j)
theorem zEi {p:Nat} (hp:1<p) (pu n rho:Nat) (rows:List Ya) (s:Nat):∀ i,Cg p (zDh p pu n rho rows i s:Int) (-(ZY (fun i=>ZY (fun j=>zAz p pu n rho rows s j i) 3) i))
 | 0=>Cg.of_eq rfl
 | i+1=>by
  rw [ZY]
  refine (zEq hp pu n rho rows i _ s 3).trans ?_
  exact zB1 (zEi hp pu n rho rows s i)
theorem zFd {p:Nat} (hp:1<p) (pu n rho:Nat) (rows:List Ya) (k:Nat) (f:Nat→Nat) (s:Nat):∀ i,Cg p (docI p pu n rho rows k f i s:Int) ((f s:Int)-ZY (fun i=>zAz p pu n rho rows s k i) i)
 | 0=>Cg.of_eq (by rw [ZY];show (f s:Int)=_;omega)
 | i+1=>by
  rw [ZY]
  refine (km hp pu _ _ _ s _).trans ?_
  exact yu (zFd hp pu n rho rows k f s i)
theorem zEr {p:Nat} (hp:1<p) (pu n rho:Nat) (rows:List Ya) (s:Nat):∀ k,Cg p (zDy p pu n rho rows k s:Int) (-(ZY (fun k=>ZY (fun i=>zAz p pu n rho rows s k i) n) k))
 | 0=>Cg.of_eq rfl
 | k+1=>by
  rw [ZY]
  refine (zFd hp pu n rho rows k _ s n).trans ?_
  exact zB1 (zEr hp pu n rho rows s k)
theorem zKn {p:Nat} (hp:1<p) (pu n rho:Nat) (rows:List Ya) (s:Nat):∀ i,zDh p pu n rho rows i s<p:=by
 have hT:∀ (x:Nat) (f:Nat→Nat) ts t,(∀ k,f k<p)→∀ k,Kq p pu x f ts t k<p:=fun x f ts t hf=>by
  induction t with
  | zero=>exact hf
  | succ t ih =>
   intro k
   show JT p pu x (Kq p pu x f ts t) _ k<_
   unfold JT
   split
   ·unfold VB
    split
    ·exact Nat.mod_lt _ (by omega)
    ·exact ih k
   ·exact ih k
 have hS:∀ r i (f:Nat→Nat),(∀ k,f k<p)→∀ j k,jk p pu n rho r i f j k<p:=fun r i f hf j=>by
  induction j with
  | zero=>exact hf
  | succ j ih=>exact hT _ _ _ _ ih
 have hR:∀ i k,zDh p pu n rho rows i k<p:=fun i=>by
  induction i with
  | zero=>intro k;show 0<p;omega
  | succ i ih=>exact hS _ _ _ ih 3
 exact fun i=>hR i s
theorem zJq {p:Nat} (hp:1<p) (pu n rho:Nat) (rows:List Ya) (s:Nat):∀ k,zDy p pu n rho rows k s<p:=by
 have hT:∀ (x:Nat) (f:Nat→Nat) ts t,(∀ k,f k<p)→∀ k,Kq p pu x f ts t k<p:=fun x f ts t hf=>by
  induction t with
  | zero=>exact hf
  | succ t ih =>
   intro k
   show JT p pu x (Kq p pu x f ts t) _ k<_
   unfold JT
   split
   ·unfold VB
    split
    ·exact Nat.mod_lt _ (by omega)
    ·exact ih k
   ·exact ih k
 have hI:∀ k (f:Nat→Nat),(∀ s,f s<p)→∀ i s,docI p pu n rho rows k f i s<p:=fun k f hf i=>by
  induction i with
  | zero=>exact hf
  | succ i ih=>exact hT _ _ _ _ ih
 have hK:∀ k s,zDy p pu n rho rows k s<p:=fun k=>by
  induction k with
  | zero=>intro s;show 0<p;omega
  | succ k ih=>exact hI _ _ ih n
 exact fun k=>hK k s
theorem zG6 {p:Nat} (hp:1<p) (pu rho:Nat) (rows:List Ya) (n s:Nat):zDh p pu n rho rows n s=zDy p pu n rho rows 3 s:=by
 refine Cg.eq (p:=p) ((zEi hp pu n rho rows s n).trans (Cg.trans (Cg.of_eq ?_) (zEr hp pu n rho rows s 3).symm)) (zKn hp _ _ _ _ _ _) (zJq hp _ _ _ _ _ _)
 rw [Uo (fun i j=>zAz p pu n rho rows s j i) 3 n]
theorem ju {L:ZO} (hp:1<L.p) (pu rho:Nat) (rows:List Ya):Kl L pu rho rows=Z9 L pu rho rows:=by
 unfold Kl Z9
 rw [List.map_congr_left fun s _=>zG6 hp pu rho rows rows.length s]
end Go.Proofs.YtakjnmojigechaaGreat
namespace Go.Proofs.YtakjnmojigechaaGreat
theorem GD {p:Nat} {n:Int} {l:List (Int × Nat)} (h:V8 p n l=true):∀ t∈l,0≤t.1∧t.1<n:=fun t ht=>by
 obtain ⟨i,hi,rfl⟩:=List.getElem_of_mem ht
 unfold V8 at h
 have h1:=List.all_eq_true.1 h i (List.mem_range.2 hi)
 have e:l.getD i (0,0)=l[i]:=by rw [List.getD_eq_getElem?_getD,List.getElem?_eq_getElem hi];rfl
 unfold UP at h1
 rw [e] at h1
 simp only [Bool.not_eq_true',Bool.or_eq_false_iff,decide_eq_false_iff_not] at h1
 omega
theorem jD {p:Nat} {pub vars:Int} {rows:List Ya} (h:YC p pub vars rows=true):VE vars rows:=fun r hr k hk t ht=>by
 unfold YC at h
 rw [Bool.and_eq_true] at h
 have h1:=List.all_eq_true.1 h.2 r hr
 unfold Un at h1
 rw [Bool.and_eq_true,Bool.and_eq_true] at h1
 unfold YA at ht
 rcases (show k=0∨k=1∨k=2 by omega) with e | e | e <;> subst e
 ·exact GD h1.1.1 t ht
 ·exact GD h1.1.2 t ht
 ·exact GD h1.2 t ht
theorem zGj {L:ZO} {p pu:Nat} {vars bl bw qs:Int} {rows:List Ya} (h:YC p (pu:Int) vars rows=true) (hF:J8 L ⟨p,(pu:Int),vars,rows.length,bl,bw,qs⟩):Xm L pu vars rows:=by
 simp only [YC,Bool.and_eq_true,Bool.not_eq_true',decide_eq_false_iff_not] at h
 have h1:L.rows=rows.length:=by rw [hF.eq];rfl
 have h2:L.secret=(vars-1-(pu:Int)).toNat:=by rw [hF.eq];rfl
 have h3:=hF.vars
 simp only at h3
 exact ⟨h1,by omega,by omega⟩
end Go.Proofs.YtakjnmojigechaaGreat
namespace Go.Proofs.YtakjnmojigechaaGreat
open Go.RowKit
def zBb (p:Nat) (a b:List (List Nat)):Nat→Nat
 | 0=>0
 | k+1=>(zBb p a b k+KF p (a.getD k []) (b.getD k []) (a.getD k []).length)%p
theorem zAa (p s:Nat) (r:List Nat) (m:Nat) (hp:0<p):Va (Yb p s r m) m p=true:=by
 unfold Va Yb
 rw [Bool.and_eq_true]
 refine ⟨by simp,List.all_eq_true.2 fun x hx=>?_⟩
 obtain ⟨k,-,rfl⟩:=List.mem_map.1 hx
 exact decide_eq_true (Nat.mod_lt _ hp)
theorem VR (L:ZO) (s:Nat) (hp:0<L.p):Uy L (Yo L s (L.a+L.b+L.b+L.b)) (Yb L.p s [1] L.k) (Yb L.p s [2] (L.k+L.block-2)) (Yb L.p s [3] (L.block+2*L.queries-1)) (Yb Xq s [4] L.n)=true:=by
 unfold Uy
 simp only [zAa _ _ _ _ hp,zAa Xq _ _ _ (show 0<Xq by decide)]
 have:(Yo L s (L.a+L.b+L.b+L.b)).all (fun l=>Va l L.queries L.p)=true:=List.all_eq_true.2 fun l hl=>by
  obtain ⟨k,-,rfl⟩:=List.mem_map.1 hl
  exact zAa _ _ _ _ hp
 simp [Yo] at this ⊢
 exact this
theorem xf {w:World} {b:Nat} {t:TypeId} (k:Blk w b t #[.int .i64 1, .int .u64 1]):RLin w [.slice (some ⟨b,0,none⟩) 1 1] [(1,1)]:=by
 refine ⟨_,1,1,rfl,rfl,Nat.le_refl _,by simp [maxLen],fun i hi=>⟨_,[.int .i64 1, .int .u64 1],rfl,rfl,fun j hj=>?_,?_⟩⟩
 ·obtain rfl:i=0:=by simpa using hi
  rw [Y2,show 0+(0*2+j)=j by omega,k.cell]
  simp
 ·obtain rfl:i=0:=by simpa using hi
  exact ⟨rfl,by simp,by simp⟩
def Gw:Ya:=⟨[(1,1)],[(1,1)],[(1,1)]⟩
theorem zG9 {w:World} {b1 b2 b3 b4:Nat} {t u:TypeId} (k1:Blk w b1 t #[.int .i64 1, .int .u64 1]) (k2:Blk w b2 t #[.int .i64 1, .int .u64 1]) (k3:Blk w b3 t #[.int .i64 1, .int .u64 1]) (k4:Blk w b4 u #[.slice (some ⟨b1,0,none⟩) 1 1, .slice (some ⟨b2,0,none⟩) 1 1, .slice (some ⟨b3,0,none⟩) 1 1]) :
  RSl 3 Xb w [.slice (some ⟨b4,0,none⟩) 1 1] [Gw]:=by
 refine ⟨_,1,1,rfl,rfl,Nat.le_refl _,by simp [maxLen],fun i hi=>⟨_,[.slice (some ⟨b1,0,none⟩) 1 1, .slice (some ⟨b2,0,none⟩) 1 1, .slice (some ⟨b3,0,none⟩) 1 1],rfl,rfl,fun j hj=>?_,?_⟩⟩
 ·obtain rfl:i=0:=by simpa using hi
  rw [Y2,show 0+(0*3+j)=j by omega,k4.cell]
  simp
 ·obtain rfl:i=0:=by simpa using hi
  exact ⟨_,_,_,rfl,xf k1,xf k2,xf k3⟩
def Uk:ZO:=⟨97,2,1,3,8,1,1,1,1⟩
theorem zHu:Gz ⟨97,0,2,1,2,1,1⟩=Uk:=by kernel_rfl
theorem zHs:Uu ⟨97,0,2,1,2,1,1⟩=0:=by decide +kernel
theorem zFg:YC 97 0 2 [Gw]=true:=by decide +kernel
theorem zAr:ZU Uk:=⟨by decide,by decide,by decide,by decide,by decide,by decide,⟨3,rfl⟩,by decide,by decide,by decide,by decide,by decide,by decide,by decide,by decide,by decide,by decide,by decide,by decide⟩
theorem zKf:Zz Uk=#[.int .u64 97, .int .i64 2, .int .i64 1, .int .i64 3, .int .i64 8, .int .i64 1, .int .i64 1, .int .i64 1, .int .i64 1, .int .i64 1, .int .i64 1]:=rfl
theorem zGo {e:Ending} (h:Uh ⟨97,0,2,1,2,1,1⟩ e):e= .returned (.tuple #[.agg (Zz Uk), .int .i64 0])∧ZU Uk:=by
 obtain ⟨lcs,er,rfl,h | h⟩:=h
 ·exact absurd (h.2.2.trans zHs) h.1
 ·obtain ⟨rfl,L,h1,h2,rfl⟩:=h
  have:=h2.eq.trans zHu
  subst this
  exact ⟨rfl,h1⟩
set_option maxRecDepth 100000 in
set_option maxHeartbeats 2000000 in
theorem xK (L:ZO) (s:Nat) (w:World) (hL:ZU L) (hs:s<18446744073709551616) :
  Calls Tryz.prog 39 #[.agg (Zz L), .int .u64 s] w fun e w'=>∃ v0 v1 v2 v3 v4 n cs,e= .returned (.agg #[v0,v1,v2,v3,v4])∧w'.ownsRow w.heap.size 28 1 v0 n cs∧Xs w.heap.size w' v0 cs (Yo L s (L.a+L.b+L.b+L.b))∧w'.ownsRow w.heap.size 22 1 v1 L.k (U64 (Yb L.p s [1] L.k))∧w'.ownsRow w.heap.size 22 1 v2 (L.k+L.block-2) (U64 (Yb L.p s [2] (L.k+L.block-2)))∧w'.ownsRow w.heap.size 22 1 v3 (L.block+2*L.queries-1) (U64 (Yb L.p s [3] (L.block+2*L.queries-1)))∧w'.ownsRow w.heap.size 22 1 v4 L.n (U64 (Yb Xq s [4] L.n))∧Below w.heap.size w w':=by
 have hpp:=Zr hL.p
 have HT:=Lib.hid (fun w=>GE L.p L.block L.queries L.k L.n L.secret L.rows L.a L.b L.b L.b w hL.a hL.b hL.b hL.b)
 have HS:=Lib.hid (fun r m g w kg hr hlen hm=>zBt L.p s r m g w (by omega) hpp.2 kg hr hlen hm)
 have HS4:=Lib.hid (fun r m g w kg hr hlen hm=>zBt Xq s r m g w (by decide) (by decide) kg hr hlen hm)
 have hT4:L.a+L.b+L.b+L.b≤400000:=by have:=hL.a;have:=hL.b;omega
 have hq2:=hL.q2
 generalize L.a+L.b+L.b+L.b=T at *
 obtain ⟨x,hx⟩:∃ x,x=s%Xq:=⟨_,rfl⟩
 have e1:(s:Int)%18446744069414584321=(x:Int):=by rw [hx];unfold Xq;omega
 have e2:(s:Int).tmod 18446744069414584321=(x:Int):=by rw [Int.tmod_eq_emod_of_nonneg (by omega)];exact e1
 rw [←hx] at HS HS4
 clear hx
 unfold Zz at *
 go_enter Tryz.func39,Tryz.ntmps39
 go_upto_region 3 with fail
 obtain ⟨kl,kz,kc,hb0,hsz⟩:=XH w 39 42 42 #[.int .u64 (L.p:Int), .int .i64 (L.block:Int), .int .i64 (L.queries:Int), .int .i64 (L.k:Int), .int .i64 (L.n:Int), .int .i64 (L.secret:Int), .int .i64 (L.rows:Int), .int .i64 (L.a:Int), .int .i64 (L.b:Int), .int .i64 (L.b:Int), .int .i64 (L.b:Int)] #[.slice none 0 0, .slice none 0 0, .slice none 0 0, .slice none 0 0, .slice none 0 0] #[.slice none 0 0, .slice none 0 0, .slice none 0 0, .slice none 0 0, .slice none 0 0]
 generalize ((w.alloc _).alloc _).alloc _=w3 at kl kz kc hb0 hsz ⊢
 obtain ⟨N,hN⟩:∃ N,N=w3.heap.size:=⟨_,rfl⟩
 rw [←hN] at hsz
 have hNw:N≤w3.heap.size:=by omega
 have hN2:w.heap.size+2<N:=by omega
 clear hN hsz
 go_wp2_with fail
 go_loopw [7] (fun y wr=>∃ (i:Nat) (v:Value) (cs:List Value),i≤T∧y= .int .i64 (i:Int)∧Blk wr w.heap.size 39 #[.int .u64 (L.p:Int), .int .i64 (L.block:Int), .int .i64 (L.queries:Int), .int .i64 (L.k:Int), .int .i64 (L.n:Int), .int .i64 (L.secret:Int), .int .i64 (L.rows:Int), .int .i64 (L.a:Int), .int .i64 (L.b:Int), .int .i64 (L.b:Int), .int .i64 (L.b:Int)]∧Blk wr (w.heap.size+1) 42 #[.slice none 0 0, .slice none 0 0, .slice none 0 0, .slice none 0 0, .slice none 0 0]∧Blk wr (w.heap.size+1+1) 42 #[v, .slice none 0 0, .slice none 0 0, .slice none 0 0, .slice none 0 0]∧wr.ownsRow N 28 1 v i cs∧Xs N wr v cs (Yo L s i)∧Below w.heap.size w wr∧N≤wr.heap.size) (fun y _=>T-(intOf y).toNat)
 case atStart=>exact ⟨0, .slice none 0 0,[],Nat.zero_le _,rfl,kl,kz,kc,⟨rfl, .inl ⟨rfl,rfl⟩⟩,Uw _ _ _,hb0,hNw⟩
 case round =>
  clear kl kz kc hb0 hNw
  obtain ⟨i,v,cs,hi,rfl,kl,kz,kc,hown,hgr,hb0,hNw⟩:=hrel
  have cl:=kl.cell
  have ll:=kl.lt
  by_cases hlt:i<T
  ·have g1:(0:Int)≤(i:Int):=by omega
   have g2:(i:Int)<(T:Int):=by omega
   have ew:IntKind.u64.wrap (i:Int)=(i:Int):=by rw [IntKind.wrap_u64];omega
   have HR:=Lib.hid (zDq L s i)
   go_wp2_with fail
   refine (HT.out _).mono ?_
   rintro e w4 ⟨rfl,hb4⟩
   replace kl:=kl.below hb4 kl.lt
   replace kz:=kz.below hb4 kz.lt
   replace kc:=kc.below hb4 kc.lt
   replace hown:=Zh hown hb4 (Nat.le_refl _)
   replace hgr:=ZL hgr hb4
   have hN4:N≤w4.heap.size:=by have:=hb4.size;omega
   replace hb0:=Za hb0 hb4
   clear cl ll hb4 hNw
   have cl:=kl.cell
   have cc:=kc.cell
   have x1:w.heap.size<N:=by omega
   have x2:w.heap.size+1+1<N:=by omega
   have x3:w.heap.size≠N:=by omega
   have x4:w.heap.size+1+1≠N:=by omega
   go_upto_region 6 with fail
   refine XL (Kn N N) [9,10,11,12,14] [14] [0,1,2,3,4,5,6,7,8,9,10,11,12,13,14] (by kernel_rfl) (by kernel_rfl) ?_
   refine Xo (Zj N N) ?_
   intro Wc HWc hacc
   have hbW:Below w4.heap.size w4 Wc:=by rw [HWc.out];exact (Below.refl _ _).drew
   replace kl:=kl.below hbW kl.lt
   replace kz:=kz.below hbW kz.lt
   replace kc:=kc.below hbW kc.lt
   replace hown:=Zh hown hbW (Nat.le_refl _)
   replace hgr:=ZL hgr hbW
   have hNc:N≤Wc.heap.size:=by have:=hbW.size;omega
   replace hb0:=Za hb0 hbW
   clear HWc hbW
   repeat (first | (refine ZM (Zj N N) rfl rfl rfl (fun _ _ _ h=>h) ?_;simp only [Act.put,zLa,zLb,zLc]) | (refine ZE (v:=?_) (Zj N N) rfl rfl rfl (fun _ _ _ h=>h) ?_ ?_;rotate_left;(· (intro w' hR;(first | have hcells:=Yh ((Zj N N).trans _ _ _ hacc (hR rfl)) | skip);clear hR;go_simp;try with_reducible rfl));simp only [Act.put,zLa,zLb,zLc]))
   refine YQ (Zj N N) rfl rfl rfl ?_
   go_simp
   refine ⟨fun _=>Yk ((Below.refl _ _).alloc (Nat.le_refl _) _) hNc,?_⟩
   have hal:=(Below.refl Wc.heap.size Wc).alloc (Nat.le_refl _) (.cells #[.int .u64 (x:Int), .int .u64 0, .int .u64 (i:Int)] 22)
   have kA:=Blk.new Wc 22 #[.int .u64 (x:Int), .int .u64 0, .int .u64 (i:Int)]
   replace kl:=kl.below hal kl.lt
   replace kz:=kz.below hal kz.lt
   replace kc:=kc.below hal kc.lt
   replace hown:=Zh hown hal (Nat.le_refl _)
   replace hgr:=ZL hgr hal
   have hN6:N≤(Wc.alloc (.cells #[.int .u64 (x:Int), .int .u64 0, .int .u64 (i:Int)] 22)).heap.size:=by have:=hal.size;omega
   replace hb0:=Za hb0 hal
   try simp only [Act.put,zLa,zLb,zLc]
   generalize Wc.alloc _=w6 at kl kz kc hown hgr hb0 kA hN6 ⊢
   generalize Wc.heap.size=gA at kA ⊢
   clear hal hNc hacc cl cc
   have hacc:=(Zj N N).refl w6
   have kA':Blk w6 gA 22 (U64 (x :: [0,i])).toArray:=by simpa [U64] using kA
   have HC:=Lib.hid (HS.out [0,i] L.queries gA w6 kA' (by intro y hy;simp at hy;omega) (by simp) (by omega))
   clear kA kA'
   refine Yn (Zj N N) rfl rfl rfl (fun _=>by go_simp <;> rfl) ((HC.out).mono ?_)
   rintro e w7 ⟨va,rfl,hva,hb7⟩
   refine ⟨_,rfl,fun _=>Yk hb7 hN6,?_⟩
   replace hacc:=(Zj N N).trans _ _ _ hacc (Yk hb7 hN6)
   simp only [Act.put,zLa,zLb,zLc]
   obtain ⟨Av,cv,rfl,-⟩:=Zo hva
   have hvx:=hva
   replace kl:=kl.below hb7 kl.lt
   replace kz:=kz.below hb7 kz.lt
   replace kc:=kc.below hb7 kc.lt
   have hlv:∀ q,v.ownBlock=some q→q<w6.heap.size:=fun q e=>(hown.lt q e).2
   replace hown:=Zh hown hb7 (Nat.le_refl _)
   replace hgr:=ZL hgr hb7
   have hx7:=rwx_own (N:=N) (gb:=v.ownBlock) hvx (UB _ _ _ _ (by omega) hpp.2) hN6 hlv
   have hN7:N≤w7.heap.size:=by have:=hb7.size;omega
   replace hb0:=Za hb0 hb7
   clear hva hvx hlv hb7 hN6 hacc HC
   have hacc:=(Zj N N).refl w7
   refine YQ (Zj N N) rfl rfl rfl ?_
   go_simp
   refine ⟨fun _=>Yk ((Below.refl _ _).alloc (Nat.le_refl _) _) hN7,?_⟩
   have hal:=(Below.refl w7.heap.size w7).alloc (Nat.le_refl _) (.cells #[.slice Av L.queries cv] 28)
   have hrd:=Xu w7 (.slice Av L.queries cv) 28
   replace kl:=kl.below hal kl.lt
   replace kz:=kz.below hal kz.lt
   replace kc:=kc.below hal kc.lt
   replace hown:=Zh hown hal (Nat.le_refl _)
   replace hgr:=ZL hgr hal
   replace hx7:=YP hx7 hal.size (fun b _ h2 _=>hal.block b h2)
   have hN8:N≤(w7.alloc (.cells #[.slice Av L.queries cv] 28)).heap.size:=by have:=hal.size;omega
   replace hb0:=Za hb0 hal
   try simp only [Act.put,zLa,zLb,zLc]
   generalize w7.alloc _=w8 at kl kz kc hown hgr hx7 hb0 hrd hN8 ⊢
   generalize w7.heap.size=g7 at hrd ⊢
   clear hal hN7 hacc
   have hacc:=(Zj N N).refl w8
   have cc:=kc.cell
   repeat (first | (refine ZM (Zj N N) rfl rfl rfl (fun _ _ _ h=>h) ?_;simp only [Act.put,zLa,zLb,zLc]) | (refine ZE (v:=?_) (Zj N N) rfl rfl rfl (fun _ _ _ h=>h) ?_ ?_;rotate_left;(· (intro w' hR;(first | have hcells:=Yh ((Zj N N).trans _ _ _ hacc (hR rfl)) | skip);clear hR;go_simp;try with_reducible rfl));simp only [Act.put,zLa,zLb,zLc]))
   refine YQ (Zj N N) rfl rfl rfl ?_
   refine Xa _ _ rfl UF rfl hown rfl hrd (by intro u hu;simp at hu;subst hu;rfl) (by omega) hN8 ?_
   intro v' wn hown' hgrow hblk
   have hvb:∀ q,v.ownBlock=some q→N≤q:=fun q e=>(hown.lt q e).1
   refine ⟨fun _=>U6 hgrow hN8 hvb,?_⟩
   have hgn:=VT hgr hx7 hgrow hblk
   rw [HR.out] at hgn
   replace kl:=kl.grown hgrow (fun e=>by first | (have:=hvb _ e;omega) | (have:=hvb _ e.symm;omega))
   replace kz:=kz.grown hgrow (fun e=>by first | (have:=hvb _ e;omega) | (have:=hvb _ e.symm;omega))
   replace kc:=kc.grown hgrow (fun e=>by first | (have:=hvb _ e;omega) | (have:=hvb _ e.symm;omega))
   replace hb0:=hb0.trans ((Yd hown hgrow hN8).mono (by omega))
   have hNn:N≤wn.heap.size:=by have:=hgrow.size;omega
   obtain ⟨Aw,cw,rfl,-⟩:=Zo hown'
   clear hown hgr hx7 hgrow hblk hvb hN8 hrd cc hacc
   have hacc:=(Zj N N).refl wn
   have cc:=kc.cell
   have fc:=kc.frozen
   try simp only [Act.put,zLa,zLb,zLc]
   repeat (first | (refine ZM (Zj N N) rfl rfl rfl (fun _ _ _ h=>h) ?_;simp only [Act.put,zLa,zLb,zLc]) | (refine ZE (v:=?_) (Zj N N) rfl rfl rfl (fun _ _ _ h=>h) ?_ ?_;rotate_left;(· (intro w' hR;(first | have hcells:=Yh ((Zj N N).trans _ _ _ hacc (hR rfl)) | skip);clear hR;go_simp;try with_reducible rfl));simp only [Act.put,zLa,zLb,zLc]))
   refine YQ (Zj N N) rfl rfl rfl ?_
   go_simp
   refine ⟨fun h=>Bool.noConfusion h,?_⟩
   have hsg:wn.grownBy (wn.setCell ⟨w.heap.size+1+1,0,none⟩ (.slice Aw (i+1) cw)) (some (w.heap.size+1+1)):=ZC (p:=⟨w.heap.size+1+1,0,none⟩) (Zv wn _) (.inl rfl) _
   replace kc:=kc.set_ 0 (.slice Aw (i+1) cw)
   simp at kc
   replace kl:=kl.grown hsg (fun e=>by have:=Option.some.inj e;omega)
   replace kz:=kz.grown hsg (fun e=>by have:=Option.some.inj e;omega)
   have hown2:=ZP hown' hsg (by omega)
   replace hgn:=XZ hgn hsg (by omega)
   replace hb0:=hb0.trans (Zg hsg hb0.size (by omega))
   have hNz:=Nat.le_trans hNn hsg.size
   clear hown' hsg cc fc hNn hacc
   generalize wn.setCell _ _=wz at kl kz kc hown2 hgn hb0 hNz ⊢
   have hacc:=(Zj N N).refl wz
   repeat (first | (refine ZM (Zj N N) rfl rfl rfl (fun _ _ _ h=>h) ?_;simp only [Act.put,zLa,zLb,zLc]) | (refine ZE (v:=?_) (Zj N N) rfl rfl rfl (fun _ _ _ h=>h) ?_ ?_;rotate_left;(· (intro w' hR;(first | have hcells:=Yh ((Zj N N).trans _ _ _ hacc (hR rfl)) | skip);clear hR;go_simp;try with_reducible rfl));simp only [Act.put,zLa,zLb,zLc]))
   refine Vt ?_
   go_wp2
   go_roundw
   case rel=>exact ⟨i+1, .slice Aw (i+1) cw,_,by omega,by go_num,kl,kz,kc,hown2,hgn,hb0,hNz⟩
   case measure=>simp [intOf];omega
  ·obtain rfl:i=T:=by omega
   clear ll
   have ll:=kl.lt
   have g2:¬((i:Int)<(i:Int)):=by omega
   go_wp2_with fail
   refine (HT.out _).mono ?_
   rintro e w4 ⟨rfl,hb4⟩
   replace kl:=kl.below hb4 kl.lt
   replace kz:=kz.below hb4 kz.lt
   replace kc:=kc.below hb4 kc.lt
   replace hown:=Zh hown hb4 (Nat.le_refl _)
   replace hgr:=ZL hgr hb4
   replace hb0:=Za hb0 hb4
   replace hNw:=Nat.le_trans hNw hb4.size
   clear cl ll hb4
   have q1:=hL.b1
   have q2:=hL.b2
   have q3:=hL.q1
   have q5:=hL.k
   have q6:=hL.n2
   have w1:IntKind.i64.wrap ((L.k:Int)+(L.block:Int))=(L.k:Int)+(L.block:Int):=ZD _ (by omega) (by omega)
   obtain ⟨m2,hm2⟩:∃ m2,m2=L.k+L.block-2:=⟨_,rfl⟩
   obtain ⟨m3,hm3⟩:∃ m3,m3=L.block+2*L.queries-1:=⟨_,rfl⟩
   have w2:IntKind.i64.wrap ((L.k:Int)+(L.block:Int)-2)=(m2:Int):=by rw [ZD _ (by omega) (by omega)];omega
   have w5:IntKind.i64.wrap (2*(L.queries:Int))=2*(L.queries:Int):=ZD _ (by omega) (by omega)
   have w6:IntKind.i64.wrap ((L.block:Int)+2*(L.queries:Int))=(L.block:Int)+2*(L.queries:Int):=ZD _ (by omega) (by omega)
   have w7:IntKind.i64.wrap ((L.block:Int)+2*(L.queries:Int)-1)=(m3:Int):=by rw [ZD _ (by omega) (by omega)];omega
   have u1:L.k≤65536:=by omega
   have u2:m2≤65536:=by omega
   have u3:m3≤65536:=by omega
   have u4:L.n≤65536:=by omega
   have HM2:=Lib.hid hm2
   have HM3:=Lib.hid hm3
   clear hm2 hm3 q1 q2 q3 q5 q6 hlt hi
   have cl:=kl.cell
   go_wp2_with fail
   have hal:=(Below.refl w4.heap.size w4).alloc (Nat.le_refl _) (.cells #[.int .u64 (x:Int), .int .u64 1] 22)
   have kA:=Blk.new w4 22 #[.int .u64 (x:Int), .int .u64 1]
   replace kl:=kl.below hal kl.lt
   replace kz:=kz.below hal kz.lt
   replace kc:=kc.below hal kc.lt
   replace hgr:=ZL hgr hal
   replace hown:=Zh hown hal (Nat.le_refl _)
   replace hb0:=Za hb0 hal
   replace hNw:=Nat.le_trans hNw hal.size
   clear cl hal
   generalize w4.alloc _=a1 at kl kz kc hgr hown  hb0 hNw kA ⊢
   generalize w4.heap.size=gA1 at kA ⊢
   have HC:=Lib.hid (HS.out [1] L.k gA1 a1 (by simpa [U64] using kA) (by intro y hy;simp at hy;omega) (by simp) u1)
   clear kA
   skip
   refine HC.out.mono ?_
   rintro e b1 ⟨v1,rfl,hv,hb⟩
   have o1:=ZQ hv hNw
   replace kl:=kl.below hb kl.lt
   replace kz:=kz.below hb kz.lt
   replace kc:=kc.below hb kc.lt
   replace hgr:=ZL hgr hb
   replace hown:=Zh hown hb (Nat.le_refl _)
   replace hb0:=Za hb0 hb
   replace hNw:=Nat.le_trans hNw hb.size
   clear hv hb HC
   obtain ⟨A1,c1,rfl,-⟩:=Zo o1
   have cc:=kc.cell
   have fc:=kc.frozen
   go_upto_region 8 with fail
   have hsg:b1.grownBy (b1.setCell ⟨w.heap.size+1+1,1,none⟩ (.slice A1 L.k c1)) (some (w.heap.size+1+1)):=ZC (p:=⟨w.heap.size+1+1,1,none⟩) (Zv b1 _) (.inl rfl) _
   replace kc:=kc.set_ 1 (.slice A1 L.k c1)
   simp at kc
   replace kl:=kl.grown hsg (fun e=>by have:=Option.some.inj e;omega)
   replace kz:=kz.grown hsg (fun e=>by have:=Option.some.inj e;omega)
   replace hgr:=XZ hgr hsg (by omega)
   replace hown:=ZP hown hsg (by omega)
   replace o1:=ZP o1 hsg (by omega)
   replace hb0:=hb0.trans (Zg hsg hb0.size (by omega))
   replace hNw:=Nat.le_trans hNw hsg.size
   clear hsg cc fc
   generalize b1.setCell _ _=d1 at kl kz kc hgr hown o1 hb0 hNw ⊢
   have cl:=kl.cell
   go_wp2_with fail
   have hal:=(Below.refl d1.heap.size d1).alloc (Nat.le_refl _) (.cells #[.int .u64 (x:Int), .int .u64 2] 22)
   have kA:=Blk.new d1 22 #[.int .u64 (x:Int), .int .u64 2]
   replace kl:=kl.below hal kl.lt
   replace kz:=kz.below hal kz.lt
   replace kc:=kc.below hal kc.lt
   replace hgr:=ZL hgr hal
   replace hown:=Zh hown hal (Nat.le_refl _)
   replace o1:=Zh o1 hal (Nat.le_refl _)
   replace hb0:=Za hb0 hal
   replace hNw:=Nat.le_trans hNw hal.size
   clear cl hal
   generalize d1.alloc _=a2 at kl kz kc hgr hown o1 hb0 hNw kA ⊢
   generalize d1.heap.size=gA2 at kA ⊢
   have HC:=Lib.hid (HS.out [2] m2 gA2 a2 (by simpa [U64] using kA) (by intro y hy;simp at hy;omega) (by simp) u2)
   clear kA
   skip
   refine HC.out.mono ?_
   rintro e b2 ⟨v2,rfl,hv,hb⟩
   have o2:=ZQ hv hNw
   replace kl:=kl.below hb kl.lt
   replace kz:=kz.below hb kz.lt
   replace kc:=kc.below hb kc.lt
   replace hgr:=ZL hgr hb
   replace hown:=Zh hown hb (Nat.le_refl _)
   replace o1:=Zh o1 hb (Nat.le_refl _)
   replace hb0:=Za hb0 hb
   replace hNw:=Nat.le_trans hNw hb.size
   clear hv hb HC
   obtain ⟨A2,c2,rfl,-⟩:=Zo o2
   have cc:=kc.cell
   have fc:=kc.frozen
   go_upto_region 9 with fail
   have hsg:b2.grownBy (b2.setCell ⟨w.heap.size+1+1,2,none⟩ (.slice A2 m2 c2)) (some (w.heap.size+1+1)):=ZC (p:=⟨w.heap.size+1+1,2,none⟩) (Zv b2 _) (.inl rfl) _
   replace kc:=kc.set_ 2 (.slice A2 m2 c2)
   simp at kc
   replace kl:=kl.grown hsg (fun e=>by have:=Option.some.inj e;omega)
   replace kz:=kz.grown hsg (fun e=>by have:=Option.some.inj e;omega)
   replace hgr:=XZ hgr hsg (by omega)
   replace hown:=ZP hown hsg (by omega)
   replace o1:=ZP o1 hsg (by omega)
   replace o2:=ZP o2 hsg (by omega)
   replace hb0:=hb0.trans (Zg hsg hb0.size (by omega))
   replace hNw:=Nat.le_trans hNw hsg.size
   clear hsg cc fc
   generalize b2.setCell _ _=d2 at kl kz kc hgr hown o1 o2 hb0 hNw ⊢
   have cl:=kl.cell
   go_wp2_with fail
   have hal:=(Below.refl d2.heap.size d2).alloc (Nat.le_refl _) (.cells #[.int .u64 (x:Int), .int .u64 3] 22)
   have kA:=Blk.new d2 22 #[.int .u64 (x:Int), .int .u64 3]
   replace kl:=kl.below hal kl.lt
   replace kz:=kz.below hal kz.lt
   replace kc:=kc.below hal kc.lt
   replace hgr:=ZL hgr hal
   replace hown:=Zh hown hal (Nat.le_refl _)
   replace o1:=Zh o1 hal (Nat.le_refl _)
   replace o2:=Zh o2 hal (Nat.le_refl _)
   replace hb0:=Za hb0 hal
   replace hNw:=Nat.le_trans hNw hal.size
   clear cl hal
   generalize d2.alloc _=a3 at kl kz kc hgr hown o1 o2 hb0 hNw kA ⊢
   generalize d2.heap.size=gA3 at kA ⊢
   have HC:=Lib.hid (HS.out [3] m3 gA3 a3 (by simpa [U64] using kA) (by intro y hy;simp at hy;omega) (by simp) u3)
   clear kA
   skip
   refine HC.out.mono ?_
   rintro e b3 ⟨v3,rfl,hv,hb⟩
   have o3:=ZQ hv hNw
   replace kl:=kl.below hb kl.lt
   replace kz:=kz.below hb kz.lt
   replace kc:=kc.below hb kc.lt
   replace hgr:=ZL hgr hb
   replace hown:=Zh hown hb (Nat.le_refl _)
   replace o1:=Zh o1 hb (Nat.le_refl _)
   replace o2:=Zh o2 hb (Nat.le_refl _)
   replace hb0:=Za hb0 hb
   replace hNw:=Nat.le_trans hNw hb.size
   clear hv hb HC
   obtain ⟨A3,c3,rfl,-⟩:=Zo o3
   have cc:=kc.cell
   have fc:=kc.frozen
   go_upto_region 10 with fail
   have hsg:b3.grownBy (b3.setCell ⟨w.heap.size+1+1,3,none⟩ (.slice A3 m3 c3)) (some (w.heap.size+1+1)):=ZC (p:=⟨w.heap.size+1+1,3,none⟩) (Zv b3 _) (.inl rfl) _
   replace kc:=kc.set_ 3 (.slice A3 m3 c3)
   simp at kc
   replace kl:=kl.grown hsg (fun e=>by have:=Option.some.inj e;omega)
   replace kz:=kz.grown hsg (fun e=>by have:=Option.some.inj e;omega)
   replace hgr:=XZ hgr hsg (by omega)
   replace hown:=ZP hown hsg (by omega)
   replace o1:=ZP o1 hsg (by omega)
   replace o2:=ZP o2 hsg (by omega)
   replace o3:=ZP o3 hsg (by omega)
   replace hb0:=hb0.trans (Zg hsg hb0.size (by omega))
   replace hNw:=Nat.le_trans hNw hsg.size
   clear hsg cc fc
   generalize b3.setCell _ _=d3 at kl kz kc hgr hown o1 o2 o3 hb0 hNw ⊢
   have cl:=kl.cell
   go_wp2_with fail
   have hal:=(Below.refl d3.heap.size d3).alloc (Nat.le_refl _) (.cells #[.int .u64 (x:Int), .int .u64 4] 22)
   have kA:=Blk.new d3 22 #[.int .u64 (x:Int), .int .u64 4]
   replace kl:=kl.below hal kl.lt
   replace kz:=kz.below hal kz.lt
   replace kc:=kc.below hal kc.lt
   replace hgr:=ZL hgr hal
   replace hown:=Zh hown hal (Nat.le_refl _)
   replace o1:=Zh o1 hal (Nat.le_refl _)
   replace o2:=Zh o2 hal (Nat.le_refl _)
   replace o3:=Zh o3 hal (Nat.le_refl _)
   replace hb0:=Za hb0 hal
   replace hNw:=Nat.le_trans hNw hal.size
   clear cl hal
   generalize d3.alloc _=a4 at kl kz kc hgr hown o1 o2 o3 hb0 hNw kA ⊢
   generalize d3.heap.size=gA4 at kA ⊢
   have HC:=Lib.hid (HS4.out [4] L.n gA4 a4 (by simpa [U64] using kA) (by intro y hy;simp at hy;omega) (by simp) u4)
   clear kA
   unfold Xq at HC
   refine HC.out.mono ?_
   rintro e b4 ⟨v4,rfl,hv,hb⟩
   have o4:=ZQ hv hNw
   replace kl:=kl.below hb kl.lt
   replace kz:=kz.below hb kz.lt
   replace kc:=kc.below hb kc.lt
   replace hgr:=ZL hgr hb
   replace hown:=Zh hown hb (Nat.le_refl _)
   replace o1:=Zh o1 hb (Nat.le_refl _)
   replace o2:=Zh o2 hb (Nat.le_refl _)
   replace o3:=Zh o3 hb (Nat.le_refl _)
   replace hb0:=Za hb0 hb
   replace hNw:=Nat.le_trans hNw hb.size
   clear hv hb HC
   obtain ⟨A4,c4,rfl,-⟩:=Zo o4
   have cc:=kc.cell
   have fc:=kc.frozen
   go_upto_region 11 with fail
   have hsg:b4.grownBy (b4.setCell ⟨w.heap.size+1+1,4,none⟩ (.slice A4 L.n c4)) (some (w.heap.size+1+1)):=ZC (p:=⟨w.heap.size+1+1,4,none⟩) (Zv b4 _) (.inl rfl) _
   replace kc:=kc.set_ 4 (.slice A4 L.n c4)
   simp at kc
   replace kl:=kl.grown hsg (fun e=>by have:=Option.some.inj e;omega)
   replace kz:=kz.grown hsg (fun e=>by have:=Option.some.inj e;omega)
   replace hgr:=XZ hgr hsg (by omega)
   replace hown:=ZP hown hsg (by omega)
   replace o1:=ZP o1 hsg (by omega)
   replace o2:=ZP o2 hsg (by omega)
   replace o3:=ZP o3 hsg (by omega)
   replace o4:=ZP o4 hsg (by omega)
   replace hb0:=hb0.trans (Zg hsg hb0.size (by omega))
   replace hNw:=Nat.le_trans hNw hsg.size
   clear hsg cc fc
   generalize b4.setCell _ _=d4 at kl kz kc hgr hown o1 o2 o3 o4 hb0 hNw ⊢
   obtain ⟨Av,cv,rfl,-⟩:=Zo hown
   have cc:=kc.cell
   have fc:=kc.frozen
   have zc:=kz.cell
   have zf:=kz.frozen
   go_wp2_with fail
   have hsg:=Vh (w:=d4) (g:=w.heap.size+1) (.slice Av i cv) (.slice A1 L.k c1) (.slice A2 m2 c2) (.slice A3 m3 c3) (.slice A4 L.n c4)
   replace kz:=UJ kz (.slice Av i cv) (.slice A1 L.k c1) (.slice A2 m2 c2) (.slice A3 m3 c3) (.slice A4 L.n c4)
   replace hgr:=XZ hgr hsg (by omega)
   replace hown:=ZP hown hsg (by omega)
   replace o1:=ZP o1 hsg (by omega)
   replace o2:=ZP o2 hsg (by omega)
   replace o3:=ZP o3 hsg (by omega)
   replace o4:=ZP o4 hsg (by omega)
   replace hb0:=hb0.trans (Zg hsg hb0.size (by omega))
   clear kl kc cc fc zc zf hsg hNw
   generalize ((((d4.setCell _ _).setCell _ _).setCell _ _).setCell _ _).setCell _ _=d5 at kz hgr hown o1 o2 o3 o4 hb0 ⊢
   have zc:=kz.cell
   refine bodyPost_ret (v:=.agg #[.slice Av i cv, .slice A1 L.k c1, .slice A2 m2 c2, .slice A3 m3 c3, .slice A4 L.n c4]) (by simp [results,Tryz.results39,go_sem,zc]) rfl ?_
   obtain rfl:=HM2.out
   obtain rfl:=HM3.out
   have hp0:0<L.p:=by omega
   exact ⟨_,_,_,_,_,_,_,rfl,ZQ hown (by omega),GB hgr (by omega),ZQ o1 (by omega),ZQ o2 (by omega),ZQ o3 (by omega),ZQ o4 (by omega),hb0⟩
theorem Us (L:ZO) (s n:Nat):(Yo L s n).length=n:=by simp [Yo]
theorem Up {L:ZO} {s n i:Nat} (h:i<(Yo L s n).length):((Yo L s n)[i]).length=L.queries:=by simp [Yo,Yb]
end Go.Proofs.YtakjnmojigechaaGreat
