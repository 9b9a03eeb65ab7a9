/- A part of the proof. No condition. -/
import Derived.Test.YtjipleoamlmkfaaGreatProg
import Derived.Test.YtjipleoamlmkfaaGreatPF14
import Derived.Test.YtjipleoamlmkfaaGreatPF16
import Derived.Test.YtjipleoamlmkfaaGreatPF12
import Derived.Test.YtjipleoamlmkfaaGreatPF19
import Derived.Deep.AppendLies
import Derived.Laws.OwnMore
import Derived.Test.YtjipleoamlmkfaaGreatPF15

set_option maxRecDepth 100000
set_option maxHeartbeats 8000000
set_option linter.unusedVariables false
set_option linter.unusedSimpArgs false
namespace Go.Proofs.YtjipleoamlmkfaaGreat
def Ky:List Nat -> List Nat
 | []=>[]
 | x :: l=>if Ky l=[] /\ x=0 then [] else x :: Ky l
theorem zA7:∀ l:List Nat,Ky (l++[0])=Ky l
 | []=>rfl
 | x :: l=>by
  rw [List.cons_append,Ky,zA7 l]
  rfl
theorem zA6 {y:Nat} (hy:y≠0):∀ l:List Nat,Ky (l++[y])=l++[y]
 | []=>by simp [Ky,hy]
 | x :: l=>by
  rw [List.cons_append,Ky,zA6 hy l];simp
theorem zA5:∀ l:List Nat,(Ky l).length <= l.length
 | []=>zR
 | x :: l=>by
  rw [Ky];split
  ·exact Nat.zero_le _
  ·have:=zA5 l
   simpa using this
theorem o8:∀ (l:List Nat) (i:Nat),(Ky l).getD i 0=l.getD i 0
 | [],_=>rfl
 | x :: l,i=>by
  rw [Ky];split
  ·rename_i h
   cases i with
   | zero=>simp [h.2]
   | succ i =>
    have:=o8 l i;rw [h.1] at this
    simpa using this
  ·cases i with
   | zero=>rfl
   | succ i=>simpa using o8 l i
theorem zDC {l:List Nat} {x:Nat}:x∈Ky l -> x∈l:=by
 induction l with
 | nil=>exact id
 | cons y l ih =>
  rw [Ky];split
  ·intro h;cases h
  ·intro h
   rcases List.mem_cons.1 h with h | h
   ·exact List.mem_cons.2 (.inl h)
   ·exact List.mem_cons.2 (.inr (ih h))
def KV (p:Nat) (l:List Nat):List Nat:=Ky (l.map (·%p))
def FW (p:Nat) (a b:List Nat) (i:Nat):Nat:=(a.getD i 0+b.getD i 0)%p
def XB (p:Nat) (a b:List Nat):List Nat:=KV p ((List.range (max a.length b.length)).map (FW p a b))
def uy (p:Nat) (a:List Nat) (n:Nat):List Nat:=KV p (a.map fun x=>x*n%p)
def GU (a:List Nat) (n:Nat):List Nat:=List.replicate n 0++a
def Lt (p:Nat) (a b:List Nat):Nat -> List Nat
 | 0=>[]
 | k+1=>XB p (Lt p a b k) (GU (uy p b (a.getD k 0)) k)
def Ou (p:Nat) (a b:List Nat):List Nat:=Lt p a b a.length
def evS (p:Nat) (a:List Nat) (f:Nat -> Nat):Nat -> Nat
 | 0=>0
 | k+1=>(evS p a f k+a.getD k 0*f k%p)%p
def Pw (p x:Nat):Nat -> Nat
 | 0=>1
 | k+1=>Pw p x k*x%p
def oh (p:Nat) (a:List Nat) (x:Nat):Nat:=evS p a (Pw p x) a.length
def FV (a:List Nat) (n:Nat):List Nat:=a++List.replicate (n-a.length) 0
theorem zAb (p:Nat) (l:List Nat) (i:Nat):(l.map (·%p)).getD i 0=l.getD i 0%p:=by
 rw [List.getD_eq_getElem?_getD,List.getD_eq_getElem?_getD,List.getElem?_map];cases l[i]? <;> simp
theorem zA3 (p:Nat) (l:List Nat) (i:Nat):(KV p l).getD i 0=l.getD i 0%p:=by
 rw [KV,o8,zAb]
theorem zDB {p:Nat} (hp:0<p) {l:List Nat} {x:Nat} (h:x∈KV p l):x<p:=by
 obtain ⟨y,-,rfl⟩:=List.mem_map.1 (zDC h);exact Nat.mod_lt _ hp
theorem zA4 (p:Nat) (l:List Nat):(KV p l).length <= l.length:=by
 have:=zA5 (l.map (·%p))
 simpa [KV] using this
theorem fF (f:Nat -> Nat) (n i:Nat):((List.range n).map f).getD i 0=if i<n then f i else 0:=by
 rw [List.getD_eq_getElem?_getD,List.getElem?_map];split
 ·rename_i h
  rw [List.getElem?_range h]
  rfl
 ·rename_i h
  rw [List.getElem?_eq_none (by simpa using h)]
  rfl
theorem OX {l:List Nat} {i:Nat} (h:l.length <= i):l.getD i 0=0:=by
 rw [List.getD_eq_getElem?_getD,List.getElem?_eq_none h]
 rfl
theorem vU (p:Nat) (a b:List Nat) (i:Nat):(XB p a b).getD i 0=(a.getD i 0+b.getD i 0)%p:=by
 rw [XB,zA3,fF];split
 ·rw [FW,Nat.mod_mod]
 ·rename_i h
  rw [OX (l:=a) (by omega),OX (l:=b) (by omega)]
theorem lV (p:Nat) (a b:List Nat):(XB p a b).length <= max a.length b.length:=by
 have:=zA4 p ((List.range (max a.length b.length)).map (FW p a b))
 simpa [XB] using this
theorem zAa (f:Nat -> Nat) (h:f 0=0) (l:List Nat) (i:Nat):(l.map f).getD i 0=f (l.getD i 0):=by
 rw [List.getD_eq_getElem?_getD,List.getD_eq_getElem?_getD,List.getElem?_map];cases l[i]? <;> simp [h]
theorem aZ (p:Nat) (a:List Nat) (n i:Nat):(uy p a n).getD i 0=a.getD i 0*n%p:=by
 rw [uy,zA3,zAa (fun x=>x*n%p) (by simp),Nat.mod_mod]
theorem qW (p:Nat) (a:List Nat) (n:Nat):(uy p a n).length <= a.length:=by
 have:=zA4 p (a.map fun x=>x*n%p)
 simpa [uy] using this
theorem W0 (a:List Nat) (n i:Nat):(GU a n).getD i 0=if i<n then 0 else a.getD (i-n) 0:=by
 rw [GU,List.getD_eq_getElem?_getD];split
 ·rename_i h
  rw [List.getElem?_append_left (by simpa using h)]
  simp [h]
 ·rename_i h
  rw [List.getElem?_append_right (by simpa using h),List.getD_eq_getElem?_getD,List.length_replicate]
theorem W7 (a:List Nat) (n:Nat):(GU a n).length=n+a.length:=by simp [GU]
theorem G7 (p:Nat) (a b:List Nat):∀ k,(Lt p a b (k+1)).length <= k+b.length
 | 0=>by
  have h1:=lV p (Lt p a b 0) (GU (uy p b (a.getD 0 0)) 0);have h3:=qW p b (a.getD 0 0);rw [W7] at h1;have h0:(Lt p a b 0).length=0:=rfl;rw [h0] at h1;rw [Lt];omega
 | k+1=>by
  have h1:=lV p (Lt p a b (k+1)) (GU (uy p b (a.getD (k+1) 0)) (k+1));have h2:=G7 p a b k;have h3:=qW p b (a.getD (k+1) 0);rw [W7] at h1;rw [Lt];omega
theorem TY (p:Nat) (a b:List Nat):(Ou p a b).length <= a.length-1+b.length:=by
 rw [Ou];cases h:a.length with
 | zero=>exact Nat.zero_le _
 | succ k=>exact G7 p a b k
theorem zCp {p:Nat} (a b:List Nat) (k i:Nat) (h:a.getD k 0=0):(Lt p a b (k+1)).getD i 0=(Lt p a b k).getD i 0%p:=by
 rw [Lt,vU,W0,aZ,h];split <;> simp
theorem zCq {p:Nat} (hp:0<p) (a b:List Nat) (k i:Nat):(Lt p a b k).getD i 0<p:=by
 cases k with
 | zero=>simpa [Lt] using hp
 | succ k=>rw [Lt,vU];exact Nat.mod_lt _ hp
theorem tZ (a:List Nat) (n i:Nat):(FV a n).getD i 0=a.getD i 0:=by
 rw [FV,List.getD_eq_getElem?_getD,List.getD_eq_getElem?_getD];by_cases h:i<a.length
 ·rw [List.getElem?_append_left h]
 ·rw [List.getElem?_append_right (by omega),List.getElem?_eq_none (l:=a) (by omega),List.getElem?_replicate]
  split <;> rfl
theorem uZ (a:List Nat) (n:Nat):(FV a n).length=max n a.length:=by
 simp [FV]
 omega
theorem DE {a b:List Nat} (hl:a.length=b.length) (h:∀ i,i<a.length -> a.getD i 0=b.getD i 0):a=b:=by
 apply List.ext_getElem hl
 intro i h1 h2;have:=h i h1;rw [List.getD_eq_getElem?_getD,List.getD_eq_getElem?_getD,List.getElem?_eq_getElem h1,List.getElem?_eq_getElem h2] at this;exact this
end Go.Proofs.YtjipleoamlmkfaaGreat
namespace Go.Proofs.YtjipleoamlmkfaaGreat
open Go.RowKit
theorem zAD (p a:Nat) (w:World) (hp:Db p=true) :
  Calls Tryz.prog 228 #[.int .u64 p, .int .u64 a] w fun e w'=>e= .returned (.int .u64 ((a%p:Nat):Int)) /\ Below w.heap.size w w':=by
 obtain ⟨Pd,Lb⟩:=nc hp;have HO:=zH (fun w=>by have:=Tk p w Lb;rw [hp] at this;exact this)
 have p1:(0:Int)<(p:Int):=by omega
 have p3:¬(p=0):=by omega
 have e1:(a:Int)%(p:Int)=((a%p:Nat):Int):=rfl;have e2:(a:Int).tmod (p:Int)=((a%p:Nat):Int):=rfl;clear hp Pd Lb;generalize a%p=r at *;go_enter Tryz.func228,Tryz.ntmps228
 go_wp2_with fail
 refine (HO.out _).mono ?_;rintro e w1 ⟨rfl,aa⟩;go_wp2;go_ret
 exact ⟨rfl,aa⟩
theorem zAB (p a:Nat) (w:World) (hp:Db p=true) :
  Calls Tryz.prog 206 #[.int .u64 p, .int .u64 a] w fun e w'=>e= .returned (.int .u64 (xg p a:Int)) /\ Below w.heap.size w w':=by
 obtain ⟨Pd,Lb⟩:=nc hp;have HA:=zH (fun w=>zAD p a w hp)
 have hx:a%p<p:=Nat.mod_lt _ (by omega)
 have HN:=zH (show xg p a=if a%p=0 then 0 else p-a%p from rfl)
 clear hp;generalize xg p a=r at *;generalize a%p=x at *;by_cases h0:x=0
 ·have HR:=zH (show r=0 by rw [HN.out,if_pos h0])
  subst h0;go_enter Tryz.func206,Tryz.ntmps206
  go_wp2_with fail
  refine (HA.out _).mono ?_;rintro e' w1 ⟨rfl,ya⟩;go_wp2;go_ret
  exact ⟨by rw [HR.out];rfl,ya⟩
 ·have HR:=zH (show r=p-x by rw [HN.out,if_neg h0])
  have d1:((x:Int) == 0)=false:=by rw [beq_eq_false_iff_ne];omega
  have e1:IntKind.u64.wrap ((p:Int)-(x:Int))=((p-x:Nat):Int):=Yn p x (by omega) Lb
  rw [HR.out];clear hx Pd Lb h0 HR HN;generalize p-x=z at *;go_enter Tryz.func206,Tryz.ntmps206
  go_wp2_with fail
  refine (HA.out _).mono ?_;rintro e' w1 ⟨rfl,ya⟩;go_wp2;go_ret
  exact ⟨rfl,ya⟩
theorem zAH (p a b:Nat) (w:World) (hp:Db p=true) :
  Calls Tryz.prog 151 #[.int .u64 p, .int .u64 a, .int .u64 b] w fun e w'=>e= .returned (.int .u64 (((a+xg p b)%p:Nat):Int)) /\ Below w.heap.size w w':=by
 have HN:=zH (fun w=>zAB p b w hp)
 have HS:=zH (fun w=>Yx p a (xg p b) w hp)
 clear hp;generalize (a+xg p b)%p=r at *;generalize xg p b=x at *;go_enter Tryz.func151,Tryz.ntmps151
 go_wp2_with fail
 refine (HN.out _).mono ?_;rintro e' w1 ⟨rfl,ya⟩;go_wp2_with fail
 refine (HS.out _).mono ?_;rintro e' w2 ⟨rfl,xa⟩;go_wp2;go_ret
 exact ⟨rfl,Om ya xa ya.size⟩
theorem zAz (p a:Nat) (w:World) (hp:Db p=true) :
  Calls Tryz.prog 222 #[.int .u64 p, .int .u64 a] w fun e w'=>e= .returned (.int .u64 ((a^(p-2)%p:Nat):Int)) /\ Below w.heap.size w w':=by
 obtain ⟨Pd,Lb⟩:=nc hp;have HO:=zH (fun w=>by have:=Tk p w Lb;rw [hp] at this;exact this)
 have HS:=zH (fun w=>xR p a (p-2) w hp (by omega))
 have e1:IntKind.u64.wrap ((p:Int)-2)=((p-2:Nat):Int):=Yn p 2 (by omega) Lb
 clear hp Pd Lb;generalize a^(p-2)%p=r at *;generalize p-2=m at *;go_enter Tryz.func222,Tryz.ntmps222
 go_wp2_with fail
 refine (HO.out _).mono ?_;rintro e w1 ⟨rfl,ya⟩;go_wp2_with fail
 refine (HS.out _).mono ?_;rintro e' w2 ⟨rfl,xa⟩;go_wp2;go_ret
 exact ⟨rfl,Om ya xa ya.size⟩
theorem zAF (p n:Nat) (w:World) (hp:Db p=true) (hn:Ss p n) :
  Calls Tryz.prog 202 #[.int .u64 p, .int .i64 n] w fun e w'=>e= .returned (.tuple #[.int .u64 (Wr p n:Int), .bool true]) /\ Below w.heap.size w w':=by
 obtain ⟨h1,h2,⟨j,hj⟩,h4⟩:=hn;obtain ⟨Pd,Lb⟩:=nc hp;have HV:=zH (fun w=>by have:=Tk p w Lb;rw [hp] at this;exact this)
 have HG:=zH (fun w=>zAy p w hp)
 obtain ⟨pm,jj⟩:=zEX (p-1);obtain ⟨m,hm⟩:=zEX (pm / n);have HP:=zH (fun w=>xR p (Yc p).1 m w hp (by rw [hm];exact Nat.lt_of_le_of_lt (Nat.div_le_self _ _) (by omega)))
 have hR:Wr p n=(Yc p).1^m%p:=by unfold Wr;rw [hm,jj]
 rw [hR];have ep:IntKind.u64.wrap ((p:Int)-1)=(pm:Int):=by rw [jj];exact Yn p 1 (by omega) Lb
 have en:IntKind.u64.wrap (n:Int)=(n:Int):=pg _ (by omega)
 have em:IntKind.u64.wrap (m:Int)=(m:Int):=pg _ (by rw [hm];exact Nat.lt_of_le_of_lt (Nat.div_le_self _ _) (by omega))
 have r1:(pm:Int)%(n:Int)=0:=by rw [jj];omega
 have r2:(pm:Int).tmod (n:Int)=0:=by rw [Int.tmod_eq_emod_of_nonneg (by omega)];exact r1
 have r3:(pm:Int) / (n:Int)=(m:Int):=by rw [hm];rfl
 have r4:(pm:Int).tdiv (n:Int)=(m:Int):=by rw [hm];rfl
 have n0:¬((n:Int)=0):=by omega
 have n5:¬(n=0):=by omega
 have n1:(1:Int) <= (n:Int):=by omega
 have n2:((n:Int) == 0)=false:=by rw [beq_eq_false_iff_ne];exact n0
 have n4:(n:Int) <= 4096:=by omega
 have HJ:=zH hj;clear hR hm Pd Lb h1 h2 hj h4 hp jj;generalize (Yc p).1=gn at *;generalize gn^m%p=r at *;go_enter Tryz.func202,Tryz.ntmps202
 go_wp2_with fail
 refine (HV.out _).mono ?_;rintro e' w1 ⟨rfl,ya⟩;go_wp2_with fail
 go_loopw [6] (fun x wr=>∃ i k:Nat,x= .int .i64 k /\ Hid (k=2^i) /\ 1 <= k /\ k <= 4096 /\ Below w.heap.size w wr) (fun x _=>(intOf x).toNat)
 case atStart=>exact ⟨j,n,rfl,HJ,by omega,by omega,ya⟩
 case round =>
  clear ya;obtain ⟨i,k,rfl,HK,Lg,mn,hb⟩:=hrel;by_cases hi:k=1
  ·subst hi
   go_upto_region 8 with fail
   refine xd (Bb) (pa) [] [] [0,1,2,3,4,5,6,7,8,9,10] (by kernel_rfl) (by kernel_rfl) ?_
   refine yd (pa) ?_;intro Wc da;refine Uc ?_;refine Jb (pa) rfl rfl rfl rfl (fun _ _ _ h=>h) (fun _=>by go_simp <;> rfl) (fun w' hR=>HG.out _) ?_
   simp only [Act.put,zLa,zLb,zLc];refine Uc ?_;refine Jb (pa) rfl rfl rfl rfl (fun _ _ _ h=>h) (fun _=>by go_simp <;> rfl) (fun w' hR=>HP.out _) ?_
   simp only [Act.put,zLa,zLb,zLc];refine Uc ?_;refine im rfl ?_;intro wd Rc;replace da:=(pa).trans _ _ _ da Rc;clear Rc;go_wp2
   go_ret2
   exact ⟨rfl,ja hb.drew da⟩
  ·obtain ⟨f,hf⟩:=zEX (k / 2)
   have aW:k%2=0:=by
    have:=HK.out;cases i with
    | zero=>omega
    | succ i=>rw [this,Nat.pow_succ];omega
   have HF:Hid (f=2^(i-1)):=by
    have:=HK.out;cases i with
    | zero=>omega
    | succ i=>exact zH (by rw [hf,this,Nat.pow_succ,Nat.add_sub_cancel];omega)
   have e1:(k:Int) / 2=(f:Int):=by omega
   have e2:(k:Int).tdiv 2=(f:Int):=by rw [Int.tdiv_eq_ediv_of_nonneg (by omega)];exact e1
   have e3:(k:Int)%2=0:=by omega
   have e4:(k:Int).tmod 2=0:=by rw [Int.tmod_eq_emod_of_nonneg (by omega)];exact e3
   have Uv:1 <= f:=by omega
   have Vv:f<k:=by omega
   clear hf aW;go_wp2
   go_roundw
   case rel=>exact ⟨i-1,f,rfl,HF,Uv,by omega,hb⟩
   case measure=>simp [intOf];omega
theorem JR {w:World} {A:Option Addr} {n k:Nat} {l:List Nat} (h:Rd w 1 A n (Ca l)) (hk:k <= n):Rd w 1 A k (Ca (l.take k)):=by
 have hl:(Ca l).length=n*1:=h.1;refine ⟨by rw [Gi] at hl |-;simp;omega,fun h0=>?_⟩
 obtain ⟨ad,e,hc⟩:=h.2 (by omega)
 refine ⟨ad,e,fun j u hj=>hc j u ?_⟩
 have:Ca (l.take k)=(Ca l).take k:=by simp [Ca,List.map_take]
 rw [this,List.getElem?_take] at hj;split at hj
 ·exact hj
 ·cases hj
theorem zDD {L:List Nat} {j:Nat} (hj:j<L.length) (h0:L.getD j 0=0):Ky (L.take (j+1))=Ky (L.take j):=by
 rw [tB L j hj,h0,zA7]
theorem zDE {L:List Nat} {j:Nat} (hj:j<L.length) (h0:L.getD j 0≠0):Ky (L.take (j+1))=L.take (j+1):=by
 rw [tB L j hj,zA6 h0]
theorem zAI (p:Nat) (A:Option Addr) (n c:Nat) (l:List Nat) (w:World) (hp:Db p=true) (hl:RWd w [.slice A n c] l) (hn:n <= 100000) :
  Calls Tryz.prog 195 #[.int .u64 p, .slice A n c] w fun e w'=>∃ v,e= .returned v /\ RWd w' [v] (KV p l) /\ Below w.heap.size w w':=by
 obtain ⟨rfl,h1,h2,oa,za⟩:=zb hl;obtain ⟨Pd,Lb⟩:=nc hp;have HA:=zH (fun a w=>zAD p a w hp)
 have HM:=zH (show ∀ x∈l.map (·%p),x<18446744073709551616 from fun x hx=>by obtain ⟨y,-,rfl⟩:=List.mem_map.1 hx;exact Nat.lt_trans (Nat.mod_lt _ (by omega)) Lb)
 have HT:=zH (show KV p l=Ky (l.map (·%p)) from rfl)
 rw [HT.out];obtain ⟨L,hL⟩:=zEX (l.map (·%p))
 have nR:=zH (show L.length=l.length by rw [hL];simp)
 have HLG:=zH (show ∀ k,L.getD k 0=l.getD k 0%p from fun k=>by rw [hL];exact zAb p l k)
 rw [<- hL] at HM |-;clear hl h1 h2 hp oa Pd Lb hL HT;go_enter Tryz.func195,Tryz.ntmps195
 go_wp2_with fail
 go_loopw [5,6] (fun v i wr=>∃ k:Nat,k <= l.length /\ i= .int .i64 k /\ wr.ownsRow w.heap.size 22 1 v k (Ca (L.take k)) /\ Below w.heap.size w wr) (fun _ i _=>l.length-(intOf i).toNat)
 case atStart=>exact ⟨0,Nat.zero_le _,rfl,⟨rfl, .inl ⟨rfl,rfl⟩⟩,Below.refl _ _⟩
 case round =>
  obtain ⟨k,hk,rfl,ma,hb⟩:=hrel;by_cases oa:k<l.length
  ·obtain ⟨b,q,rfl,Za,hc⟩:=Ye (za.below hb) oa
   have HF:=zH (tB L k (by rw [nR.out];exact oa)).symm
   have HG:=zH (HLG.out k);obtain ⟨x,hx⟩:=zEX (l.getD k 0);obtain ⟨z,hz⟩:=zEX (L.getD k 0);rw [<- hx] at hc HG;rw [<- hz] at HF HG;have Zc:=zH (fun w=>by have:=HA.out x w;rw [<- HG.out] at this;exact this)
   clear hx hz HG;go_wp2_with fail
   refine (Zc.out _).mono ?_;rintro e w2 ⟨rfl,Aa⟩;replace hb:=ja hb Aa;replace ma:=db ma Aa zR;clear Aa;go_wp2_with (at_builtin;refine If rfl _ _ rfl Vi rfl (ma.alloc _) rfl (Uk _ _ _) (yg [z]) (by omega) (by simp;have:=hb.size;omega) ?_)
   intro v' wn Ta Ha Ab;have ia:=(Below.refl w2.heap.size w2).alloc zR (.cells #[.int .u64 z] 22);have hB:=mh (ma.alloc _) Ha (by simp;have:=hb.size;omega)
   replace hb:=(Om hb ia hb.size).trans hB;replace ma:wn.ownsRow w.heap.size 22 1 v' (k+1) (Ca (L.take (k+1))):=Kr (b:=[z]) Ta HF.out;clear Ta Ha Ab ia hB;go_wp2
   go_roundw
   case rel=>exact ⟨k+1,by omega,by go_num,ma,hb⟩
   case measure=>simp [intOf];omega
  ·obtain rfl:k=l.length:=by omega
   rw [List.take_of_length_le (by have:=nR.out;omega)] at ma
   obtain ⟨A1,c1,rfl,Nc,jf,re,-⟩:=Tb ma;clear ma za;have xp:Rd wr 1 A1 L.length (Ca L):=by rw [nR.out];exact re
   clear re hk oa;obtain ⟨w1,yn⟩:=zEX (wr);rw [<- yn] at hb xp;have HW:=zH yn;clear yn;go_wp2_with fail
   go_loopw [5] (fun v wr=>∃ k:Nat,k <= l.length /\ v= .slice A1 k c1 /\ Hid (Ky (L.take k)=Ky L) /\ Below w1.heap.size w1 wr) (fun v _=>match v with | .slice _ n _=>n | _=>0)
   case atStart=>exact ⟨l.length,zR,rfl,zH (by rw [List.take_of_length_le (by have:=nR.out;omega)]),by rw [HW.out];exact Below.refl _ _⟩
   case round =>
    obtain ⟨k,hk,rfl,HZ,ya⟩:=hrel;rcases Nat.eq_zero_or_pos k with h0 | h0
    ·subst h0
     go_wp2;go_ret
     refine ⟨_,rfl,?_,ja hb ya⟩;have hz:Ky L=[]:=by rw [<- HZ.out];rfl
     rw [hz];exact ⟨A1,0,c1,rfl,Nat.zero_le _,jf,⟨rfl,fun h=>absurd h (by omega)⟩,fun x hx=>by cases hx⟩
    ·obtain ⟨j,hj⟩:=zEX (k-1)
     have hjL:j<L.length:=by have:=nR.out;omega
     obtain ⟨b,q,rfl,Za,hc⟩:=Ye (xp.below ya) hjL;obtain ⟨x,hx⟩:=zEX (L.getD j 0);rw [<- hx] at hc;have HX:=zH hx;have HJ:=zH hj;have g1:(0:Int)<(k:Int):=by omega
     have g2:(k:Int)-1=(j:Int):=by omega
     have g3:=zd j;have g4:(j:Int)<(k:Int):=by omega
     have g5:j<k:=by omega
     have g6:j <= c1:=by omega
     have g7:k <= c1:=by omega
     clear hx hj;by_cases TU:x=0
     ·subst TU
      go_wp2
      go_roundw
      case rel=>exact ⟨j,by omega,rfl,zH (by rw [<- HZ.out,show k=j+1 by have:=HJ.out;omega,zDD hjL HX.out.symm]),ya⟩
      case measure=>simp;omega
     ·have d0:((x:Int) == 0)=false:=by rw [beq_eq_false_iff_ne];omega
      go_wp2;go_ret
      refine ⟨_,rfl,?_,ja hb ya⟩;have Lg:k=j+1:=by have:=HJ.out;omega
      have hz:Ky L=L.take k:=by rw [<- HZ.out,Lg,zDE hjL (by rw [<- HX.out];exact TU)]
      rw [hz];exact ⟨_,k,c1,rfl,g7,jf,JR (xp.below ya) (by have:=nR.out;omega),fun y hy=>HM.out y (List.mem_of_mem_take hy)⟩
theorem zAx (A:Option Addr) (n c i:Nat) (l:List Nat) (w:World) (hl:RWd w [.slice A n c] l) :
  Calls Tryz.prog 194 #[.slice A n c, .int .i64 i] w fun e w'=>e= .returned (.int .u64 ((l.getD i 0:Nat):Int)) /\ Below w.heap.size w w':=by
 obtain ⟨rfl,h1,h2,oa,za⟩:=zb hl;clear hl h2 oa;by_cases hi:i<l.length
 ·obtain ⟨b,q,rfl,Za,hc⟩:=Ye za hi
  generalize l.getD i 0=x at *;have g1:(i:Int)<(l.length:Int):=by omega
  have g2:¬((l.length:Int) <= (i:Int)):=by omega
  clear za;go_enter Tryz.func194,Tryz.ntmps194
  go_wp2;go_ret
  exact ⟨rfl,Below.refl _ _⟩
 ·have g2:(l.length:Int) <= (i:Int):=by omega
  have HX:=zH (OX (l:=l) (i:=i) (by omega))
  clear za;rw [HX.out];go_enter Tryz.func194,Tryz.ntmps194
  go_wp2;go_ret
  exact ⟨rfl,Below.refl _ _⟩
theorem zBi {p:Nat} (hp:0<p) (a b:List Nat) (i:Nat):FW p a b i<p:=Nat.mod_lt _ hp
theorem N0 (p:Nat) (A B:Option Addr) (n c m d:Nat) (a b:List Nat) (w:World) (hp:Db p=true) (ha:RWd w [.slice A n c] a) (Qo:RWd w [.slice B m d] b) (hn:n <= 100000) (hm:m <= 100000) :
  Calls Tryz.prog 137 #[.int .u64 p, .slice A n c, .slice B m d] w fun e w'=>∃ v,e= .returned v /\ RWd w' [v] (XB p a b) /\ Below w.heap.size w w':=by
 obtain ⟨rfl,-,-,-,-⟩:=zb ha;obtain ⟨rfl,-,-,-,-⟩:=zb Qo;obtain ⟨Pd,Lb⟩:=nc hp;have HA:=zH (fun i w' (hb:Below w.heap.size w w')=>zAx A a.length c i a w' (ib hb ha))
 have HB:=zH (fun i w' (hb:Below w.heap.size w w')=>zAx B b.length d i b w' (ib hb Qo))
 have HS:=zH (fun x y w=>Yx p x y w hp)
 have HT:=zH (fun A n c l w hl hn=>zAI p A n c l w hp hl hn)
 have HL:=zH (show ∀ N,∀ x∈(List.range N).map (FW p a b),x<18446744073709551616 from fun N x hx=>by obtain ⟨y,-,rfl⟩:=List.mem_map.1 hx;exact Nat.lt_trans (zBi (by omega) a b y) Lb)
 obtain ⟨t,ht⟩:=zEX (max a.length b.length);have HE:=zH (show XB p a b=KV p ((List.range t).map (FW p a b)) by rw [ht];rfl)
 rw [HE.out];have HN:=zH (fun k=>iF (FW p a b) k)
 have HR:=zH (fun k=>show FW p a b k=(a.getD k 0+b.getD k 0)%p from rfl)
 clear ha Qo hp Pd Lb HE;generalize FW p a b=f at *;go_enter Tryz.func137,Tryz.ntmps137
 go_wp2_with fail
 go_loopw [7,8] (fun v i wr=>∃ k:Nat,k <= t /\ i= .int .i64 k /\ wr.ownsRow w.heap.size 22 1 v k (Ca ((List.range k).map f)) /\ Below w.heap.size w wr) (fun _ i _=>t-(intOf i).toNat)
 case atStart=>exact ⟨0,Nat.zero_le _,rfl,⟨rfl, .inl ⟨rfl,rfl⟩⟩,Below.refl _ _⟩
 case round =>
  obtain ⟨k,hk,rfl,ma,hb⟩:=hrel;by_cases oa:k<t
  ·have Zc:=zH (fun w=>HA.out k w)
   have HB1:=zH (fun w=>HB.out k w)
   have Ij:=zH (HR.out k);generalize a.getD k 0=x at *;generalize b.getD k 0=y at *;have oH:=zH (HN.out k);obtain ⟨z,hz⟩:=zEX (f k);have Eg:=zH (fun w=>by have:=HS.out x y w;rw [<- Ij.out,<- hz] at this;exact this)
   rw [<- hz] at oH;clear hz Ij;rcases (show k<a.length \/ (¬k<a.length /\ k<b.length) by omega) with h | ⟨h,h'⟩
   ·have g1:(k:Int)<(a.length:Int):=by omega
    clear ht;go_wp2_with fail
    refine (Zc.out _ hb).mono ?_;rintro e w2 ⟨rfl,Aa⟩;replace hb:=ja hb Aa;replace ma:=db ma Aa zR;clear Aa;go_wp2_with fail
    refine (HB1.out _ hb).mono ?_;rintro e w3 ⟨rfl,Aa⟩;replace hb:=ja hb Aa;replace ma:=db ma Aa zR;clear Aa;go_wp2_with fail
    refine (Eg.out _).mono ?_;rintro e w4 ⟨rfl,Aa⟩;replace hb:=ja hb Aa;replace ma:=db ma Aa zR;clear Aa;go_wp2_with (at_builtin;refine If rfl _ _ rfl Vi rfl (ma.alloc _) rfl (Uk _ _ _) (yg [z]) (by omega) (by simp;have:=hb.size;omega) ?_)
    intro v' wn Ta Ha Ab;have ia:=(Below.refl w4.heap.size w4).alloc zR (.cells #[.int .u64 z] 22);have hB:=mh (ma.alloc _) Ha (by simp;have:=hb.size;omega)
    replace hb:=(Om hb ia hb.size).trans hB;replace ma:wn.ownsRow w.heap.size 22 1 v' (k+1) (Ca ((List.range (k+1)).map f)):=Kr (b:=[z]) Ta oH.out;clear Ta Ha Ab ia hB;go_wp2
    go_roundw
    case rel=>exact ⟨k+1,by omega,by go_num,ma,hb⟩
    case measure=>simp [intOf];omega
   ·have g1:¬((k:Int)<(a.length:Int)):=by omega
    have g2:(k:Int)<(b.length:Int):=by omega
    clear ht;go_wp2_with fail
    refine (Zc.out _ hb).mono ?_;rintro e w2 ⟨rfl,Aa⟩;replace hb:=ja hb Aa;replace ma:=db ma Aa zR;clear Aa;go_wp2_with fail
    refine (HB1.out _ hb).mono ?_;rintro e w3 ⟨rfl,Aa⟩;replace hb:=ja hb Aa;replace ma:=db ma Aa zR;clear Aa;go_wp2_with fail
    refine (Eg.out _).mono ?_;rintro e w4 ⟨rfl,Aa⟩;replace hb:=ja hb Aa;replace ma:=db ma Aa zR;clear Aa;go_wp2_with (at_builtin;refine If rfl _ _ rfl Vi rfl (ma.alloc _) rfl (Uk _ _ _) (yg [z]) (by omega) (by simp;have:=hb.size;omega) ?_)
    intro v' wn Ta Ha Ab;have ia:=(Below.refl w4.heap.size w4).alloc zR (.cells #[.int .u64 z] 22);have hB:=mh (ma.alloc _) Ha (by simp;have:=hb.size;omega)
    replace hb:=(Om hb ia hb.size).trans hB;replace ma:wn.ownsRow w.heap.size 22 1 v' (k+1) (Ca ((List.range (k+1)).map f)):=Kr (b:=[z]) Ta oH.out;clear Ta Ha Ab ia hB;go_wp2
    go_roundw
    case rel=>exact ⟨k+1,by omega,by go_num,ma,hb⟩
    case measure=>simp [intOf];omega
  ·obtain rfl:k=t:=by omega
   have g1:¬((k:Int)<(a.length:Int)):=by omega
   have g2:¬((k:Int)<(b.length:Int)):=by omega
   have mn:k <= 100000:=by omega
   obtain ⟨A1,c1,rfl,Nc,jf,re,-⟩:=Tb ma;have hlw:=Fh ma (HL.out k);clear ht ma re;go_wp2_with fail
   refine (HT.out _ _ _ _ _ hlw mn).mono ?_;rintro e w5 ⟨v,rfl,hv,Aa⟩;go_wp2;go_ret
   exact ⟨_,rfl,hv,ja hb Aa⟩
theorem u5 (p:Nat) (A:Option Addr) (n c s:Nat) (l:List Nat) (w:World) (hp:Db p=true) (hl:RWd w [.slice A n c] l) (hn:n <= 100000) :
  Calls Tryz.prog 196 #[.int .u64 p, .slice A n c, .int .u64 s] w fun e w'=>∃ v,e= .returned v /\ RWd w' [v] (uy p l s) /\ Below w.heap.size w w':=by
 obtain ⟨rfl,h1,h2,oa,za⟩:=zb hl;obtain ⟨Pd,Lb⟩:=nc hp;have HA:=zH (fun a w=>PB p a s w hp)
 have HM:=zH (show ∀ x∈l.map (fun y=>y*s%p),x<18446744073709551616 from fun x hx=>by obtain ⟨y,-,rfl⟩:=List.mem_map.1 hx;exact Nat.lt_trans (Nat.mod_lt _ (by omega)) Lb)
 have HS:=zH (fun A n c l w hl hn=>zAI p A n c l w hp hl hn)
 have HT:=zH (show uy p l s=KV p (l.map (fun y=>y*s%p)) from rfl)
 rw [HT.out];clear hl h1 h2 hp oa Pd Lb;obtain ⟨f,hf⟩:=zEX (fun y=>y*s%p)
 have fG:=zH (fun y=>show f y=y*s%p by rw [hf])
 rw [<- hf] at HM |-;obtain ⟨L,hL⟩:=zEX (l.map f);have nR:=zH (show L.length=l.length by rw [hL];simp)
 have HLG:=zH (show ∀ k,L.getD k 0=l.getD k 0*s%p from fun k=>by rw [hL,<- fG.out];exact zAa f (by rw [fG.out];simp) l k)
 rw [<- hL] at HM |-;clear hf HT hL fG;go_enter Tryz.func196,Tryz.ntmps196
 go_wp2_with fail
 go_loopw [7,8] (fun v i wr=>∃ k:Nat,k <= l.length /\ i= .int .i64 k /\ wr.ownsRow w.heap.size 22 1 v k (Ca (L.take k)) /\ Below w.heap.size w wr) (fun _ i _=>l.length-(intOf i).toNat)
 case atStart=>exact ⟨0,Nat.zero_le _,rfl,⟨rfl, .inl ⟨rfl,rfl⟩⟩,Below.refl _ _⟩
 case round =>
  obtain ⟨k,hk,rfl,ma,hb⟩:=hrel;by_cases oa:k<l.length
  ·obtain ⟨b,q,rfl,Za,hc⟩:=Ye (za.below hb) oa
   have HF:=zH (tB L k (by rw [nR.out];exact oa)).symm
   have HG:=zH (HLG.out k);obtain ⟨x,hx⟩:=zEX (l.getD k 0);obtain ⟨z,hz⟩:=zEX (L.getD k 0);rw [<- hx] at hc HG;rw [<- hz] at HF HG;have Zc:=zH (fun w=>by have:=HA.out x w;rw [<- HG.out] at this;exact this)
   clear hx hz HG;go_wp2_with fail
   refine (Zc.out _).mono ?_;rintro e w2 ⟨rfl,Aa⟩;replace hb:=ja hb Aa;replace ma:=db ma Aa zR;clear Aa;go_wp2_with (at_builtin;refine If rfl _ _ rfl Vi rfl (ma.alloc _) rfl (Uk _ _ _) (yg [z]) (by omega) (by simp;have:=hb.size;omega) ?_)
   intro v' wn Ta Ha Ab;have ia:=(Below.refl w2.heap.size w2).alloc zR (.cells #[.int .u64 z] 22);have hB:=mh (ma.alloc _) Ha (by simp;have:=hb.size;omega)
   replace hb:=(Om hb ia hb.size).trans hB;replace ma:wn.ownsRow w.heap.size 22 1 v' (k+1) (Ca (L.take (k+1))):=Kr (b:=[z]) Ta HF.out;clear Ta Ha Ab ia hB;go_wp2
   go_roundw
   case rel=>exact ⟨k+1,by omega,by go_num,ma,hb⟩
   case measure=>simp [intOf];omega
  ·obtain rfl:k=l.length:=by omega
   rw [List.take_of_length_le (by have:=nR.out;omega)] at ma
   obtain ⟨A1,c1,rfl,-,-,-,-⟩:=Tb ma;have hlw:=Fh ma HM.out;clear ma za;go_wp2_with fail
   refine (HS.out _ _ _ _ _ hlw hn).mono ?_;rintro e w5 ⟨v,rfl,hv,Aa⟩;go_wp2;go_ret
   exact ⟨_,rfl,hv,ja hb Aa⟩
theorem zBQ (n:Nat):(Fa n fun _=>0).toList=Ca (List.replicate n 0):=by
 simp [Fa,Ca]
 exact (List.map_const' ..).trans (by rw [List.length_range])
theorem zC1 (A:Option Addr) (n c m:Nat) (l:List Nat) (w:World) (hl:RWd w [.slice A n c] l) (hn:n <= 100000) (hm:m <= 100000) :
  Calls Tryz.prog 223 #[.slice A n c, .int .i64 m] w fun e w'=>∃ v,e= .returned v /\ w'.ownsRow w.heap.size 22 1 v (m+n) (Ca (GU l m)) /\ Below w.heap.size w w':=by
 obtain ⟨rfl,h1,h2,oa,za⟩:=zb hl;have mk:=Fp m (by omega)
 have g0:(0:Int) <= (m:Int):=by omega
 have g1:(m:Int) <= 100000:=by omega
 have ph:(w.alloc (.cells (Fa m fun _=>0) 22)).ownsRow w.heap.size 22 1 (.slice (some ⟨w.heap.size,0,none⟩) m m) m (Ca (List.replicate m 0)):=by
  have:=World.ownsRow_lit (base:=w.heap.size) (e:=22) (size:=1) w (Fa m fun _=>0) m zR (by simp [maxLen];omega) (by simp [Fa])
  rw [zBQ] at this;exact this
 have ia:=(Below.refl w.heap.size w).alloc zR (.cells (Fa m fun _=>0) 22)
 have HL:=zH (show List.replicate m 0++l=GU l m from rfl)
 have re:=za.below ia;clear hl h2 oa za;go_enter Tryz.func223,Tryz.ntmps223
 go_wp2_with (at_builtin;refine If rfl _ _ rfl Vi rfl ph rfl re (yg l) (by omega) (by simp) ?_)
 intro v' w2 ma Ha Ab;have hB:=mh ph Ha (by simp)
 replace ma:=Kr ma HL.out;go_wp2;go_ret
 exact ⟨_,rfl,ma,ia.trans hB⟩
theorem zDs {l:List Nat} {B:Nat} (hB:0<B) (hl:∀ x∈l,x<B) (m:Nat):∀ x∈GU l m,x<B:=fun x hx=>by
 rcases List.mem_append.1 hx with h | h
 ·rw [(List.mem_replicate.1 h).2];exact hB
 ·exact hl x h
theorem rwd_lt {w:World} {v:Value} {l:List Nat} (h:RWd w [v] l):∀ x∈l,x<18446744073709551616:=by
 obtain ⟨A,n,c,-,-,-,-,h4⟩:=h;exact h4
theorem pS {w:World} {v:Value} {l:List Nat} (h:RWd w [v] l):∃ A c,v= .slice A l.length c:=by
 obtain ⟨A,n,c,he,-,-,h3,-⟩:=id h;simp at he
 subst he;have:=h3.len1;rw [Gi] at this;subst this;exact ⟨A,c,rfl⟩
theorem zAA (p:Nat) (A B:Option Addr) (n c m d:Nat) (a b:List Nat) (w:World) (hp:Db p=true) (ha:RWd w [.slice A n c] a) (Qo:RWd w [.slice B m d] b) (hn:n <= 40000) (hm:m <= 40000) :
  Calls Tryz.prog 186 #[.int .u64 p, .slice A n c, .slice B m d] w fun e w'=>∃ v,e= .returned v /\ RWd w' [v] (Ou p a b) /\ Below w.heap.size w w':=by
 obtain ⟨rfl,-,-,-,za⟩:=zb ha;obtain ⟨rfl,-,-,-,-⟩:=zb Qo;have HA:=zH (fun A B n c m d a b w ha hb hn hm=>N0 p A B n c m d a b w hp ha hb hn hm)
 have HS:=zH (fun s w' (hb:Below w.heap.size w w')=>u5 p B b.length d s b w' hp (ib hb Qo) (by omega))
 have HK:=zH (fun k=>show Lt p a b (k+1)=XB p (Lt p a b k) (GU (uy p b (a.getD k 0)) k) from rfl)
 have HL:=zH (fun k (hk:k<a.length)=>show (Lt p a b k).length <= 100000 by cases k with
  | zero=>exact Nat.zero_le _
  | succ k=>have:=G7 p a b k;omega)
 have HC:=zH (fun s=>show (uy p b s).length <= 40000 by have:=qW p b s;omega)
 have HE:=zH (show Ou p a b=Lt p a b a.length from rfl)
 rw [HE.out];obtain ⟨f,hf⟩:=zEX (Lt p a b);have H0:=zH (show f 0=[] by rw [hf];rfl)
 obtain ⟨g,hg⟩:=zEX (uy p b);rw [<- hf] at HK HL |-;rw [<- hg] at HK HC HS;clear ha Qo hp HE hf hg;go_enter Tryz.func186,Tryz.ntmps186
 go_wp2_with fail
 go_loopw [7,8] (fun v i wr=>∃ k:Nat,k <= a.length /\ i= .int .i64 k /\ RWd wr [v] (f k) /\ Below w.heap.size w wr) (fun _ i _=>a.length-(intOf i).toNat)
 case atStart=>exact ⟨0,Nat.zero_le _,rfl,by rw [H0.out];exact ⟨none,0,0,rfl,zR,by simp [maxLen],⟨rfl,fun h=>absurd h (by omega)⟩,fun x hx=>by cases hx⟩,Below.refl _ _⟩
 case round =>
  obtain ⟨k,hk,rfl,hv,hb⟩:=hrel;obtain ⟨A1,c1,rfl⟩:=pS hv;by_cases oa:k<a.length
  ·obtain ⟨b1,q,rfl,Za,hc⟩:=Ye (za.below hb) oa
   have lS:=zH (HK.out k);have ql:=zH (HL.out k oa);generalize a.getD k 0=x at *;have Eg:=zH (fun w=>HS.out x w)
   have Bg:=zH (HC.out x);generalize g x=s at *;obtain ⟨f0,dn⟩:=zEX (f k);rw [<- dn] at hv lS ql |-;clear dn;go_wp2_with fail
   refine (Eg.out _ hb).mono ?_;rintro e w2 ⟨v2,rfl,h2,Aa⟩;replace hb:=ja hb Aa;replace hv:=ib Aa hv;clear Aa;obtain ⟨A2,c2,rfl⟩:=pS h2;have RD:=Bg.out;have Xc:=rwd_lt h2;go_wp2_with fail
   refine (zC1 A2 s.length c2 k s _ h2 (by omega) (by omega)).mono ?_
   rintro e w3 ⟨v3,rfl,h3,Aa⟩;replace hb:=ja hb Aa;replace hv:=ib Aa hv;clear Aa h2;obtain ⟨A3,c3,rfl,-⟩:=Tb h3;have hw3:=Fh h3 (zDs (by omega) Xc k)
   go_wp2_with fail
   refine (HA.out _ _ _ _ _ _ _ _ _ hv hw3 ql.out (by omega)).mono ?_
   rintro e w4 ⟨v4,rfl,h4,Aa⟩;replace hb:=ja hb Aa;rw [<- lS.out] at h4;go_wp2
   go_roundw
   case rel=>exact ⟨k+1,by omega,by go_num,h4,hb⟩
   case measure=>simp [intOf];omega
  ·obtain rfl:k=a.length:=by omega
   go_wp2;go_ret
   exact ⟨_,rfl,hv,hb⟩
theorem O7 (p:Nat) (A:Option Addr) (n c x:Nat) (l:List Nat) (w:World) (hp:Db p=true) (hl:RWd w [.slice A n c] l) :
  Calls Tryz.prog 70 #[.int .u64 p, .slice A n c, .int .u64 x] w fun e w'=>e= .returned (.int .u64 ((oh p l x:Nat):Int)) /\ Below w.heap.size w w':=by
 obtain ⟨rfl,h1,h2,oa,za⟩:=zb hl;have gm:=uj h1 h2;have HM:=zH (fun a b w=>PB p a b w hp)
 have HA:=zH (fun a b w=>Yx p a b w hp)
 have HE:=zH (show oh p l x=evS p l (Pw p x) l.length from rfl)
 rw [HE.out];obtain ⟨f,hf⟩:=zEX (evS p l (Pw p x));obtain ⟨g,hg⟩:=zEX (Pw p x);have fG:=zH (show f 0=0 by rw [hf];rfl)
 have HF:=zH (fun k=>show f (k+1)=(f k+l.getD k 0*g k%p)%p by rw [hf,hg];rfl)
 have HG0:=zH (show g 0=1 by rw [hg];rfl)
 have HG:=zH (fun k=>show g (k+1)=g k*x%p by rw [hg];rfl)
 rw [<- hf];clear hf hg HE hl h1 h2 hp oa;go_enter Tryz.func70,Tryz.ntmps70
 go_wp2_with fail
 go_loopw [7,8,9] (fun y z i wr=>∃ k:Nat,k <= l.length /\ i= .int .i64 k /\ y= .int .u64 (f k:Int) /\ z= .int .u64 (g k:Int) /\ Below w.heap.size w wr) (fun _ _ i _=>l.length-(intOf i).toNat)
 case atStart=>exact ⟨0,Nat.zero_le _,rfl,by rw [fG.out];rfl,by rw [HG0.out];rfl,Below.refl _ _⟩
 case round =>
  obtain ⟨k,hk,rfl,rfl,rfl,hb⟩:=hrel;by_cases oa:k<l.length
  ·obtain ⟨b,q,rfl,Za,hc⟩:=Ye (za.below hb) oa
   have Ux:=zH (HF.out k);have HG1:=zH (HG.out k);generalize l.getD k 0=y at *;obtain ⟨z,hz⟩:=zEX (y*g k%p);rw [<- hz] at Ux;have ke:=zH (fun w=>by have:=HM.out y (g k) w;rw [<- hz] at this;exact this)
   have HM2:=zH (fun w=>by have:=HM.out (g k) x w;rw [<- HG1.out] at this;exact this)
   have Zc:=zH (fun w=>by have:=HA.out (f k) z w;rw [<- Ux.out] at this;exact this)
   obtain ⟨f1,Uv⟩:=zEX (f (k+1));obtain ⟨g1,Af⟩:=zEX (g (k+1));rw [<- Uv] at Zc;rw [<- Af] at HM2;have HH:=zH (And.intro Uv Af);clear hz Ux HG1 Uv Af;generalize f k=fk at *;generalize g k=gk at *;go_wp2_with fail
   refine (ke.out _).mono ?_;rintro e w2 ⟨rfl,Aa⟩;replace hb:=ja hb Aa;clear Aa;go_wp2_with fail
   refine (Zc.out _).mono ?_;rintro e w3 ⟨rfl,Aa⟩;replace hb:=ja hb Aa;clear Aa;go_wp2_with fail
   refine (HM2.out _).mono ?_;rintro e w4 ⟨rfl,Aa⟩;replace hb:=ja hb Aa;clear Aa;go_wp2
   go_roundw
   case rel=>exact ⟨k+1,by omega,by go_num,by rw [<- HH.out.1],by rw [<- HH.out.2],hb⟩
   case measure=>simp [intOf];omega
  ·obtain rfl:k=l.length:=by omega
   go_wp2;go_ret
   exact ⟨rfl,hb⟩
def MX (p a b:Nat):Nat -> Nat
 | 0=>a
 | k+1=>MX p a b k*b%p
theorem zB4 {p a b:Nat} (hp:0<p) (ha:a<p):∀ k,MX p a b k<p
 | 0=>ha
 | _+1=>Nat.mod_lt _ hp
def Qp (p s n:Nat):Nat -> Nat:=MX p (s%p) (Wr p n)
def FN (p x:Nat):List Nat -> Nat
 | []=>0
 | c :: l=>(FN p x l*x%p+c)%p
theorem zB7 (p x:Nat) (l:List Nat) (k:Nat) (h:k<l.length):FN p x (l.drop k)=(FN p x (l.drop (k+1))*x%p+l.getD k 0)%p:=by
 rw [List.drop_eq_getElem_cons h,FN,List.getD_eq_getElem?_getD,List.getElem?_eq_getElem h]
 rfl
theorem zCW (p n:Nat) (w:World) (hp:Db p=true) (hn:Ss p n) :
  Calls Tryz.prog 201 #[.int .u64 p, .int .i64 n] w fun e w'=>e= .returned (.bool true) /\ Below w.heap.size w w':=by
 have HR:=zH (fun w=>zAF p n w hp hn)
 have g1:(n:Int) <= 4096:=by have:=hn.le;omega
 clear hp hn;go_enter Tryz.func201,Tryz.ntmps201
 go_wp2_with fail
 refine (HR.out _).mono ?_;rintro e w1 ⟨rfl,hb⟩;go_wp2;go_ret
 exact ⟨rfl,hb⟩
theorem p5 (p s n:Nat) (w:World) (hp:Db p=true) (hn:Ss p n) (hs:s%p≠0) :
  Calls Tryz.prog 147 #[.int .u64 p, .int .u64 s, .int .i64 n] w fun e w'=>∃ v,e= .returned (.tuple #[v, .int .i64 0]) /\ w'.ownsRow w.heap.size 22 1 v n (Ca ((List.range n).map (Qp p s n))) /\ Below w.heap.size w w':=by
 obtain ⟨Pd,Lb⟩:=nc hp;have hn4:=hn.le;have HO:=zH (fun w=>by have:=Tk p w Lb;rw [hp] at this;exact this)
 have HR:=zH (fun w=>zAF p n w hp hn)
 have HL:=zH (fun w=>zCW p n w hp hn)
 have HM:=zH (fun a b w=>PB p a b w hp)
 obtain ⟨r,hr⟩:=zEX (Wr p n);obtain ⟨x0,TU⟩:=zEX (s%p);obtain ⟨f,hf⟩:=zEX (Qp p s n);have fG:=zH (show f 0=x0 by rw [hf,TU];rfl)
 have HF:=zH (fun k=>show f (k+1)=f k*r%p by rw [hf,hr];rfl)
 have p1:(0:Int)<(p:Int):=by omega
 have p2:((p:Int) == 0)=false:=by rw [beq_eq_false_iff_ne];omega
 have p3:¬(p=0):=by omega
 have e1:(s:Int)%(p:Int)=(x0:Int):=by rw [TU];rfl
 have e2:(s:Int).tmod (p:Int)=(x0:Int):=by rw [TU];rfl
 have e3:((x0:Int) == 0)=false:=by rw [beq_eq_false_iff_ne];omega
 have HS:=zH (fun k=>iF f k)
 rw [<- hr] at HR;rw [<- hf];clear hr hf TU hs hn hp Pd Lb;go_enter Tryz.func147,Tryz.ntmps147
 go_wp2_with fail
 refine (HO.out _).mono ?_;rintro e w1 ⟨rfl,hb⟩;go_wp2_with fail
 refine (HL.out _).mono ?_;rintro e w2 ⟨rfl,Aa⟩;replace hb:=ja hb Aa;clear Aa;go_wp2_with fail
 refine (HR.out _).mono ?_;rintro e w3 ⟨rfl,Aa⟩;replace hb:=ja hb Aa;clear Aa;go_wp2_with fail
 go_loopw [10,11,12] (fun y v i wr=>∃ k:Nat,k <= n /\ i= .int .i64 k /\ y= .int .u64 (f k:Int) /\ wr.ownsRow w.heap.size 22 1 v k (Ca ((List.range k).map f)) /\ Below w.heap.size w wr) (fun _ _ i _=>n-(intOf i).toNat)
 case atStart=>exact ⟨0,Nat.zero_le _,rfl,by rw [fG.out],⟨rfl, .inl ⟨rfl,rfl⟩⟩,hb⟩
 case round =>
  clear hb;obtain ⟨k,hk,rfl,rfl,ma,hb⟩:=hrel;by_cases oa:k<n
  ·have g1:(k:Int)<(n:Int):=by omega
   have Eg:=zH (HS.out k);have Ux:=zH (HF.out k);obtain ⟨y,hy⟩:=zEX (f (k+1));have HY:=zH hy;obtain ⟨z,hz⟩:=zEX (f k);rw [<- hy,<- hz] at Ux;rw [<- hz] at Eg |-;have ke:=zH (fun w=>by have:=HM.out z r w;rw [<- Ux.out] at this;exact this)
   clear hy hz Ux;go_wp2_with (at_builtin;refine If rfl _ _ rfl Vi rfl (ma.alloc _) rfl (Uk _ _ _) (yg [z]) (by omega) (by simp;have:=hb.size;omega) ?_)
   intro v' wn Ta Ha Ab;have ia:=(Below.refl wr.heap.size wr).alloc zR (.cells #[.int .u64 z] 22);have hB:=mh (ma.alloc _) Ha (by simp;have:=hb.size;omega)
   replace hb:=(Om hb ia hb.size).trans hB;replace ma:wn.ownsRow w.heap.size 22 1 v' (k+1) (Ca ((List.range (k+1)).map f)):=Kr (b:=[z]) Ta Eg.out;clear Ta Ha Ab ia hB;go_wp2_with fail
   refine (ke.out _).mono ?_;rintro e w4 ⟨rfl,Aa⟩;replace hb:=ja hb Aa;replace ma:=db ma Aa zR;clear Aa;go_wp2
   go_roundw
   case rel=>exact ⟨k+1,by omega,by go_num,by rw [HY.out],ma,hb⟩
   case measure=>simp [intOf];omega
  ·obtain rfl:k=n:=by omega
   have g1:¬((k:Int)<(k:Int)):=by omega
   go_wp2
   go_ret2
   exact ⟨_,rfl,ma,hb⟩
theorem zCU (p:Nat) (A:Option Addr) (n c x:Nat) (l:List Nat) (w:World) (hp:Db p=true) (hl:RWd w [.slice A n c] l) :
  Calls Tryz.prog 245 #[.int .u64 p, .slice A n c, .int .u64 x] w fun e w'=>e= .returned (.int .u64 ((FN p x l:Nat):Int)) /\ Below w.heap.size w w':=by
 obtain ⟨rfl,h1,h2,oa,za⟩:=zb hl;have gm:=uj h1 h2;have HM:=zH (fun a b w=>PB p a b w hp)
 have HA:=zH (fun a b w=>Yx p a b w hp)
 have HD:=zH (zB7 p x l);obtain ⟨f,hf⟩:=zEX (fun k=>FN p x (l.drop k))
 have fG:=zH (show f 0=FN p x l by rw [hf];rfl)
 have HF9:=zH (show f l.length=0 by rw [hf];simp [FN])
 have HF:=zH (fun k (hk:k<l.length)=>show f k=(f (k+1)*x%p+l.getD k 0)%p by rw [hf];exact HD.out k hk)
 rw [<- fG.out];clear HD hl h1 h2 hp oa hf fG;obtain ⟨m,hm⟩:∃ m:Int,m=(l.length:Int)-1:=⟨_,rfl⟩;have g0:(l.length:Int)-1=m:=hm.symm;have gw:IntKind.i64.wrap m=m:=Jf _ (by omega) (by omega)
 have xX:=zH hm;clear hm;go_enter Tryz.func245,Tryz.ntmps245
 go_wp2_with fail
 clear g0 gw;go_loopw [7,8] (fun y i wr=>∃ (k:Nat) (j:Int),Hid (j+1=(k:Int)) /\ k <= l.length /\ i= .int .i64 j /\ y= .int .u64 (f k:Int) /\ Below w.heap.size w wr) (fun _ i _=>(intOf i+1).toNat)
 case atStart=>exact ⟨l.length,m,zH (by have:=xX.out;omega),zR,rfl,by rw [HF9.out];rfl,Below.refl _ _⟩
 case round =>
  obtain ⟨k,j,HJ,hk,rfl,rfl,hb⟩:=hrel;rcases Nat.eq_zero_or_pos k with h0 | h0
  ·subst h0
   have hj:j=-1:=by have:=HJ.out;omega
   subst hj;go_wp2;go_ret
   exact ⟨rfl,hb⟩
  ·obtain ⟨i,hi⟩:=zEX (k-1)
   have hj:j=(i:Int):=by have:=HJ.out;omega
   subst hj;have VX:i<l.length:=by omega
   obtain ⟨b,q,rfl,Za,hc⟩:=Ye (za.below hb) VX;have Ux:=zH (HF.out i VX);rw [show i+1=k by omega] at Ux
   obtain ⟨y,hy⟩:=zEX (f k);rw [<- hy] at Ux |-;generalize l.getD i 0=a at *;obtain ⟨z,hz⟩:=zEX (y*x%p);have ke:=zH (fun w=>by have:=HM.out y x w;rw [<- hz] at this;exact this)
   rw [<- hz] at Ux;have Zc:=zH (fun w=>by have:=HA.out z a w;rw [<- Ux.out] at this;exact this)
   have HI:=zH hi;obtain ⟨y2,hy2⟩:=zEX (f i);rw [<- hy2] at Zc;have HY2:=zH hy2;have gi1:(0:Int) <= (i:Int):=by omega
   have gi2:(i:Int)<(l.length:Int):=by omega
   obtain ⟨j2,DP⟩:∃ j2:Int,j2=(i:Int)-1:=⟨_,rfl⟩;have gj:(i:Int)-1=j2:=DP.symm;have gw:IntKind.i64.wrap j2=j2:=Jf _ (by omega) (by omega)
   have HJ2:=zH DP;clear hz hy hi Ux hy2 DP;go_upto_region 5 with fail
   refine xd (Bb) (pa) [] [] [0,1,2,3,4,5,6,7,8,9,10] (by kernel_rfl) (by kernel_rfl) ?_
   refine yd (pa) ?_;intro Wc da;refine Uc ?_;refine Jb (pa) rfl rfl rfl rfl (fun _ _ _ h=>h) (fun _=>by go_simp <;> rfl) (fun w' hR=>ke.out _) ?_
   simp only [Act.put,zLa,zLb,zLc];refine Uc ?_;refine Jb (pa) rfl rfl rfl rfl (fun _ _ _ h=>h) (fun _=>by go_simp <;> rfl) (fun w' hR=>Zc.out _) ?_
   simp only [Act.put,zLa,zLb,zLc];refine Uc ?_;refine im rfl ?_;intro wd Rc;replace da:=(pa).trans _ _ _ da Rc;clear Rc;go_wp2
   go_roundw
   case rel=>exact ⟨i,j2,zH (by have:=HJ2.out;omega),by omega,rfl,by rw [HY2.out],ja hb.drew da⟩
   case measure=>have:=HJ2.out;simp [intOf];omega
theorem lT {n i v:Nat} {F G:Nat -> Nat} (h:v=F i):(Ca ((List.range n).map (uf F G i))).set i (.int .u64 v)=Ca ((List.range n).map (uf F G (i+1))):=by
 have:=zu (n:=n) (G:=G) h;rw [Dq,Dq] at this;have h2:=congrArg Array.toList this
 simpa using h2
theorem mT (n:Nat) (F G:Nat -> Nat):(List.range n).map (uf F G 0)=(List.range n).map G:=List.map_congr_left fun i _=>by simp [uf]
theorem zA9 (n:Nat) (F G:Nat -> Nat):(List.range n).map (uf F G n)=(List.range n).map F:=List.map_congr_left fun i hi=>by simp [uf,List.mem_range.1 hi]
theorem jT {n i:Nat} (F G:Nat -> Nat) (h:i<n):(Ca ((List.range n).map (uf F G i)))[i]?=some (.int .u64 (G i:Int)):=by simp [Ca,uf,h]
theorem zCT (p s n:Nat) (A:Option Addr) (m c:Nat) (l:List Nat) (w:World) (hp:Db p=true) (hl:RWd w [.slice A m c] l) (hn:Ss p n) (hs:s%p≠0) (hm:m <= 8192) :
  Calls Tryz.prog 221 #[.int .u64 p, .slice A m c, .int .u64 s, .int .i64 n] w fun e w'=>∃ v,e= .returned (.tuple #[v, .int .i64 0]) /\ w'.ownsRow w.heap.size 22 1 v n (Ca ((List.range n).map fun i=>FN p (Qp p s n i) l)) /\ Below w.heap.size w w':=by
 have hn4:=hn.le;have Ve:=hn.pos;have HD:=zH (fun w=>p5 p s n w hp hn hs)
 have HH:=zH (fun x w' (hb:Below w.heap.size w w')=>zCU p A m c x l w' hp (ib hb hl))
 obtain ⟨G,hG⟩:=zEX (Qp p s n);obtain ⟨F,hF⟩:=zEX (fun i=>FN p (G i) l)
 have HFG:=zH (fun i=>show F i=FN p (G i) l by rw [hF])
 rw [<- hG] at HD |-;rw [<- hF];clear hG hF hl hp hn hs;have gm:(m:Int) <= 8192:=by omega
 go_enter Tryz.func221,Tryz.ntmps221
 go_wp2_with fail
 refine (HD.out _).mono ?_;rintro e w1 ⟨v,rfl,ma,hb⟩;obtain ⟨g,cap,rfl,Af,Lk⟩:=World.ownsRow.form ma (by omega)
 go_wp2_with fail
 have gn:(n:Int) <= 4096:=by omega
 have H0:=zH (mT n F G);go_loopw [12] (fun i wr=>∃ k:Nat,k <= n /\ i= .int .i64 k /\ wr.ownsRow w.heap.size 22 1 (.slice (some ⟨g,0,none⟩) n cap) n (Ca ((List.range n).map (uf F G k))) /\ Below w.heap.size w wr) (fun i _=>n-(intOf i).toNat)
 case atStart=>exact ⟨0,Nat.zero_le _,rfl,by rw [H0.out];exact ma,hb⟩
 case round =>
  clear ma hb;obtain ⟨k,hk,rfl,ma,hb⟩:=hrel;by_cases oa:k<n
  ·have g1:(k:Int)<(n:Int):=by omega
   have c0:wr.cell? ⟨g,k,none⟩=some (.int .u64 (G k:Int)):=by rw [ma.cellAt k (by omega)];exact jT F G oa
   have lg:g<wr.heap.size:=World.block_lt_of_cell? _ _ c0;obtain ⟨x,hx⟩:=zEX (G k);obtain ⟨z,hz⟩:=zEX (F k);have Xf:=zH (lT (n:=n) (G:=G) hz);have ez:FN p x l=z:=by rw [hz,HFG.out,hx]
   have HH1:=zH (fun w' hb=>by have:=HH.out x w' hb;rw [ez] at this;exact this)
   clear ez;rw [<- hx] at c0;have HX:=zH hx;clear hx hz;go_wp2_with fail
   refine (HH1.out _ hb).mono ?_;rintro e w2 ⟨rfl,Aa⟩;replace hb:=ja hb Aa;replace ma:=db ma Aa zR;clear Aa;clear c0 lg;have c2:w2.cell? ⟨g,k,none⟩=some (.int .u64 x):=by rw [ma.cellAt k (by omega),HX.out];exact jT F G oa
   have f2:=ma.frozenAt;obtain ⟨Wj,hg⟩:=ma.stored k (.int .u64 z);rw [Xf.out] at Wj;have xa:=hb.trans (Nh hg hb.size Af);go_wp2_with fail
   go_roundw
   case rel=>exact ⟨k+1,by omega,by go_num,Wj,xa⟩
   case measure=>simp [intOf];omega
  ·obtain rfl:k=n:=by omega
   have g1:¬((k:Int)<(k:Int)):=by omega
   rw [zA9] at ma;go_wp2
   go_ret2
   exact ⟨_,rfl,ma,hb⟩
def p7 (p:Nat) (l:List Nat) (i:Nat):Nat:=FN p (Qp p 1 l.length i) l
def fW (p:Nat) (l:List Nat) (s i:Nat):Nat:=p7 p l ((l.length-i)%l.length)*MX p (l.length^(p-2)%p) ((s%p)^(p-2)%p) i%p
theorem zCV (p s n:Nat) (A:Option Addr) (c:Nat) (l:List Nat) (w:World) (hp:Db p=true) (hl:RWd w [.slice A n c] l) (hn:Ss p n) (hs:s%p≠0) :
  Calls Tryz.prog 184 #[.int .u64 p, .slice A n c, .int .u64 s] w fun e w'=>∃ v,e= .returned (.tuple #[v, .int .i64 0]) /\ w'.ownsRow w.heap.size 22 1 v n (Ca ((List.range n).map (fW p l s))) /\ Below w.heap.size w w':=by
 obtain ⟨Pd,Lb⟩:=nc hp;have hn4:=hn.le;have Ve:=hn.pos;have hnl:=(zb hl).1;have HD:=zH (fun w=>p5 p s n w hp hn hs)
 have HV:=zH (fun w' (hb:Below w.heap.size w w')=>zCT p 1 n A n c l w' hp (ib hb hl) hn (by rw [Nat.mod_eq_of_lt (by omega)];decide) (by omega))
 have HM:=zH (fun a b w=>PB p a b w hp)
 obtain ⟨x0,TU⟩:=zEX (s%p);obtain ⟨s0,GY⟩:=zEX (n^(p-2)%p);obtain ⟨t,ht⟩:=zEX (x0^(p-2)%p);have fl:=zH (fun w=>by have:=zAz p n w hp;rw [<- GY] at this;exact this)
 have Yp:=zH (fun w=>by have:=zAz p x0 w hp;rw [<- ht] at this;exact this)
 obtain ⟨E,hE⟩:=zEX (fun i=>FN p (Qp p 1 n i) l)
 rw [<- hE] at HV;obtain ⟨R,hR⟩:=zEX (fun i=>E ((n-i)%n))
 have zW:=zH (show [E 0]=(List.range 1).map R by rw [hR];simp)
 have Ns:=zH (show ∀ i k,i+k=n -> 0<i -> 0<k -> (List.range k).map R++[E i]=(List.range (k+1)).map R from fun i k h h1 h2=>by
  rw [<- iF R k,hR];show _++[E i]=_++[E ((n-k)%n)]
  rw [show n-k=i by omega,Nat.mod_eq_of_lt (by omega)])
 obtain ⟨S,hS⟩:=zEX (MX p s0 t);have DX:=zH (show S 0=s0 by rw [hS];rfl)
 have Eg:=zH (show ∀ k,S (k+1)=S k*t%p from fun k=>by rw [hS];rfl)
 obtain ⟨F,hF⟩:=zEX (fun i=>R i*S i%p)
 have HF:=zH (show ∀ i,F i=R i*S i%p from fun i=>by rw [hF])
 have eG:fW p l s=F:=by
  funext i
  rw [hF,hR,hE,hS,GY,ht,TU];simp only [fW,p7,<- hnl]
 rw [eG];have p1:(0:Int)<(p:Int):=by omega
 have p2:((p:Int) == 0)=false:=by rw [beq_eq_false_iff_ne];omega
 have p3:¬(p=0):=by omega
 have e1:(s:Int)%(p:Int)=(x0:Int):=by rw [TU];rfl
 have e2:(s:Int).tmod (p:Int)=(x0:Int):=by rw [TU];rfl
 have en:IntKind.u64.wrap (n:Int)=(n:Int):=pg _ (by omega)
 obtain ⟨m,hm⟩:∃ m:Nat,m=n-1:=⟨_,rfl⟩;have em:(n:Int)-1=(m:Int):=by omega
 have em2:=zd m;have gn:(n:Int) <= 4096:=by omega
 have gn1:(0:Int)<(n:Int):=by omega
 have hmn:m+1=n:=by omega
 have HMN:=zH hmn;clear TU GY ht hE hR hS hF eG hl hp hn hs Pd Lb hnl hm hmn;go_enter Tryz.func184,Tryz.ntmps184
 go_wp2_with fail
 refine (HD.out _).mono ?_;rintro e w1 ⟨v0,rfl,-,hb⟩;go_wp2_with fail
 refine (HV.out _ hb).mono ?_;rintro e w2 ⟨v1,rfl,SH,Aa⟩;replace hb:=ja hb Aa;clear Aa;obtain ⟨g1,cap1,rfl,Af,Lk⟩:=World.ownsRow.form SH (by omega)
 have za:Rd w2 1 (some ⟨g1,0,none⟩) n (Ca ((List.range n).map E)):=by
  obtain ⟨A',c',he,-,-,h3,-⟩:=Tb SH
  injection he with h1 h2 tY
  subst h1;exact h3
 have hcE:∀ (u:World) i,Below w2.heap.size w2 u -> i<n -> u.cell? ⟨g1,i,none⟩=some (.int .u64 (E i:Int)):=fun u i hu hi=>by
  have h:=hu.cell (p:=⟨g1,i,none⟩) Lk;rw [h,SH.cellAt i (by omega)]
  simp [Ca,hi]
 have HC:=zH hcE;have c0:=hcE w2 0 (Below.refl _ _) (by omega)
 clear SH za hcE;obtain ⟨y0,Er⟩:=zEX (E 0);rw [<- Er] at c0 zW;clear Er;have ph:=World.ownsRow_lit (base:=w2.heap.size) (e:=22) (size:=1) w2 #[.int .u64 y0] 1 zR (by simp [maxLen]) rfl
 have ia:=(Below.refl w2.heap.size w2).alloc zR (.cells #[.int .u64 y0] 22);replace ph:(w2.alloc (.cells #[.int .u64 y0] 22)).ownsRow w2.heap.size 22 1 (.slice (some ⟨w2.heap.size,0,none⟩) 1 1) 1 (Ca ((List.range 1).map R)):=by
  rw [<- zW.out];exact ph
 go_wp2_with fail
 clear c0;go_loopw [13,14] (fun v i wr=>∃ i' k:Nat,i= .int .i64 i' /\ Hid (i'+k=n) /\ 0<k /\ i'<n /\ k <= n /\ wr.ownsRow w2.heap.size 22 1 v k (Ca ((List.range k).map R)) /\ Below w2.heap.size w2 wr) (fun _ i _=>(intOf i).toNat)
 case atStart=>exact ⟨m,1,rfl,zH HMN.out,by omega,by have:=HMN.out;omega,by omega,ph,ia⟩
 case round =>
  clear ph ia;obtain ⟨i,k,rfl,HK,aW,Pb,hkn,ma,xa⟩:=hrel;rcases Nat.eq_zero_or_pos i with YV | YV
  ·subst YV
   have hk:k=n:=by have:=HK.out;omega
   subst hk;go_wp2_with fail
   refine (fl.out _).mono ?_;rintro e w3 ⟨rfl,Aa⟩;replace xa:=ja xa Aa;replace ma:=db ma Aa zR;clear Aa;go_wp2_with fail
   refine (Yp.out _).mono ?_;rintro e w4 ⟨rfl,Aa⟩;replace xa:=ja xa Aa;replace ma:=db ma Aa zR;clear Aa;obtain ⟨g,cap,rfl,Ge,Ci⟩:=World.ownsRow.form ma (by omega)
   replace ma:=mg ma hb.size;replace Ge:w.heap.size <= g:=Nat.le_trans hb.size Ge;replace hb:=hb.trans (xa.mono hb.size);clear xa;go_wp2_with fail
   have H0:=zH (mT k F R);go_loopw [15,17] (fun y i wr=>∃ j:Nat,j <= k /\ i= .int .i64 j /\ y= .int .u64 (S j:Int) /\ wr.ownsRow w.heap.size 22 1 (.slice (some ⟨g,0,none⟩) k cap) k (Ca ((List.range k).map (uf F R j))) /\ Below w.heap.size w wr) (fun _ i _=>k-(intOf i).toNat)
   case atStart=>exact ⟨0,Nat.zero_le _,rfl,by rw [DX.out],by rw [H0.out];exact ma,hb⟩
   case round =>
    clear ma hb;obtain ⟨j,hj,rfl,rfl,ma,hb⟩:=hrel;by_cases oa:j<k
    ·have q1:(j:Int)<(k:Int):=by omega
     have c0:wr.cell? ⟨g,j,none⟩=some (.int .u64 (R j:Int)):=by rw [ma.cellAt j (by omega)];exact jT F R oa
     have lg:g<wr.heap.size:=World.block_lt_of_cell? _ _ c0;obtain ⟨z,hz⟩:=zEX (F j);have Xf:=zH (lT (n:=k) (G:=R) hz);have Ux:=zH (HF.out j);rw [<- hz] at Ux;have Em:=zH (Eg.out j);obtain ⟨s2,Df⟩:=zEX (S (j+1));rw [<- Df] at Em;have HSS:=zH Df;obtain ⟨x,hx⟩:=zEX (R j);obtain ⟨y,hy⟩:=zEX (S j);rw [<- hx,<- hy] at Ux;rw [<- hy] at Em |-;have ke:=zH (fun w=>by have:=HM.out x y w;rw [<- Ux.out] at this;exact this)
     have HM2:=zH (fun w=>by have:=HM.out y t w;rw [<- Em.out] at this;exact this)
     rw [<- hx] at c0;have HX:=zH hx;clear hx hz hy Df Ux Em;go_wp2_with fail
     refine (ke.out _).mono ?_;rintro e w5 ⟨rfl,Aa⟩;replace hb:=ja hb Aa;replace ma:=db ma Aa zR;clear Aa;clear c0 lg;have c2:w5.cell? ⟨g,j,none⟩=some (.int .u64 x):=by rw [ma.cellAt j (by omega),HX.out];exact jT F R oa
     have f2:=ma.frozenAt;obtain ⟨Wj,hg⟩:=ma.stored j (.int .u64 z);rw [Xf.out] at Wj;have xa:=hb.trans (Nh hg hb.size Ge);clear ma hb;go_wp2_with fail
     clear f2 c2 hg;generalize w5.setCell _ _=w6 at Wj xa |-;refine (HM2.out _).mono ?_;rintro e w7 ⟨rfl,Aa⟩;replace xa:=ja xa Aa;replace Wj:=db Wj Aa zR;go_wp2_with fail
     go_roundw
     case rel=>exact ⟨j+1,by omega,by go_num,by rw [HSS.out],Wj,xa⟩
     case measure=>simp [intOf];omega
    ·obtain rfl:j=k:=by omega
     have q1:¬((j:Int)<(j:Int)):=by omega
     rw [zA9] at ma;go_wp2
     go_ret2
     exact ⟨_,rfl,ma,hb⟩
  ·have q1:(0:Int)<(i:Int):=by omega
   have q2:(i:Int)<(n:Int):=by omega
   have c1:=HC.out wr i xa Pb;have HRS1:=zH (Ns.out i k HK.out YV aW);obtain ⟨z,hz⟩:=zEX (E i);rw [<- hz] at c1 HRS1;clear hz;obtain ⟨i2,pq⟩:=zEX (i-1);have ei:(i:Int)-1=(i2:Int):=by omega
   have ei2:=zd i2;have HI:=zH pq;clear pq;go_wp2_with (at_builtin;refine If rfl _ _ rfl Vi rfl (ma.alloc _) rfl (Uk _ _ _) (yg [z]) (by omega) (by simp;have:=xa.size;omega) ?_)
   intro v' wn Ta Ha Ab;have ia:=(Below.refl wr.heap.size wr).alloc zR (.cells #[.int .u64 z] 22);have hB:=mh (ma.alloc _) Ha (by simp;have:=xa.size;omega)
   replace xa:=(Om xa ia xa.size).trans hB;replace ma:wn.ownsRow w2.heap.size 22 1 v' (k+1) (Ca ((List.range (k+1)).map R)):=Kr (b:=[z]) Ta HRS1.out;clear Ta Ha Ab ia hB;go_wp2
   go_roundw
   case rel=>exact ⟨i2,k+1,rfl,zH (by have:=HK.out;have:=HI.out;omega),by omega,by have:=HI.out;omega,by have:=HK.out;omega,ma,xa⟩
   case measure=>have:=HI.out;simp [intOf];omega
def Bn (p n j:Nat) (l:List Nat) (k:Nat):Nat:=bh p j (ay p l) (Wr p n^(p-2)%p) k*(n^(p-2)%p)%p
theorem EF (p:Nat) (A:Option Addr) (n c j:Nat) (l:List Nat) (w:World) (hp:Db p=true) (hl:RWd w [.slice A n c] l) (hn:Ss p n) (hj:n=2^j) :
  Calls Tryz.prog 115 #[fv p, .slice A n c] w fun e w'=>∃ g,e= .returned (.tuple #[.slice (some ⟨g,0,none⟩) n n, .int .i64 0]) /\ w.heap.size <= g /\ Blk w' g 22 (Fa n (Bn p n j l)) /\ Below w.heap.size w w':=by
 obtain ⟨Pd,Lb⟩:=nc hp;have hn4:=hn.le;have TD:j <= 12:=by have:=YE (j:=j) (by omega);omega
 have HV:=zH (fun w=>Pj p w hp)
 have HR:=zH (fun w=>FF p n w hp hn)
 have HD:=zH (fun w' (hb:Below w.heap.size w w')=>XS p A n c l w' hp (ib hb hl) (by omega))
 have HM:=zH (fun a b w=>Lo p a b w hp)
 obtain ⟨r,hr⟩:=zEX (Wr p n);obtain ⟨ri,hri⟩:=zEX (r^(p-2)%p);obtain ⟨pt,Ut⟩:=zEX (n^(p-2)%p);have fl:=zH (fun w=>by have:=lH p r w hp;rw [<- hri] at this;exact this)
 have Yp:=zH (fun w=>by have:=lH p n w hp;rw [<- Ut] at this;exact this)
 obtain ⟨a,ha⟩:=zEX (ay p l);obtain ⟨E,hE⟩:=zEX (bh p j a ri);have Bk:=zH (fun g w (k:Blk w g 22 (Fa n a))=>by have:=KK p hp j TD a ri g w (by rw [<- hj];exact k);rw [<- hj,<- hE] at this;exact this)
 have Yz:=zH (show Bn p n j l=fun k=>E k*pt%p by funext k;unfold Bn;rw [<- hr,<- hri,<- Ut,<- ha,<- hE])
 rw [Yz.out];rw [<- hr] at HR;rw [<- ha] at HD;clear hr hri Ut ha hE hj hn Pd Lb hl;unfold fv at *;have kf:=Blk.new w 175 #[.int .u64 p];have aa:Below w.heap.size w (w.alloc (.cells #[.int .u64 p] 175)):=(Below.refl _ _).alloc zR _;have gn:(n:Int) <= 4096:=by omega
 have en:IntKind.u64.wrap (n:Int)=(n:Int):=pg _ (by omega)
 go_enter Tryz.func115,Tryz.ntmps115
 go_wp2_with fail
 generalize w.alloc _=w1 at kf aa |-;refine (HV.out _).mono ?_;rintro e w2 ⟨rfl,xa⟩;replace kf:=ea kf xa;replace aa:=ja aa xa;clear xa;have cf:=kf.cell;go_wp2_with fail
 refine (HR.out _).mono ?_;rintro e w3 ⟨rfl,Ga⟩;replace kf:=ea kf Ga;replace aa:=ja aa Ga;clear Ga cf;have cf:=kf.cell;go_wp2_with fail
 refine (HD.out _ aa).mono ?_;rintro e w4 ⟨g0,rfl,Ht,kr,Pa⟩;have Af:w.heap.size<g0:=by have:=kf.lt;omega
 replace kf:=ea kf Pa;replace aa:=ja aa Pa;clear Pa cf Ht;have cf:=kf.cell;have lf:=kf.lt;have nf:w.heap.size≠g0:=by omega
 go_upto_region 7 with fail
 refine Pc (mi g0 w4.heap.size) [4,5] [0,1,2,3,4,5] (by kernel_rfl) (by kernel_rfl) ?_
 refine di (sb g0 w4.heap.size) ?_;intro Wc Ba da;refine Zn ?_;have rb:=Sg Ba;have Ob:w4.heap.size <= Wc.heap.size:=rb.size;replace kf:=ea kf rb;replace kr:=ea kr rb;replace aa:=ja aa rb;clear rb Ba cf lf;refine oc (sb g0 w4.heap.size) rfl rfl rfl (fun _=>by go_simp <;> rfl) ((fl.out _).mono ?_)
 rintro e w5 ⟨rfl,Ma⟩;refine ⟨_,rfl,yf Ma Ob,?_⟩;replace da:=(sb g0 w4.heap.size).trans _ _ _ da (yf Ma Ob);simp only [Act.put,zLa,zLb,zLc];replace Ob:=Nat.le_trans Ob Ma.size;replace kf:=ea kf Ma;replace kr:=ea kr Ma;replace aa:=ja aa Ma;clear Ma;refine oc (sb g0 w4.heap.size) rfl rfl rfl (fun _=>by go_simp <;> rfl) ((Bk.out g0 _ kr).mono ?_)
 rintro e w6 ⟨rfl,du,Zv⟩;refine ⟨_,rfl,zx Zv Ob,?_⟩;replace da:=(sb g0 w4.heap.size).trans _ _ _ da (zx Zv Ob);simp only [Act.put,zLa,zLb,zLc];replace kf:=Dc kf Zv;replace aa:=yc aa Zv;clear Zv Ob da kr;refine pc ?_;have cf:=kf.cell;go_wp2_with fail
 refine (Yp.out _).mono ?_;rintro e w7 ⟨rfl,mc⟩;replace kf:=ea kf mc;replace du:=du.below mc du.lt;replace aa:=ja aa mc;clear mc cf;rw [<- gy _ (fun k=>E k*pt%p)] at du
 go_wp2_with fail
 go_loopw [40] (fun y wr=>∃ i:Nat,i <= n /\ y= .int .i64 i /\ Blk wr w.heap.size 175 #[.int .u64 p] /\ Blk wr g0 22 (Fa n (uf (fun k=>E k*pt%p) E i)) /\ Below w.heap.size w wr) (fun y _=>n-(intOf y).toNat)
 case atStart=>exact ⟨0,Nat.zero_le _,rfl,kf,du,aa⟩
 case round =>
  clear kf du aa;obtain ⟨i,hi,rfl,kf,kr,aa⟩:=hrel;by_cases oa:i<n
  ·have q1:(0:Int) <= (i:Int):=by omega
   have q2:(i:Int)<(n:Int):=by omega
   obtain ⟨x,hx⟩:=zEX (E i);obtain ⟨z,hz⟩:=zEX (x*pt%p);have HZ:=zH (show z=(fun k=>E k*pt%p) i by rw [hz,hx])
   have HX:=zH (fun w=>by have:=HM.out x pt w;rw [<- hz] at this;exact this)
   have ca:=kr.cell i;rw [yu _ _ oa,<- hx] at ca;clear hx hz;have cf:=kf.cell;go_wp2_with fail
   refine (HX.out _).mono ?_;rintro e w8 ⟨rfl,Jm⟩;replace kf:=ea kf Jm;replace kr:=ea kr Jm;replace aa:=ja aa Jm;clear Jm ca cf;have c2:=kr.cell i;rw [yu _ _ oa] at c2;generalize E i=old at c2;have f2:=kr.frozen;go_wp2_with fail
   have hg:=Pg (w:=w8) g0 i (.int .u64 z);replace kf:=Dc kf hg;replace aa:=yc aa hg;replace kr:=kr.set_ i (.int .u64 z);rw [zu (F:=fun k=>E k*pt%p) HZ.out] at kr
   clear hg f2 c2
   go_roundw
   case rel=>exact ⟨i+1,by omega,by go_num,kf,kr,aa⟩
   case measure=>simp [intOf];omega
  ·obtain rfl:n=i:=by omega
   rw [Mz] at kr;go_wp2
   go_ret2
   exact ⟨g0,rfl,by omega,kr,aa⟩
def Ck (p n:Nat) (l:List Nat) (s:Nat):Nat -> Nat -> Nat
 | 0=>fun _=>0
 | i+1=>Pe (Ck p n l s i) (i%n) ((Ck p n l s i (i%n)+l.getD i 0*Jp p s i%p)%p)
def Zf (p n j:Nat) (l:List Nat) (s:Nat):Nat -> Nat:=bh p j (Ck p n l (s%p) l.length) (Wr p n)
theorem DF (p:Nat) (A:Option Addr) (m c n j s:Nat) (l:List Nat) (w:World) (hp:Db p=true) (hl:RWd w [.slice A m c] l) (hn:Ss p n) (hj:n=2^j) (hs:s%p≠0) (hm:m <= 8192) :
  Calls Tryz.prog 102 #[fv p, .slice A m c, .int .u64 s, .int .i64 n] w fun e w'=>∃ g,e= .returned (.tuple #[.slice (some ⟨g,0,none⟩) n n, .int .i64 0]) /\ w.heap.size <= g /\ Blk w' g 22 (Fa n (Zf p n j l s)) /\ Below w.heap.size w w':=by
 have hn4:=hn.le;have Ve:=hn.pos;have TD:j <= 12:=by have:=YE (j:=j) (by omega);omega
 have HV:=zH (fun w=>Pj p w hp)
 have HR:=zH (fun w=>FF p n w hp hn)
 have HM:=zH (fun a b w=>Lo p a b w hp)
 have HA:=zH (fun a b w=>Wi p a b w hp)
 have HD:=zH (fun w=>KA p s w hp)
 obtain ⟨r,hr⟩:=zEX (Wr p n);obtain ⟨x,hx⟩:=zEX (s%p);have Yz:=zH (show Zf p n j l s=bh p j (Ck p n l x l.length) r by unfold Zf;rw [<- hr,<- hx])
 rw [Yz.out];have Bk:=zH (fun g w (k:Blk w g 22 (Fa n (Ck p n l x l.length)))=>by have:=KK p hp j TD (Ck p n l x l.length) r g w (by rw [<- hj];exact k);rw [<- hj] at this;exact this)
 rw [<- hr] at HR;rw [<- hx] at HD hs;obtain ⟨rfl,h1,h2,oa,za⟩:=zb hl;clear hr hx hj hn hl Yz;generalize bh p j (Ck p n l x l.length) r=E at *;unfold fv at *;have kf:=Blk.new w 175 #[.int .u64 p];have aa:Below w.heap.size w (w.alloc (.cells #[.int .u64 p] 175)):=(Below.refl _ _).alloc zR _;have gn:(n:Int) <= 4096:=by omega
 have gn1:(1:Int) <= (n:Int):=by omega
 have gn0:(0:Int)<(n:Int):=by omega
 have gn2:¬((n:Int)=0):=by omega
 have gn3:¬(n=0):=by omega
 have gm:(l.length:Int) <= 8192:=by omega
 have d1:((x:Int) == 0)=false:=by rw [beq_eq_false_iff_ne];omega
 have d2:decide ((8192:Int)<(l.length:Int))=false:=decide_eq_false (by omega)
 have mk:=Fp n (by omega)
 clear hs;go_enter Tryz.func102,Tryz.ntmps102
 go_wp2_with fail
 generalize w.alloc _=w1 at kf aa |-;refine (HV.out _).mono ?_;rintro e w2 ⟨rfl,xa⟩;replace kf:=ea kf xa;replace aa:=ja aa xa;clear xa;have cf:=kf.cell;go_wp2_with fail
 refine (HR.out _).mono ?_;rintro e w3 ⟨rfl,Ga⟩;replace kf:=ea kf Ga;replace aa:=ja aa Ga;clear Ga cf;have cf:=kf.cell;go_wp2_with fail
 refine (HD.out _).mono ?_;rintro e w4 ⟨rfl,Pa⟩;replace kf:=ea kf Pa;replace aa:=ja aa Pa;clear Pa cf;go_wp2_with fail
 have kr:=Blk.new w4 22 (Fa n fun _=>0)
 have ia:=(Below.refl w4.heap.size w4).alloc zR (.cells (Fa n fun _=>0) 22)
 have Ht:w.heap.size<w4.heap.size:=kf.lt;replace kf:=ea kf ia;replace aa:=ja aa ia;clear ia mk;generalize w4.alloc _=w5 at kf kr aa |-;generalize w4.heap.size=g0 at kr Ht |-;go_loopw [13,41] (fun pv y wr=>∃ (i pw:Nat),i <= l.length /\ y= .int .i64 i /\ pv= .int .u64 pw /\ Hid (pw=Jp p x i) /\ Blk wr w.heap.size 175 #[.int .u64 p] /\ Blk wr g0 22 (Fa n (Ck p n l x i)) /\ Below w.heap.size w wr) (fun _ y _=>l.length-(intOf y).toNat)
 case atStart=>exact ⟨0,1,Nat.zero_le _,rfl,rfl,rfl,kf,kr,aa⟩
 case round =>
  clear kf kr aa;obtain ⟨i,pw,hi,rfl,rfl,HPW,kf,kr,aa⟩:=hrel;by_cases Zq:i<l.length
  ·have q1:(0:Int) <= (i:Int):=by omega
   have q2:(i:Int)<(l.length:Int):=by omega
   obtain ⟨b,q,rfl,Za,hc⟩:=Ye (za.below aa) Zq;obtain ⟨y,hy⟩:=zEX (l.getD i 0);obtain ⟨t,ht⟩:=zEX (i%n);obtain ⟨v,hv⟩:=zEX (Ck p n l x i t);obtain ⟨pr,EY⟩:=zEX (y*pw%p);obtain ⟨z,hz⟩:=zEX ((v+pr)%p);obtain ⟨np,iw⟩:=zEX (pw*x%p);have Ql:t<n:=by rw [ht];exact Nat.mod_lt _ (by omega)
   have e1:(i:Int)%(n:Int)=(t:Int):=by rw [ht];rfl
   have e2:(i:Int).tmod (n:Int)=(t:Int):=by rw [Int.tmod_eq_emod_of_nonneg (by omega)];exact e1
   have e3:=zd t;have e4:(0:Int) <= (t:Int):=by omega
   have e5:(t:Int)<(n:Int):=by omega
   have Xf:=zH (show (Fa n (Ck p n l x i)).setIfInBounds t (.int .u64 z)=Fa n (Ck p n l x (i+1)) by rw [Tm,hz,EY,hv,hy,ht,HPW.out];rfl)
   have HNP:=zH (show np=Jp p x (i+1) by rw [iw,HPW.out];rfl)
   have Bg:=zH (fun w=>by have:=HM.out y pw w;rw [<- EY] at this;exact this)
   have ni:=zH (fun w=>by have:=HA.out v pr w;rw [<- hz] at this;exact this)
   have fo:=zH (fun w=>by have:=HM.out pw x w;rw [<- iw] at this;exact this)
   have cr:=kr.cell t;rw [Fe _ Ql,<- hv] at cr;rw [<- hy] at hc;have Su:=zH hv;clear hy ht hv EY hz iw;have cf:=kf.cell;have lf:=kf.lt;have lr:=kr.lt;go_upto_region 14 with fail
   refine xd (Bb) (pa) [17] [17] [0,1,2,3,4,5,6,7,8,9,10,11,12,13,14,15,16,17] (by kernel_rfl) (by kernel_rfl) ?_
   refine yd (pa) ?_;intro Wc da;refine Qb ?_;refine Jb (pa) rfl rfl rfl rfl (fun _ _ _ h=>h) (fun _=>by go_simp <;> rfl) (fun w' hR=>Bg.out _) ?_
   simp only [Act.put,zLa,zLb,zLc];refine Qb ?_;refine Jb (pa) rfl rfl rfl rfl (fun _ _ _ h=>h) (fun _=>by go_simp <;> rfl) (fun w' hR=>ni.out _) ?_
   simp only [Act.put,zLa,zLb,zLc];refine Qb ?_;refine Hf rfl rfl rfl rfl ?_;intro wh xb;replace da:=(pa).trans _ _ _ da xb;have rb:=ja (Below.refl wr.heap.size wr).drew da;replace kf:=ea kf rb;replace kr:=ea kr rb;replace aa:=ja aa rb;clear rb da xb cf lf lr cr hc;have c2:=kr.cell t;rw [Fe _ Ql,<- Su.out] at c2;have f2:=kr.frozen;go_simp;refine ⟨fun h=>Bool.noConfusion h,?_⟩
   have hg:=Pg (w:=wh) g0 t (.int .u64 z);replace kf:=Dc kf hg;replace aa:=yc aa hg;replace kr:=kr.set_ t (.int .u64 z);rw [Xf.out] at kr;clear hg f2 c2;generalize wh.setCell _ _=we at kf kr aa |-;refine Uf rfl ?_;have cf:=kf.cell;go_wp2_with fail
   refine (fo.out _).mono ?_;rintro e w9 ⟨rfl,Zi⟩;replace kf:=ea kf Zi;replace kr:=ea kr Zi;replace aa:=ja aa Zi;clear Zi cf;go_wp2
   go_roundw
   case rel=>exact ⟨i+1,np,by omega,by go_num,rfl,HNP.out,kf,kr,aa⟩
   case measure=>simp [intOf];omega
  ·obtain rfl:i=l.length:=by omega
   have cf:=kf.cell;go_wp2_with fail
   refine (Bk.out g0 _ kr).mono ?_;rintro e w7 ⟨rfl,du,hg7⟩;replace aa:=yc aa hg7;go_wp2
   go_ret2
   exact ⟨g0,rfl,by omega,du,aa⟩
def uh (p b:Nat) (l:List Nat):Nat -> Nat -> Nat
 | 0=>fun _=>0
 | i+1 =>
  let v:=Pe (uh p b l i) i ((uh p b l i i+xg p (l.getD i 0))%p)
  Pe v (b+i) ((v (b+i)+l.getD i 0)%p)
theorem sI {L:Va} (h:Vc L):Ss L.p L.block /\ ∃ j,L.block=2^j:=by
 obtain ⟨j,hj⟩:=OQ ⟨L.block,by have:=h.b2;omega⟩ (by show 1 <= L.block;have:=h.b1;omega) h.bj
 simp only at hj;exact ⟨⟨by have:=h.b1;omega,by have:=h.b2;omega,⟨_,hj⟩,h.bd⟩,_,hj⟩
theorem LK (L:Va) (A:Option Addr) (m c:Nat) (l:List Nat) (w:World) (hL:Vc L) (hl:RWd w [.slice A m c] l) (hm:m <= 65536) :
  Calls Tryz.prog 170 #[.agg (Ua L), .slice A m c] w fun e w'=>∃ g,e= .returned (.slice (some ⟨g,0,none⟩) (L.block+m) (L.block+m)) /\ w.heap.size <= g /\ Blk w' g 22 (Fa (L.block+m) (uh L.p L.block l m)) /\ Below w.heap.size w w':=by
 have hp:=hL.p;have h1:=hL.b1;have h2:=hL.b2;have HA:=zH (fun a b w=>Wi L.p a b w hp)
 have HS:=zH (fun a b w=>LA L.p a b w hp)
 obtain ⟨rfl,-,-,-,za⟩:=zb hl;obtain ⟨n,hn⟩:=zEX (L.block+l.length);rw [<- hn];have en:(L.block:Int)+(l.length:Int)=(n:Int):=by omega
 have en2:=zd n;have mk:=Fp n (by omega)
 have gb0:(0:Int) <= (L.block:Int):=by omega
 have gb:(L.block:Int) <= 256:=by omega
 have gl:(l.length:Int) <= 65536:=by omega
 have Lf:=zH hn;clear hL hl hp h1 hn;unfold Ua fv at *;obtain ⟨kl,kf,aa,-⟩:=ah w 68 175 #[.int .u64 L.p, .int .i64 L.block, .int .i64 L.queries, .int .i64 L.k, .int .i64 L.n, .int .i64 L.secret, .int .i64 L.rows, .int .i64 L.a, .int .i64 L.b, .int .i64 L.b, .int .i64 L.b] #[.int .u64 L.p];have hmax:max (0:Int) (L.block:Int)=(L.block:Int):=Int.max_eq_right gb0;go_enter Tryz.func170,Tryz.ntmps170
 go_upto_region 2 with fail
 generalize (w.alloc _).alloc _=w0 at kl kf aa |-;have cl:=kl.cell;go_wp2_with fail
 have kr:=Blk.new w0 22 (Fa n fun _=>0)
 have ia:=(Below.refl w0.heap.size w0).alloc zR (.cells (Fa n fun _=>0) 22)
 have Ht:w.heap.size+1<w0.heap.size:=kf.lt;replace kl:=ea kl ia;replace kf:=ea kf ia;replace aa:=ja aa ia;clear ia mk cl;generalize w0.alloc _=w5 at kl kf kr aa |-;generalize w0.heap.size=g0 at kr Ht |-;go_loopw [21] (fun y wr=>∃ i:Nat,i <= l.length /\ y= .int .i64 i /\ Blk wr w.heap.size 68 #[.int .u64 L.p, .int .i64 L.block, .int .i64 L.queries, .int .i64 L.k, .int .i64 L.n, .int .i64 L.secret, .int .i64 L.rows, .int .i64 L.a, .int .i64 L.b, .int .i64 L.b, .int .i64 L.b] /\ Blk wr (w.heap.size+1) 175 #[.int .u64 L.p] /\ Blk wr g0 22 (Fa n (uh L.p L.block l i)) /\ Below w.heap.size w wr) (fun y _=>l.length-(intOf y).toNat)
 case atStart=>exact ⟨0,Nat.zero_le _,rfl,kl,kf,kr,aa⟩
 case round =>
  clear kl kf kr aa;obtain ⟨i,hi,rfl,kl,kf,kr,aa⟩:=hrel;by_cases Zq:i<l.length
  ·have q1:(0:Int) <= (i:Int):=by omega
   have q2:(i:Int)<(l.length:Int):=by omega
   obtain ⟨b,q,rfl,Za,hc⟩:=Ye (za.below aa) Zq;obtain ⟨y,hy⟩:=zEX (l.getD i 0);obtain ⟨t,ht⟩:=zEX (L.block+i);obtain ⟨V,hV⟩:=zEX (uh L.p L.block l i);obtain ⟨u,hu⟩:=zEX (V i);obtain ⟨z1,Zb⟩:=zEX ((u+xg L.p y)%L.p);obtain ⟨V2,hV2⟩:=zEX (Pe V i z1);obtain ⟨u2,Xt⟩:=zEX (V2 t);obtain ⟨z2,td⟩:=zEX ((u2+y)%L.p);have Pb:i<n:=by have:=Lf.out;omega
   have Ql:t<n:=by have:=Lf.out;omega
   have e1:(L.block:Int)+(i:Int)=(t:Int):=by omega
   have e2:=zd t;have e3:(t:Int)<(n:Int):=by omega
   have e4:(i:Int)<(n:Int):=by omega
   have e5:(0:Int) <= (t:Int):=by omega
   have Qu:=zH (show (Fa n V).setIfInBounds i (.int .u64 z1)=Fa n V2 by rw [Tm,hV2])
   have CC:=zH (show (Fa n V2).setIfInBounds t (.int .u64 z2)=Fa n (uh L.p L.block l (i+1)) by rw [Tm,td,Xt,hV2,Zb,hu,hV,hy,ht];rfl)
   have Bg:=zH (fun w=>by have:=HS.out u y w;rw [<- Zb] at this;exact this)
   have ni:=zH (fun w=>by have:=HA.out u2 y w;rw [<- td] at this;exact this)
   rw [<- hV] at kr;have cr:=kr.cell i;rw [Fe _ Pb,<- hu] at cr;rw [<- hy] at hc;have HU:=zH hu;have HU2:=zH Xt;clear hy ht hV hu Zb hV2 Xt td;have cf:=kf.cell;have lf:=kf.lt;have lr:=kr.lt;go_upto_region 6 with fail
   refine xd (Bb) (pa) [10] [10] [0,1,2,3,4,5,6,7,8,9,10] (by kernel_rfl) (by kernel_rfl) ?_
   refine yd (pa) ?_;intro Wc da;refine Qb ?_;refine Jb (pa) rfl rfl rfl rfl (fun _ _ _ h=>h) (fun _=>by go_simp <;> rfl) (fun w' hR=>Bg.out _) ?_
   simp only [Act.put,zLa,zLb,zLc];refine Qb ?_;refine Hf rfl rfl rfl rfl ?_;intro wh xb;replace da:=(pa).trans _ _ _ da xb;have rb:=ja (Below.refl wr.heap.size wr).drew da;replace kl:=ea kl rb;replace kf:=ea kf rb;replace kr:=ea kr rb;replace aa:=ja aa rb;clear rb da xb cf lf lr cr hc;have c2:=kr.cell i;rw [Fe _ Pb,<- HU.out] at c2;have f2:=kr.frozen;go_simp;refine ⟨fun h=>Bool.noConfusion h,?_⟩
   have hg:=Pg (w:=wh) g0 i (.int .u64 z1);replace kl:=Dc kl hg;replace kf:=Dc kf hg;replace aa:=yc aa hg;replace kr:=kr.set_ i (.int .u64 z1);rw [Qu.out] at kr;clear hg f2 c2;generalize wh.setCell _ _=we at kl kf kr aa |-;refine Uf rfl ?_;have cr:=kr.cell t;rw [Fe _ Ql,<- HU2.out] at cr;have cl:=kl.cell;have ll:=kl.lt;have cf:=kf.cell;have lf:=kf.lt;have lr:=kr.lt;go_upto_region 7 with fail
   refine xd (Bb) (pa) [16] [16] [0,1,2,3,4,5,6,7,8,9,10,11,12,13,14,15,16] (by kernel_rfl) (by kernel_rfl) ?_
   refine yd (pa) ?_;intro Wc da;refine Qb ?_;refine Jb (pa) rfl rfl rfl rfl (fun _ _ _ h=>h) (fun _=>by go_simp <;> rfl) (fun w' hR=>ni.out _) ?_
   simp only [Act.put,zLa,zLb,zLc];refine Qb ?_;refine Hf rfl rfl rfl rfl ?_;intro wh xb;replace da:=(pa).trans _ _ _ da xb;have rb:=ja (Below.refl we.heap.size we).drew da;replace kl:=ea kl rb;replace kf:=ea kf rb;replace kr:=ea kr rb;replace aa:=ja aa rb;clear rb da xb cf lf lr cr cl ll;have c2:=kr.cell t;rw [Fe _ Ql,<- HU2.out] at c2;have f2:=kr.frozen;go_simp;refine ⟨fun h=>Bool.noConfusion h,?_⟩
   have hg:=Pg (w:=wh) g0 t (.int .u64 z2);replace kl:=Dc kl hg;replace kf:=Dc kf hg;replace aa:=yc aa hg;replace kr:=kr.set_ t (.int .u64 z2);rw [CC.out] at kr;clear hg f2 c2;generalize wh.setCell _ _=wi at kl kf kr aa |-;refine Uf rfl ?_;go_wp2
   go_roundw
   case rel=>exact ⟨i+1,by omega,by go_num,kl,kf,kr,aa⟩
   case measure=>simp [intOf];omega
  ·obtain rfl:l.length=i:=by omega
   go_wp2;go_ret
   exact ⟨g0,rfl,by omega,kr,aa⟩
def JB (p nb:Nat) (A B:Nat -> Nat):Nat -> Nat:=fun k=>if k<nb then (A k+B k)%p else A k
theorem FO (L:Va) (g gb m nb:Nat) (a b:Nat -> Nat) (w:World) (hL:Vc L) (ka:Blk w g 22 (Fa m a)) (kb:Blk w gb 22 (Fa nb b)) (hg:g≠gb) (hm:m <= 65536) (Ml:nb <= m) :
  Calls Tryz.prog 171 #[.agg (Ua L), .slice (some ⟨g,0,none⟩) m m, .slice (some ⟨gb,0,none⟩) nb nb] w fun e w'=>e= .returned (.slice (some ⟨g,0,none⟩) m m) /\ Blk w' g 22 (Fa m (JB L.p nb a b)) /\ w.grownBy w' (some g):=by
 have hp:=hL.p;have HA:=zH (fun a b w=>Wi L.p a b w hp)
 have hmin:min (m:Int) (nb:Int)=(nb:Int):=Int.min_eq_right (by omega)
 have gl:(m:Int) <= 65536:=by omega
 have gl2:(nb:Int) <= 65536:=by omega
 have lg:=ka.lt;have lgb:=kb.lt;clear hL hp;unfold Ua fv at *;obtain ⟨kl,kf,aa,-⟩:=ah w 68 175 #[.int .u64 L.p, .int .i64 L.block, .int .i64 L.queries, .int .i64 L.k, .int .i64 L.n, .int .i64 L.secret, .int .i64 L.rows, .int .i64 L.a, .int .i64 L.b, .int .i64 L.b, .int .i64 L.b] #[.int .u64 L.p];have g1:w.heap.size+1≠g:=by omega
 replace ka:=ea ka aa;replace kb:=ea kb aa;have Da:=Uh (Lc w (some g)) aa zR;clear aa kl;go_enter Tryz.func171,Tryz.ntmps171
 go_upto_region 2 with fail
 generalize (w.alloc _).alloc _=w0 at kf ka kb Da |-;rw [show Fa m a=Fa m (fun k=>if k<0 then (a k+b k)%L.p else a k) from ui fun i _=>by rw [if_neg (by omega)]] at ka
 go_wp2_with fail
 go_loopw [17] (fun y wr=>∃ i:Nat,i <= nb /\ y= .int .i64 i /\ Blk wr (w.heap.size+1) 175 #[.int .u64 L.p] /\ Blk wr g 22 (Fa m (fun k=>if k<i then (a k+b k)%L.p else a k)) /\ Blk wr gb 22 (Fa nb b) /\ w.grownBy wr (some g)) (fun y _=>nb-(intOf y).toNat)
 case atStart=>exact ⟨0,Nat.zero_le _,rfl,kf,ka,kb,Da⟩
 case round =>
  clear kf ka kb Da;obtain ⟨i,hi,rfl,kf,ka,kb,Da⟩:=hrel;by_cases Zq:i<nb
  ·have q1:(0:Int) <= (i:Int):=by omega
   have q2:(i:Int)<(nb:Int):=by omega
   have q3:(i:Int)<(m:Int):=by omega
   have Wq:i<m:=by omega
   obtain ⟨x,hx⟩:=zEX (a i);obtain ⟨y,hy⟩:=zEX (b i);obtain ⟨z,hz⟩:=zEX ((x+y)%L.p);have Xf:=zH (show (Fa m (fun k=>if k<i then (a k+b k)%L.p else a k)).setIfInBounds i (.int .u64 z)=Fa m (fun k=>if k<i+1 then (a k+b k)%L.p else a k) from zu (F:=fun k=>(a k+b k)%L.p) (G:=a) (by rw [hz,hx,hy]))
   have HC:=zH (fun w=>by have:=HA.out x y w;rw [<- hz] at this;exact this)
   have HX:=zH (show (Fa m (fun k=>if k<i then (a k+b k)%L.p else a k))[i]?=some (.int .u64 x) by rw [Fe _ Wq,hx];simp)
   have ca:=ka.cell i;rw [HX.out] at ca;have cb:=kb.cell i;rw [Fe _ Zq,<- hy] at cb;clear hx hy hz;have cf:=kf.cell;have lf:=kf.lt;have la:=ka.lt;have lb:=kb.lt;go_upto_region 5 with fail
   refine xd (Bb) (pa) [13] [13] [0,1,2,3,4,5,6,7,8,9,10,11,12,13] (by kernel_rfl) (by kernel_rfl) ?_
   refine yd (pa) ?_;intro Wc da;refine Qb ?_;refine Jb (pa) rfl rfl rfl rfl (fun _ _ _ h=>h) (fun _=>by go_simp <;> rfl) (fun w' hR=>HC.out _) ?_
   simp only [Act.put,zLa,zLb,zLc];refine Qb ?_;refine Hf rfl rfl rfl rfl ?_;intro wh xb;replace da:=(pa).trans _ _ _ da xb;have rb:=ja (Below.refl wr.heap.size wr).drew da;have Uq:=Uh Da rb Da.size;replace kf:=ea kf rb;replace ka:=ea ka rb;replace kb:=ea kb rb;clear rb da xb cf lf la lb ca cb Da;have c2:=ka.cell i;rw [HX.out] at c2;have f2:=ka.frozen;go_simp;refine ⟨fun h=>Bool.noConfusion h,?_⟩
   have Ge:=Pg (w:=wh) g i (.int .u64 z);replace kf:=Dc kf Ge;replace kb:=Dc kb Ge;replace ka:=ka.set_ i (.int .u64 z);rw [Xf.out] at ka;have Da:=Iq Uq Ge (fun _ e=>.inl e)
   clear Ge f2 c2 Uq;generalize wh.setCell _ _=we at kf ka kb Da |-;refine Uf rfl ?_;go_wp2
   go_roundw
   case rel=>exact ⟨i+1,by omega,by go_num,kf,ka,kb,Da⟩
   case measure=>simp [intOf];omega
  ·obtain rfl:nb=i:=by omega
   go_wp2;go_ret
   exact ⟨rfl,ka,Da⟩
def Nn (L:Va) (msg Hi:List Nat):Nat -> Nat:=JB L.p L.block (uh L.p L.block Hi Hi.length) (Bn L.p L.block L.block.log2 msg)
theorem PI (L:Va) (A B:Option Addr) (n c m d:Nat) (msg Hi:List Nat) (w:World) (hL:Vc L) (hl:RWd w [.slice A n c] msg) (hk:RWd w [.slice B m d] Hi) (hn:n=L.block) (hm:m <= 60000) :
  Calls Tryz.prog 98 #[.agg (Ua L), .slice A n c, .slice B m d] w fun e w'=>∃ g,e= .returned (.slice (some ⟨g,0,none⟩) (L.block+m) (L.block+m)) /\ w.heap.size <= g /\ Blk w' g 22 (Fa (L.block+m) (Nn L msg Hi)) /\ Below w.heap.size w w':=by
 have xa:=hL.b2;obtain ⟨hlen,j,hj⟩:=sI hL;have bW:L.block.log2=j:=by rw [hj];exact Nat.log2_two_pow
 have Bh:=(zb hk).1;subst hn;have HI:=zH (fun w' (hb:Below w.heap.size w w')=>EF L.p A L.block c j msg w' hL.p (ib hb hl) hlen hj)
 have HV:=zH (fun w' (hb:Below w.heap.size w w')=>LK L B m d Hi w' hL (ib hb hk) (by omega))
 have HA:=zH (fun g gb a b w ka kb hg=>FO L g gb (L.block+m) L.block a b w hL ka kb hg (by omega) (by omega))
 have HR:=zH (show Nn L msg Hi=JB L.p L.block (uh L.p L.block Hi m) (Bn L.p L.block j msg) by unfold Nn;rw [bW,Bh])
 rw [HR.out];clear bW Bh hlen hj hL hl hk;unfold Ua fv at *;have kl:=Blk.new w 68 #[.int .u64 L.p, .int .i64 L.block, .int .i64 L.queries, .int .i64 L.k, .int .i64 L.n, .int .i64 L.secret, .int .i64 L.rows, .int .i64 L.a, .int .i64 L.b, .int .i64 L.b, .int .i64 L.b];have aa:Below w.heap.size w (w.alloc (.cells #[.int .u64 L.p, .int .i64 L.block, .int .i64 L.queries, .int .i64 L.k, .int .i64 L.n, .int .i64 L.secret, .int .i64 L.rows, .int .i64 L.a, .int .i64 L.b, .int .i64 L.b, .int .i64 L.b] 68)):=(Below.refl _ _).alloc zR _;generalize uh L.p L.block Hi m=V at *;generalize Bn L.p L.block j msg=I at *;obtain ⟨t,ht⟩:=zEX (L.block+m);rw [<- ht] at HV HA |-;clear ht HR;go_enter Tryz.func98,Tryz.ntmps98
 go_wp2_with fail
 generalize w.alloc _=w0 at kl aa |-;refine (HI.out _ aa).mono ?_;rintro e w1 ⟨g1,rfl,Af,k1,ya⟩;have Ot:=kl.lt;replace kl:=ea kl ya;replace aa:=ja aa ya;clear ya;have cl:=kl.cell;go_wp2_with fail
 refine (HV.out _ aa).mono ?_;rintro e w2 ⟨g2,rfl,Lk,k2,Ga⟩;have Jl:=k1.lt;replace kl:=ea kl Ga;replace k1:=ea k1 Ga;replace aa:=ja aa Ga;clear Ga cl;have cl:=kl.cell;have Ka:g2≠g1:=by omega
 go_wp2_with fail
 refine (HA.out g2 g1 V I _ k2 k1 Ka).mono ?_;rintro e w3 ⟨rfl,k3,Ge⟩;have aw:w.heap.size <= g2:=by have:=aa.size;omega
 replace aa:=aa.trans (Nh Ge aa.size aw);go_wp2;go_ret
 exact ⟨g2,rfl,aw,k3,aa⟩
theorem OI (L:Va) (v0 v1 v2 v4:Value) (A:Option Addr) (n c:Nat) (l:List Nat) (w:World) (hL:Vc L) (h0:slc v0) (h1:slc v1) (h2:slc v2) (h4:slc v4) (hl:RWd w [.slice A n c] l) (hn:n <= 60000) :
  Calls Tryz.prog 101 #[.agg (Ua L), .agg #[v0,v1,v2, .slice A n c,v4]] w fun e w'=>∃ g,e= .returned (.slice (some ⟨g,0,none⟩) (L.block+n) (L.block+n)) /\ w.heap.size <= g /\ Blk w' g 22 (Fa (L.block+n) (uh L.p L.block l n)) /\ Below w.heap.size w w':=by
 have HV:=zH (fun w' (hb:Below w.heap.size w w')=>LK L A n c l w' hL (ib hb hl) (by omega))
 obtain ⟨A0,n0,c0,rfl⟩:=h0;obtain ⟨A1,n1,c1,rfl⟩:=h1;obtain ⟨A2,n2,c2,rfl⟩:=h2;obtain ⟨A4,n4,c4,rfl⟩:=h4;clear hL hl;generalize uh L.p L.block l n=V at *;obtain ⟨t,ht⟩:=zEX (L.block+n);rw [<- ht] at HV |-;clear ht;unfold Ua at *;obtain ⟨kl,kc,aa,-⟩:=ah w 68 43 #[.int .u64 L.p, .int .i64 L.block, .int .i64 L.queries, .int .i64 L.k, .int .i64 L.n, .int .i64 L.secret, .int .i64 L.rows, .int .i64 L.a, .int .i64 L.b, .int .i64 L.b, .int .i64 L.b] #[.slice A0 n0 c0, .slice A1 n1 c1, .slice A2 n2 c2, .slice A n c, .slice A4 n4 c4];go_enter Tryz.func101,Tryz.ntmps101
 go_wp2_with fail
 refine (HV.out _ aa).mono ?_;rintro e w1 ⟨g1,rfl,Af,k1,ya⟩;have hs:=aa.size;go_wp2;go_ret
 exact ⟨g1,rfl,by omega,k1,ja aa ya⟩
theorem TL (A:Option Addr) (n c:Nat) (l:List Nat) (w:World) (hl:RWd w [.slice A n c] l) (hn:n <= 60000) :
  Calls Tryz.prog 172 #[.slice A n c] w fun e w'=>∃ v,e= .returned v /\ w'.ownsRow w.heap.size 22 1 v n (Ca l) /\ Below w.heap.size w w':=by
 obtain ⟨rfl,h1,h2,oa,za⟩:=zb hl;clear hl;have Rt:=fun (w:World) (a:Option Addr) (n c:Nat)=>Lib.run_eql_slice_nil (P:=Tryz.prog) w 28 22 a n c 0 0 Tryz.underlying28
 cases A with
 | none =>
  have h0:l.length=0:=by
   rcases Nat.eq_zero_or_pos l.length with h | h
   ·exact h
   ·obtain ⟨ad,e,-⟩:=za.2 h
    cases e
  have hl0:l=[]:=List.eq_nil_of_length_eq_zero h0;subst hl0;clear za h0 oa;go_enter Tryz.func172,Tryz.ntmps172
  go_wp2_with fail
  go_ret
  exact ⟨_,rfl,⟨rfl, .inl ⟨rfl,rfl⟩⟩,Below.refl _ _⟩
 | some ad =>
  have gl:(l.length:Int) <= 60000:=by omega
  have ia:=(Below.refl w.heap.size w).alloc zR (.cells #[] 22);go_enter Tryz.func172,Tryz.ntmps172
  go_wp2_with (at_builtin;refine If rfl _ _ rfl Vi rfl (Tx w 22 zR) rfl (za.alloc _) (yg l) (by omega) (by simp) ?_)
  intro v' wn Ta Ha Ab;have hB:=mh (Tx w 22 zR) Ha (by simp)
  go_wp2;go_ret
  exact ⟨_,rfl,Ta,ia.trans hB⟩
def L5 (p b i:Nat):Nat:=if i=0 then p-1 else if i=b then 1 else 0
def jS (p b:Nat):List Nat:=(List.range (b+1)).map (L5 p b)
theorem LI (L:Va) (v0 v2 v3 v4:Value) (A:Option Addr) (n c:Nat) (l:List Nat) (w:World) (h0:slc v0) (h2:slc v2) (h3:slc v3) (h4:slc v4) (hl:RWd w [.slice A n c] l) (hn:n <= 60000) :
  Calls Tryz.prog 99 #[.agg (Ua L), .agg #[v0, .slice A n c,v2,v3,v4]] w fun e w'=>∃ v,e= .returned v /\ w'.ownsRow w.heap.size 22 1 v n (Ca l) /\ Below w.heap.size w w':=by
 have HV:=zH (fun w' (hb:Below w.heap.size w w')=>TL A n c l w' (ib hb hl) hn)
 obtain ⟨A0,n0,c0,rfl⟩:=h0;obtain ⟨A2,n2,c2,rfl⟩:=h2;obtain ⟨A3,n3,c3,rfl⟩:=h3;obtain ⟨A4,n4,c4,rfl⟩:=h4;clear hl;unfold Ua at *;obtain ⟨kl,kc,aa,-⟩:=ah w 68 43 #[.int .u64 L.p, .int .i64 L.block, .int .i64 L.queries, .int .i64 L.k, .int .i64 L.n, .int .i64 L.secret, .int .i64 L.rows, .int .i64 L.a, .int .i64 L.b, .int .i64 L.b, .int .i64 L.b] #[.slice A0 n0 c0, .slice A n c, .slice A2 n2 c2, .slice A3 n3 c3, .slice A4 n4 c4];go_enter Tryz.func99,Tryz.ntmps99
 go_wp2_with fail
 refine (HV.out _ aa).mono ?_;rintro e w1 ⟨v,rfl,ho,ya⟩;obtain ⟨A1,c1,rfl,-⟩:=Tb ho;go_wp2;go_ret
 exact ⟨_,rfl,mg ho aa.size,ja aa ya⟩
def iu (p b:Nat) (l:List Nat):Nat -> Nat
 | 0=>0
 | k+1=>(iu p b l k+xg p (l.getD ((k+1)*b-1) 0))%p
def Rk (L:Va) (l:List Nat):List Nat:=iu L.p L.block l (l.length / L.block) :: l
theorem NI (L:Va) (v0 v1 v3 v4:Value) (A:Option Addr) (n c:Nat) (l:List Nat) (w:World) (hL:Vc L) (h0:slc v0) (h1:slc v1) (h3:slc v3) (h4:slc v4) (hl:RWd w [.slice A n c] l) (hn:n <= 60000) :
  Calls Tryz.prog 100 #[.agg (Ua L), .agg #[v0,v1, .slice A n c,v3,v4]] w fun e w'=>∃ v,e= .returned v /\ w'.ownsRow w.heap.size 22 1 v (n+1) (Ca (Rk L l)) /\ Below w.heap.size w w':=by
 have hp:=hL.p;have ya:=hL.b1;have xa:=hL.b2;have HS:=zH (fun a b w=>LA L.p a b w hp)
 obtain ⟨rfl,Ec,lh,oa,za⟩:=zb hl;obtain ⟨A0,n0,c0,rfl⟩:=h0;obtain ⟨A1,n1,c1,rfl⟩:=h1;obtain ⟨A3,n3,c3,rfl⟩:=h3;obtain ⟨A4,n4,c4,rfl⟩:=h4;clear hl hL Ec lh hp;have gb:(L.block:Int) <= 256:=by omega
 have gb1:(2:Int) <= (L.block:Int):=by omega
 unfold Ua fv at *;obtain ⟨kl,kc,kf,aa,Ra⟩:=Bl w 68 43 175 #[.int .u64 L.p, .int .i64 L.block, .int .i64 L.queries, .int .i64 L.k, .int .i64 L.n, .int .i64 L.secret, .int .i64 L.rows, .int .i64 L.a, .int .i64 L.b, .int .i64 L.b, .int .i64 L.b] #[.slice A0 n0 c0, .slice A1 n1 c1, .slice A l.length c, .slice A3 n3 c3, .slice A4 n4 c4] #[.int .u64 L.p];go_enter Tryz.func100,Tryz.ntmps100
 go_upto_region 2 with fail
 generalize ((w.alloc _).alloc _).alloc _=w1 at kl kc kf aa Ra |-;have HZ:=zH Ra;clear Ra;have re:=za.below aa;have ph:=World.ownsRow_lit (base:=w1.heap.size) (e:=22) (size:=1) w1 #[.int .u64 0] 1 zR (by simp [maxLen]) rfl
 have ia:=(Below.refl w1.heap.size w1).alloc zR (.cells #[.int .u64 0] 22);have cc:=kc.cell;have lc:=kc.lt;go_upto_region 3 with (at_builtin;refine If rfl _ _ rfl Vi rfl ph rfl (re.below ia) (yg l) (by omega) (by simp) ?_;intro v' w2 ma Ha Ab)
 have hB:=mh ph Ha (by simp)
 replace hB:=ia.trans hB;clear ph Ha Ab ia re cc lc;replace kl:=ea kl hB;replace kf:=ea kf hB;replace aa:=ja aa hB;clear hB kc;obtain ⟨g,cap,rfl,Af,-⟩:=World.ownsRow.form ma (by omega)
 have Lk:w.heap.size+3 <= g:=by have:=HZ.out;omega
 have e0:(1+l.length)=l.length+1:=Nat.add_comm _ _;rw [e0] at ma |-;replace ma:w2.ownsRow w.heap.size 22 1 (.slice (some ⟨g,0,none⟩) (l.length+1) cap) (l.length+1) (Ca (0 :: l)):=mg ma (by have:=HZ.out;omega)
 obtain ⟨n,jg⟩:=zEX (l.length+1);rw [<- jg] at ma |-;have Lf:=zH jg;clear jg e0 Af HZ;have gn:(n:Int) <= 60001:=by have:=Lf.out;omega
 have cl:=kl.cell;go_wp2_with fail
 clear cl;go_loopw [7] (fun y wr=>∃ k i:Nat,y= .int .i64 i /\ Hid (i=(k+1)*L.block /\ k*L.block <= l.length) /\ i <= 61000 /\ 1 <= i /\ Blk wr w.heap.size 68 #[.int .u64 L.p, .int .i64 L.block, .int .i64 L.queries, .int .i64 L.k, .int .i64 L.n, .int .i64 L.secret, .int .i64 L.rows, .int .i64 L.a, .int .i64 L.b, .int .i64 L.b, .int .i64 L.b] /\ Blk wr (w.heap.size+1+1) 175 #[.int .u64 L.p] /\ wr.ownsRow w.heap.size 22 1 (.slice (some ⟨g,0,none⟩) n cap) n (Ca (iu L.p L.block l k :: l)) /\ Below w.heap.size w wr) (fun y _=>61000-(intOf y).toNat)
 case atStart=>exact ⟨0,L.block,rfl,⟨by omega,by omega⟩,by omega,by omega,kl,kf,ma,aa⟩
 case round =>
  clear kl kf ma aa;obtain ⟨k,i,rfl,HK,Di,pq,kl,kf,ma,aa⟩:=hrel;have q0:(0:Int)<(i:Int):=by omega
  have q9:(i:Int) <= 61000:=by omega
  by_cases Zq:i<n
  ·have q1:(i:Int)<(n:Int):=by omega
   have q2:(0:Int) <= (i:Int):=by omega
   have q3:(0:Int)<(n:Int):=by omega
   have q5:0<n:=by omega
   obtain ⟨x,hx⟩:=zEX (iu L.p L.block l k);obtain ⟨y,hy⟩:=zEX (l.getD (i-1) 0);obtain ⟨z,hz⟩:=zEX ((x+xg L.p y)%L.p);obtain ⟨t,ht⟩:=zEX (i+L.block);have e1:(i:Int)+(L.block:Int)=(t:Int):=by omega
   have e2:=zd t;have Xf:=zH (show (Ca (x :: l)).set 0 (.int .u64 z)=Ca (iu L.p L.block l (k+1) :: l) by
    rw [hz,hx,hy,HK.out.1];rfl)
   have HT:Hid (t=(k+1+1)*L.block /\ (k+1)*L.block <= l.length):=by
    have h:=HK.out;have h2:=Lf.out;have h3:(k+1+1)*L.block=(k+1)*L.block+L.block:=Nat.succ_mul _ _;exact ⟨by omega,by omega⟩
   have ht3:t <= 61000:=by have:=Lf.out;omega
   have ht4:1 <= t:=by omega
   have HC:=zH (fun w=>by have:=HS.out x y w;rw [<- hz] at this;exact this)
   rw [<- hx] at ma;have c0:wr.cell? ⟨g,0,none⟩=some (.int .u64 x):=by rw [ma.cellAt 0 (by omega)];rfl
   have ci:wr.cell? ⟨g,i,none⟩=some (.int .u64 y):=by
    rw [ma.cellAt i (by omega),jv (by simp;have:=Lf.out;omega)]
    have:(x :: l)[i]'(by simp;have:=Lf.out;omega)=y:=by
     rw [hy,List.getElem_cons,dif_neg (by omega),List.getD_eq_getElem?_getD,List.getElem?_eq_getElem (show i-1<l.length by have:=Lf.out;omega)]
     rfl
    rw [this]
   clear hx hy hz ht HK;have cf:=kf.cell;have lf:=kf.lt;have lg:g<wr.heap.size:=World.block_lt_of_cell? _ _ c0;go_upto_region 6 with fail
   refine xd (Bb) (pa) [11] [11] [0,1,2,3,4,5,6,7,8,9,10,11] (by kernel_rfl) (by kernel_rfl) ?_
   refine yd (pa) ?_;intro Wc da;refine Qb ?_;refine Jb (pa) rfl rfl rfl rfl (fun _ _ _ h=>h) (fun _=>by go_simp <;> rfl) (fun w' hR=>HC.out _) ?_
   simp only [Act.put,zLa,zLb,zLc];refine Qb ?_;refine Hf rfl rfl rfl rfl ?_;intro wh xb;replace da:=(pa).trans _ _ _ da xb;have rb:=ja (Below.refl wr.heap.size wr).drew da;replace kl:=ea kl rb;replace kf:=ea kf rb;replace ma:=db ma rb zR;replace aa:=ja aa rb;clear rb da xb cf lf lg c0 ci;have c2:wh.cell? ⟨g,0,none⟩=some (.int .u64 x):=by rw [ma.cellAt 0 (by omega)];rfl
   have f2:=ma.frozenAt;go_simp;refine ⟨fun h=>Bool.noConfusion h,?_⟩
   obtain ⟨Wj,hg⟩:=ma.stored 0 (.int .u64 z);rw [Xf.out] at Wj;replace kl:=Dc kl hg;replace kf:=Dc kf hg;replace aa:=yc aa hg;clear hg f2 c2 ma;generalize wh.setCell _ _=we at kl kf Wj aa |-;refine Uf rfl ?_;have cl:=kl.cell;go_wp2_with fail
   go_roundw
   case rel=>exact ⟨k+1,t,by go_num,HT.out,ht3,ht4,kl,kf,Wj,aa⟩
   case measure=>simp [intOf];omega
  ·have q1:¬((i:Int)<(n:Int)):=by omega
   have HE:=zH (show iu L.p L.block l k=iu L.p L.block l (l.length / L.block) by
    have h:=HK.out;have h2:=Lf.out;have:l.length / L.block=k:=by
     rw [Nat.div_eq_iff (by omega)]
     have h3:(k+1)*L.block=k*L.block+L.block:=Nat.succ_mul _ _;omega
    rw [this])
   go_wp2;go_ret
   rw [HE.out] at ma;exact ⟨_,rfl,by rw [<- Lf.out];exact ma,aa⟩
def af (p s:Nat) (r:List Nat) (m:Nat):List Nat:=(List.range m).map (L2 p s r)
def Tn (L:Va) (s n:Nat):List (List Nat):=(List.range n).map fun k=>af L.p s [0,k] L.queries
theorem rT (p s:Nat) (r:List Nat) (m:Nat) (hp:0<p) (Lb:p<18446744073709551616):∀ x∈af p s r m,x<18446744073709551616:=fun x hx=>by
 obtain ⟨k,_,rfl⟩:=List.mem_map.1 hx;exact Nat.lt_trans (Nat.mod_lt _ hp) Lb
theorem YN:(Tryz.prog.info? 28).map (fun i=>(i.zero,i.size,i.bytes))=some (some (.slice none 0 0),1,24):=by kernel_rfl
theorem Jo:Gj Tryz.prog 41 28 1 24 (.slice none 0 0):=by
 obtain ⟨i0,hi,Ff,Zb,td⟩:=info_parts YN;exact ⟨Tryz.underlying41,⟨i0,hi,Ff,Zb,td⟩,rfl,by omega⟩
theorem ES {w:World} {g:Nat} {t:TypeId} {y0 y1 y2 y3 y4:Value} (k:Blk w g t #[y0,y1,y2,y3,y4]) (x0 x1 x2 x3 x4:Value):Blk (((((w.setCell ⟨g,0,none⟩ x0).setCell ⟨g,1,none⟩ x1).setCell ⟨g,2,none⟩ x2).setCell ⟨g,3,none⟩ x3).setCell ⟨g,4,none⟩ x4) g t #[x0,x1,x2,x3,x4]:=by
 have h:=(((((k.set_ 0 x0).set_ 1 x1).set_ 2 x2).set_ 3 x3).set_ 4 x4)
 simpa using h
theorem IS {w:World} {g:Nat} (x0 x1 x2 x3 x4:Value):w.grownBy (((((w.setCell ⟨g,0,none⟩ x0).setCell ⟨g,1,none⟩ x1).setCell ⟨g,2,none⟩ x2).setCell ⟨g,3,none⟩ x3).setCell ⟨g,4,none⟩ x4) (some g):=by
 iterate 5 refine Yd ?_ (.inl rfl) _
 exact Lc w _
def Xd (n:Nat) (f:Nat -> Value):Array Value:=((List.range n).map f).toArray
theorem rD {n k:Nat} (f:Nat -> Value) (h:k<n):(Xd n f)[k]?=some (f k):=by simp [Xd,h]
theorem sD {n:Nat} {f g:Nat -> Value} (h:∀ i,i<n -> f i=g i):Xd n f=Xd n g:=by
 unfold Xd
 congr 1
 exact List.map_congr_left fun i hi=>h i (List.mem_range.1 hi)
theorem TM {n k:Nat} (f:Nat -> Value) (v:Value):(Xd n f).setIfInBounds k v=Xd n (fun i=>if i=k then v else f i):=by
 apply Array.ext
 ·simp [Xd]
 ·intro i h1 h2
  simp [Xd] at h1 h2
  rw [Array.getElem_setIfInBounds (by simpa [Xd] using h1)]
  simp only [Xd];split
  ·subst_vars;simp
  ·rename_i Ka
   simp [show ¬i=k from fun e=>Ka e.symm]
theorem RI (n:Nat):madeCells (Value.slice none 0 0).cells (n*1)=Xd n fun _=>.slice none 0 0:=by
 apply Array.toList_inj.1
 rw [show (Value.slice none 0 0).cells=#[.slice none 0 0] from rfl,toList_madeCells_one]
 exact List.ext_getElem (by simp [Xd]) fun i h1 h2=>by simp [Xd]
theorem TI (n:Nat) (hn:n <= 1000000) (w:World) :
  (Instr.makeSlice 41 (.int .i64 n) (.int .i64 n)).run Tryz.prog w= .ok (.slice (some ⟨w.heap.size,0,none⟩) n n) (w.alloc (.cells (Xd n fun _=>.slice none 0 0) 28)):=by
 have:=vB (P:=Tryz.prog) Jo n (by omega) (by omega) w
 rw [RI] at this;exact this
theorem dC {p b:Nat} (hp:0<p) (l:List Nat):∀ i k,uh p b l i k<p
 | 0,_=>hp
 | i+1,k=>by
  simp only [uh,Pe];split
  ·exact Nat.mod_lt _ hp
  ·split
   ·exact Nat.mod_lt _ hp
   ·exact dC hp l i k
theorem WI {L:Va} (hp:0<L.p) (msg Hi:List Nat) (k:Nat):Nn L msg Hi k<L.p:=by
 unfold Nn JB;split
 ·exact Nat.mod_lt _ hp
 ·exact dC hp _ _ _
theorem GI {p b:Nat} (hp:0<p) (l:List Nat):∀ k,iu p b l k<p
 | 0=>hp
 | _+1=>Nat.mod_lt _ hp
def Wx (L:Va) (m r:List (List Nat)) (k:Nat):List Nat:=(List.range (L.block+(r.getD k []).length)).map (Nn L (m.getD k []) (r.getD k []))
def Nw (L:Va) (m r:List (List Nat)) (n:Nat):List (List Nat):=(List.range n).map (Wx L m r)
theorem IQ (L:Va) (m r:List (List Nat)) (k:Nat):Nw L m r k++[Wx L m r k]=Nw L m r (k+1):=by simp [Nw,List.range_succ]
def NB (L:Va) (q:List Nat):List Nat:=(List.range (L.block+q.length)).map (uh L.p L.block q q.length)
def Ow (L:Va) (m r:List (List Nat)) (c l q:List Nat):List (List Nat):=Nw L m r m.length++[c,Rk L l,NB L q]
def CA (L:Va) (ps:List (List Nat)) (i j:Nat):Nat:=Zf L.p L.n L.n.log2 (ps.getD j []) (Yc L.p).1 i
theorem sN {N:Nat} {w w':World} {v v' x y z:Value} {cs:List Value} {l:List (List Nat)} {a b c:List Nat} (h:Ag N w v cs l) (hx:df N v.ownBlock w x a) (hy:df N v.ownBlock w y b) (hz:df N v.ownBlock w z c)
  (hg:w.grownBy w' v.ownBlock) (hv:v'.ownBlock=v.ownBlock \/ v'.ownBlock=some w.heap.size):Ag N w' v' (cs++[x,y,z]) (l++[a,b,c]):=by
 have key:∀ {z:Value} {m:List Nat},df N v.ownBlock w z m -> df N v'.ownBlock w' z m:=fun {z m} hz u hu=>by
  refine hz u fun b h1 h2 h3=>?_
  refine (hu b h1 (by have:=hg.size;omega) ?_).trans (hg.block b h2 (fun e=>h3 e))
  rcases hv with e | e
  ·rw [e];exact h3
  ·rw [e];intro e2;have:=Option.some.inj e2;omega
 refine ⟨by simp [h.1],fun i h1 h2=>?_⟩
 by_cases hi:i<cs.length
 ·rw [List.getElem_append_left hi,List.getElem_append_left (by have:=h.1;omega)]
  exact key (h.2 i hi _)
 ·have e0:=h.1
  have h1':i<cs.length+3:=by simpa using h1
  rw [List.getElem_append_right (by omega),List.getElem_append_right (by omega)]
  have:i-cs.length=0 \/ i-cs.length=1 \/ i-cs.length=2:=by omega
  have e1:i-l.length=i-cs.length:=by omega
  simp only [e1];rcases this with e | e | e <;> simp only [e]
  ·exact key hx
  ·exact key hy
  ·exact key hz
theorem LR (w:World) (x y z:Value) (t:TypeId):Rd (w.alloc (.cells #[x,y,z] t)) 1 (some ⟨w.heap.size,0,none⟩) 3 [x,y,z]:=by
 refine ⟨rfl,fun _=>⟨_,rfl,fun j u hj=>?_⟩⟩
 rw [Kj,Nat.zero_add,(Blk.new w t #[x,y,z]).cell]
 simpa using hj
theorem SB {N g n:Nat} {gb:Option Nat} {w:World} {t:TypeId} {f:Nat -> Nat} (h:Blk w g t (Fa n f)) (hf:∀ i,i<n -> f i<18446744073709551616) (hn:n <= maxLen) (hN:N <= g) (hg:some g≠gb):df N gb w (.slice (some ⟨g,0,none⟩) n n) ((List.range n).map f):=by
 rw [Dq] at h;exact sS h (by simp) (fun x hx=>by
  obtain ⟨i,hi,rfl⟩:=List.mem_map.1 hx;exact hf i (List.mem_range.1 hi)) hn hN hg
theorem tI {L:Va} (h:Vc L):Ss L.p L.n /\ L.n=2^L.n.log2:=by
 obtain ⟨j,hj⟩:=h.n;refine ⟨⟨by have:=h.nk;have:=h.k;have:=h.b1;omega,by have:=h.n2;omega,⟨j,hj⟩,h.nd⟩,?_⟩
 rw [hj,Nat.log2_two_pow]
theorem QM {p:Nat} (hp:0<p):∀ (j:Nat) (a:Nat -> Nat) (w k:Nat),(∀ i,a i<p) -> bh p j a w k<p
 | 0,_,_,k,h=>h k
 | j+1,a,w,k,_=>by
  simp only [bh];split <;> exact Nat.mod_lt _ hp
theorem mG {p n:Nat} (hp:0<p) (l:List Nat) (s:Nat):∀ i k,Ck p n l s i k<p
 | 0,_=>hp
 | i+1,k=>by
  simp only [Ck,Pe];split
  ·exact Nat.mod_lt _ hp
  ·exact mG hp l s i k
theorem DM {p:Nat} (hp:0<p) (n j:Nat) (l:List Nat) (s k:Nat):Zf p n j l s k<p:=QM hp _ _ _ _ (mG hp _ _ _)
theorem oN {p:Nat} (h:Db p=true):(Yc p).1%p≠0:=by
 rcases Hw h with rfl | rfl | rfl | rfl | rfl | rfl | rfl <;> decide
theorem JQ (L:Va) (m r:List (List Nat)) (c l q:List Nat):(Ow L m r c l q).length=m.length+3:=by simp [Ow,Nw]
theorem zCE {L:Va} {m r:List (List Nat)} {c l q:List Nat} (hb:L.block <= 256) (hr:∀ x∈r,x.length <= 2000) (h1:c.length <= 2000) (h2:l.length <= 2000) (h3:q.length <= 2000):∀ x∈Ow L m r c l q,x.length <= 8192:=by
 intro x hx;unfold Ow at hx;rcases List.mem_append.1 hx with hx | hx
 ·obtain ⟨k,-,rfl⟩:=List.mem_map.1 hx
  simp only [Wx,List.length_map,List.length_range];have:(r.getD k []).length <= 2000:=by
   rw [List.getD_eq_getElem?_getD];cases h:r[k]? with
   | none=>simp
   | some y=>exact hr y (List.mem_of_getElem? h)
  omega
 ·simp at hx
  rcases hx with rfl | rfl | rfl
  ·omega
  ·simp [Rk];omega
  ·simp [NB];omega
def U0 (L:Va) (msg Hi:List Nat):List Nat:=FV (XB L.p ((List.range msg.length).map (fW L.p msg 1)) (Ou L.p (jS L.p L.block) Hi)) L.k
def YU (L:Va) (q:List Nat):List Nat:=FV (Ou L.p (jS L.p L.block) q) (2*L.k-1)
theorem z8 (p b:Nat):(jS p b).length=b+1:=by simp [jS]
theorem zB9 {p:Nat} (hp:0<p) (l:List Nat) (s i:Nat):fW p l s i<p:=Nat.mod_lt _ hp
theorem zAC (L:Va) (w:World) (hL:Vc L) :
  Calls Tryz.prog 68 #[.agg (Ua L)] w fun e w'=>∃ v1 v2,e= .returned (.tuple #[v1,v2]) /\ RWd w' [v1] ((List.range L.block).map (Qp L.p 1 L.block)) /\ RWd w' [v2] ((List.range L.n).map (Qp L.p (Yc L.p).1 L.n)) /\ Below w.heap.size w w':=by
 obtain ⟨Pd,Lb⟩:=nc hL.p;obtain ⟨hlen,-⟩:=sI hL;obtain ⟨J9,-⟩:=tI hL;have It:=nN hL.p;have H1:=zH (fun w=>p5 L.p 1 L.block w hL.p hlen (by rw [Nat.mod_eq_of_lt (by omega)];decide))
 have H2:=zH (fun w=>p5 L.p (Yc L.p).1 L.n w hL.p J9 (oN hL.p))
 have HG:=zH (fun w=>zAy L.p w hL.p)
 have ql:=zH (show ∀ s n,∀ x∈(List.range n).map (Qp L.p s n),x<18446744073709551616 from fun s n x hx=>by
  obtain ⟨i,-,rfl⟩:=List.mem_map.1 hx;exact Nat.lt_trans (zB4 (by omega) (Nat.mod_lt _ (by omega)) i) Lb)
 generalize (Yc L.p).1=gn at *;clear hL Pd Lb hlen J9 It;unfold Ua at *;have kl:=Blk.new w 35 #[.int .u64 L.p, .int .i64 L.block, .int .i64 L.queries, .int .i64 L.k, .int .i64 L.n, .int .i64 L.secret, .int .i64 L.rows, .int .i64 L.a, .int .i64 L.b, .int .i64 L.b, .int .i64 L.b];have aa:Below w.heap.size w (w.alloc (.cells #[.int .u64 L.p, .int .i64 L.block, .int .i64 L.queries, .int .i64 L.k, .int .i64 L.n, .int .i64 L.secret, .int .i64 L.rows, .int .i64 L.a, .int .i64 L.b, .int .i64 L.b, .int .i64 L.b] 35)):=(Below.refl _ _).alloc zR _;go_enter Tryz.func68,Tryz.ntmps68
 go_wp2_with fail
 generalize w.alloc _=w1 at kl aa |-;refine (H1.out _).mono ?_;rintro e w2 ⟨v1,rfl,ma,Aa⟩;replace kl:=ea kl Aa;replace aa:=ja aa Aa;clear Aa;obtain ⟨A1,c1,rfl,-⟩:=Tb ma;have hI:=Fh ma (ql.out _ _);clear ma;have cl:=kl.cell;have ll:=kl.lt;go_upto_region 2 with fail
 refine Pc (Bb) [4,7] [0,1,2,3,5,6,4,7,8,9,10,11,12] (by kernel_rfl) (by kernel_rfl) ?_
 refine di (pa) ?_;intro Wc Ba da;have Ja:=Sg Ba;replace aa:=ja aa Ja;replace hI:=ib Ja hI;refine Kb ?_;refine oc (pa) rfl rfl rfl (fun _=>by go_simp <;> rfl) ((HG.out _).mono ?_)
 rintro e w3 ⟨rfl,Ga⟩;refine ⟨_,rfl,Ga,?_⟩;replace da:=(pa).trans _ _ _ da (Ga);simp only [Act.put,zLa,zLb,zLc];replace aa:=ja aa Ga;replace hI:=ib Ga hI;refine Kb ?_;refine oc (pa) rfl rfl rfl (fun _=>by go_simp <;> rfl) ((H2.out _).mono ?_)
 rintro e w4 ⟨v4,rfl,ma,Pa⟩;refine ⟨_,rfl,Pa,?_⟩;replace da:=(pa).trans _ _ _ da (Pa);simp only [Act.put,zLa,zLb,zLc];replace aa:=ja aa Pa;replace hI:=ib Pa hI;obtain ⟨A4,c4,rfl,-⟩:=Tb ma;have hM:=Fh ma (ql.out _ _);clear ma;refine Kb ?_;refine pc ?_;go_wp2
 go_ret2
 exact ⟨_,_,rfl,hI,hM,aa⟩
def xe {α:Type} (a b c d:α) (i:Nat):α:=if i=0 then a else if i=1 then b else if i=2 then c else d
theorem lK {α:Type} (a b c d:α) {i:Nat} (h:i<4):(#[a,b,c,d]:Array α)[i]?=some (xe a b c d i):=by
 rcases (show i=0 \/ i=1 \/ i=2 \/ i=3 by omega) with rfl | rfl | rfl | rfl <;> rfl
theorem zCg (L:Va) {i:Nat} (h:i<4):(#[.int .u64 L.p, .int .i64 L.block, .int .i64 L.queries, .int .i64 L.k, .int .i64 L.n, .int .i64 L.secret, .int .i64 L.rows, .int .i64 L.a, .int .i64 L.b, .int .i64 L.b, .int .i64 L.b]:Array Value)[7+i]?=some (.int .i64 ((xe L.a L.b L.b L.b i:Nat):Int)):=by
 rcases (show i=0 \/ i=1 \/ i=2 \/ i=3 by omega) with rfl | rfl | rfl | rfl <;> rfl
def wv (B:Nat) (v:List Nat) (k:Nat):List Nat:=(List.range B).map fun j=>v.getD (k*B+j) 0
def Dl (B:Nat) (v:List Nat) (n:Nat):List (List Nat):=(List.range n).map (wv B v)
def Ek (B:Nat) (l:Nat -> List Nat) (ps:Nat -> Nat) (i:Nat):List (List Nat):=(List.range i).flatMap fun i=>Dl B (l i) (ps i)
def Io (B:Nat) (l:Nat -> List Nat) (ps:Nat -> Nat):List (List Nat):=Ek B l ps 4
theorem XG (B:Nat) (l:Nat -> List Nat) (ps:Nat -> Nat) (i:Nat):Ek B l ps (i+1)=Ek B l ps i++Dl B (l i) (ps i):=by
 rw [Ek,List.range_succ,List.flatMap_append];simp [Ek]
theorem eM (B:Nat) (v:List Nat) (k:Nat):Dl B v (k+1)=Dl B v k++[wv B v k]:=by simp [Dl,List.range_succ]
theorem zBa {n j:Nat} {F:Nat -> Nat} (h:∀ i,j <= i -> i<n -> F i=0):Fa n (uf F (fun _=>0) j)=Fa n F:=ui fun i hi=>by
 unfold uf;split
 ·rfl
 ·exact (h i (by omega) hi).symm
theorem tN {M N:Nat} {w:World} {v:Value} {cs:List Value} {l:List (List Nat)} (h:Ag N w v cs l) (hN:M <= N):Ag M w v cs l :=
 ⟨h.1,fun i h1 h2 u hu=>h.2 i h1 h2 u fun b b1 b2 b3=>hu b (by omega) b2 b3⟩
theorem zCR (L:Va) (v0 v1 v2 v3:Value) (l0 l1 l2 l3:List Nat) (w:World) (hL:Vc L) (hv:∀ i,i<4 -> RWd w [xe v0 v1 v2 v3 i] (xe l0 l1 l2 l3 i)) :
  Calls Tryz.prog 122 #[.agg (Ua L), .agg #[v0,v1,v2,v3]] w fun e w'=>∃ n v cs,e= .returned v /\ w'.ownsRow w.heap.size 28 1 v n cs /\ Ag w.heap.size w' v cs (Io L.block (xe l0 l1 l2 l3) (xe L.a L.b L.b L.b)) /\ Below w.heap.size w w':=by
 have ya:=hL.b1;have xa:=hL.b2;have so:=zH (show ∀ i,xe L.a L.b L.b L.b i <= 100000 from fun i=>by
  have:=hL.a;have:=hL.b;unfold xe
  repeat' split
  all_goals omega)
 have HLP:=zH (fun i (h:i<4)=>zCg L h)
 have HV:=zH hv;have HG:=zH (fun i (h:i<4)=>lK v0 v1 v2 v3 h)
 obtain ⟨l,hl⟩:=zEX (xe l0 l1 l2 l3);obtain ⟨ps,Xj⟩:=zEX (xe L.a L.b L.b L.b);have Gu:=zH (show Io L.block (xe l0 l1 l2 l3) (xe L.a L.b L.b L.b)=Ek L.block l ps 4 by rw [hl,Xj];rfl)
 rw [Gu.out];rw [<- hl] at HV;rw [<- Xj] at so HLP;have mq:=zH (show Ek L.block l ps 0=[] from rfl)
 have HPN:=zH (XG L.block l ps);have mk:=Fp L.block (by omega)
 clear hv hl Xj Gu hL;unfold Ua at *;obtain ⟨kl,kv,aa,Ra⟩:=ah w 35 166 #[.int .u64 L.p, .int .i64 L.block, .int .i64 L.queries, .int .i64 L.k, .int .i64 L.n, .int .i64 L.secret, .int .i64 L.rows, .int .i64 L.a, .int .i64 L.b, .int .i64 L.b, .int .i64 L.b] #[v0,v1,v2,v3];go_enter Tryz.func122,Tryz.ntmps122
 go_upto_region 1 with fail
 generalize (w.alloc _).alloc _=w1 at kl kv aa Ra |-;obtain ⟨N,hN⟩:=zEX (w1.heap.size);have HWN:=zH (show w.heap.size <= N by omega)
 have zh:w.heap.size+1<N:=by omega
 have wg:N <= w1.heap.size:=by omega
 clear Ra hN;obtain ⟨LC,RX⟩:∃ LC:Array Value,LC=#[.int .u64 L.p, .int .i64 L.block, .int .i64 L.queries, .int .i64 L.k, .int .i64 L.n, .int .i64 L.secret, .int .i64 L.rows, .int .i64 L.a, .int .i64 L.b, .int .i64 L.b, .int .i64 L.b]:=⟨_,rfl⟩;have ql:=zH (show LC[1]?=some (.int .i64 L.block) by rw [RX];rfl)
 have HL7:=zH (show ∀ i,i<4 -> LC[7+i]?=some (.int .i64 (ps i:Int)) from fun i h=>by rw [RX];exact HLP.out i h)
 rw [<- RX] at kl;clear RX HLP;obtain ⟨VC,hVC⟩:∃ VC:Array Value,VC=#[v0,v1,v2,v3]:=⟨_,rfl⟩;have HVC:=zH (show ∀ i,i<4 -> VC[i]?=some (xe v0 v1 v2 v3 i) from fun i h=>by rw [hVC];exact HG.out i h)
 rw [<- hVC] at kv;clear hVC HG;generalize hBL:L.block=B at *;have HBL:=zH hBL;clear hBL;have g1:(0:Int)<(B:Int):=by omega
 have g2:(B:Int) <= 256:=by omega
 go_wp2_with fail
 go_loopw [5,6] (fun u y wr=>∃ (i n:Nat) (v:Value) (cs:List Value),v=u /\ i <= 4 /\ y= .int .i64 i /\ n <= i*100000 /\ Blk wr w.heap.size 35 LC /\ Blk wr (w.heap.size+1) 166 VC /\ wr.ownsRow N 28 1 v n cs /\ Ag N wr v cs (Ek B l ps i) /\ Below w.heap.size w wr /\ N <= wr.heap.size) (fun _ y _=>4-(intOf y).toNat)
 case atStart=>exact ⟨0,0,_,[],rfl,by omega,rfl,by omega,kl,kv,⟨rfl, .inl ⟨rfl,rfl⟩⟩,by rw [mq.out];exact ED _ _ _,aa,wg⟩
 case round =>
  clear kl kv aa wg;obtain ⟨i,n0,v,cs,rfl,hi,rfl,dp,kl,kv,ma,Da,aa,wg⟩:=hrel;by_cases oa:i<4
  ·have q1:(i:Int)<4:=by omega
   have DU:=HV.out i oa;have Xj:=so.out i;obtain ⟨p,hp⟩:=zEX (ps i);have HL7i:=zH (HL7.out i oa);have V5:=zH (HVC.out i oa);have nx:=zH (HPN.out i);obtain ⟨li,Mk⟩:=zEX (l i);obtain ⟨si,dX⟩:=zEX (xe v0 v1 v2 v3 i);rw [<- dX] at DU V5;rw [<- Mk] at DU nx;rw [<- hp] at Xj HL7i nx;clear hp Mk dX;obtain ⟨Ai,ci,rfl⟩:=pS DU;obtain ⟨-,Ec,lh,hltl,-⟩:=zb DU;have gli:=uj Ec lh;obtain ⟨P0,hP0⟩:=zEX (Ek B l ps i);rw [<- hP0] at Da nx;have kV:=zH (show P0++Dl B li 0=P0 by simp [Dl])
   have vl:=zH (show ∀ k,(P0++Dl B li k)++[wv B li k]=P0++Dl B li (k+1) from fun k=>by rw [eM,List.append_assoc])
   have HVI:=zH DU;have Q5:=zH hltl;have HX:=zH lh;clear hP0 DU hltl Ec lh;go_wp2_with fail
   go_loopw [5,7] (fun u y wr=>∃ (k n:Nat) (v:Value) (cs:List Value),v=u /\ k <= p /\ y= .int .i64 k /\ n <= i*100000+k /\ Blk wr w.heap.size 35 LC /\ Blk wr (w.heap.size+1) 166 VC /\ wr.ownsRow N 28 1 v n cs /\ Ag N wr v cs (P0++Dl B li k) /\ Below w.heap.size w wr /\ N <= wr.heap.size) (fun _ y _=>p-(intOf y).toNat)
   case atStart=>exact ⟨0,n0,_,cs,rfl,Nat.zero_le _,rfl,by rw [Nat.add_zero];exact dp,kl,kv,ma,by rw [kV.out];exact Da,aa,wg⟩
   case round =>
    clear kl kv aa wg ma Da dp;obtain ⟨k,n1,v,cs,rfl,hk,rfl,Ve,kl,kv,ma,Da,aa,wg⟩:=hrel;have c7:=kl.cell (7+i);rw [HL7i.out] at c7;have c1:=kl.cell 1;rw [ql.out] at c1;by_cases hltk:k<p
    ·have q2:(k:Int)<(p:Int):=by omega
     obtain ⟨wo,MY⟩:=zEX (wr);subst MY;have E1:=zH (vl.out k);go_wp2_with fail
     have kg:=Blk.new wo 22 (Fa B fun _=>0)
     have Ct:=(Below.refl wo.heap.size wo).alloc zR (.cells (Fa B fun _=>0) 22)
     have Vb:∀ q,v.ownBlock=some q -> q<wo.heap.size:=fun q e=>(ma.lt q e).2
     have hgN:N <= wo.heap.size:=wg;clear c7 c1;generalize wo.alloc _=w2 at kg Ct |-;obtain ⟨F,hF⟩:∃ F:Nat -> Nat,F=fun j=>li.getD (k*B+j) 0:=⟨_,rfl⟩
     have HF:=zH (show ∀ j,F j=li.getD (k*B+j) 0 from fun j=>by rw [hF])
     have xW:=zH (show (List.range B).map F=wv B li k by rw [hF];rfl)
     obtain ⟨kb,hkb⟩:=zEX (k*B);rw [<- hkb] at HF;have hkb2:kb <= 100000*256:=by rw [hkb];exact Nat.mul_le_mul (by omega) xa
     have ek:(k:Int)*(B:Int)=(kb:Int):=by rw [hkb];exact (Int.natCast_mul _ _).symm
     have Cv:=zd kb;have H0:=zH (gy B F fun _=>0)
     have Ju:=zH (show ∀ j,F j<18446744073709551616 from fun j=>by
      rw [HF.out,List.getD_eq_getElem?_getD];cases h:li[kb+j]? with
      | none=>decide
      | some x=>exact Q5.out x (List.mem_of_getElem? h))
     clear hF hkb;go_loopw [9] (fun y wr=>∃ j:Nat,j <= B /\ y= .int .i64 j /\ Blk wr wo.heap.size 22 (Fa B (uf F (fun _=>0) j)) /\ Below wo.heap.size wo wr) (fun y _=>B-(intOf y).toNat)
     case atStart=>exact ⟨0,by omega,rfl,by rw [H0.out];exact kg,Ct⟩
     case round =>
      clear kg Ct;obtain ⟨j,hj,rfl,kg,Ct⟩:=hrel;obtain ⟨t,ht⟩:=zEX (kb+j);have et:(kb:Int)+(j:Int)=(t:Int):=by omega
      have et2:=zd t;have HT:=zH ht;have c1:=(ea kl Ct).cell 1;rw [ql.out] at c1;have ci:=(ea kv Ct).cell i;rw [V5.out] at ci;have lk:=(ea kl Ct).lt;have lv:=(ea kv Ct).lt;have lg:=kg.lt;have q9:(0:Int) <= (j:Int):=by omega
      have q8:(0:Int) <= (i:Int):=by omega
      clear ht;by_cases WX:j<B
      ·have q3:(j:Int)<(B:Int):=by omega
       have d3:decide ((j:Int)<(B:Int))=true:=decide_eq_true q3;by_cases DP:t<li.length
       ·have q4:(t:Int)<(li.length:Int):=by omega
        have q5:(0:Int) <= (t:Int):=by omega
        have d4:decide ((t:Int)<(li.length:Int))=true:=decide_eq_true q4;have Qa:=ja aa Ct;obtain ⟨b,q,rfl,Za,hc⟩:=Ye ((zb HVI.out).2.2.2.2.below Qa) DP;have HZ:=zH (show li.getD t 0=F j by rw [HF.out,HT.out])
        rw [HZ.out] at hc;obtain ⟨z,hz⟩:=zEX (F j);have Xf:=zH (zu (n:=B) (G:=fun _=>0) hz)
        rw [<- hz] at hc;clear hz HZ Qa;go_upto_region 10 with fail
        refine Pc (Bb) [] [0,1,2,3,4,5,6,7,8,9,10,11,12,13,14,15,16] (by kernel_rfl) (by kernel_rfl) ?_
        refine di (pa) ?_;intro Wc Ba da;have Ja:=Sg Ba;refine Kb ?_;refine pc ?_;replace kg:=ea kg Ja;replace Ct:=ja Ct Ja;have vi:=(Ja.cell (p:=⟨b,q+t,none⟩) Za).trans hc;replace Za:=Nat.lt_of_lt_of_le Za Ja.size;clear c1 ci lk lv lg da hc;generalize Wc=w3 at kg Ct vi Za |-;have c1:=(ea kl Ct).cell 1;rw [ql.out] at c1;have ci:=(ea kv Ct).cell i;rw [V5.out] at ci;have lk:=(ea kl Ct).lt;have lv:=(ea kv Ct).lt;have lg:=kg.lt;have cg:=kg.cell j;rw [yu _ _ WX] at cg;go_upto_region 12 with fail
        refine xd (Bb) (pa) [14] [14] [0,1,2,3,4,5,6,7,8,9,10,11,12,13,14] (by kernel_rfl) (by kernel_rfl) ?_
        refine yd (pa) ?_;intro Wc da;refine Qb ?_;refine Hf rfl rfl rfl rfl ?_;intro wh xb;replace da:=(pa).trans _ _ _ da xb;have rb:=ja (Below.refl w3.heap.size w3).drew da;replace kg:=ea kg rb;replace Ct:=ja Ct rb;clear rb da xb lk lv lg c1 ci cg vi Za;have c2:=kg.cell j;rw [yu _ _ WX] at c2;have f2:=kg.frozen;go_simp;refine ⟨fun h=>Bool.noConfusion h,?_⟩
        have hg:=Pg (w:=wh) wo.heap.size j (.int .u64 z);replace kg:=kg.set_ j (.int .u64 z);rw [Xf.out] at kg;replace Ct:=Ct.trans (Nh hg Ct.size zR);clear hg f2 c2;generalize wh.setCell _ _=we at kg Ct |-;refine Uf rfl ?_;go_wp2_with fail
        go_roundw
        case rel=>exact ⟨j+1,by omega,by go_num,kg,Ct⟩
        case measure=>simp [intOf];omega
       ·have d4:decide ((t:Int)<(li.length:Int))=false:=decide_eq_false (by omega)
        have Xf:=zH (show Fa B (uf F (fun _=>0) j)=Fa B F from zBa fun x h1 _=>by
         rw [HF.out,OX];have:=HT.out;omega)
        go_upto_region 10 with fail
        refine Pc (Bb) [] [0,1,2,3,4,5,6,7,8,9,10,11,12,13,14,15,16] (by kernel_rfl) (by kernel_rfl) ?_
        refine di (pa) ?_;intro Wc Ba da;have Ja:=Sg Ba;refine Kb ?_;refine pc ?_;replace kg:=ea kg Ja;replace Ct:=ja Ct Ja;clear c1 ci lk lv lg da;generalize Wc=w3 at kg Ct |-;rw [Xf.out] at kg;replace kl:=ea kl Ct;replace kv:=ea kv Ct;replace aa:=ja aa Ct;replace wg:=Nat.le_trans wg Ct.size;replace ma:=db ma Ct zR;replace Da:=Nf Da Ct;have hx:=SB (N:=N) (gb:=v.ownBlock) kg (fun j _=>Ju.out j) (by simp [maxLen];omega) hgN (fun e=>by have:=Vb _ e.symm;omega)
        rw [xW.out] at hx;clear kg;go_wp2_with (at_builtin;refine If rfl _ _ rfl Jo rfl (ma.alloc _) rfl (Uk _ _ _) (by intro u hu;simp at hu;subst hu;rfl) (by omega) (by simp;omega) ?_)
        intro v' wn Ta Ha Ab;have ia:=(Below.refl w3.heap.size w3).alloc zR (.cells #[.slice (some ⟨wo.heap.size,0,none⟩) B B] 28);replace Da:=Nf Da ia;replace hx:=Lp hx ia.size (fun b _ h2 _=>ia.block b h2)
        have Vh:=WZ Da hx Ha (by simpa using Ab)
        rw [E1.out] at Vh;have uv:=mh (ma.alloc _) Ha (by simp;omega)
        have jb:w.heap.size <= N:=by omega
        have lU:∀ q,v.ownBlock=some q -> N <= q:=fun q e=>(ma.lt q e).1
        replace kl:=ea kl ia;replace kv:=ea kv ia;replace aa:=ja aa ia;replace wg:=Nat.le_trans wg ia.size;replace kl:=kl.grown Ha (fun e=>by first | (have:=lU _ e;omega) | (have:=lU _ e.symm;omega))
        replace kv:=kv.grown Ha (fun e=>by first | (have:=lU _ e;omega) | (have:=lU _ e.symm;omega))
        replace aa:=aa.trans (uv.mono jb);replace wg:=Nat.le_trans wg Ha.size;clear Ha Ab uv ia ma Da hx Ct;go_wp2
        go_roundw
        case rel=>exact ⟨k+1,n1+1,_,_,rfl,by omega,by go_num,by omega,kl,kv,Ta,Vh,aa,wg⟩
        case measure=>simp [intOf];omega
      ·have d3:decide ((j:Int)<(B:Int))=false:=decide_eq_false (by omega)
       have Xf:=zH (show Fa B (uf F (fun _=>0) j)=Fa B F from zBa fun x h1 h2=>by omega)
       go_upto_region 10 with fail
       refine Pc (Bb) [] [0,1,2,3,4,5,6,7,8,9,10,11,12,13,14,15,16] (by kernel_rfl) (by kernel_rfl) ?_
       refine di (pa) ?_;intro Wc Ba da;have Ja:=Sg Ba;refine Kb ?_;refine pc ?_;replace kg:=ea kg Ja;replace Ct:=ja Ct Ja;clear c1 ci lk lv lg da;generalize Wc=w3 at kg Ct |-;rw [Xf.out] at kg;replace kl:=ea kl Ct;replace kv:=ea kv Ct;replace aa:=ja aa Ct;replace wg:=Nat.le_trans wg Ct.size;replace ma:=db ma Ct zR;replace Da:=Nf Da Ct;have hx:=SB (N:=N) (gb:=v.ownBlock) kg (fun j _=>Ju.out j) (by simp [maxLen];omega) hgN (fun e=>by have:=Vb _ e.symm;omega)
       rw [xW.out] at hx;clear kg;go_wp2_with (at_builtin;refine If rfl _ _ rfl Jo rfl (ma.alloc _) rfl (Uk _ _ _) (by intro u hu;simp at hu;subst hu;rfl) (by omega) (by simp;omega) ?_)
       intro v' wn Ta Ha Ab;have ia:=(Below.refl w3.heap.size w3).alloc zR (.cells #[.slice (some ⟨wo.heap.size,0,none⟩) B B] 28);replace Da:=Nf Da ia;replace hx:=Lp hx ia.size (fun b _ h2 _=>ia.block b h2)
       have Vh:=WZ Da hx Ha (by simpa using Ab)
       rw [E1.out] at Vh;have uv:=mh (ma.alloc _) Ha (by simp;omega)
       have jb:w.heap.size <= N:=by omega
       have lU:∀ q,v.ownBlock=some q -> N <= q:=fun q e=>(ma.lt q e).1
       replace kl:=ea kl ia;replace kv:=ea kv ia;replace aa:=ja aa ia;replace wg:=Nat.le_trans wg ia.size;replace kl:=kl.grown Ha (fun e=>by first | (have:=lU _ e;omega) | (have:=lU _ e.symm;omega))
       replace kv:=kv.grown Ha (fun e=>by first | (have:=lU _ e;omega) | (have:=lU _ e.symm;omega))
       replace aa:=aa.trans (uv.mono jb);replace wg:=Nat.le_trans wg Ha.size;clear Ha Ab uv ia ma Da hx Ct;go_wp2
       go_roundw
       case rel=>exact ⟨k+1,n1+1,_,_,rfl,by omega,by go_num,by omega,kl,kv,Ta,Vh,aa,wg⟩
       case measure=>simp [intOf];omega
    ·obtain rfl:k=p:=by omega
     have q2:¬((k:Int)<(k:Int)):=by omega
     rw [<- nx.out] at Da;go_wp2_with fail
     go_roundw
     case rel=>exact ⟨i+1,n1,_,cs,rfl,by omega,by go_num,by omega,kl,kv,ma,Da,aa,wg⟩
     case measure=>simp [intOf];omega
  ·obtain rfl:i=4:=by omega
   rw [<- HBL.out] at Da;go_wp2;go_ret
   exact ⟨_,_,_,rfl,mg ma HWN.out,tN Da HWN.out,aa⟩
theorem zCS (L:Va) (v0 v1 v2 v3:Value) (l0 l1 l2 l3:List Nat) (w:World) (hL:Vc L) (hv:∀ i,i<4 -> RWd w [xe v0 v1 v2 v3 i] (xe l0 l1 l2 l3 i)) :
  Calls Tryz.prog 122 #[.agg (Ua L), .agg #[v0,v1,v2,v3]] w fun e w'=>∃ v,e= .returned v /\ Qd w' [v] (Io L.block (xe l0 l1 l2 l3) (xe L.a L.b L.b L.b)) /\ Below w.heap.size w w':=by
 refine (zCR L v0 v1 v2 v3 l0 l1 l2 l3 w hL hv).mono ?_;rintro e w' ⟨n,v,cs,rfl,ho,hg,hb⟩;exact ⟨v,rfl,DD hg ho,hb⟩
theorem zAG (x y z:Value) (w:World) (hx:slc x) (hy:slc y) (hz:slc z) :
  Calls Tryz.prog 121 #[.agg #[x,y,z]] w fun e w'=>e= .returned (.agg #[x,y,z]) /\ Below w.heap.size w w':=by
 obtain ⟨A0,n0,c0,rfl⟩:=hx;obtain ⟨A1,n1,c1,rfl⟩:=hy;obtain ⟨A2,n2,c2,rfl⟩:=hz;obtain ⟨kr,ka,aa,-⟩:=ah w 170 171 #[.slice A0 n0 c0, .slice A1 n1 c1, .slice A2 n2 c2] #[.slice none 0 0, .slice none 0 0, .slice none 0 0];go_enter Tryz.func121,Tryz.ntmps121
 go_upto_region 1 with fail
 generalize (w.alloc _).alloc _=w1 at kr ka aa |-;have IW:=kr.cell;obtain ⟨cc2,f2⟩:=ka.cells';have l1:=kr.lt;have l2:=ka.lt;go_wp2_with fail
 have k3:=Ji ka (.slice A0 n0 c0) (.slice A1 n1 c1) (.slice A2 n2 c2);have hg:=Ki (w:=w1) (g:=w.heap.size+1) (.slice A0 n0 c0) (.slice A1 n1 c1) (.slice A2 n2 c2);replace aa:=yc aa hg;revert k3 aa
 generalize ((World.setCell _ _ _).setCell _ _).setCell _ _=wf;intro k3 aa;have c4:=k3.cell;exact bodyPost_ret (v:=.agg #[.slice A0 n0 c0, .slice A1 n1 c1, .slice A2 n2 c2]) (by simp [results,Tryz.results121,go_sem,c4]) rfl ⟨rfl,aa⟩
theorem RN:(Tryz.prog.info? 168).map (fun i=>(i.zero,i.size,i.bytes))=some (some (.slice none 0 0),1,24):=by kernel_rfl
theorem gL {w:World}:((isAgg 168).run Tryz.prog w)= .ok false w:=by simp [isAgg,run_underlying Tryz.underlying168]
theorem LS {w:World}:((sizeOf 168).run Tryz.prog w)= .ok 1 w:=by
 obtain ⟨i0,hi,Ff,Zb,td⟩:=info_parts RN;simp [sizeOf,typeInfo,hi,Zb]
theorem mE {w:World} {x y z:Value} {k:Nat} (h:k<3):(Instr.index 171 (.agg #[x,y,z]) (.int .i64 k)).run Tryz.prog w= .ok (if k=0 then x else if k=1 then y else z) w :=
 Iz (i:=k) Tryz.underlying171 gL LS h (by
  rcases (show k=0 \/ k=1 \/ k=2 by omega) with rfl | rfl | rfl <;> rfl)
theorem BG {V0:Value} {xs:Nat -> Value} {k:Nat} (h:k<3):(#[V0,xs 0,xs 1,xs 2]:Array Value)[k+1]?=some (xs k):=by
 rcases (show k=0 \/ k=1 \/ k=2 by omega) with rfl | rfl | rfl <;> rfl
theorem U7 {N:Nat} {gb:Option Nat} {w:World} {v:Value} {l:List Nat} (h:df N gb w v l):RWd w [v] l:=h w fun _ _ _ _=>rfl
def Wk (xs:Nat -> Value) (k:Nat) (v:Value) (j:Nat):Value:=if j=k then v else xs j
theorem wL {V0 v:Value} {xs:Nat -> Value} {k:Nat} (h:k<3):(#[V0,xs 0,xs 1,xs 2]:Array Value).setIfInBounds (k+1) v=#[V0,Wk xs k v 0,Wk xs k v 1,Wk xs k v 2]:=by
 rcases (show k=0 \/ k=1 \/ k=2 by omega) with rfl | rfl | rfl <;> rfl
theorem zDI (xs:Nat -> Value) (k:Nat) (u v:Value):Wk (Wk xs k u) k v=Wk xs k v:=by
 funext j
 unfold Wk;split <;> rfl
theorem zDH (xs:Nat -> Value) (k:Nat):Wk xs k (xs k)=xs:=by
 funext j
 unfold Wk;split
 ·rename_i h;rw [h]
 ·rfl
theorem NG {g N b:Nat} {w w':World} {t:TypeId} {cs:Array Value} (k:Blk w b t cs) (h:mi g N w w') (hb:b<N) (Ka:b≠g):Blk w' b t cs:=by
 unfold Blk at *;rw [h.2.2.2.2 b hb Ka];exact k
def Dd (r:Ya) (k:Nat):List (Int × Nat):=if k=0 then r.a else if k=1 then r.b else r.c
def Kh (p:Nat) (rows:List Ya) (ws:List Nat) (k:Nat):List Nat:=rows.map fun r=>ud p (Dd r k) ws
def Ew (L:Va) (rows:List Ya) (ws:List Nat) (pu:Nat):List (List Nat):=Io L.block (xe (ws.drop (1+pu)) (Kh L.p rows ws 0) (Kh L.p rows ws 1) (Kh L.p rows ws 2)) (xe L.a L.b L.b L.b)
theorem wO {p:Nat} (hp:0<p) (ws:List Nat) {s:Nat} (hs:s<p) (t:Int × Nat):Hn p ws s t<p:=by
 unfold Hn;split
 ·exact Nat.mod_lt _ hp
 ·exact hs
theorem xO {p:Nat} (hp:0<p) (l:List (Int × Nat)) (ws:List Nat):ud p l ws<p:=by
 have key:∀ (l:List (Int × Nat)) (s:Nat),s<p -> l.foldl (Hn p ws) s<p:=fun l=>by
  induction l with
  | nil=>exact fun s hs=>hs
  | cons t l ih=>exact fun s hs=>ih _ (wO hp ws hs t)
 exact key l 0 hp
end Go.Proofs.YtjipleoamlmkfaaGreat
