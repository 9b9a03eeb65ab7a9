/- A part of the proof. No condition. -/
import Derived.Test.YtjipleoamlmkfaaGreatProg
import Derived.Test.YtjipleoamlmkfaaGreatPF6
import Derived.Test.YtjipleoamlmkfaaGreatPF11
import Derived.Test.YtjipleoamlmkfaaGreatPF8

set_option maxRecDepth 100000
set_option maxHeartbeats 8000000
set_option linter.unusedVariables false
set_option linter.unusedSimpArgs false
namespace Go.Proofs.YtjipleoamlmkfaaGreat
open Go.RowKit
theorem zb {w:World} {A:Option Addr} {n c:Nat} {l:List Nat} (h:RWd w [.slice A n c] l):n=l.length /\ n <= c /\ c <= maxLen /\ (∀ x∈l,x<18446744073709551616) /\ Rd w 1 A n (Ca l):=by
 obtain ⟨A',n',c',he,h1,h2,h3,h4⟩:=h;simp at he
 obtain ⟨rfl,rfl,rfl⟩:=he;have:=h3.len1;rw [Gi] at this;exact ⟨this.symm,h1,h2,h4,h3⟩
theorem Ye {w:World} {A:Option Addr} {l:List Nat} (h:Rd w 1 A l.length (Ca l)) {j:Nat} (hj:j<l.length):∃ b q,A=some ⟨b,q,none⟩ /\ b<w.heap.size /\ w.cell? ⟨b,q+j,none⟩=some (.int .u64 ((l.getD j 0:Nat):Int)):=by
 obtain ⟨b,q,e,hb,hc⟩:=ru h (by omega)
 refine ⟨b,q,e,hb,?_⟩;rw [hc j hj,jv hj,List.getD_eq_getElem?_getD,List.getElem?_eq_getElem hj]
 rfl
theorem uj {n c:Nat} (h1:n <= c) (h2:c <= maxLen):(n:Int) <= 9223372036854775807:=by
 simp [maxLen] at h2
 omega
theorem yz {l:List Nat} {B:Nat} (h:∀ x∈l,x<B) {k:Nat} (hk:k<l.length):l.getD k 0<B:=by
 rw [List.getD_eq_getElem?_getD,List.getElem?_eq_getElem hk];exact h _ (List.getElem_mem _)
theorem tB (l:List Nat) (k:Nat) (h:k<l.length):l.take (k+1)=l.take k++[l.getD k 0]:=by
 rw [List.take_succ_eq_append_getElem h,List.getD_eq_getElem?_getD,List.getElem?_eq_getElem h]
 rfl
theorem Fh {w:World} {base:Nat} {e:TypeId} {A:Option Addr} {c n:Nat} {l:List Nat} (h:w.ownsRow base e 1 (.slice A n c) n (Ca l)) (hl:∀ x∈l,x<18446744073709551616):RWd w [.slice A n c] l:=by
 obtain ⟨A',c',he,h1,h2,h3,-⟩:=Tb h;simp at he
 obtain ⟨rfl,rfl⟩:=he;exact ⟨A,n,c,rfl,h1,h2,h3,hl⟩
theorem mh {W W':World} {B:Nat} {e:TypeId} {size:Nat} {v:Value} {n:Nat} {xs:List Value} (h:W.ownsRow B e size v n xs) (hg:W.grownBy W' v.ownBlock) (hB:B <= W.heap.size):Below B W W' :=
 Fo hg B hB fun g e=>(h.lt g e).1
theorem Kr {w:World} {B m:Nat} {t:TypeId} {v:Value} {a b c:List Nat} (h:w.ownsRow B t 1 v m (Ca a++Ca b)) (e:a++b=c):w.ownsRow B t 1 v m (Ca c):=by
 rw [<- e,lG];exact h
theorem Ix {w:World} {g:Nat} {t:TypeId} {l:List Nat} (h:Blk w g t (Ca l).toArray) (hl:∀ x∈l,x<18446744073709551616) (hm:l.length <= maxLen):RWd w [.slice (some ⟨g,0,none⟩) l.length l.length] l:=by
 refine ⟨_,_,_,rfl,zR,hm,⟨by rw [Gi,Nat.mul_one],fun _=>⟨_,rfl,fun j u hu=>?_⟩⟩,hl⟩
 rw [Kj,Nat.zero_add,h.cell]
 simpa using hu
theorem xR (p a e:Nat) (w:World) (hp:Db p=true) (he:e<18446744073709551616) :
  Calls Tryz.prog 211 #[.int .u64 p, .int .u64 a, .int .u64 e] w fun e' w'=>e'= .returned (.int .u64 ((a^e%p:Nat):Int)) /\ Below w.heap.size w w':=by
 obtain ⟨Pd,Lb⟩:=nc hp;have HO:=zH (fun w=>by have:=Tk p w Lb;rw [hp] at this;exact this)
 have HM:=zH (fun a b w=>PB p a b w hp)
 obtain ⟨n,hn⟩:=zEX (a^e%p);rw [<- hn];have HI:=zH (show 1*(a%p)^e%p=n by rw [Nat.one_mul,<- Nat.pow_mod,hn])
 have HP:=zH Pd;have p1:(0:Int)<(p:Int):=by omega
 have e1:(a:Int)%(p:Int)=((a%p:Nat):Int):=rfl;have e2:(a:Int).tmod (p:Int)=((a%p:Nat):Int):=rfl;have p3:¬(p=0):=by omega
 clear hn hp Pd Lb;generalize a%p=a0 at *;go_enter Tryz.func211,Tryz.ntmps211
 go_wp2_with fail
 refine (HO.out _).mono ?_;rintro e' w1 ⟨rfl,aa⟩;go_wp2_with fail
 clear e1 e2;go_loopw [1,2,7] (fun x y z wr=>∃ a' e' r:Nat,x= .int .u64 a' /\ y= .int .u64 e' /\ z= .int .u64 r /\ r<p /\ e'<18446744073709551616 /\ Hid (r*a'^e'%p=n) /\ Below w.heap.size w wr) (fun _ y _ _=>(intOf y).toNat)
 case atStart=>exact ⟨a0,e,1,rfl,rfl,rfl,by have:=HP.out;omega,he,HI.out,aa⟩
 case round =>
  clear aa;obtain ⟨a',e',r,rfl,rfl,rfl,Xh,he',H,Qa⟩:=hrel;by_cases h0:e'=0
  ·subst h0
   have HE:=zH (show r=n by have:=H.out;rw [Nat.pow_zero,Nat.mul_one,Nat.mod_eq_of_lt Xh] at this;exact this)
   go_wp2;go_ret
   exact ⟨by rw [HE.out];rfl,Qa⟩
  ·have g1:(0:Int)<(e':Int):=by omega
   obtain ⟨f,hf⟩:=zEX (e' / 2);have e1:(e':Int) / 2=(f:Int):=by omega
   have e2:(e':Int).tdiv 2=(f:Int):=by rw [Int.tdiv_eq_ediv_of_nonneg (by omega)];exact e1
   have HQ:=zH (fun w=>HM.out a' a' w)
   rcases (show e'%2=1 \/ e'%2=0 by omega) with Nk | Nk
   ·have eb:(e':Int)%2=1:=by omega
    have ec:(e':Int).tmod 2=1:=by rw [Int.tmod_eq_emod_of_nonneg (by omega)];exact eb
    have HF:=zH hf;have ke:=zH (fun w=>HM.out r a' w)
    have HX:=OJ p r a' e' n H.out Nk;rw [<- hf] at HX;have Df:r*a'%p<p:=Nat.mod_lt _ (by have:=HP.out;omega)
    generalize r*a'%p=s at *;generalize a'*a'%p=q at *;replace HX:=zH HX;clear Nk hf;go_wp2_with fail
    refine (ke.out _).mono ?_;rintro e w1 ⟨rfl,ya⟩;replace Qa:=Om Qa ya Qa.size;clear ya;go_wp2_with fail
    refine (HQ.out _).mono ?_;rintro e w2 ⟨rfl,xa⟩;replace Qa:=Om Qa xa Qa.size;go_wp2
    go_roundw
    case rel=>exact ⟨q,f,s,rfl,rfl,rfl,Df,by have:=HF.out;omega,HX.out,Qa⟩
    case measure=>have:=HF.out;simp [intOf];omega
   ·have eb:(e':Int)%2=0:=by omega
    have ec:(e':Int).tmod 2=0:=by rw [Int.tmod_eq_emod_of_nonneg (by omega)];exact eb
    have HF:=zH hf;have HX:=NJ p r a' e' n H.out Nk;rw [<- hf] at HX;generalize a'*a'%p=q at *;replace HX:=zH HX;clear Nk hf;go_wp2_with fail
    refine (HQ.out _).mono ?_;rintro e w2 ⟨rfl,xa⟩;replace Qa:=Om Qa xa Qa.size;go_wp2
    go_roundw
    case rel=>exact ⟨q,f,r,rfl,rfl,rfl,Xh,by have:=HF.out;omega,HX.out,Qa⟩
    case measure=>have:=HF.out;simp [intOf];omega
theorem zAy (p:Nat) (w:World) (hp:Db p=true) :
  Calls Tryz.prog 148 #[.int .u64 p] w fun e w'=>e= .returned (.int .u64 ((Yc p).1:Int)) /\ Below w.heap.size w w':=by
 have HR:=zH (bK p w (nc hp).2);clear hp;unfold Hz at HR;generalize (Yc p).1=a at *;generalize (Yc p).2.1=b at *;generalize (Yc p).2.2=c at *;go_enter Tryz.func148,Tryz.ntmps148
 go_wp2_with (go_at_call 203;refine HR.out.mono ?_;rintro e w1 ⟨rfl,hb⟩)
 rw [MN,Result.andThen,Oper.upon_value];go_wp2;go_ret
 exact ⟨rfl,hb⟩
end Go.Proofs.YtjipleoamlmkfaaGreat
