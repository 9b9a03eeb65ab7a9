/- A part of the proof. No condition. -/
import Derived.Maps.OwnOps
import Derived.Maps.OwnSet
import Derived.Test.YtbiieaiahdihnaaProg
import Derived.Test.YtbiieaiahdihnaaOP19
import Derived.Test.YtbiieaiahdihnaaOP14

namespace Go.Proofs.Ytbiieaiahdihnaa
open Go.RowKit Go.Maps
structure Qn where
 lab:Nat
 el:List Nat
 ans:Nat
structure Orc where
 ideal:Bool
 st:Nat
 dr:Nat
 qs:List Qn
def ZB (l:List Nat):Bool:=l.all fun x=>decide (x<Zg)
def spH (lab:Nat) (l:List Nat):Nat:=(Yu Zg lab l).a
theorem Jc (lab:Nat) (l:List Nat):spH lab l<Zg:=(GR (p:=Zg) (by decide) l ⟨0,0,(lab*65536%Zg+l.length)%Zg⟩ ⟨show 0<Zg by decide,show 0<Zg by decide,Nat.mod_lt _ (by decide)⟩).1
def Um (s:Nat):Nat:=(s+11400714819323198485)%18446744073709551616
def GW (z:Nat):Nat:=(z ^^^ (z >>> 30))*13787848793156543929%18446744073709551616
def GT (z:Nat):Nat:=(z ^^^ (z >>> 27))*10723151780598845931%18446744073709551616
def GY (z:Nat):Nat:=(z ^^^ (z >>> 31))%Zg
def dMix (z:Nat):Nat:=GY (GT (GW z))
def qIs (lab:Nat) (el:List Nat) (q:Qn):Bool:=q.lab == lab&&q.el == el
def ZH (qs:List Qn) (lab:Nat) (el:List Nat):Option Nat:=(qs.find? (qIs lab el)).map (·.ans)
def Xx (O:Orc) (lab:Nat) (el:List Nat) (a:Nat):Orc:=⟨O.ideal,O.st,O.dr,O.qs++[⟨lab,el,a⟩]⟩
def Y5 (O:Orc):Orc:=⟨O.ideal,Um O.st,O.dr+1,O.qs⟩
def VJ (O:Orc):Nat:=dMix (Um O.st)
def Y7 (O:Orc) (lab:Nat) (el:List Nat):Option Nat :=
 if ZB el then (match ZH O.qs lab el with | some a=>some a | none=>if O.ideal then none else some (spH lab el)) else none
def ZM (O:Orc) (lab:Nat) (el:List Nat):Nat :=
 if ZB el then (match ZH O.qs lab el with | some a=>a | none=>if O.ideal then VJ O else spH lab el) else 0
def ZA (O:Orc) (lab:Nat) (el:List Nat):Orc :=
 if ZB el then (match ZH O.qs lab el with | some _=>O | none=>if O.ideal then Xx (Y5 O) lab el (VJ O) else Xx O lab el (spH lab el)) else O
def newO (ideal:Bool) (seed:Nat):Orc:=⟨ideal,seed,0,[]⟩
def Yn:List Nat→List Nat
 | []=>[]
 | x :: r=>Xp x 8++Yn r
theorem Y9:∀ (a b:List Nat),Yn (a++b)=Yn a++Yn b
 | [],b=>rfl
 | x :: r,b=>by simp [Yn,Y9 r b]
theorem VM:∀ (l:List Nat),(Yn l).length=8*l.length
 | []=>rfl
 | x :: r=>by simp [Yn,VM r,Je];omega
theorem G6:∀ (k n:Nat),∀ x∈Xp n k,x<256
 | 0,_,x,h=>by simp [Xp] at h
 | k+1,n,x,h=>by
  simp only [Xp,List.mem_cons] at h
  rcases h with rfl | h
  ·omega
  ·exact G6 k _ x h
theorem J1:∀ (l:List Nat),∀ x∈Yn l,x<256
 | [],x,h=>by simp [Yn] at h
 | y :: r,x,h=>by
  simp only [Yn,List.mem_append] at h
  rcases h with h | h
  ·exact G6 8 y x h
  ·exact J1 r x h
theorem Kw:∀ (k a b:Nat),a<256^k→b<256^k→Xp a k=Xp b k→a=b
 | 0,a,b,ha,hb,_=>by simp at ha hb;omega
 | k+1,a,b,ha,hb,h=>by
  simp only [Xp,List.cons.injEq] at h
  rw [Nat.pow_succ] at ha hb
  have:=Kw k (a / 256) (b / 256) (by omega) (by omega) h.2
  omega
theorem Ki:∀ {a b:List Nat},(∀ x∈a,x<18446744073709551616)→(∀ x∈b,x<18446744073709551616)→Yn a=Yn b→a=b
 | [],[],_,_,_=>rfl
 | [],y :: r,_,_,h=>by have:=congrArg List.length h;simp [VM] at this
 | y :: r,[],_,_,h=>by have:=congrArg List.length h;simp [VM] at this
 | x :: r,y :: s,ha,hb,h=>by
  simp only [Yn] at h
  obtain ⟨h1,h2⟩:=List.append_inj h (by simp [Je])
  have e1:=Kw 8 x y (by have:=ha x (by simp);omega) (by have:=hb y (by simp);omega) h1
  have e2:=Ki (fun z hz=>ha z (by simp [hz])) (fun z hz=>hb z (by simp [hz])) h2
  rw [e1,e2]
theorem yd:∀ {a b:List Nat},(∀ x∈a,x<256)→(∀ x∈b,x<256)→a.map (fun n=>UInt8.ofNat n)=b.map (fun n=>UInt8.ofNat n)→a=b
 | [],[],_,_,_=>rfl
 | [],y :: r,_,_,h=>by simp at h
 | y :: r,[],_,_,h=>by simp at h
 | x :: r,y :: s,ha,hb,h=>by
  simp only [List.map_cons,List.cons.injEq] at h
  have e1:x=y:=by
   have h3:=congrArg UInt8.toNat h.1
   simp only [UInt8.toNat_ofNat'] at h3
   have:=ha x (by simp)
   have:=hb y (by simp)
   omega
  rw [e1,yd (fun z hz=>ha z (by simp [hz])) (fun z hz=>hb z (by simp [hz])) h.2]
def Xk (lab:Nat) (el:List Nat):Lit:=.string ((Yn (lab :: el)).map fun n=>UInt8.ofNat n)
theorem K1 (lab:Nat) (el:List Nat):WideAt.IsKeyLit (Xk lab el):=trivial
theorem ZP {a:Nat} {l:List Nat} {B:Nat} (h:a<B) (hl:∀ x∈l,x<B):∀ x∈a :: l,x<B:=fun x hx=>by
 rcases List.mem_cons.1 hx with rfl | hx
 ·exact h
 ·exact hl x hx
theorem Kk {lab lab':Nat} {el el':List Nat} (h1:lab<18446744073709551616) (h2:lab'<18446744073709551616) (h3:∀ x∈el,x<18446744073709551616) (h4:∀ x∈el',x<18446744073709551616) (h:Xk lab el=Xk lab' el'):lab=lab'∧el=el':=by
 unfold Xk at h
 injection h with h
 have:=Ki (a:=lab :: el) (b:=lab' :: el') (ZP h1 h3) (ZP h2 h4) (yd (J1 _) (J1 _) h)
 injection this with e1 e2
 exact ⟨e1,e2⟩
def XW (qs:List Qn):DataW Unit × Nat:=qs.foldl (fun s q=>(s.1.put (Xk q.lab q.el) (.lit (.int .i64 (s.2:Int))),s.2+1)) (.map [],0)
def Yz (qs:List Qn):DataW Unit:=(XW qs).1
theorem Ur (qs:List Qn) (q:Qn):XW (qs++[q])=((XW qs).1.put (Xk q.lab q.el) (.lit (.int .i64 ((XW qs).2:Int))),(XW qs).2+1):=by simp [XW,List.foldl_append]
theorem VI {p:List Qn→Prop} (h0:p []) (h1:∀ l q,p l→p (l++[q])) (l:List Qn):p l:=by
 have:∀ n (l:List Qn),l.length=n→p l:=by
  intro n
  induction n with
  | zero=>intro l hl;rw [List.eq_nil_of_length_eq_zero hl];exact h0
  | succ n ih =>
   intro l hl
   have hne:l≠[]:=fun e=>by rw [e] at hl;simp at hl
   rw [←List.dropLast_concat_getLast hne]
   exact h1 _ _ (ih _ (by simp [hl]))
 exact this _ l rfl
theorem GJ (qs:List Qn):(XW qs).2=qs.length:=VI (p:=fun qs=>(XW qs).2=qs.length) rfl (fun l q h=>by rw [Ur];simp [h]) qs
theorem Xa (qs:List Qn) (q:Qn):Yz (qs++[q])=(Yz qs).put (Xk q.lab q.el) (.lit (.int .i64 (qs.length:Int))):=by
 unfold Yz;rw [Ur,GJ]
theorem UV (qs:List Qn):IsMap (Yz qs):=VI (p:=fun qs=>IsMap (Yz qs)) isMap_empty (fun l q h=>by rw [Xa];exact h.put _ _) qs
theorem V5 {l:List Nat} (h:ZB l=true):∀ x∈l,x<18446744073709551616:=fun x hx=>by
 have:=of_decide_eq_true (List.all_eq_true.1 h x hx)
 unfold Zg at this
 omega
structure yz (q:Qn):Prop where
 lab:q.lab<18446744073709551616
 el:ZB q.el=true
 ans:q.ans<Zg
 len:q.el.length≤1000000
structure OrcOk (O:Orc):Prop where
 st:O.st<18446744073709551616
 qs:∀ q∈O.qs,yz q
 apart:O.qs.Pairwise fun a b=>¬(a.lab=b.lab∧a.el=b.el)
 real:O.ideal=false→∀ q∈O.qs,q.ans=spH q.lab q.el
theorem X8 {lab:Nat} {el:List Nat} {q:Qn}:qIs lab el q=true↔q.lab=lab∧q.el=el:=by simp [qIs]
theorem Js {qs:List Qn} {lab:Nat} {el:List Nat} (h1:lab<18446744073709551616) (h2:∀ x∈el,x<18446744073709551616):(∀ q∈qs,yz q)→Maps.has (Yz qs) (Xk lab el)=(ZH qs lab el).isSome:=by
 refine VI (p:=fun qs=>(∀ q∈qs,yz q)→Maps.has (Yz qs) (Xk lab el)=(ZH qs lab el).isSome) (fun _=>rfl) (fun l q ih hq=>?_) qs
 have ih:=ih fun x hx=>hq x (by simp [hx])
 have hk:=hq q (by simp)
 rw [Xa]
 by_cases e:Xk lab el=Xk q.lab q.el
 ·obtain ⟨e1,e2⟩:=Kk h1 hk.lab h2 (V5 hk.el) e
  rw [e,has_put_same (UV l) (K1 _ _)]
  unfold ZH
  rw [Option.isSome_map,List.find?_isSome.2 ⟨q,by simp,X8.2 ⟨e1.symm,e2.symm⟩⟩]
 ·rw [has_put_other e,ih]
  unfold ZH
  rw [List.find?_append]
  have:qIs lab el q=false:=by
   cases hc:qIs lab el q
   ·rfl
   ·obtain ⟨e1,e2⟩:=X8.1 hc
    exact absurd (by rw [e1,e2]) e
  simp [this]
theorem yy {qs:List Qn} {lab:Nat} {el:List Nat} (h1:lab<18446744073709551616) (h2:∀ x∈el,x<18446744073709551616):(∀ q∈qs,yz q)→(qs.Pairwise fun a b=>¬(a.lab=b.lab∧a.el=b.el))→∀ a,ZH qs lab el=some a→∃ (i:Nat) (q:Qn),qs[i]?=some q∧q.ans=a∧∀ z,(Yz qs).atKey (Xk lab el) z= .lit (.int .i64 (i:Int)):=by
 refine VI (p:=fun qs=>(∀ q∈qs,yz q)→(qs.Pairwise fun a b=>¬(a.lab=b.lab∧a.el=b.el))→∀ a,ZH qs lab el=some a→∃ (i:Nat) (q:Qn),qs[i]?=some q∧q.ans=a∧∀ z,(Yz qs).atKey (Xk lab el) z= .lit (.int .i64 (i:Int))) (fun _ _ a h=>by simp [ZH] at h) (fun l q ih hq hp a ha=>?_) qs
 have hk:=hq q (by simp)
 rw [List.pairwise_append] at hp
 have ih:=ih (fun x hx=>hq x (by simp [hx])) hp.1 a
 rw [Xa]
 by_cases e:Xk lab el=Xk q.lab q.el
 ·obtain ⟨e1,e2⟩:=Kk h1 hk.lab h2 (V5 hk.el) e
  refine ⟨l.length,q,by simp,?_,fun z=>by rw [e];exact atKey_put_same (UV l) (K1 _ _) _ _⟩
  unfold ZH at ha
  rw [List.find?_append] at ha
  have hn:l.find? (qIs lab el)=none:=List.find?_eq_none.2 fun x hx hc=>by
   obtain ⟨e3,e4⟩:=X8.1 hc
   exact hp.2.2 x hx q (by simp) ⟨by rw [e3,e1],by rw [e4,e2]⟩
  rw [hn] at ha
  simp [qIs,e1.symm,e2.symm] at ha
  exact ha
 ·have hq2:qIs lab el q=false:=by
   cases hc:qIs lab el q
   ·rfl
   ·obtain ⟨e1,e2⟩:=X8.1 hc
    exact absurd (by rw [e1,e2]) e
  have:ZH l lab el=some a:=by
   unfold ZH at ha ⊢
   rw [List.find?_append] at ha
   simpa [hq2] using ha
  obtain ⟨i,q',h3,h4,h5⟩:=ih this
  exact ⟨i,q',by rw [List.getElem?_append_left (Array.getElem?_eq_some_iff.1 (by simpa using (show l.toArray[i]?=some q' by simpa using h3))).1];exact h3,h4,fun z=>by rw [atKey_put_other e];exact h5 z⟩
end Go.Proofs.Ytbiieaiahdihnaa
