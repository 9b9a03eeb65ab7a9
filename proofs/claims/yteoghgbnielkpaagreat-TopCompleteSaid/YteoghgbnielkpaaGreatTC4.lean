/- A part of the proof. No condition. -/
import Derived.Test.YteoghgbnielkpaaGreatTC3
import Derived.Maps.OwnOps
import Derived.Maps.OwnSet
import Derived.Laws.Bits64

set_option maxRecDepth 100000
set_option maxHeartbeats 8000000
set_option linter.unusedVariables false
set_option linter.unusedSimpArgs false
namespace Go.Proofs.YteoghgbnielkpaaGreat
open Go.RowKit Go.Maps
open Tryz
open Go renaming World->vw, Value->vx, Addr->vy, TypeId->vz, Calls->vB
open Go.Value renaming int->vd, slice->ve, agg->vf
open Go.IntKind renaming u64->vn, i64->vq, u8->vu
open Go.Ending renaming returned->vl
open Go.RowKit renaming Below->vA
open Go.World renaming setCell->vF
open Go.Act renaming put->vG
open Option renaming none->vD, some->vE
structure Qn where
 lab:Nat
 el:List Nat
 ans:Nat
structure Ha where
 ideal:Bool
 st:Nat
 dr:Nat
 qs:List Qn
def Xc (l:List Nat):Bool:=l.all fun x=>decide (x<zb)
def rn (lab:Nat) (l:List Nat):Nat:=(Wu zb lab l).a
theorem nN (lab:Nat) (l:List Nat):rn lab l<zb:=(TR (p:=zb) (by decide) l ⟨0,0,(lab*65536%zb+l.length)%zb⟩ ⟨show 0<zb by decide,show 0<zb by decide,ic _ (by decide)⟩).1
def AE (s:Nat):Nat:=(s+11400714819323198485)%18446744073709551616
def jO (z:Nat):Nat:=(z ^^^ (z >>> 30))*13787848793156543929%18446744073709551616
def kO (z:Nat):Nat:=(z ^^^ (z >>> 27))*10723151780598845931%18446744073709551616
def lO (z:Nat):Nat:=(z ^^^ (z >>> 31))%zb
def dMix (z:Nat):Nat:=lO (kO (jO z))
def Ft (lab:Nat) (el:List Nat) (q:Qn):Bool:=q.lab == lab&&q.el == el
def Ve (qs:List Qn) (lab:Nat) (el:List Nat):Option Nat:=(qs.find? (Ft lab el)).map (·.ans)
def Lm (O:Ha) (lab:Nat) (el:List Nat) (a:Nat):Ha:=⟨O.ideal,O.st,O.dr,O.qs++[⟨lab,el,a⟩]⟩
def Mx (O:Ha):Ha:=⟨O.ideal,AE O.st,O.dr+1,O.qs⟩
def DB (O:Ha):Nat:=dMix (AE O.st)
def zr (O:Ha) (lab:Nat) (el:List Nat):Option Nat :=
 if Xc el then (match Ve O.qs lab el with | some a=>vE a | none=>if O.ideal then vD else vE (rn lab el)) else vD
def me (O:Ha) (lab:Nat) (el:List Nat):Nat :=
 if Xc el then (match Ve O.qs lab el with | some a=>a | none=>if O.ideal then DB O else rn lab el) else 0
def Pc (O:Ha) (lab:Nat) (el:List Nat):Ha :=
 if Xc el then (match Ve O.qs lab el with | some _=>O | none=>if O.ideal then Lm (Mx O) lab el (DB O) else Lm O lab el (rn lab el)) else O
def newO (ideal:Bool) (pd:Nat):Ha:=⟨ideal,pd,0,[]⟩
def Eg:List Nat -> List Nat
 | []=>[]
 | x :: r=>Ie x 8++Eg r
theorem JP:∀ (a b:List Nat),Eg (a++b)=Eg a++Eg b
 | [],b=>rfl
 | x :: r,b=>by simp [Eg,JP r b]
theorem LP:∀ (l:List Nat),(Eg l).length=8*l.length
 | []=>rfl
 | x :: r=>by simp [Eg,LP r,qK];omega
theorem JY:∀ (k n:Nat),∀ x∈Ie n k,x<256
 | 0,_,x,h=>by simp [Ie] at h
 | k+1,n,x,h=>by
  simp only [Ie,Dh] at h;rcases h with rfl | h
  ·omega
  ·exact JY k _ x h
theorem GU:∀ (l:List Nat),∀ x∈Eg l,x<256
 | [],x,h=>by simp [Eg] at h
 | y :: r,x,h=>by
  simp only [Eg,Np] at h;rcases h with h | h
  ·exact JY 8 y x h
  ·exact GU r x h
theorem IY:∀ (k a b:Nat),a<256^k -> b<256^k -> Ie a k=Ie b k -> a=b
 | 0,a,b,ha,hb,_=>by simp at ha hb;omega
 | k+1,a,b,ha,hb,h=>by
  simp only [Ie,List.cons.injEq] at h;rw [If] at ha hb;have:=IY k (a / 256) (b / 256) (by omega) (by omega) h.2
  omega
theorem J2:∀ {a b:List Nat},(∀ x∈a,x<18446744073709551616) -> (∀ x∈b,x<18446744073709551616) -> Eg a=Eg b -> a=b
 | [],[],_,_,_=>rfl
 | [],y :: r,_,_,h=>by have:=congrArg List.length h;simp [LP] at this
 | y :: r,[],_,_,h=>by have:=congrArg List.length h;simp [LP] at this
 | x :: r,y :: s,ha,hb,h=>by
  simp only [Eg] at h;obtain ⟨h1,h2⟩:=List.append_inj h (by simp [qK])
  have e1:=IY 8 x y (by have:=ha x (by simp);omega) (by have:=hb y (by simp);omega) h1
  have e2:=J2 (fun z hz=>ha z (by simp [hz])) (fun z hz=>hb z (by simp [hz])) h2
  rw [e1,e2]
theorem zAx:∀ {a b:List Nat},(∀ x∈a,x<256) -> (∀ x∈b,x<256) -> a.map (fun n=>UInt8.ofNat n)=b.map (fun n=>UInt8.ofNat n) -> a=b
 | [],[],_,_,_=>rfl
 | [],y :: r,_,_,h=>by simp at h
 | y :: r,[],_,_,h=>by simp at h
 | x :: r,y :: s,ha,hb,h=>by
  simp only [List.map_cons,List.cons.injEq] at h;have e1:x=y:=by
   have h3:=congrArg UInt8.toNat h.1;simp only [UInt8.toNat_ofNat'] at h3;have:=ha x (by simp)
   have:=hb y (by simp)
   omega
  rw [e1,zAx (fun z hz=>ha z (by simp [hz])) (fun z hz=>hb z (by simp [hz])) h.2]
def om (lab:Nat) (el:List Nat):Lit:=.string ((Eg (lab :: el)).map fun n=>UInt8.ofNat n)
theorem Z0 (lab:Nat) (el:List Nat):WideAt.IsKeyLit (om lab el):=trivial
theorem sj {a:Nat} {l:List Nat} {B:Nat} (h:a<B) (hl:∀ x∈l,x<B):∀ x∈a :: l,x<B:=fun x hx=>by
 rcases Dh.1 hx with rfl | hx
 ·exact h
 ·exact hl x hx
theorem Y0 {lab QC:Nat} {el el':List Nat} (h1:lab<18446744073709551616) (h2:QC<18446744073709551616) (h3:∀ x∈el,x<18446744073709551616) (h4:∀ x∈el',x<18446744073709551616) (h:om lab el=om QC el'):lab=QC /\ el=el':=by
 unfold om at h
 injection h with h
 have:=J2 (a:=lab :: el) (b:=QC :: el') (sj h1 h3) (sj h2 h4) (zAx (GU _) (GU _) h)
 injection this with e1 e2
 exact ⟨e1,e2⟩
def FF (qs:List Qn):DataW Unit × Nat:=qs.foldl (fun s q=>(s.1.put (om q.lab q.el) (.lit (.int vq s.2)),s.2+1)) (.map [],0)
def Fu (qs:List Qn):DataW Unit:=(FF qs).1
theorem J1 (qs:List Qn) (q:Qn):FF (qs++[q])=((FF qs).1.put (om q.lab q.el) (.lit (.int vq ((FF qs).2:Int))),(FF qs).2+1):=by simp [FF,List.foldl_append]
theorem QQ {p:List Qn -> Prop} (h0:p []) (h1:∀ l q,p l -> p (l++[q])) (l:List Qn):p l:=by
 have:∀ n (l:List Qn),l.length=n -> p l:=by
  intro n
  induction n with
  | zero=>intro l hl;rw [DJ hl];exact h0
  | succ n ih =>
   intro l hl;have Ta:l≠[]:=fun e=>by rw [e] at hl;simp at hl
   rw [<- List.dropLast_concat_getLast Ta];exact h1 _ _ (ih _ (by simp [hl]))
 exact this _ l rfl
theorem zDT (qs:List Qn):(FF qs).2=qs.length:=QQ (p:=fun qs=>(FF qs).2=qs.length) rfl (fun l q h=>by rw [J1];simp [h]) qs
theorem zP (qs:List Qn) (q:Qn):Fu (qs++[q])=(Fu qs).put (om q.lab q.el) (.lit (.int vq qs.length)):=by
 unfold Fu;rw [J1,zDT]
theorem I1 (qs:List Qn):IsMap (Fu qs):=QQ (p:=fun qs=>IsMap (Fu qs)) isMap_empty (fun l q h=>by rw [zP];exact h.put _ _) qs
theorem PJ {l:List Nat} (h:Xc l=true):∀ x∈l,x<18446744073709551616:=fun x hx=>by
 have:=of_decide_eq_true (fe.1 h x hx);unfold zb at this;omega
structure uL (q:Qn):Prop where
 lab:q.lab<18446744073709551616
 el:Xc q.el=true
 ans:q.ans<zb
 len:q.el.length <= 1000000
structure OrcOk (O:Ha):Prop where
 st:O.st<18446744073709551616
 qs:∀ q∈O.qs,uL q
 apart:O.qs.Pairwise fun a b=>¬(a.lab=b.lab /\ a.el=b.el)
 real:O.ideal=false -> ∀ q∈O.qs,q.ans=rn q.lab q.el
theorem UM {lab:Nat} {el:List Nat} {q:Qn}:Ft lab el q=true↔q.lab=lab /\ q.el=el:=by simp [Ft]
theorem W1 {qs:List Qn} {lab:Nat} {el:List Nat} (h1:lab<18446744073709551616) (h2:∀ x∈el,x<18446744073709551616):(∀ q∈qs,uL q) -> Maps.has (Fu qs) (om lab el)=(Ve qs lab el).isSome:=by
 refine QQ (p:=fun qs=>(∀ q∈qs,uL q) -> Maps.has (Fu qs) (om lab el)=(Ve qs lab el).isSome) (fun _=>rfl) (fun l q ih hq=>?_) qs
 have ih:=ih fun x hx=>hq x (by simp [hx])
 have hk:=hq q (by simp)
 rw [zP];by_cases e:om lab el=om q.lab q.el
 ·obtain ⟨e1,e2⟩:=Y0 h1 hk.lab h2 (PJ hk.el) e
  rw [e,has_put_same (I1 l) (Z0 _ _)];unfold Ve;rw [Option.isSome_map,List.find?_isSome.2 ⟨q,by simp,UM.2 ⟨e1.symm,e2.symm⟩⟩]
 ·rw [has_put_other e,ih]
  unfold Ve;rw [List.find?_append];have:Ft lab el q=false:=by
   cases hc:Ft lab el q
   ·rfl
   ·obtain ⟨e1,e2⟩:=UM.1 hc
    exact absurd (by rw [e1,e2]) e
  simp [this]
theorem zDU {qs:List Qn} {lab:Nat} {el:List Nat} (h1:lab<18446744073709551616) (h2:∀ x∈el,x<18446744073709551616):(∀ q∈qs,uL q) -> (qs.Pairwise fun a b=>¬(a.lab=b.lab /\ a.el=b.el)) -> ∀ a,Ve qs lab el=vE a -> ∃ (i:Nat) (q:Qn),qs[i]?=vE q /\ q.ans=a /\ ∀ z,(Fu qs).atKey (om lab el) z= .lit (.int vq i):=by
 refine QQ (p:=fun qs=>(∀ q∈qs,uL q) -> (qs.Pairwise fun a b=>¬(a.lab=b.lab /\ a.el=b.el)) -> ∀ a,Ve qs lab el=vE a -> ∃ (i:Nat) (q:Qn),qs[i]?=vE q /\ q.ans=a /\ ∀ z,(Fu qs).atKey (om lab el) z= .lit (.int vq i)) (fun _ _ a h=>by simp [Ve] at h) (fun l q ih hq hp a ha=>?_) qs
 have hk:=hq q (by simp)
 rw [List.pairwise_append] at hp;have ih:=ih (fun x hx=>hq x (by simp [hx])) hp.1 a
 rw [zP];by_cases e:om lab el=om q.lab q.el
 ·obtain ⟨e1,e2⟩:=Y0 h1 hk.lab h2 (PJ hk.el) e
  refine ⟨l.length,q,by simp,?_,fun z=>by rw [e];exact atKey_put_same (I1 l) (Z0 _ _) _ _⟩
  unfold Ve at ha;rw [List.find?_append] at ha;have hn:l.find? (Ft lab el)=vD:=List.find?_eq_none.2 fun x hx hc=>by
   obtain ⟨e3,e4⟩:=UM.1 hc;exact hp.2.2 x hx q (by simp) ⟨by rw [e3,e1],by rw [e4,e2]⟩
  rw [hn] at ha;simp [Ft,e1.symm,e2.symm] at ha
  exact ha
 ·have Eu:Ft lab el q=false:=by
   cases hc:Ft lab el q
   ·rfl
   ·obtain ⟨e1,e2⟩:=UM.1 hc
    exact absurd (by rw [e1,e2]) e
  have:Ve l lab el=vE a:=by
   unfold Ve at ha |-;rw [List.find?_append] at ha
   simpa [Eu] using ha
  obtain ⟨i,q',h3,h4,h5⟩:=ih this;exact ⟨i,q',by rw [pB (Nt.1 (by simpa using (show l.toArray[i]?=vE q' by simpa using h3))).1];exact h3,h4,fun z=>by rw [atKey_put_other e];exact h5 z⟩
def Ue (K:Nat -> Prop) (w:vw) (v:vx) (l:List Nat):Prop:=∀ u:vw,(∀ b,K b -> b<w.1.size -> u.1[b]?=w.1[b]?) -> RWd u [v] l
section
variable {K K' F F' UA:Nat -> Prop} {w w' Dl u:vw} {v:vx} {l:List Nat}
theorem ak (h:Ue K w v l):RWd w [v] l:=h w fun _ _ _=>rfl
theorem iw (h:Ue K w v l) (hs:w.1.size <= w'.1.size) (hw:∀ b,K b -> b<w.1.size -> w'.1[b]?=w.1[b]?):Ue K w' v l :=
 fun u hu=>h u fun b hb hl=>(hu b hb (by omega)).trans (hw b hb hl)
theorem uM (h:Ue K w v l) (hk:∀ b,K b -> K' b):Ue K' w v l:=fun u hu=>h u fun b hb hl=>hu b (hk b hb) hl
theorem dn (h:Ue K w v l) (hb:vA w.1.size w w'):Ue K w' v l:=iw h hb.size fun b _ hl=>hb.block b hl
theorem di {base n size:Nat} {e:vz} {xs:List vx} (h:w.ownsRow base e size v n xs) (ha:∀ b,v.ownBlock=vE b -> u.1[b]?=w.1[b]?):u.ownsRow base e size v n xs:=by
 obtain ⟨h1,h2⟩:=h;refine ⟨h1,?_⟩;rcases h2 with h2 | ⟨g,cap,cur,hv,Lk,hh,r⟩
 ·exact Or.inl h2
 ·exact Or.inr ⟨g,cap,cur,hv,Lk,by rw [ha g (by rw [hv];rfl)];exact hh,r⟩
theorem PI {base n:Nat} {e:vz} (h:w.ownsRow base e 1 v n (Oa l)) (hl:∀ x∈l,x<18446744073709551616):Ue (fun b=>v.ownBlock=vE b) w v l:=fun u hu=>by
 have ho:=di h fun b hb=>hu b hb (h.lt b hb).2
 obtain ⟨A,c,rfl,-⟩:=de ho;exact yt ho hl
theorem nK {g n:Nat} {t:vz} (h:Blk w g t (Oa l).toArray) (hn:l.length=n) (hl:∀ x∈l,x<18446744073709551616) (hm:n <= maxLen):Ue (fun b=>b=g) w (ve (vE ⟨g,0,vD⟩) n n) l:=fun u hu=>by
 subst hn;exact WI (t:=t) ((hu g rfl h.lt).trans h) hl hm
theorem nA (h:Ue K w v l):∃ A c,v=ve A l.length c /\ l.length <= c /\ c <= maxLen /\ (∀ x∈l,x<18446744073709551616):=by
 obtain ⟨A,n,c,h1,h2,h3,h4,h5⟩:=ak h;obtain ⟨rfl,h6,h7,h8,h9⟩:=Nb (w:=w) (A:=A) (n:=n) (c:=c) (l:=l) ⟨A,n,c,rfl,h2,h3,h4,h5⟩
 injection h1 with h1
 exact ⟨A,c,h1,h6,h7,h8⟩
structure Moved (F F':Nat -> Prop) (w w':vw):Prop where
 os:w'.os=w.os
 tape:w'.tape=w.tape
 output:w'.output=w.output
 size:w.1.size <= w'.1.size
 block:∀ b,b<w.1.size -> ¬F b -> w'.1[b]?=w.1[b]?
 foot:∀ b,F' b -> F b \/ w.1.size <= b
theorem Moved.refl:Moved F F w w:=⟨rfl,rfl,rfl,zR,fun _ _ _=>rfl,fun _ h=>.inl h⟩
theorem Moved.trans (h:Moved F F' w w') (k:Moved F' UA w' Dl):Moved F UA w Dl :=
 ⟨k.os.trans h.os,k.tape.trans h.tape,k.output.trans h.output,xb h.size k.size,fun b hb hn=>(k.block b (by have:=h.size;omega) (fun hf=>by rcases h.foot b hf with e | e;exact hn e;omega)).trans (h.block b hb hn),
  fun b hb=>by
   rcases k.foot b hb with e | e
   ·exact h.foot b e
   ·exact .inr (xb h.size e)⟩
theorem Qc (h:vA w.1.size w w'):Moved F F w w':=⟨h.os,h.tape,h.output,h.size,fun b hb _=>h.block b hb,fun _ h=>.inl h⟩
theorem EM {row:Option Nat} (h:w.grownBy w' row) (hr:∀ b,row=vE b -> F b):Moved F F w w':=⟨h.os,h.tape,h.output,h.size,fun b hb hn=>h.block b hb (fun e=>hn (hr b e.symm)),fun _ h=>.inl h⟩
theorem zEw (h:Moved F F' w w') (hf:∀ b,UA b -> F' b \/ w.1.size <= b):Moved F UA w w':=⟨h.os,h.tape,h.output,h.size,h.block,fun b hb=>by
 rcases hf b hb with e | e
 ·exact h.foot b e
 ·exact .inr e⟩
theorem ow (h:Moved F F' w w'):Moved F F' w w'.drew:=⟨h.os,h.tape,h.output,h.size,h.block,h.foot⟩
theorem Sd (h:Moved F F' w w') {b:Nat} (hb:b<w.1.size) (hn:¬F b):¬F' b:=fun hf=>by
 rcases h.foot b hf with e | e
 ·exact hn e
 ·omega
theorem Blk.moved {g:Nat} {t:vz} {cs:Array vx} (h:Blk w g t cs) (m:Moved F F' w w') (hg:¬F g):Blk w' g t cs:=(m.block g h.lt hg).trans h
theorem TF {base n size:Nat} {e:vz} {xs:List vx} (h:w.ownsRow base e size v n xs) (m:Moved F F' w w') (hv:∀ b,v.ownBlock=vE b -> ¬F b):w'.ownsRow base e size v n xs :=
 di h fun b hb=>m.block b (h.lt b hb).2 (hv b hb)
theorem zDV (h:Ue K w v l) (m:Moved F F' w w') (hK:∀ b,K b -> ¬F b):Ue K w' v l:=iw h m.size fun b hb hl=>m.block b hl (hK b hb)
theorem eH {w0:vw} (h:vA w0.1.size w0 w) (m:Moved F F' w w') (hF:∀ b,F b -> w0.1.size <= b):vA w0.1.size w0 w' :=
 h.trans ⟨m.os,m.tape,m.output,m.size,fun b hb=>m.block b (by have:=h.size;omega) (fun hf=>by have:=hF b hf;omega)⟩
end
def Ji (F:Nat -> Prop) (N:Nat) (w w':vw):Prop:=w'.os=w.os /\ w'.tape=w.tape /\ w'.output=w.output /\ w.1.size <= w'.1.size /\ ∀ b,b<N -> ¬F b -> w'.1[b]?=w.1[b]?
theorem Cc (F:Nat -> Prop) (N:Nat):ie (Ji F N):=⟨fun _=>⟨rfl,rfl,rfl,zR,fun _ _ _=>rfl⟩,fun _ _ _ h k=>⟨k.1.trans h.1,k.2.1.trans h.2.1,k.2.2.1.trans h.2.2.1,xb h.2.2.2.1 k.2.2.2.1,fun b h1 h2=>(k.2.2.2.2 b h1 h2).trans (h.2.2.2.2 b h1 h2)⟩⟩
theorem qT {F:Nat -> Prop} {N:Nat} {w w':vw} (h:Ji F N w.drew w'):∀ b o,b<N -> ¬F b -> w'.cell? ⟨b,o,vD⟩=w.cell? ⟨b,o,vD⟩:=fun b o hb Ta=>by
 have:=h.2.2.2.2 b hb Ta;simp only [World.cell?,this]
 rfl
theorem iX {a b:Prop} (h:a) (s:Imp a b:=by
 (repeat ((first | (apply Imp.via (cX (Cc _ _) rfl rfl rfl (fun _ _ _ h=>h))) | (apply Imp.via (bX (v:=?_) (Cc _ _) rfl rfl rfl (fun _ _ _ h=>h) ?hr);case hr=>(intro w' hR;(first | have Rn:=qT ((Cc _ _).trans _ _ _ ia (hR rfl)) | skip);clear hR;go_simp;try with_reducible rfl)));simp only [vG,zLa,zLb,zLc]))
 exact Imp.rfl'):b:=s h
theorem Lr {a b:Prop} (h:a) (s:Imp a b:=by
 (repeat ((first | (apply Imp.via (xG (Cc _ _) rfl rfl (fun _ _ _ h=>h))) | (apply Imp.via (uG (v:=?_) (Cc _ _) rfl rfl (fun _ _ _ h=>h) ?hr);case hr=>(intro w' hR;(first | have Rn:=qT ((Cc _ _).trans _ _ _ ia hR) | skip);go_simp;try with_reducible rfl)));simp only [vG,zLa,zLb,zLc]))
 exact Imp.rfl'):b:=s h
theorem Sj {F:Nat -> Prop} {N B:Nat} {w w':vw} (h:vA B w w') (hN:N <= B):Ji F N w w':=⟨h.os,h.tape,h.output,h.size,fun b hb _=>h.block b (by omega)⟩
theorem rT {F F' UA:Nat -> Prop} {N:Nat} {w w':vw} (h:Moved F' UA w w') (hN:N <= w.1.size) (hf:∀ b,b<N -> F' b -> F b):Ji F N w w':=⟨h.os,h.tape,h.output,h.size,fun b hb hn=>h.block b (by omega) (fun e=>hn (hf b hb e))⟩
theorem zDh {F:Nat -> Prop} {N:Nat} {w w':vw} {row:Option Nat} (h:w.grownBy w' row) (hN:N <= w.1.size) (hr:∀ b,row=vE b -> F b):Ji F N w w':=⟨h.os,h.tape,h.output,h.size,fun b hb hn=>h.block b (by omega) (fun e=>hn (hr b e.symm))⟩
def rB (E:Nat -> Prop) (w:vw) (cs:List vx) (qs:List Qn):Prop :=
 cs.length=qs.length*3 /\ ∀ (i:Nat) (q:Qn),qs[i]?=vE q -> cs[i*3]?=vE (vd vn q.lab) /\ cs[i*3+2]?=vE (vd vn q.ans) /\ ∃ s,cs[i*3+1]?=vE s /\ Ue E w s q.el
theorem KK {E:Nat -> Prop} {w w':vw} {cs:List vx} {qs:List Qn} (h:rB E w cs qs) (hs:w.1.size <= w'.1.size) (hw:∀ b,E b -> b<w.1.size -> w'.1[b]?=w.1[b]?):rB E w' cs qs :=
 ⟨h.1,fun i q hq=>by
  obtain ⟨h1,h2,s,h3,h4⟩:=h.2 i q hq;exact ⟨h1,h2,s,h3,iw h4 hs hw⟩⟩
theorem zGu {E E':Nat -> Prop} {w:vw} {cs:List vx} {qs:List Qn} (h:rB E w cs qs) (hE:∀ b,E b -> E' b):rB E' w cs qs :=
 ⟨h.1,fun i q hq=>by
  obtain ⟨h1,h2,s,h3,h4⟩:=h.2 i q hq;exact ⟨h1,h2,s,h3,uM h4 hE⟩⟩
theorem zGv (E:Nat -> Prop) (w:vw):rB E w [] []:=⟨rfl,fun i q h=>by simp at h⟩
theorem zGt {E:Nat -> Prop} {w:vw} {cs:List vx} {qs:List Qn} {s:vx} {q:Qn} (h:rB E w cs qs) (hs:Ue E w s q.el):rB E w (cs++[vd vn q.lab,s,vd vn q.ans]) (qs++[q]):=by
 refine ⟨by simp [h.1];omega,fun i x hx=>?_⟩
 by_cases hi:i<qs.length
 ·rw [pB hi] at hx
  obtain ⟨h1,h2,t,h3,h4⟩:=h.2 i x hx;have hl:=h.1;exact ⟨by rw [pB (by omega)];exact h1,by rw [pB (by omega)];exact h2,t,by rw [pB (by omega)];exact h3,h4⟩
 ·rw [Yt (by omega)] at hx
  have Ci:i-qs.length=0:=by
   rcases Ho (i-qs.length) with e | e
   ·exact e
   ·rw [Co (by simp;omega)] at hx;cases hx
  rw [Ci] at hx
  injection hx with hx
  subst hx;have hl:=h.1;have e1:i=qs.length:=by omega
  subst e1;refine ⟨?_,?_,s,?_,hs⟩
  ·rw [Yt (by omega),hl,Nat.sub_self];rfl
  ·rw [Yt (by omega),hl,show qs.length*3+2-qs.length*3=2 by omega];rfl
  ·rw [Yt (by omega),hl,show qs.length*3+1-qs.length*3=1 by omega];rfl
structure OrcIn (w:vw) (g:Nat) (O:Ha) (F:Nat -> Prop) (v:vx) (cs:List vx) (km sm pm:Nat) (E:Nat -> Prop):Prop where
 ok:OrcOk O
 blk:Blk w g 121 #[.bool O.ideal,vd vn O.st,vd vq O.dr,v, .map (vE km), .map (vE sm), .map (vE pm)]
 own:w.ownsRow 0 95 3 v O.qs.length cs
 rows:rB E w cs O.qs
 map:w.ownsMap prog 9 (plainElem prog 3) km O.qs.length (Fu O.qs)
 el:∀ b,E b -> b<w.1.size /\ b≠g /\ b≠km /\ v.ownBlock≠vE b
 kmg:km≠g
 vkm:v.ownBlock≠vE km
 vg:v.ownBlock≠vE g
 fg:F g
 fv:∀ b,v.ownBlock=vE b -> F b
 fkm:F km
 fE:∀ b,E b -> F b
 lt:∀ b,F b -> b<w.1.size
def OrcAt (w:vw) (g:Nat) (O:Ha) (F:Nat -> Prop):Prop:=∃ v cs km sm pm E,OrcIn w g O F v cs km sm pm E
section
variable {w w':vw} {g:Nat} {O:Ha} {F:Nat -> Prop}
theorem OrcIn.keep {v:vx} {cs:List vx} {km sm pm:Nat} {E:Nat -> Prop} (h:OrcIn w g O F v cs km sm pm E) (hs:w.1.size <= w'.1.size) (hw:∀ b,F b -> w'.1[b]?=w.1[b]?):OrcIn w' g O F v cs km sm pm E where
 ok:=h.ok
 blk:=(hw g h.fg).trans h.blk
 own:=di h.own fun b hb=>hw b (h.fv b hb)
 rows:=KK h.rows hs fun b hb _=>hw b (h.fE b hb)
 map:=by
  obtain ⟨es,clock,h1,h2⟩:=h.map;exact ⟨es,clock,(hw km h.fkm).trans h1,h2⟩
 el:=fun b hb=>⟨Kc (h.el b hb).1 hs,(h.el b hb).2⟩
 kmg:=h.kmg
 vkm:=h.vkm
 vg:=h.vg
 fg:=h.fg
 fv:=h.fv
 fkm:=h.fkm
 fE:=h.fE
 lt:=fun b hb=>Kc (h.lt b hb) hs
theorem OrcAt.keep (h:OrcAt w g O F) (hs:w.1.size <= w'.1.size) (hw:∀ b,F b -> w'.1[b]?=w.1[b]?):OrcAt w' g O F:=by
 obtain ⟨v,cs,km,sm,pm,E,h⟩:=h;exact ⟨v,cs,km,sm,pm,E,h.keep hs hw⟩
theorem OrcAt.lt (h:OrcAt w g O F):∀ b,F b -> b<w.1.size:=by
 obtain ⟨v,cs,km,sm,pm,E,h⟩:=h;exact h.lt
theorem OrcAt.ok (h:OrcAt w g O F):OrcOk O:=by
 obtain ⟨v,cs,km,sm,pm,E,h⟩:=h;exact h.ok
theorem OrcAt.fg (h:OrcAt w g O F):F g:=by
 obtain ⟨v,cs,km,sm,pm,E,h⟩:=h;exact h.fg
theorem OrcIn.below {v:vx} {cs:List vx} {km sm pm:Nat} {E:Nat -> Prop} (h:OrcIn w g O F v cs km sm pm E) (hb:vA w.1.size w w'):OrcIn w' g O F v cs km sm pm E:=h.keep hb.size fun b hf=>hb.block b (h.lt b hf)
theorem OrcAt.below (h:OrcAt w g O F) (hb:vA w.1.size w w'):OrcAt w' g O F:=h.keep hb.size fun b hf=>hb.block b (h.lt b hf)
theorem OrcIn.drew {v:vx} {cs:List vx} {km sm pm:Nat} {E:Nat -> Prop} (h:OrcIn w g O F v cs km sm pm E):OrcIn w.drew g O F v cs km sm pm E:=h.keep zR fun _ _=>rfl
theorem OrcAt.drew (h:OrcAt w g O F):OrcAt w.drew g O F:=h.keep zR fun _ _=>rfl
theorem OrcAt.moved {F1 F2:Nat -> Prop} (h:OrcAt w g O F) (m:Moved F1 F2 w w') (hd:∀ b,F b -> ¬F1 b):OrcAt w' g O F:=h.keep m.size fun b hf=>m.block b (h.lt b hf) (hd b hf)
end
theorem TX {l:List Nat} {j:Nat} (hj:j<l.length) (h:Xc (l.take j)=true) (hx:l.getD j 0<zb):Xc (l.take (j+1))=true:=by
 unfold Xc at *;rw [BM l j hj,List.all_append,h];simp only [List.all_cons,List.all_nil,Bool.and_true,Bool.true_and];exact tb hx
theorem SX {l:List Nat} {j:Nat} (hj:j<l.length) (hx:zb <= l.getD j 0):Xc l=false:=by
 unfold Xc;rw [jz];refine ⟨l.getD j 0,?_,by rw [decide_eq_true_iff];omega⟩
 rw [Cb,Xb hj];exact zf _
theorem D6 (A:Option vy) (n c:Nat) (l:List Nat) (w:vw) (hl:RWd w [ve A n c] l) :
  vB prog 203 #[ve A n c] w fun e w'=>e=vl (.bool (Xc l)) /\ w=w':=by
 obtain ⟨rfl,h1,h2,-,Ra⟩:=Nb hl;have gm:=um h1 h2;clear hl h1 h2;go_enter func203,ntmps203
 go_wp2_with fail
 go_loop [7] (fun i=>∃ j:Nat,j <= l.length /\ i=vd vq j /\ Hid (Xc (l.take j)=true)) (fun i=>l.length-(intOf i).toNat)
 case atStart=>exact ⟨0,Mb _,rfl,rfl⟩
 case round =>
  obtain ⟨j,hj,rfl,HB⟩:=hrel;by_cases ta:j<l.length
  ·obtain ⟨b,q,rfl,Gb,hc⟩:=Fg Ra ta
   have HL:=zH ta;have g1:(0:Int)<=j:=by omega
   have g2:(j:Int)<l.length:=by omega
   have HN:=zH (fun h=>SX (l:=l) ta h)
   have HY:=zH (fun h=>TX (l:=l) ta HB.out h)
   revert hc HN HY
   generalize l.getD j 0=y;intro hc HN HY;clear Ra;by_cases z:zb <= y
   ·have HZ:=zH (HN.out z)
    unfold zb at z;have d1:decide ((18446744069414584321:Int)<=y)=true:=tb (by omega)
    clear HN HY;go_wp2;go_ret
    exact ⟨by rw [HZ.out];rfl,rfl⟩
   ·have HZ:=zH (HY.out (by omega))
    unfold zb at z;have d1:decide ((18446744069414584321:Int)<=y)=false:=db (by omega)
    clear HN HY;go_wp2
    go_round
    case rel=>exact ⟨j+1,by omega,by go_num,HZ.out⟩
    case measure=>simp [intOf];omega
  ·have e:j=l.length:=by omega
   have HA:=zH (show Xc l=true by have:=HB.out;rwa [e,Zr] at this)
   clear Ra;go_wp2;go_ret
   exact ⟨by rw [HA.out];rfl,rfl⟩
theorem zB3 (A:Option vy) (n c:Nat) (l:List Nat) (w:vw) (hl:RWd w [ve A n c] l) (hlen:l.length <= 10000000) :
  vB prog 197 #[ve A n c] w fun e w'=>∃ v,e=vl v /\ w'.ownsRow w.1.size 22 1 v n (Oa l) /\ vA w.1.size w w':=by
 obtain ⟨rfl,h1,h2,ta,Ra⟩:=Nb hl;clear hl;have h0:w.ownsRow w.1.size 22 1 (ve vD 0 0) 0 []:=⟨rfl, .inl ⟨rfl,rfl⟩⟩;go_enter func197,ntmps197
 go_wp2_with (at_builtin;refine uk rfl _ _ rfl OL rfl h0 rfl Ra (oq _) (by omega) zR ?_)
 intro v' w1 Aa Wa Dc;go_wp2;go_ret
 exact ⟨_,rfl,Aa,tp h0 Wa zR⟩
theorem aY (base:Nat) (v:vx) (m x:Nat) (xs:List vx) (w:vw) (ho:w.ownsRow base 5 1 v m xs) (hx:x<18446744073709551616) (hk:m <= 100000000) (hb:base <= w.1.size) :
  vB prog 270 #[v,vd vn x] w fun e w'=>∃ v',e=vl v' /\ w'.ownsRow base 5 1 v' (m+8) (xs++U8 (Ie x 8)) /\ w.grownBy w' v.ownBlock /\ (∀ g,v'.ownBlock=vE g -> v.ownBlock=vE g \/ w.1.size <= g):=by
 go_enter func270,ntmps270
 go_wp2_with fail
 go_loopw [0,1,5] (fun s y i wr=>∃ j z:Nat,j <= 8 /\ i=vd vq j /\ y=vd vn z /\ Hid (z=x / 256^j) /\ z<18446744073709551616 /\ wr.ownsRow base 5 1 s (m+j) (xs++U8 (Ie x j)) /\ w.grownBy wr v.ownBlock /\ (∀ g,s.ownBlock=vE g -> v.ownBlock=vE g \/ w.1.size <= g))
  (fun _ _ i _=>8-(intOf i).toNat)
 case atStart=>exact ⟨0,x,Mb _,rfl,rfl,by simp [Hid],hx,by simpa [Ie,U8] using ho,Ee _ _,fun g h=>.inl h⟩
 case round =>
  obtain ⟨j,z,hj,rfl,rfl,HZ,hz,Aa,Va,Gb⟩:=hrel;have HB:=zH Gb;clear Gb;by_cases ta:j<8
  ·have hs:=Va.size
   go_wp2_with (at_builtin;refine uk rfl _ _ rfl SY rfl (Aa.alloc _) rfl (Ew _ (vd vu ((z:Int)%256)) _) ?_ ?_ ?_ ?_)
   ·intro u hu;simp at hu;subst hu;rfl
   ·omega
   ·simp;omega
   intro v' w1 Rb Wa Tj;have qe:=Wa.size;simp only [World.size_alloc] at qe Tj;have R:=fV (IZ Va _) HB.out Wa (Tj.imp id fun h=>⟨_,h,by simp⟩)
   have HR:=zH R;clear Aa Va Wa Tj R HB;go_wp2
   go_roundw
   case rel =>
    refine ⟨j+1,z / 256,by omega,by go_num,by go_num,?_,by omega,?_,HR.out.1,HR.out.2⟩
    ·show z / 256=x / 256^(j+1)
     rw [HZ.out,Nat.div_div_eq_div_mul,If]
    ·rw [zS,<- HZ.out,dH,<- zx]
     rw [<- zx] at Rb;exact Rb
   case measure=>simp [intOf];omega
  ·go_wp2
   go_ret
   have e:j=8:=by omega
   subst e;exact ⟨_,rfl,Aa,Va,HB.out⟩
theorem L2 (l:List Nat) (j:Nat) (h:j<l.length):Eg (l.take (j+1))=Eg (l.take j)++Ie (l.getD j 0) 8:=by
 rw [BM l j h,JP];simp [Eg]
theorem E1 (A B:Option vy) (n c m d:Nat) (l k:List Nat) (w:vw) (hl:RWd w [ve A n c] l) (hk:RWd w [ve B m d] k) (h1:l.length <= 1000000) (h2:k.length <= 1000000) :
  vB prog 204 #[ve A n c,ve B m d] w fun e w'=>e=vl (.string (S (Eg (k++l)))) /\ vA w.1.size w w':=by
 obtain ⟨rfl,h3,h4,ta,Ra⟩:=Nb hl;obtain ⟨rfl,h5,h6,jm,vI⟩:=Nb hk;clear hl hk h3 h4 h5 h6;have Cn:=zH ta;have Dm:=zH jm;clear ta jm;have e1:vq.wrap ((k.length:Int)+l.length)=((k.length+l.length:Nat):Int):=by rw [Wt];omega
 have e2:vq.wrap (8*((k.length+l.length:Nat):Int))=((8*(k.length+l.length):Nat):Int):=by rw [Wt];omega
 obtain ⟨t,ht⟩:=zEX (8*(k.length+l.length));obtain ⟨s,hs⟩:=zEX (k.length+l.length);rw [<- hs] at e1 e2 ht;rw [<- ht] at e2;have g0:(t:Int) <= 16000000:=by omega
 have HT:=zH ht;have HS:=zH hs;clear ht hs;have ph:∀ u:vw,(Instr.makeSlice 83 (vd vq 0) (vd vq t)).run prog u =
   .ok (ve (vE ⟨u.1.size,0,vD⟩) 0 t) (u.alloc (.cells (madeCells #[vd vu 0] t) 5)):=fun u=>by
  obtain ⟨i0,hi,Kh,kd,Qe⟩:=info_parts sU;have h:=run_make (P:=prog) u 83 5 i0 (vd vu 0) underlying83 hi Kh vq vq 0 (t:Int) (by omega) (by omega) (by rw [Qe];omega) (by omega)
  rw [Bk] at h
  simpa [kd,Value.cells] using h
 have mF:=World.ownsRow_made (base:=w.1.size) (e:=5) (size:=1) w (madeCells #[vd vu 0] t) t zR (by simp [maxLen];omega) (by rw [size_madeCells,Pp])
 have da:=(Ca w.1.size w).alloc zR (.cells (madeCells #[vd vu 0] t) 5);go_enter func204,ntmps204
 go_wp2_with fail
 generalize w.alloc _=w0 at mF da |-;clear ph;go_loopw [5,19] (fun s i wr=>∃ j:Nat,j <= k.length /\ i=vd vq j /\ wr.ownsRow w.1.size 5 1 s (8*j) (U8 (Eg (k.take j))) /\ vA w.1.size w wr) (fun _ i _=>k.length-(intOf i).toNat)
 case atStart=>exact ⟨0,Mb _,rfl,by simpa [Eg,U8] using mF,da⟩
 case round =>
  clear mF da;obtain ⟨j,hj,rfl,Aa,hb⟩:=hrel;by_cases ta:j<k.length
  ·obtain ⟨b,q,rfl,Gb,hc⟩:=Fg (vI.below hb) ta
   have g1:(0:Int)<=j:=by omega
   have g2:(j:Int)<k.length:=by omega
   have HY:=zH (uK Dm.out ta);have HE:=zH (L2 k j ta);have HL:=zH ta;clear ta;revert hc HY HE
   generalize k.getD j 0=y;intro hc HY HE;go_wp2_with fail
   refine (aY w.1.size _ (8*j) y _ _ Aa HY.out (by have:=HL.out;omega) hb.size).mono ?_
   rintro e w1 ⟨v',rfl,Rb,Va,Tj⟩;have Ia:=hb.trans (Es Va w.1.size hb.size (fun g hg=>(c7 Aa g hg).1))
   clear Va Tj Aa hb hc;rw [<- dH,<- HE.out] at Rb;go_wp2
   go_roundw
   case rel=>exact ⟨j+1,by have:=HL.out;omega,by go_num,by rw [show 8*(j+1)=8*j+8 by omega];exact Rb,Ia⟩
   case measure=>have:=HL.out;simp [intOf];omega
  ·have e:j=k.length:=by omega
   subst e;rw [Zr] at Aa;clear ta hj;go_wp2_with fail
   go_loopw [5,29] (fun s i wq=>∃ j:Nat,j <= l.length /\ i=vd vq j /\ wq.ownsRow w.1.size 5 1 s (8*(k.length+j)) (U8 (Eg (k++l.take j))) /\ vA w.1.size w wq) (fun _ i _=>l.length-(intOf i).toNat)
   case atStart=>exact ⟨0,Mb _,rfl,by simpa using Aa,hb⟩
   case round =>
    clear Aa hb;obtain ⟨j,hj,rfl,Aa,hb⟩:=hrel;by_cases ta:j<l.length
    ·obtain ⟨b,q,rfl,Gb,hc⟩:=Fg (Ra.below hb) ta
     have g1:(0:Int)<=j:=by omega
     have g2:(j:Int)<l.length:=by omega
     have HY:=zH (uK Cn.out ta);have HE:=zH (show Eg (k++l.take (j+1))=Eg (k++l.take j)++Ie (l.getD j 0) 8 by rw [JP,JP,L2 l j ta,zx])
     have HL:=zH ta;clear ta;revert hc HY HE
     generalize l.getD j 0=y;intro hc HY HE;go_wp2_with fail
     refine (aY w.1.size _ (8*(k.length+j)) y _ _ Aa HY.out (by have:=HL.out;omega) hb.size).mono ?_
     rintro e w1 ⟨v',rfl,Rb,Va,Tj⟩;have Ia:=hb.trans (Es Va w.1.size hb.size (fun g hg=>(c7 Aa g hg).1))
     clear Va Tj Aa hb hc;rw [<- dH,<- HE.out] at Rb;go_wp2
     go_roundw
     case rel=>exact ⟨j+1,by have:=HL.out;omega,by go_num,by rw [show 8*(k.length+(j+1))=8*(k.length+j)+8 by omega];exact Rb,Ia⟩
     case measure=>have:=HL.out;simp [intOf];omega
    ·have e:j=l.length:=by omega
     subst e;rw [Zr] at Aa;clear ta hj;obtain ⟨A',c',rfl,-,-,aP,-⟩:=de Aa;have Hv:=zHb (P:=prog) (w:=_) (dst:=9) (c:=c') underlying83 underlying5 underlying9 aP;go_wp2;go_ret
     exact ⟨rfl,hb⟩
theorem OrcIn.turn {w w':vw} {g:Nat} {O O':Ha} {F:Nat -> Prop} {v:vx} {cs:List vx} {km sm pm:Nat} {E:Nat -> Prop} (h:OrcIn w g O F v cs km sm pm E) (ok:OrcOk O') (hq:O'.qs=O.qs)
  (kb:Blk w' g 121 #[.bool O'.ideal,vd vn O'.st,vd vq O'.dr,v, .map (vE km), .map (vE sm), .map (vE pm)]) (hg:w.grownBy w' (vE g)):OrcIn w' g O' F v cs km sm pm E where
 ok:=ok
 blk:=kb
 own:=by rw [hq];exact di h.own fun b hb=>hg.block b (h.own.lt b hb).2 (fun e=>h.vg (by rw [hb,e]))
 rows:=by rw [hq];exact KK h.rows hg.size fun b hb hl=>hg.block b hl (fun e=>(h.el b hb).2.1 (Za e))
 map:=by
  rw [hq];obtain ⟨es,clock,h1,h2⟩:=h.map;exact ⟨es,clock,(hg.block km (h.lt km h.fkm) (fun e=>h.kmg (Za e))).trans h1,h2⟩
 el:=fun b hb=>⟨Kc (h.el b hb).1 hg.size,(h.el b hb).2⟩
 kmg:=h.kmg
 vkm:=h.vkm
 vg:=h.vg
 fg:=h.fg
 fv:=h.fv
 fkm:=h.fkm
 fE:=h.fE
 lt:=fun b hb=>Kc (h.lt b hb) hg.size
theorem GO (w:vw) (g i j:Nat) (x y:vx):w.grownBy ((w.setCell ⟨g,i,vD⟩ x).setCell ⟨g,j,vD⟩ y) (vE g):=Wg (p:=⟨g,j,vD⟩) (Wg (p:=⟨g,i,vD⟩) (Ee w (vE g)) (.inl rfl) x) (.inl rfl) y
theorem rE {w:vw} {g:Nat} {t:vz} {cs:Array vx} (k:Blk w g t cs) (i j:Nat) (x y:vx):Blk ((w.setCell ⟨g,i,vD⟩ x).setCell ⟨g,j,vD⟩ y) g t ((cs.setIfInBounds i x).setIfInBounds j y):=(k.set_ i x).set_ j y
theorem zFa {i:Bool} {st dr:Nat} {qs:List Qn} (h:OrcOk ⟨i,st,dr,qs⟩) {s1 d1:Nat} (hs:s1<18446744073709551616):OrcOk ⟨i,s1,d1,qs⟩:=⟨hs,h.qs,h.apart,h.real⟩
theorem zCu (i:Bool) (st dr:Nat) (qs:List Qn):Mx ⟨i,st,dr,qs⟩=⟨i,AE st,dr+1,qs⟩:=rfl
theorem zCs (i:Bool) (st dr:Nat) (qs:List Qn):DB ⟨i,st,dr,qs⟩=lO (kO (jO (AE st))):=rfl
theorem zCt {w:vw} {g:Nat} {O:Ha} {F:Nat -> Prop} {v:vx} {cs:List vx} {km sm pm:Nat} {E:Nat -> Prop} (h:OrcIn w g O F v cs km sm pm E) (hi:O.ideal=true) (hd:O.dr <= 1000000000) :
  vB prog 224 #[.pointer (vE ⟨g,0,vD⟩)] w fun e w'=>e=vl (vd vn (DB O:Int)) /\ OrcIn w' g (Mx O) F v cs km sm pm E /\ w.grownBy w' (vE g):=by
 obtain ⟨ideal,st,dr,qs⟩:=O;have Sc:st<18446744073709551616:=h.ok.st;have kb:Blk w g 121 #[.bool ideal,vd vn st,vd vq dr,v, .map (vE km), .map (vE sm), .map (vE pm)]:=h.blk;have hd':dr <= 1000000000:=hd;clear hd;have bF:ideal=true:=hi;subst bF;clear hi;have H:=zH h;have e1:vq.wrap ((dr:Int)+1)=((dr+1:Nat):Int):=by rw [Wt];omega
 have e2:vn.wrap ((st:Int)+11400714819323198485)=((AE st:Nat):Int):=by rw [pj];unfold AE;omega
 have hz:AE st<18446744073709551616:=ic _ (by decide)
 obtain ⟨dr1,hdr⟩:=zEX (dr+1);rw [<- hdr] at e1;obtain ⟨s1,Bd⟩:=zEX (AE st);rw [<- Bd] at e2 hz;have HD:=zH hdr;have HS:=zH Bd;clear hdr Bd h;obtain ⟨a1,Kz⟩:=zEX (s1 ^^^ (s1 >>> 30));have ha1l:a1<18446744073709551616:=by rw [Kz];exact Nat.xor_lt_two_pow (n:=64) hz (by rw [YG];omega)
 have x1:bits BinOp.xor vn (s1:Int) ((s1:Int) / 1073741824)=(a1:Int):=by
  rw [show (s1:Int) / (1073741824:Int)=((s1 >>> 30:Nat):Int) by rw [YG];omega,bits_xor_u64_nat _ _ hz (by rw [YG];omega),Kz]
 obtain ⟨a,ha⟩:=zEX (a1*13787848793156543929%18446744073709551616);have ma:a<18446744073709551616:=by omega
 have m1:vn.wrap ((a1:Int)*13787848793156543929)=(a:Int):=by rw [pj];omega
 have HA:=zH (show a=jO s1 by rw [ha,Kz,jO])
 clear ha Kz;obtain ⟨b1,Ia⟩:=zEX (a ^^^ (a >>> 27));have hb1l:b1<18446744073709551616:=by rw [Ia];exact Nat.xor_lt_two_pow (n:=64) ma (by rw [YG];omega)
 have x2:bits BinOp.xor vn (a:Int) ((a:Int) / 134217728)=(b1:Int):=by
  rw [show (a:Int) / (134217728:Int)=((a >>> 27:Nat):Int) by rw [YG];omega,bits_xor_u64_nat _ _ ma (by rw [YG];omega),Ia]
 obtain ⟨b,hb⟩:=zEX (b1*10723151780598845931%18446744073709551616);have Gb:b<18446744073709551616:=by omega
 have m2:vn.wrap ((b1:Int)*10723151780598845931)=(b:Int):=by rw [pj];omega
 have HB:=zH (show b=kO a by rw [hb,Ia,kO])
 clear hb Ia;obtain ⟨c1,td⟩:=zEX (b ^^^ (b >>> 31));have x3:bits BinOp.xor vn (b:Int) ((b:Int) / 2147483648)=(c1:Int):=by
  rw [show (b:Int) / (2147483648:Int)=((b >>> 31:Nat):Int) by rw [YG];omega,bits_xor_u64_nat _ _ Gb (by rw [YG];omega),td]
 obtain ⟨c,hcz⟩:=zEX (c1%18446744069414584321);have m3:(c1:Int).tmod 18446744069414584321=(c:Int):=by rw [Int.tmod_eq_emod_of_nonneg (by omega)];omega
 have HC:=zH (show c=lO b by rw [hcz,td,lO,zb])
 clear hcz td;have X1:=zH ha1l;have X2:=zH hb1l;have X3:=zH hz;clear ha1l hb1l ma Gb hz Sc;have hv:DB ⟨true,st,dr,qs⟩=c:=by rw [zCs,<- HS.out,<- HA.out,<- HB.out,<- HC.out]
 rw [hv];clear hv HA HB HC;obtain ⟨O1,Pn⟩:=zEX (Mx ⟨true,st,dr,qs⟩);rw [<- Pn];have HO:=zH (show O1=⟨true,s1,dr1,qs⟩ by rw [Pn,zCu,HS.out,HD.out])
 clear Pn HS HD;have hc:=kb.cell;have hf:=kb.frozen;have KB:=zH kb;clear kb;go_enter func224,ntmps224
 go_wp2_with fail
 go_ret
 have hg:=GO w g 2 1 (vd vq dr1) (vd vn s1);have kb:=rE KB.out 2 1 (vd vq dr1) (vd vn s1);generalize (w.setCell ⟨g,2,vD⟩ (vd vq dr1)).setCell ⟨g,1,vD⟩ (vd vn s1)=w1 at hg kb |-;refine ⟨rfl,?_,hg⟩;rw [HO.out];exact H.out.turn (O':=⟨true,s1,dr1,qs⟩) (zFa H.out.ok X3.out) rfl (by simpa using kb) hg
theorem info_q:(prog.info? 95).map (fun i=>(i.zero,i.size,i.bytes))=vE (vE (vf #[vd vn 0,ve vD 0 0,vd vn 0]),3,40):=by kernel_rfl
theorem NL:zq prog 60 95 3 40 (vf #[vd vn 0,ve vD 0 0,vd vn 0]):=by
 obtain ⟨i0,hi,Kh,kd,Qe⟩:=info_parts info_q;exact ⟨underlying60,⟨i0,hi,Kh,kd,Qe⟩,rfl,by omega⟩
theorem XM (w:vw) (x y z:vx) (t:vz):Rd (w.alloc (.cells #[x,y,z] t)) 3 (vE ⟨w.1.size,0,vD⟩) 1 [x,y,z]:=by
 refine ⟨rfl,fun _=>⟨_,rfl,fun j u hj=>?_⟩⟩
 match j,hj with
 | 0,hj=>simp at hj;subst hj;simp [Addr.add]
 | 1,hj=>simp at hj;subst hj;simp [Addr.add]
 | 2,hj=>simp at hj;subst hj;simp [Addr.add]
theorem FU:Keyed prog 9:=string_keyed underlying9
theorem AU (lab:Nat) (l:List Nat) (h:l.length <= 1000000):keyOf prog 9 (.string (S (Eg (lab :: l))))=vE (om lab l):=by
 have:=WideMaps.keyOf_string_mk (P:=prog) underlying9 (s:=S (Eg (lab :: l))) (by rw [S_size,LP,xg];simp only [maxLen];omega)
 rw [this];simp [S,om]
theorem zE9 {O:Ha} (h:OrcOk O) {lab:Nat} {l:List Nat} {an:Nat} (oh:lab<18446744073709551616) (Jk:Xc l=true) (han:an<zb) (hlen:l.length <= 1000000) (jK:Ve O.qs lab l=vD) (dP:O.ideal=false -> an=rn lab l):OrcOk (Lm O lab l an):=by
 refine ⟨h.st,fun q hq=>?_,?_,fun hi q hq=>?_⟩
 ·rcases Np.1 hq with hq | hq
  ·exact h.qs q hq
  ·rw [Fo.1 hq];exact ⟨oh,Jk,han,hlen⟩
 ·show (O.qs++[_]).Pairwise _
  rw [List.pairwise_append];refine ⟨h.apart,List.pairwise_singleton _ _,fun a ha b hb hc=>?_⟩
  rw [Fo.1 hb] at hc;unfold Ve at jK;rw [Option.map_eq_none_iff] at jK;have:=List.find?_eq_none.1 jK a ha;exact this (UM.2 hc)
 ·rcases Np.1 hq with hq | hq
  ·exact h.real hi q hq
  ·rw [Fo.1 hq];exact dP hi
structure OrcPre (w:vw) (g km:Nat) (cells:Array vx) (v:vx) (n m:Nat) (cs:List vx) (qs:List Qn) (D:DataW Unit) (E:Nat -> Prop):Prop where
 blk:Blk w g 121 cells
 own:w.ownsRow 0 95 3 v n cs
 rows:rB E w cs qs
 map:w.ownsMap prog 9 (plainElem prog 3) km m D
theorem OrcPre.keep {w w':vw} {g km:Nat} {cells:Array vx} {v:vx} {n m:Nat} {cs:List vx} {qs:List Qn} {D:DataW Unit} {E F:Nat -> Prop} (h:OrcPre w g km cells v n m cs qs D E) (hF:F g /\ F km /\ (∀ b,v.ownBlock=vE b -> F b) /\ ∀ b,E b -> F b)
  (hs:w.1.size <= w'.1.size) (hw:∀ b,F b -> w'.1[b]?=w.1[b]?):OrcPre w' g km cells v n m cs qs D E where
 blk:=(hw g hF.1).trans h.blk
 own:=di h.own fun b hb=>hw b (hF.2.2.1 b hb)
 rows:=KK h.rows hs fun b hb _=>hw b (hF.2.2.2 b hb)
 map:=by
  obtain ⟨es,clock,h1,h2⟩:=h.map;exact ⟨es,clock,(hw km hF.2.1).trans h1,h2⟩
theorem zGT {w w3 w4:vw} {g km sm pm:Nat} {O:Ha} {F E:Nat -> Prop} {v v' vs:vx} {cs:List vx} {lab an N n eb:Nat} {l:List Nat}
  (OK:OrcOk (Lm O lab l an))
  (P:OrcPre w3 g km #[.bool O.ideal, .int vn O.st, .int vq O.dr,v, .map (vE km), .map (vE sm), .map (vE pm)] v O.qs.length (O.qs.length+1) cs O.qs ((Fu O.qs).put (om lab l) (.lit (.int vq O.qs.length))) E)
  (hF:F g /\ F km /\ (∀ b,v.ownBlock=vE b -> F b) /\ ∀ b,E b -> F b) (hX:v.ownBlock≠vE g /\ v.ownBlock≠vE km /\ ∀ b,E b -> b≠g /\ b≠km /\ v.ownBlock≠vE b) (hgk:g≠km) (ta:∀ b,F b -> b<N) (hN:N <= eb) (Wx:N <= w3.1.size) (hew:w.1.size <= eb)
  (sy:w3.ownsRow eb 22 1 vs n (Oa l)) (Tn:∀ x∈l,x<18446744073709551616)
  (Aa:w4.ownsRow 0 95 3 v' (O.qs.length+1) (cs++[vd vn lab,vs,vd vn an])) (hg:w3.grownBy w4 v.ownBlock) (hb:v'.ownBlock=v.ownBlock \/ v'.ownBlock=vE w3.1.size)
  (M:Moved F F w w3) :
  ∃ F',OrcAt (w4.setCell ⟨g,3,vD⟩ v') g (Lm O lab l an) F' /\ Moved F F' w (w4.setCell ⟨g,3,vD⟩ v'):=by
 obtain ⟨fg,fkm,fv,fE⟩:=hF;obtain ⟨x1,x2,x3⟩:=hX;have Ib:w4.grownBy (w4.setCell ⟨g,3,vD⟩ v') (vE g):=Wg (p:=⟨g,3,vD⟩) (Ee w4 _) (.inl rfl) _;have kb4:=P.blk.grown hg (fun e=>x1 e.symm)
 have kb5:=kb4.set_ 3 v';have Yc:∀ b,vs.ownBlock=vE b -> eb <= b /\ b<w3.1.size:=fun b h=>sy.lt b h
 have Xv:∀ b,v'.ownBlock=vE b -> F b \/ b=w3.1.size:=fun b h=>by
  rcases hb with e | e
  ·exact .inl (fv b (by rw [<- e];exact h))
  ·rw [e] at h;exact .inr (Za h).symm
 have hvg:v'.ownBlock≠vE g:=fun h=>by
  rcases hb with e | e
  ·exact x1 (by rw [<- e];exact h)
  ·rw [e] at h;have:=Za h;have:=ta g fg;omega
 have hvk:v'.ownBlock≠vE km:=fun h=>by
  rcases hb with e | e
  ·exact x2 (by rw [<- e];exact h)
  ·rw [e] at h;have:=Za h;have:=ta km fkm;omega
 have hvE:∀ b,E b -> v'.ownBlock≠vE b:=fun b hE h=>by
  rcases hb with e | e
  ·exact (x3 b hE).2.2 (by rw [<- e];exact h)
  ·rw [e] at h;have:=Za h;have:=ta b (fE b hE);omega
 have hvN:∀ b,v.ownBlock=vE b -> b<N:=fun b h=>ta b (fv b h)
 have Xn:=di Aa fun b h=>Ib.block b (Aa.lt b h).2 (fun e=>hvg (by rw [h,e]))
 have vs4:=di sy fun b h=>hg.block b (Yc b h).2 (fun e=>by have:=hvN b e.symm;have:=Yc b h;omega)
 have vs5:=di vs4 fun b h=>Ib.block b (vs4.lt b h).2 (fun e=>by have:=Za e;have:=Yc b h;have:=ta g fg;omega)
 have kr5:=PI vs5 Tn;have rows4:=KK P.rows hg.size fun b hE hl=>hg.block b hl (fun e=>(x3 b hE).2.2 e.symm)
 have rows5:=KK rows4 Ib.size fun b hE hl=>Ib.block b hl (fun e=>(x3 b hE).1 (Za e))
 have s4:=hg.size;have s5:=Ib.size;refine ⟨fun b=>F b \/ v'.ownBlock=vE b \/ vs.ownBlock=vE b,⟨v',cs++[vd vn lab,vs,vd vn an],km,sm,pm,fun b=>E b \/ vs.ownBlock=vE b,?_⟩,?_⟩
 ·refine ⟨OK,?_,?_,?_,?_,?_,fun e=>hgk e.symm,hvk,hvg, .inl fg,fun b h=>.inr (.inl h), .inl fkm,?_,?_⟩
  ·show Blk _ g _ #[.bool O.ideal,vd vn O.st,vd vq O.dr,v', .map (vE km), .map (vE sm), .map (vE pm)]
   simpa using kb5
  ·have:(Lm O lab l an).qs.length=O.qs.length+1:=by show (O.qs++[_]).length=_;simp
   rw [this];exact Xn
  ·exact zGt (q:=⟨lab,l,an⟩) (zGu rows5 fun b h=>.inl h) (uM kr5 fun b h=>.inr h)
  ·have:(Lm O lab l an).qs=O.qs++[⟨lab,l,an⟩]:=zA9 O lab l an
   rw [this,zP,Ni];obtain ⟨es,clock,h1,h2⟩:=P.map;refine ⟨es,clock,?_,h2⟩;have zu:km<w3.1.size:=by have:=ta km fkm;omega
   exact (Ib.block km (by omega) (fun e=>hgk (Za e).symm)).trans ((hg.block km zu (fun e=>x2 e.symm)).trans h1)
  ·intro b h
   rcases h with h | h
   ·exact ⟨by have:=ta b (fE b h);omega,(x3 b h).1,(x3 b h).2.1,hvE b h⟩
   ·have h1:=Yc b h
    refine ⟨by omega,fun e=>by have:=ta g fg;omega,fun e=>by have:=ta km fkm;omega,fun e=>?_⟩
    rcases Xv b e with h2 | h2
    ·have:=ta b h2;omega
    ·omega
  ·intro b h
   rcases h with h | h
   ·exact .inl (fE b h)
   ·exact .inr (.inr h)
  ·intro b h
   rcases h with h | h | h
   ·have:=ta b h;omega
   ·have:=(Aa.lt b h).2;omega
   ·have:=Yc b h;omega
 ·refine zEw (F':=F) ((M.trans (EM (F:=F) hg fun b h=>fv b h)).trans (EM (F:=F) Ib fun b h=>by rw [<- Za h];exact fg)) fun b h=>?_
  have hs:=M.size;rcases h with h | h | h
  ·exact .inl h
  ·rcases Xv b h with h | h
   ·exact .inl h
   ·exact .inr (by omega)
  ·exact .inr (by have:=Yc b h;omega)
where
 zA9 (O:Ha) (lab:Nat) (el:List Nat) (a:Nat):(Lm O lab el a).qs=O.qs++[⟨lab,el,a⟩]:=by simp only [Lm]
theorem J8 {w:vw} {g:Nat} {O:Ha} {F:Nat -> Prop} {v:vx} {cs:List vx} {km sm pm:Nat} {E:Nat -> Prop} (h:OrcIn w g O F v cs km sm pm E) (lab:Nat) (l:List Nat) (an:Nat) (A:Option vy) (n c:Nat) {K:Nat -> Prop}
  (hl:Ue K w (ve A n c) l) (hK:∀ b,K b -> ¬F b) (oh:lab<18446744073709551616) (Jk:Xc l=true) (han:an<zb) (hlen:l.length <= 1000000) (hn:O.qs.length <= 1000000) (jK:Ve O.qs lab l=vD) (dP:O.ideal=false -> an=rn lab l) :
  vB prog 225 #[.pointer (vE ⟨g,0,vD⟩), .string (S (Eg (lab :: l))),vd vn lab,ve A n c,vd vn an] w fun e w'=>e=vl (.tuple #[]) /\ ∃ F',OrcAt w' g (Lm O lab l an) F' /\ Moved F F' w w':=by
 have OK1:=zH (zE9 h.ok oh Jk han hlen jK dP);have Qt:=zH (AU lab l hlen);have Rg:=zH hlen;have HEL:=zH Jk;have xI:l.length=n:=by obtain ⟨A',c',e,-⟩:=nA hl;injection e with _ e2 _;exact e2.symm
 have HRN:=zH xI;have HK:=zH hK;clear oh Jk jK dP hK hlen xI;obtain ⟨hv⟩:Nonempty (∃ B d,v=ve B O.qs.length d):=by
  obtain ⟨B,d,e,-⟩:=de h.own;exact ⟨B,d,e⟩
 obtain ⟨B,d,rfl⟩:=hv;have kb:=h.blk;have hc:=kb.cell;have hmp:=fun w=>run_eql_map_nil (P:=prog) w 117 9 3 (vE km) underlying117
 have H:=zH h;have hglt:g<w.1.size:=kb.lt;have hgk:g≠km:=fun e=>h.kmg e.symm
 have gn:(O.qs.length:Int) <= 1000000:=by omega
 obtain ⟨nq,rC⟩:=zEX (O.qs.length);rw [<- rC] at hc gn;have gg:=zH rC;clear h rC kb hn;go_enter func225,ntmps225
 go_wp2_with fail
 refine zd (Km km) [10] [0,1,2,3,4,5,6,7,8,9,10] (by kernel_rfl) (by kernel_rfl) ?_
 refine Se (Re km) ?_;intro Wc Ja ia;have H1:=zH (show OrcIn Wc g O F (ve B O.qs.length d) cs km sm pm E by rw [Ja.out];exact H.out.drew)
 have dm:Ue K Wc (ve A n c) l:=by rw [Ja.out];exact iw hl zR fun _ _ _=>rfl
 have M0:Moved F F w Wc:=by rw [Ja.out];exact ow Moved.refl
 clear Ja H hl;obtain ⟨w1,Uc,Un,jg⟩:=H1.out.map.update FU underlying117 (by have:=gg.out;simp only [maxLen];omega) Qt.out (val:=.int vq nq) (plainElem_int Cx (by simp [Lit.wf,IntKind.min,IntKind.max,IntKind.signed,IntKind.bits];omega))
 refine oo ?_;refine ef (Re km) rfl rfl rfl ?_;go_simp;refine ⟨jg,?_⟩
 refine zPU ?_
 refine Jc ?_;have kb1:Blk w1 g 121 _:=H1.out.blk.grown jg (fun e=>hgk (Za e))
 have Fy:=di H1.out.own fun b hb=>jg.block b (H1.out.own.lt b hb).2 (fun e=>H1.out.vkm (by rw [hb,e]))
 have V8:=KK H1.out.rows jg.size fun b hb hl=>jg.block b hl (fun e=>(H1.out.el b hb).2.2.1 (Za e))
 have Nv:Ue K w1 (ve A n c) l:=iw dm jg.size fun b hb hl=>jg.block b hl (fun e=>HK.out b hb (by rw [Za e];exact H1.out.fkm))
 have M1:=M0.trans (EM (F:=F) jg (fun b e=>by rw [<- Za e];exact H1.out.fkm))
 have lk1:km<w1.1.size:=Un.lt;have td:=kb1.cell;have dI:=kb1.frozen;have lg1:=kb1.lt;have P1:=zH (OrcPre.mk kb1 Fy V8 Un);have HF:Hid (F g /\ F km /\ (∀ b,(ve B O.qs.length d).ownBlock=vE b -> F b) /\ ∀ b,E b -> F b):=⟨H1.out.fg,H1.out.fkm,H1.out.fv,H1.out.fE⟩;have HX:Hid ((ve B O.qs.length d).ownBlock≠vE g /\ (ve B O.qs.length d).ownBlock≠vE km /\ ∀ b,E b -> b≠g /\ b≠km /\ (ve B O.qs.length d).ownBlock≠vE b):=⟨H1.out.vg,H1.out.vkm,fun b hb=>⟨(H1.out.el b hb).2.1,(H1.out.el b hb).2.2.1,(H1.out.el b hb).2.2.2⟩⟩
 have Zb:=zH (show ∀ b,F b -> b<w1.1.size from fun b hb=>Kc (H1.out.lt b hb) jg.size)
 obtain ⟨VF,hVF⟩:∃ VF:Nat -> Prop,∀ b,VF b↔(ve B O.qs.length d).ownBlock=vE b:=⟨_,fun _=>Iff.rfl⟩
 have nVg:¬VF g:=fun e=>HX.out.1 ((hVF g).1 e)
 have HVF:=zH hVF;rw [<- gg.out] at td;clear hVF kb1 Fy V8 Un hc Uc jg dm M0 ia hglt hmp H1 Qt;clear Wc;go_wp2_with fail
 obtain ⟨N,hN⟩:=zEX (w1.1.size);rw [<- hN] at lg1 lk1;have HN:=zH hN;clear hN;refine NA (Ji VF N) [7,10,11,12,14] [14] [0,1,2,3,4,5,6,8,7,9,10,11,12,13,14] (by kernel_rfl) (by kernel_rfl) ?_
 refine QA (Cc VF N) ?_;intro Wc Ja ia;have P2:=zH (P1.out.keep (w':=w1.drew) (F:=F) HF.out zR fun _ _=>rfl)
 rw [<- Ja.out] at P2;have hl3:Ue K Wc (ve A n c) l:=by rw [Ja.out];exact iw Nv zR fun _ _ _=>rfl
 have M2:Moved F F w Wc:=by rw [Ja.out];exact ow M1
 have dc:N <= Wc.1.size:=by rw [Ja.out,HN.out];exact zR
 have hbN:N <= Wc.1.size:=dc;have Ka:w.1.size <= Wc.1.size:=M2.size;have HLc:Hid (∀ b,F b -> b<N):=by rw [HN.out];exact Zb.out
 clear Ja P1 Nv M1 Zb;refine iX ?_;refine Jt (Cc VF N) rfl rfl rfl (fun _=>by go_simp <;> rfl) ((zB3 A n c l _ (ak hl3) (by have:=Rg.out;omega)).mono ?_)
 rintro e w2 ⟨vs,rfl,sy,Ba⟩;refine ⟨_,rfl,fun _=>Sj Ba dc,?_⟩
 replace ia:=(Cc VF N).trans _ _ _ ia (Sj Ba dc);refine zPU ?_;have P3:=zH (P2.out.keep (F:=F) HF.out Ba.size fun b hb=>Ba.block b (by have:=HLc.out b hb;omega))
 have M3:=M2.trans (Qc (F:=F) Ba);have Hk:N <= w2.1.size:=by have:=Ba.size;omega
 obtain ⟨Bs,ds,rfl,-,-,-,uj⟩:=de sy;clear P2 M2 Ba dc hl3 ia td;have ia:=(Cc VF N).refl w2;refine iX ?_;refine Ij (Cc VF N) rfl rfl rfl ?_;go_simp;refine ⟨fun _=>Sj ((Ca _ _).alloc zR _) Hk,?_⟩
 have ma:=(Ca w2.1.size w2).alloc zR (.cells #[vd vn lab,ve Bs n ds,vd vn an] 95);have Ra:=XM w2 (vd vn lab) (ve Bs n ds) (vd vn an) 95;have P4:=zH (P3.out.keep (F:=F) HF.out ma.size fun b hb=>ma.block b (by have:=HLc.out b hb;omega))
 have qU:=Mc sy ma zR;have M4:=M3.trans (Qc (F:=F) ma);have Wx:N <= (w2.alloc (.cells #[vd vn lab,ve Bs n ds,vd vn an] 95)).1.size:=xb Hk ma.size;have pk:=P4.out.own;rw [<- gg.out] at pk
 refine zPU ?_
 generalize w2.alloc _=w3 at Ra P4 qU M4 Wx pk |-;generalize w2.1.size=g2 at Ra |-;clear P3 M3 Hk ma sy ia;have ia:=(Cc VF N).refl w3;refine Ij (Cc VF N) rfl rfl rfl ?_;refine Mw _ _ rfl NL rfl pk rfl Ra (by intro u hu;simp at hu;rcases hu with rfl | rfl | rfl <;> rfl) (by omega) (Mb _) ?_
 intro v' w4 Rb Wa Dc;refine ⟨fun _=>zDh Wa Wx (fun b hb=>(HVF.out b).2 (by rw [<- gg.out];exact hb)),?_⟩
 refine zPU ?_
 have XE:=(P4.out.blk.grown Wa (fun e=>by rw [gg.out] at e;exact HX.out.1 e.symm)).frozen
 have hcg4:=(P4.out.blk.grown Wa (fun e=>by rw [gg.out] at e;exact HX.out.1 e.symm)).cell
 obtain ⟨Av,cv,hv',-⟩:=de Rb;subst hv';have eh:=zH (zGT OK1.out (by have:=P4.out;rw [gg.out] at this;exact this) HF.out HX.out hgk HLc.out (eb:=Wc.1.size) hbN Wx Ka qU (PJ HEL.out) (by have:=Rb;rw [gg.out] at this;exact this) (by have:=Wa;rw [gg.out] at this;exact this) (by rw [<- gg.out];exact Dc) M4)
 rw [<- gg.out] at eh;clear Rb Wa Dc Ra P4 pk qU M4 ia Wx;have ia:=(Cc VF N).refl w4;refine Ij (Cc VF N) rfl rfl rfl ?_;go_simp
 try refine And.intro (fun _=>(Cc VF N).refl _) ?_
 refine zPU ?_
 refine iX ?_;refine Ij (Cc VF N) rfl rfl rfl ?_;go_simp;refine ⟨fun h=>Bool.noConfusion h,?_⟩
 refine zPU ?_
 refine OA ?_;go_wp2
 go_end0
 exact ⟨rfl,eh.out⟩
theorem idx_h0 {w:vw} {a b c:vx}:(Instr.index 298 (vf #[a,b,c]) (vd vq 0)).run prog w= .ok a w :=
 LQ (i:=0) underlying298 zX Q9 (by omega) rfl
theorem gV (label:Nat) (A:Option vy) (n c:Nat) (l:List Nat) (w:vw) (hl:RWd w [ve A n c] l) (Ta:0<l.length) (hlen:l.length <= 1000000) :
  vB prog 205 #[vd vn 18446744069414584321,vd vn label,ve A n c] w fun e w'=>e=vl (vd vn (rn label l:Int)) /\ vA w.1.size w w':=by
 have HV:=zH (fun w=>Qo zb w eQ)
 have KD:=zH (fun w' (hb:vA w.1.size w w')=>p7 zb label A n c l w' eQ (Bb hb hl) Ta hlen)
 have HE:=zH (show rn label l=(Wu zb label l).a from rfl)
 have hidx:=fun w a b c=>idx_h0 (w:=w) (a:=a) (b:=b) (c:=c)
 clear hl Ta hlen;generalize rn label l=z at *;generalize Wu zb label l=s at *;unfold fv zb at *;go_enter func205,ntmps205
 go_wp2_with fail
 refine (HV.out _).mono ?_;rintro e w1 ⟨rfl,Ia⟩;go_wp2_with fail
 refine (KD.out _ Ia).mono ?_;rintro e w2 ⟨rfl,Ba⟩;have da:=pa Ia Ba;have ev:s.val=vf #[vd vn s.a,vd vn s.b,vd vn s.c]:=rfl;rw [ev];go_wp2;go_ret
 exact ⟨by rw [HE.out];rfl,da⟩
theorem jE (O:Ha) (lab:Nat) (el:List Nat) (a:Nat):(Lm O lab el a).qs=O.qs++[⟨lab,el,a⟩]:=by simp only [Lm]
theorem PY (i:Bool) (s d:Nat) (q:List Qn):(Mx ⟨i,s,d,q⟩).qs=q:=rfl
theorem JL (O:Ha):(Mx O).qs=O.qs:=by
 cases O with
 | mk i s d q=>exact PY i s d q
def Fk (O:Ha) (lab:Nat) (el:List Nat) (a:Nat):Prop:=Xc el=true /\ Ve O.qs lab el=vE a
theorem qZ {qs:List Qn} {q:Qn} {lab:Nat} {el:List Nat} {a:Nat} (h:Ve qs lab el=vE a):Ve (qs++[q]) lab el=vE a:=by
 unfold Ve at h |-;rw [List.find?_append];cases hc:qs.find? (Ft lab el) with
 | none=>rw [hc] at h;cases h
 | some x=>rw [hc] at h;exact h
theorem rZ {qs:List Qn} {lab:Nat} {el:List Nat} {a:Nat} (h:Ve qs lab el=vD):Ve (qs++[⟨lab,el,a⟩]) lab el=vE a:=by
 unfold Ve at h |-;rw [Option.map_eq_none_iff] at h;rw [List.find?_append,h];simp [Ft]
theorem gY {O:Ha} {lab:Nat} {el:List Nat} {a:Nat} (h:Fk O lab el a):Pc O lab el=O /\ me O lab el=a /\ zr O lab el=vE a:=by
 obtain ⟨h1,h2⟩:=h;simp [Pc,me,zr,h1,h2]
theorem RZ (O:Ha) (lab:Nat) {el:List Nat} (he:Xc el=true):Fk (Pc O lab el) lab el (me O lab el):=by
 refine ⟨he,?_⟩;unfold Pc me;rw [Na he,Na he];cases hf:Ve O.qs lab el with
 | some a=>exact hf
 | none =>
  cases O.ideal
  ·simp only [Bool.false_eq_true,if_false]
   exact rZ hf
  ·simp only [if_true]
   rw [jE,JL];exact rZ hf
theorem iY {O:Ha} {lab:Nat} {el:List Nat} {a:Nat} (h:Fk O lab el a) (QC:Nat) (el':List Nat):Fk (Pc O QC el') lab el a:=by
 refine ⟨h.1,?_⟩;unfold Pc;split
 ·split
  ·exact h.2
  ·split
   ·rw [jE,JL];exact qZ h.2
   ·rw [jE];exact qZ h.2
 ·exact h.2
theorem yS (z:Nat):dMix z<zb:=ic _ (by decide)
def Gl (O:Ha):Prop:=∀ q∈O.qs,q.ans<zb
theorem OrcOk.ans {O:Ha} (h:OrcOk O):Gl O:=fun q hq=>(h.qs q hq).ans
theorem Mz {O:Ha} (h:Gl O) (lab:Nat) (el:List Nat):me O lab el<zb:=by
 unfold me;split
 ·split
  ·rename_i a ha
   unfold Ve at ha;cases hc:O.qs.find? (Ft lab el) with
   | none=>rw [hc] at ha;cases ha
   | some x =>
    rw [hc] at ha
    injection ha with ha
    rw [<- ha];exact h x (List.mem_of_find?_eq_some hc)
  ·split
   ·exact yS _
   ·exact nN _ _
 ·decide
theorem KO {O:Ha} (h:Gl O) (lab:Nat) (el:List Nat):Gl (Pc O lab el):=by
 unfold Pc;split
 ·split
  ·exact h
  ·split
   ·intro q hq
    rw [jE,JL] at hq;rcases Np.1 hq with hq | hq
    ·exact h q hq
    ·rw [Fo.1 hq];exact yS _
   ·intro q hq
    rw [jE] at hq;rcases Np.1 hq with hq | hq
    ·exact h q hq
    ·rw [Fo.1 hq];exact nN lab el
 ·exact h
def Vb (O:Ha) (lab:Nat) (qs:List (List Nat)):Ha:=qs.foldl (fun o q=>Pc o lab q) O
def Le (O:Ha) (lab:Nat) (qs:List (List Nat)):List Nat:=(List.range qs.length).map fun i=>me (Vb O lab (qs.take i)) lab (qs.getD i [])
theorem dS (O:Ha) (lab:Nat) (qs:List (List Nat)) (i:Nat) (h:i<qs.length):Vb O lab (qs.take (i+1))=Pc (Vb O lab (qs.take i)) lab (qs.getD i []):=by
 unfold Vb;rw [Su h,List.foldl_append,Cb,Xb h]
 rfl
theorem cY (O:Ha) (lab:Nat) (qs:List (List Nat)):Vb O lab (qs.take qs.length)=Vb O lab qs:=by rw [Zr]
theorem zy (O:Ha) (lab:Nat) (qs:List (List Nat)):(Le O lab qs).length=qs.length:=by simp [Le]
theorem gS (O:Ha) (lab:Nat) (qs:List (List Nat)) (i:Nat) (h:i<qs.length):(Le O lab qs).getD i 0=me (Vb O lab (qs.take i)) lab (qs.getD i []):=by
 simp [Le,Cb,h]
theorem iS {O:Ha} {lab:Nat} {el:List Nat} {a:Nat} (h:Fk O lab el a) (QC:Nat):∀ qs:List (List Nat),Fk (Vb O QC qs) lab el a:=by
 intro qs;unfold Vb
 induction qs generalizing O with
 | nil=>exact h
 | cons q r ih=>exact ih (iY h QC q)
theorem zBu (O:Ha) (lab:Nat) (a b:List (List Nat)):Vb O lab (a++b)=Vb (Vb O lab a) lab b:=by simp [Vb]
theorem dY (O:Ha) (lab:Nat) (qs:List (List Nat)) (hq:∀ q∈qs,Xc q=true) (i:Nat) (h:i<qs.length):Fk (Vb O lab qs) lab (qs.getD i []) ((Le O lab qs).getD i 0):=by
 rw [gS O lab qs i h];have e:qs=qs.take (i+1)++qs.drop (i+1):=(List.take_append_drop _ _).symm;have hm:qs.getD i []∈qs:=by rw [Cb,Xb h];exact zf h
 have h1:=RZ (Vb O lab (qs.take i)) lab (hq _ hm);rw [<- dS O lab qs i h] at h1;have h2:=iS h1 lab (qs.drop (i+1));rw [<- zBu,<- e] at h2;exact h2
theorem JJ {O:Ha} (h:Gl O) (lab:Nat):∀ qs:List (List Nat),Gl (Vb O lab qs):=by
 intro qs;unfold Vb
 induction qs generalizing O with
 | nil=>exact h
 | cons q r ih=>exact ih (KO h lab q)
theorem LJ {O:Ha} (h:Gl O) (lab:Nat) (qs:List (List Nat)):∀ x∈Le O lab qs,x<zb:=fun x hx=>by
 simp only [Le,Ed] at hx;obtain ⟨k,_,rfl⟩:=hx;exact Mz (JJ h _ _) _ _
def Md (l:List Nat):List (List Nat):=(List.range (l.length / 2)).map fun i=>[l.getD (2*i) 0,l.getD (2*i+1) 0]
theorem sK (l:List Nat):(Md l).length=l.length / 2:=by simp [Md]
theorem J7 (l:List Nat) (i:Nat) (h:i<l.length / 2):(Md l).getD i []=[l.getD (2*i) 0,l.getD (2*i+1) 0]:=by simp [Md,Cb,h]
def Hg:Nat -> Ha -> List Nat -> List (List Nat)
 | 0,_,l=>[l]
 | d+1,O,l=>l :: Hg d (Vb O 17 (Md l)) (Le O 17 (Md l))
def Jw:Nat -> Ha -> List Nat -> Ha
 | 0,O,_=>O
 | d+1,O,l=>Jw d (Vb O 17 (Md l)) (Le O 17 (Md l))
theorem jS {lab:Nat} {el:List Nat} {a:Nat}:∀ (d:Nat) {O:Ha} (l:List Nat),Fk O lab el a -> Fk (Jw d O l) lab el a
 | 0,_,_,h=>h
 | d+1,_,_,h=>jS d _ (iS h 17 _)
def yp (ls:List (List Nat)):Nat:=(ls.getLastD []).getD 0 0
def Fi:List (List Nat) -> Nat -> List Nat
 | [],_=>[]
 | [_],_=>[]
 | l :: m :: r,i=>l.getD (i ^^^ 1) 0 :: Fi (m :: r) (i / 2)
def Ri (O:Ha) (lab:Nat) (el:List Nat):Option Nat:=if O.ideal then zr O lab el else vE (me O lab el)
def Kf (O:Ha) (lab:Nat) (el:List Nat):Ha:=if O.ideal then O else Pc O lab el
def wm:List Nat -> Ha -> Nat -> List Nat -> Nat -> Option Nat
 | [],O,lab,el,_=>Ri O lab el
 | p :: r,O,lab,el,i=>(Ri O lab el).bind fun a=>wm r (Kf O lab el) 17 (if i%2=1 then [p,a] else [a,p]) (i / 2)
def El:List Nat -> Ha -> Nat -> List Nat -> Nat -> Ha
 | [],O,lab,el,_=>Kf O lab el
 | p :: r,O,lab,el,i=>match Ri O lab el with | some a=>El r (Kf O lab el) 17 (if i%2=1 then [p,a] else [a,p]) (i / 2) | none=>Kf O lab el
theorem fY {O:Ha} {lab:Nat} {el:List Nat} {a:Nat} (h:Fk O lab el a):Ri O lab el=vE a /\ Kf O lab el=O:=by
 obtain ⟨h1,h2,h3⟩:=gY h;unfold Ri Kf;cases O.ideal
 ·simp [h1,h2]
 ·simp [h3]
theorem zA2 (j:Nat):2*j ^^^ 1=2*j+1:=by
 have:(2*j+1) ^^^ 1=2*j:=by
  apply Nat.eq_of_testBit_eq
  intro i;rcases i with _ | i
  ·simp [Nat.testBit_zero]
  ·rw [Nat.testBit_xor,Nat.testBit_succ,Nat.testBit_succ,Nat.testBit_succ,show (2*j+1) / 2=j by omega,show 2*j / 2=j by omega]
   simp
 rw [<- this,Nat.xor_assoc,Nat.xor_self,Nat.xor_zero,this]
theorem zIB (j:Nat):(2*j+1) ^^^ 1=2*j:=by rw [<- zA2 j,Nat.xor_assoc,Nat.xor_self,Nat.xor_zero]
theorem zAJ {T:Ha}:∀ (d:Nat) (O:Ha) (l:List Nat) (lab:Nat) (el:List Nat) (i:Nat),l.length=2^d -> (∀ x∈l,x<zb) -> (∀ lab el a,Fk (Jw d O l) lab el a -> Fk T lab el a) -> Gl O -> i<l.length ->
  Fk T lab el (l.getD i 0) -> wm (Fi (Hg d O l) i) T lab el i=vE (yp (Hg d O l)) /\ El (Fi (Hg d O l) i) T lab el i=T
 | 0,O,l,lab,el,i,hl,_,_,_,hi,h=>by
  have:i=0:=by simp at hl;omega
  subst this;obtain ⟨h1,h2⟩:=fY h;exact ⟨by simp [Hg,Fi,wm,h1,yp],by simp [Hg,Fi,El,h2]⟩
 | d+1,O,l,lab,el,i,hl,ta,hT,hV,hi,h=>by
  have e2:l.length / 2=2^d:=by rw [hl,If];omega
  have Xe:(Le O 17 (Md l)).length=2^d:=by rw [zy,sK,e2]
  have bI:∀ k,l.getD k 0<zb:=fun k=>by
   rw [Cb];rcases Sg k l.length with h1 | h1
   ·rw [Xb h1];exact ta _ (zf h1)
   ·rw [Co h1];show 0<zb;decide
  have hq:∀ q∈Md l,Xc q=true:=by
   intro q hq;simp only [Md,Ed] at hq;obtain ⟨k,_,rfl⟩:=hq;simp only [Xc,List.all_cons,List.all_nil,Bool.and_true,mc,Oo];exact ⟨bI _,bI _⟩
  have hj:i / 2<l.length / 2:=by
   rw [e2];rw [hl,If] at hi;omega
  have ha:=dY O 17 (Md l) hq (i / 2) (by rw [sK];exact hj)
  rw [J7 l _ hj] at ha;have ha2:=hT _ _ _ (jS d (Le O 17 (Md l)) ha);have ih:=zAJ d (Vb O 17 (Md l)) (Le O 17 (Md l)) 17 [l.getD (2*(i / 2)) 0,l.getD (2*(i / 2)+1) 0] (i / 2) Xe (LJ hV 17 _) hT (JJ hV 17 _) (by rw [Xe,<- e2];exact hj) ha2
  obtain ⟨h1,h2⟩:=fY h;have hcons:∃ m r,Hg d (Vb O 17 (Md l)) (Le O 17 (Md l))=m :: r:=by cases d <;> exact ⟨_,_,rfl⟩
  obtain ⟨m,r,hmr⟩:=hcons;have yC:yp (Hg (d+1) O l)=yp (m :: r):=by simp [Hg,yp,hmr]
  have hpath:Fi (Hg (d+1) O l) i=l.getD (i ^^^ 1) 0 :: Fi (m :: r) (i / 2):=by simp [Hg,hmr,Fi]
  rw [hmr] at ih;have Jk:(if i%2=1 then [l.getD (i ^^^ 1) 0,l.getD i 0] else [l.getD i 0,l.getD (i ^^^ 1) 0])=[l.getD (2*(i / 2)) 0,l.getD (2*(i / 2)+1) 0]:=by
   by_cases h3:i%2=1
   ·have e:i=2*(i / 2)+1:=by omega
    have e3:i ^^^ 1=2*(i / 2):=by
     have:=zIB (i / 2);rw [show 2*(i / 2)+1=i by omega] at this
     exact this
    rw [Na h3,e3,<- e]
   ·have e:i=2*(i / 2):=by omega
    have e3:i ^^^ 1=2*(i / 2)+1:=by
     have:=zA2 (i / 2);rw [show 2*(i / 2)=i by omega] at this
     rw [this];omega
    rw [ya h3,e3,<- e]
  rw [yC,hpath];refine ⟨?_,?_⟩
  ·simp only [wm,h1,h2,Option.bind_some,Jk]
   exact ih.1
  ·simp only [El,h1,h2,Jk]
   exact ih.2
theorem zDu {O:Ha} {lab:Nat} {l:List Nat} (h:Xc l=false):me O lab l=0 /\ Pc O lab l=O:=by
 unfold me Pc;simp only [h,Bool.false_eq_true,if_false,and_self]
theorem zDw {O:Ha} {lab a:Nat} {l:List Nat} (h:Xc l=true) (hf:Ve O.qs lab l=vE a):me O lab l=a /\ Pc O lab l=O:=by
 unfold me Pc;simp only [h,hf,if_true,and_self]
theorem zDt {O:Ha} {lab:Nat} {l:List Nat} (h:Xc l=true) (hf:Ve O.qs lab l=vD) (hi:O.ideal=true):me O lab l=DB O /\ Pc O lab l=Lm (Mx O) lab l (DB O):=by
 unfold me Pc;simp only [h,hf,hi,if_true,and_self]
theorem zDv {O:Ha} {lab:Nat} {l:List Nat} (h:Xc l=true) (hf:Ve O.qs lab l=vD) (hi:O.ideal=false):me O lab l=rn lab l /\ Pc O lab l=Lm O lab l (rn lab l):=by
 unfold me Pc;simp only [h,hf,hi,if_true,Bool.false_eq_true,if_false,and_self]
theorem zA3 (w:vw):(zeroValue 3).run prog w= .ok (vd vq 0) w:=by kernel_rfl
theorem OP {w:vw} {g:Nat} {O:Ha} {F:Nat -> Prop} {v:vx} {cs:List vx} {km sm pm:Nat} {E:Nat -> Prop} (h:OrcIn w g O F v cs km sm pm E) {lab:Nat} {l:List Nat} (oh:lab<18446744073709551616) (hl:Xc l=true) (hlen:l.length <= 1000000) :
  (∃ c:Int,(Instr.lookup 117 (.map (vE km)) (.string (S (Eg (lab :: l)))) true).run prog w= .ok (.tuple #[vd vq c, .bool (Ve O.qs lab l).isSome]) w /\
   ∀ a,Ve O.qs lab l=vE a -> ∃ (i:Nat) (gq:Nat) (d:Nat),c=(i:Int) /\ i<O.qs.length /\ v=ve (vE ⟨gq,0,vD⟩) O.qs.length d /\ w.cell? ⟨gq,i*3+2,vD⟩=vE (vd vn a) /\ gq<w.1.size):=by
 have hk:=AU lab l hlen;obtain ⟨x,ps,Uc,hx⟩:=h.map.look_ok FU underlying117 (zA3 w) (plainElem_int Cx (by decide)) hk
 obtain ⟨c,rfl,hc,-⟩:=plainElem_int_inv Cx hx;rw [W1 oh (PJ hl) h.ok.qs] at Uc;refine ⟨c,Uc,fun a ha=>?_⟩
 obtain ⟨i,q,h1,h2,h3⟩:=zDU oh (PJ hl) h.ok.qs h.ok.apart a ha;have hi:i<O.qs.length:=by
  rcases Sg i O.qs.length with e | e
  ·exact e
  ·rw [Co e] at h1;cases h1
 rw [h3] at hc;have Oz:c=(i:Int):=by
  have:=congrArg Prod.fst hc;simp at this
  exact this.symm
 obtain ⟨h4,h5,-⟩:=h.rows.2 i q h1;rcases h.own.2 with ⟨rfl,h0⟩ | ⟨gq,cap,cur,hv,-,hh,-⟩
 ·omega
 ·refine ⟨i,gq,cap,Oz,hi,hv,?_,(Nt.1 hh).1⟩
  have:=h.own.cells (g:=gq) (by rw [hv];rfl) (i*3+2) _ h5
  rw [h2] at this
  simpa [Addr.add] using this
def litI (d:DataW Unit):Int:=match d with | .lit (.int _ c)=>c | _=>0
def tK (O:Ha) (lab:Nat) (l:List Nat):Int:=litI ((Fu O.qs).atKey (om lab l) (.lit (.int vq 0)))
theorem R4 {w:vw} {g:Nat} {O:Ha} {F:Nat -> Prop} {v:vx} {cs:List vx} {km sm pm:Nat} {E:Nat -> Prop} (h:OrcIn w g O F v cs km sm pm E) {lab:Nat} {l:List Nat} (oh:lab<18446744073709551616) (hl:Xc l=true) (hlen:l.length <= 1000000) :
  (Instr.lookup 117 (.map (vE km)) (.string (S (Eg (lab :: l)))) true).run prog w= .ok (.tuple #[vd vq (tK O lab l), .bool (Ve O.qs lab l).isSome]) w:=by
 have hk:=AU lab l hlen;obtain ⟨x,ps,Uc,hx⟩:=h.map.look_ok FU underlying117 (zA3 w) (plainElem_int Cx (by decide)) hk
 obtain ⟨c,rfl,hc,-⟩:=plainElem_int_inv Cx hx;rw [W1 oh (PJ hl) h.ok.qs] at Uc;have:tK O lab l=c:=by
  unfold tK;rw [show (Fu O.qs).atKey (om lab l) (.lit (.int vq 0))= .lit (.int vq c) from congrArg Prod.fst hc]
  rfl
 rw [this];exact Uc
theorem zEb {w:vw} {g:Nat} {O:Ha} {F:Nat -> Prop} {v:vx} {cs:List vx} {km sm pm:Nat} {E:Nat -> Prop} (h:OrcIn w g O F v cs km sm pm E) {lab:Nat} {l:List Nat} (oh:lab<18446744073709551616) (hl:Xc l=true) (hlen:l.length <= 1000000) :
  ∀ a,Ve O.qs lab l=vE a -> ∃ (i:Nat) (gq:Nat) (d:Nat),tK O lab l=(i:Int) /\ i<O.qs.length /\ v=ve (vE ⟨gq,0,vD⟩) O.qs.length d /\ w.cell? ⟨gq,i*3+2,vD⟩=vE (vd vn a) /\ gq<w.1.size:=fun a ha=>by
 obtain ⟨c,Uc,hf⟩:=OP h oh hl hlen;obtain ⟨i,gq,d,h1,h2⟩:=hf a ha;refine ⟨i,gq,d,?_,h2⟩;have:=R4 h oh hl hlen;rw [Uc] at this;simp at this
 rw [<- this,h1]
theorem zFV {O:Ha} {lab:Nat} {l:List Nat} (h:Xc l=false):zr O lab l=vD:=by
 unfold zr;simp only [h,Bool.false_eq_true,if_false]
theorem zFX {O:Ha} {lab a:Nat} {l:List Nat} (h:Xc l=true) (hf:Ve O.qs lab l=vE a):zr O lab l=vE a:=by
 unfold zr;simp only [h,hf,if_true]
theorem zFU {O:Ha} {lab:Nat} {l:List Nat} (h:Xc l=true) (hf:Ve O.qs lab l=vD) (hi:O.ideal=true):zr O lab l=vD:=by
 unfold zr;simp only [h,hf,hi,if_true]
theorem zFW {O:Ha} {lab:Nat} {l:List Nat} (h:Xc l=true) (hf:Ve O.qs lab l=vD) (hi:O.ideal=false):zr O lab l=vE (rn lab l):=by
 unfold zr;simp only [h,hf,hi,if_true,Bool.false_eq_true,if_false]
theorem OY (O:Ha):(Mx O).ideal=O.ideal:=by
 cases O with
 | mk i s d q=>exact zCv i s d q
where
 zCv (i:Bool) (s d:Nat) (q:List Qn):(Mx ⟨i,s,d,q⟩).ideal=i:=rfl
theorem aM {w:vw} {g:Nat} {O:Ha} {F:Nat -> Prop} (h:OrcAt w g O F) (lab:Nat) (l:List Nat) (A:Option vy) (n c:Nat) {K:Nat -> Prop} (hl:Ue K w (ve A n c) l) (hK:∀ b,K b -> ¬F b)
  (oh:lab<18446744073709551616) (hlen:l.length <= 1000000) (Ta:0<l.length \/ O.ideal=true) (hn:O.qs.length <= 1000000) (hd:O.dr <= 1000000) :
  vB prog 137 #[.pointer (vE ⟨g,0,vD⟩),vd vn lab,ve A n c] w fun e w'=>e=vl (vd vn (me O lab l:Int)) /\ ∃ F',OrcAt w' g (Pc O lab l) F' /\ Moved F F' w w':=by
 have Pt:=zH (D6 A n c l w (ak hl));obtain ⟨v,cs,km,sm,pm,E,Rc⟩:=h;cases he:Xc l
 ·rw [he] at Pt
  obtain ⟨e1,e2⟩:=zDu (O:=O) (lab:=lab) he;rw [e1,e2];have eh:=zH (show ∃ F',OrcAt w g O F' /\ Moved F F' w w from ⟨F,⟨v,cs,km,sm,pm,E,Rc⟩,Moved.refl⟩)
  clear hl hK Ta hn hd Rc he e1 e2;go_enter func137,ntmps137
  go_wp2_with fail
  refine Pt.out.mono ?_;rintro e w1 ⟨rfl,rfl⟩;go_wp2_with fail
  go_ret
  exact ⟨rfl,eh.out⟩
 ·rw [he] at Pt
  have HE:=zH he;have HI:=zH Rc;have HL:=zH hl;have HK:=zH hK;have Rg:=zH hlen;have HN:=zH hn;have iK:=zH oh;have Qt:=zH (fun w1 (k:Blk w1 w.1.size 22 #[vd vn lab]) (hb:vA w.1.size w w1)=>show vB prog 204 #[ve A n c,ve (vE ⟨w.1.size,0,vD⟩) 1 1] w1 fun e w'=>e=vl (.string (S (Eg (lab :: l)))) /\ vA w1.1.size w1 w' from E1 A (vE ⟨w.1.size,0,vD⟩) n c 1 1 l [lab] w1 (Bb hb (ak hl)) (WI (l:=[lab]) k (by simp;exact oh) (by simp [maxLen])) hlen (by simp))
  have ue:=Blk.new w 22 #[vd vn lab];have da:=(Ca w.1.size w).alloc zR (.cells #[vd vn lab] 22);clear he hl hK Rc hlen hn;cases hf:Ve O.qs lab l with
  | some a =>
   obtain ⟨e1,e2⟩:=zDw (O:=O) (lab:=lab) HE.out hf;rw [e1,e2];have HF:=zH hf;clear e1 e2 hf Ta hd;go_enter func137,ntmps137
   go_wp2_with fail
   refine Pt.out.mono ?_;rintro e w1 ⟨rfl,rfl⟩;go_wp2_with fail
   generalize w.alloc _=w1 at ue da |-;refine (Qt.out w1 ue da).mono ?_;rintro e w2 ⟨rfl,Ba⟩;replace da:=pa da Ba;have H2:=zH (HI.out.below da);have Dm:=zH (dn HL.out da);have M2:=Qc (F:=F) da;obtain ⟨x,Uc,jI⟩:=OP H2.out iK.out HE.out Rg.out;have hc:=H2.out.blk.cell;clear Ba da ue Qt;rw [HF.out] at Uc jI;obtain ⟨i,gq,d,rfl,hi,rfl,To,hgq⟩:=jI a rfl;have eh:=zH (show ∃ F',OrcAt w2 g O F' /\ Moved F F' w w2 from ⟨F,⟨_,cs,km,sm,pm,E,H2.out⟩,M2⟩)
   obtain ⟨nq,rC⟩:=zEX (O.qs.length);rw [<- rC] at hi hc;have g1:(0:Int)<=i:=by omega
   have g2:(i:Int)<nq:=by omega
   clear jI rC M2;simp only [Option.isSome] at Uc;go_wp2_with fail
   go_ret
   exact ⟨rfl,eh.out⟩
  | none =>
   have HF:=zH hf;cases hi:O.ideal
   ·obtain ⟨e1,e2⟩:=zDv (O:=O) (lab:=lab) HE.out hf hi
    rw [e1,e2];have HH:=zH hi;have sI:0<l.length:=by
     rcases Ta with e | e
     ·exact e
     ·rw [hi] at e;cases e
    have OD:=zH sI;clear e1 e2 hf hi Ta sI hd;go_enter func137,ntmps137
    go_wp2_with fail
    refine Pt.out.mono ?_;rintro e w1 ⟨rfl,rfl⟩;go_wp2_with fail
    generalize w.alloc _=w1 at ue da |-;refine (Qt.out w1 ue da).mono ?_;rintro e w2 ⟨rfl,Ba⟩;replace da:=pa da Ba;have H2:=zH (HI.out.below da);have Dm:=zH (dn HL.out da);have M2:=Qc (F:=F) da;obtain ⟨x,Uc,jI⟩:=OP H2.out iK.out HE.out Rg.out;have hc:=H2.out.blk.cell;clear Ba da ue Qt;rw [HF.out] at Uc;rw [HH.out] at hc;clear jI;simp only [Option.isSome] at Uc;go_wp2_with fail
    refine (gV lab A n c l w2 (ak Dm.out) OD.out Rg.out).mono ?_;rintro e w3 ⟨rfl,Sa⟩;have H3:=zH (H2.out.below Sa);have HL3:=zH (dn Dm.out Sa);have M3:=M2.trans (Qc (F:=F) Sa);clear hc Uc Sa M2;go_wp2_with fail
    refine (J8 H3.out lab l (rn lab l) A n c HL3.out HK.out iK.out HE.out (nN lab l) Rg.out HN.out HF.out (fun _=>rfl)).mono ?_
    rintro e w4 ⟨rfl,F',h4,m4⟩;have eh:=zH (show ∃ F',OrcAt w4 g (Lm O lab l (rn lab l)) F' /\ Moved F F' w w4 from ⟨F',h4,M3.trans m4⟩)
    clear h4 m4 M3;go_wp2;go_ret
    exact ⟨rfl,eh.out⟩
   ·obtain ⟨e1,e2⟩:=zDt (O:=O) (lab:=lab) HE.out hf hi
    rw [e1,e2];have HH:=zH hi;have HD:=zH hd;clear e1 e2 hf hi Ta hd;go_enter func137,ntmps137
    go_wp2_with fail
    refine Pt.out.mono ?_;rintro e w1 ⟨rfl,rfl⟩;go_wp2_with fail
    generalize w.alloc _=w1 at ue da |-;refine (Qt.out w1 ue da).mono ?_;rintro e w2 ⟨rfl,Ba⟩;replace da:=pa da Ba;have H2:=zH (HI.out.below da);have Dm:=zH (dn HL.out da);have M2:=Qc (F:=F) da;obtain ⟨x,Uc,jI⟩:=OP H2.out iK.out HE.out Rg.out;have hc:=H2.out.blk.cell;clear Ba da ue Qt;rw [HF.out] at Uc;rw [HH.out] at hc;clear jI;simp only [Option.isSome] at Uc;go_wp2_with fail
    refine (zCt H2.out HH.out (by have:=HD.out;omega)).mono ?_
    rintro e w3 ⟨rfl,h3,Mg⟩;have H3:=zH h3;have HL3:=zH (iw Dm.out Mg.size fun b hb hl=>Mg.block b hl (fun e=>HK.out b hb (by rw [Za e];exact HI.out.fg)))
    have M3:=M2.trans (EM (F:=F) Mg (fun b hb=>by rw [<- Za hb];exact HI.out.fg))
    clear hc Uc Mg M2 h3;go_wp2_with fail
    refine (J8 H3.out lab l (DB O) A n c HL3.out HK.out iK.out HE.out (yS _) Rg.out (by rw [JL];exact HN.out) (by rw [JL];exact HF.out) (fun e=>by rw [OY,HH.out] at e;cases e)).mono ?_
    rintro e w4 ⟨rfl,F',h4,m4⟩;have eh:=zH (show ∃ F',OrcAt w4 g (Lm (Mx O) lab l (DB O)) F' /\ Moved F F' w w4 from ⟨F',h4,M3.trans m4⟩)
    clear h4 m4 M3;go_wp2;go_ret
    exact ⟨rfl,eh.out⟩
theorem CP {w u:vw} (h:vA w.drew.1.size w.drew u):vA w.1.size w u:=⟨h.os,h.tape,h.output,h.size,h.block⟩
theorem jX {a b:Prop} (h:a) (s:Imp a b:=by
 (repeat ((first | (apply Imp.via (xG (ra) rfl rfl (fun _ _ _ h=>h))) | (apply Imp.via (uG (v:=?_) (ra) rfl rfl (fun _ _ _ h=>h) ?hr);case hr=>(intro w' hR;(first | have Rn:=oK ((ra).trans _ _ _ ia hR) | skip);have Uc:=EG.out _ (CP (ra.trans _ _ _ ia hR));go_simp;try with_reducible rfl)));simp only [vG,zLa,zLb,zLc]))
 exact Imp.rfl'):b:=s h
theorem zFT {w:vw} {g:Nat} {O:Ha} {F:Nat -> Prop} (h:OrcAt w g O F) (lab:Nat) (l:List Nat) (A:Option vy) (n c:Nat) (hl:RWd w [ve A n c] l)
  (oh:lab<18446744073709551616) (hlen:l.length <= 1000000) (Ta:0<l.length \/ O.ideal=true) (hn:O.qs.length <= 1000000) :
  vB prog 109 #[.pointer (vE ⟨g,0,vD⟩),vd vn lab,ve A n c] w fun e w'=>e=vl (.tuple #[vd vn (((zr O lab l).getD 0:Nat):Int), .bool (zr O lab l).isSome]) /\ vA w.1.size w w':=by
 have Pt:=zH (D6 A n c l w hl);obtain ⟨v,cs,km,sm,pm,E,Rc⟩:=h;cases he:Xc l
 ·rw [he] at Pt
  rw [zFV (O:=O) (lab:=lab) he];clear hl Ta hn Rc he;go_enter func109,ntmps109
  go_wp2_with fail
  refine Pt.out.mono ?_;rintro e w1 ⟨rfl,rfl⟩;go_wp2_with fail
  go_ret2
  exact ⟨rfl,Ca _ _⟩
 ·rw [he] at Pt
  have HE:=zH he;have HI:=zH Rc;have HL:=zH hl;have Rg:=zH hlen;have HN:=zH hn;have iK:=zH oh;have Qt:=zH (fun w1 b (k:Blk w1 b 22 #[vd vn lab]) (hb:vA w.1.size w w1)=>show vB prog 204 #[ve A n c,ve (vE ⟨b,0,vD⟩) 1 1] w1 fun e w'=>e=vl (.string (S (Eg (lab :: l)))) /\ vA w1.1.size w1 w' from E1 A (vE ⟨b,0,vD⟩) n c 1 1 l [lab] w1 (Bb hb hl) (WI (l:=[lab]) k (by simp;exact oh) (by simp [maxLen])) hlen (by simp))
  have EG:=zH (fun u (hb:vA w.1.size w u)=>R4 (Rc.below hb) oh he hlen)
  have UT:=zH Rc;have Lg:=Rc.blk.cell;have Us:=Rc.blk.lt;have HFD:=zH (zEb Rc oh he hlen);clear he hl Rc hlen hn;cases hf:Ve O.qs lab l with
  | some a =>
   rw [zFX (O:=O) (lab:=lab) HE.out hf];obtain ⟨i,gq,d,Oz,hi,rfl,hcq0,hgq⟩:=HFD.out a hf;have EG:=zH (show ∀ u,vA w.1.size w u -> (Instr.lookup 117 (.map (vE km)) (.string (S (Eg (lab :: l)))) true).run prog u= .ok (.tuple #[vd vq i, .bool true]) u from fun u hb=>by have:=EG.out u hb;rw [hf,Oz] at this;exact this)
   have HCQ:=zH hcq0;have HI0:=zH hi;clear hf Ta HFD Oz hcq0 hi;go_enter func109,ntmps109
   go_wp2_with fail
   refine Pt.out.mono ?_;rintro e w1 ⟨rfl,rfl⟩;go_wp2_with fail
   refine zd (Ub) [6,7] [0,1,2,3,4,5,6,7,8,9,10,11,12,13] (by kernel_rfl) (by kernel_rfl) ?_
   refine Se (ra) ?_;intro Wc Ja ia;refine Qb ?_;refine ef (ra) rfl rfl rfl ?_;go_simp;refine ⟨(Ca _ _).alloc zR _,?_⟩;have da:vA w.1.size w (Wc.alloc (.cells #[vd vn lab] 22)):=by rw [Ja.out];exact (Ca w.1.size w.drew).alloc zR _ |> CP
   have ue:=Blk.new Wc 22 #[vd vn lab];replace ia:=ra.trans _ _ _ ia ((Ca Wc.1.size Wc).alloc zR (.cells #[vd vn lab] 22))
   refine zPU ?_
   generalize Wc.alloc _=w1 at ue da ia |-;clear Ja;refine Bc (ra) rfl rfl rfl (fun _=>by go_simp <;> rfl) ((Qt.out w1 _ ue da).mono ?_)
   rintro e w2 ⟨rfl,Ba⟩;refine ⟨_,rfl,Ba,?_⟩;replace ia:=(ra).trans _ _ _ ia (Ba);refine zPU ?_;refine jX ?_;refine Jc ?_;have hc:=(UT.out.below (pa da Ba)).blk.cell;replace da:=pa da Ba;clear Ba ue ia Lg Us;have To:=(da.cell (p:=⟨gq,i*3+2,vD⟩) hgq).trans HCQ.out;have hi:=HI0.out;obtain ⟨nq,rC⟩:=zEX (O.qs.length);rw [<- rC] at hi hc;have g1:(0:Int)<=i:=by omega
   have g2:(i:Int)<nq:=by omega
   clear rC;go_wp2_with fail
   go_ret2
   exact ⟨rfl,da⟩
  | none =>
   have HF:=zH hf;cases hi:O.ideal
   ·rw [zFW (O:=O) (lab:=lab) HE.out hf hi]
    have EG:=zH (show ∀ u,vA w.1.size w u -> (Instr.lookup 117 (.map (vE km)) (.string (S (Eg (lab :: l)))) true).run prog u= .ok (.tuple #[vd vq (tK O lab l), .bool false]) u from fun u hb=>by have:=EG.out u hb;rw [hf] at this;exact this)
    have HH:=zH hi;have sI:0<l.length:=by
     rcases Ta with e | e
     ·exact e
     ·rw [hi] at e;cases e
    have OD:=zH sI;clear hf hi Ta sI;go_enter func109,ntmps109
    go_wp2_with fail
    refine Pt.out.mono ?_;rintro e w1 ⟨rfl,rfl⟩;go_wp2_with fail
    refine zd (Ub) [6,7] [0,1,2,3,4,5,6,7,8,9,10,11,12,13] (by kernel_rfl) (by kernel_rfl) ?_
    refine Se (ra) ?_;intro Wc Ja ia;refine Qb ?_;refine ef (ra) rfl rfl rfl ?_;go_simp;refine ⟨(Ca _ _).alloc zR _,?_⟩;have da:vA w.1.size w (Wc.alloc (.cells #[vd vn lab] 22)):=by rw [Ja.out];exact (Ca w.1.size w.drew).alloc zR _ |> CP
    have ue:=Blk.new Wc 22 #[vd vn lab];replace ia:=ra.trans _ _ _ ia ((Ca Wc.1.size Wc).alloc zR (.cells #[vd vn lab] 22))
    refine zPU ?_
    generalize Wc.alloc _=w1 at ue da ia |-;clear Ja;refine Bc (ra) rfl rfl rfl (fun _=>by go_simp <;> rfl) ((Qt.out w1 _ ue da).mono ?_)
    rintro e w2 ⟨rfl,Ba⟩;refine ⟨_,rfl,Ba,?_⟩;replace ia:=(ra).trans _ _ _ ia (Ba);refine zPU ?_;refine jX ?_;refine Jc ?_;have hc:=(UT.out.below (pa da Ba)).blk.cell;replace da:=pa da Ba;clear Ba ue ia Lg Us;rw [HH.out] at hc;go_wp2_with fail
    refine (gV lab A n c l _ (Bb da HL.out) OD.out Rg.out).mono ?_;rintro e w3 ⟨rfl,Sa⟩;replace da:=pa da Sa;go_wp2
    go_ret2
    exact ⟨rfl,da⟩
   ·rw [zFU (O:=O) (lab:=lab) HE.out hf hi]
    have EG:=zH (show ∀ u,vA w.1.size w u -> (Instr.lookup 117 (.map (vE km)) (.string (S (Eg (lab :: l)))) true).run prog u= .ok (.tuple #[vd vq (tK O lab l), .bool false]) u from fun u hb=>by have:=EG.out u hb;rw [hf] at this;exact this)
    have HH:=zH hi;clear hf hi Ta;go_enter func109,ntmps109
    go_wp2_with fail
    refine Pt.out.mono ?_;rintro e w1 ⟨rfl,rfl⟩;go_wp2_with fail
    refine zd (Ub) [6,7] [0,1,2,3,4,5,6,7,8,9,10,11,12,13] (by kernel_rfl) (by kernel_rfl) ?_
    refine Se (ra) ?_;intro Wc Ja ia;refine Qb ?_;refine ef (ra) rfl rfl rfl ?_;go_simp;refine ⟨(Ca _ _).alloc zR _,?_⟩;have da:vA w.1.size w (Wc.alloc (.cells #[vd vn lab] 22)):=by rw [Ja.out];exact (Ca w.1.size w.drew).alloc zR _ |> CP
    have ue:=Blk.new Wc 22 #[vd vn lab];replace ia:=ra.trans _ _ _ ia ((Ca Wc.1.size Wc).alloc zR (.cells #[vd vn lab] 22))
    refine zPU ?_
    generalize Wc.alloc _=w1 at ue da ia |-;clear Ja;refine Bc (ra) rfl rfl rfl (fun _=>by go_simp <;> rfl) ((Qt.out w1 _ ue da).mono ?_)
    rintro e w2 ⟨rfl,Ba⟩;refine ⟨_,rfl,Ba,?_⟩;replace ia:=(ra).trans _ _ _ ia (Ba);refine zPU ?_;refine jX ?_;refine Jc ?_;have hc:=(UT.out.below (pa da Ba)).blk.cell;replace da:=pa da Ba;clear Ba ue ia Lg Us;rw [HH.out] at hc;go_wp2_with fail
    go_ret2
    exact ⟨rfl,da⟩
theorem T6 (i:Bool) (s:Nat) (hs:s<18446744073709551616):OrcOk (newO i s):=⟨hs,fun _ h=>(nomatch h),List.Pairwise.nil,fun _ _ h=>(nomatch h)⟩
theorem Y5 (w:vw) :
  vB prog 54 #[] w fun e w'=>∃ g km sm pm F,e=vl (.pointer (vE ⟨g,0,vD⟩)) /\ OrcIn w' g ⟨false,0,0,[]⟩ F (ve vD 0 0) [] km sm pm (fun _=>False) /\ (∀ b,F b -> w.1.size <= b) /\ vA w.1.size w w':=by
 have hmm:=@run_makeMap prog;have hm:=World.ownsMap_made (H:=Unit) w prog 9 (plainElem prog 3);go_enter func54,ntmps54
 go_wp2_with fail
 go_ret
 have Ia:=(Ca w.1.size w).alloc zR (.map #[] 0);have Ba:=Ia.alloc (by first | omega | (simp;done) | (simp;omega)) (.map #[] 0)
 have Sa:=Ba.alloc (by first | omega | (simp;done) | (simp;omega)) (.map #[] 0)
 have Ab:=Sa.alloc (by first | omega | (simp;done) | (simp;omega)) (.cells #[.bool false,vd vn 0,vd vq 0,ve vD 0 0, .map (vE w.1.size), .map (vE (w.1.size+1)), .map (vE (w.1.size+1+1))] 121)
 have kb:=Blk.new (((w.alloc (.map #[] 0)).alloc (.map #[] 0)).alloc (.map #[] 0)) 121 #[.bool false,vd vn 0,vd vq 0,ve vD 0 0, .map (vE w.1.size), .map (vE (w.1.size+1)), .map (vE (w.1.size+1+1))];have hm4:=((hm.alloc (.map #[] 0)).alloc (.map #[] 0)).alloc (.cells #[.bool false,vd vn 0,vd vq 0,ve vD 0 0, .map (vE w.1.size), .map (vE (w.1.size+1)), .map (vE (w.1.size+1+1))] 121);have ib:(((w.alloc (.map #[] 0)).alloc (.map #[] 0)).alloc (.map #[] 0)).1.size=w.1.size+1+1+1:=by simp
 rw [ib] at kb;generalize (((w.alloc (.map #[] 0)).alloc (.map #[] 0)).alloc (.map #[] 0)).alloc _=w4 at Ab kb hm4 |-;have hl:=kb.lt;refine ⟨w.1.size+1+1+1,w.1.size,w.1.size+1,w.1.size+1+1,fun b=>b=w.1.size+1+1+1 \/ b=w.1.size,rfl,?_,fun b h=>by omega,Ab⟩
 exact ⟨T6 false 0 (by decide),kb,⟨rfl, .inl ⟨rfl,rfl⟩⟩,zGv _ _,hm4,fun _ h=>h.elim,by omega,by simp [Value.ownBlock],by simp [Value.ownBlock], .inl rfl,by simp [Value.ownBlock], .inr rfl,fun _ h=>h.elim,fun b h=>by omega⟩
theorem PV (w:vw) :
  vB prog 24 #[] w fun e w'=>∃ g F,e=vl (.pointer (vE ⟨g,0,vD⟩)) /\ OrcAt w' g ⟨false,0,0,[]⟩ F /\ (∀ b,F b -> w.1.size <= b) /\ vA w.1.size w w':=by
 go_enter func24,ntmps24
 go_wp2_with fail
 refine (Y5 w).mono ?_;rintro e w1 ⟨g,km,sm,pm,F,rfl,h,hF,hb⟩;go_wp2;go_ret
 exact ⟨g,F,rfl,⟨_,_,_,_,_,_,h⟩,hF,hb⟩
theorem zDz (pd:Nat) (w:vw) (hs:pd<18446744073709551616) :
  vB prog 16 #[vd vn pd] w fun e w'=>∃ g F,e=vl (.pointer (vE ⟨g,0,vD⟩)) /\ OrcAt w' g ⟨true,pd,0,[]⟩ F /\ (∀ b,F b -> w.1.size <= b) /\ vA w.1.size w w':=by
 have HS:=zH hs;clear hs;go_enter func16,ntmps16
 go_wp2_with fail
 refine (Y5 w).mono ?_;rintro e w1 ⟨g,km,sm,pm,F,rfl,h,hF,hb⟩;have hf:=h.blk.frozen;have H:=zH h;have HF:=zH hF;have hc:=h.blk.cell;clear h hF;go_wp2_with fail
 go_ret
 have hg:=GO w1 g 0 1 (.bool true) (vd vn pd);have kb:=rE H.out.blk 0 1 (.bool true) (vd vn pd);have Jv:=HF.out g H.out.fg;generalize (w1.setCell ⟨g,0,vD⟩ (.bool true)).setCell ⟨g,1,vD⟩ (vd vn pd)=w2 at hg kb |-;refine ⟨g,F,rfl,⟨_,_,_,_,_,_,H.out.turn (O':=⟨true,pd,0,[]⟩) (T6 true pd HS.out) rfl (by simpa using kb) hg⟩,HF.out,hb.trans (Rp hg hb.size Jv)⟩
theorem X0 {w:vw} {g:Nat} {O:Ha} {F:Nat -> Prop} (h:OrcAt w g O F) :
  vB prog 256 #[.pointer (vE ⟨g,0,vD⟩)] w fun e w'=>e=vl (.bool O.ideal) /\ w=w':=by
 obtain ⟨v,cs,km,sm,pm,E,Rc⟩:=h;have hc:=Rc.blk.cell;clear Rc;go_enter func256,ntmps256
 go_wp2_with fail
 go_ret
 exact ⟨rfl,rfl⟩
def uw (n:Nat):Bool:=(List.range 11).any fun d=>2^d == n
theorem zBm:∀ b:Fin 1025,1 <= b.val -> bits .and vq (b.val:Int) ((b.val:Int)-1)=((b.val &&& (b.val-1):Nat):Int):=by decide +kernel
theorem zEP:∀ b:Fin 1025,1 <= b.val -> uw b.val=decide (b.val &&& (b.val-1)=0):=by decide +kernel
theorem s6 {n:Nat} (h:uw n=true):∃ d,d <= 10 /\ n=2^d:=by
 obtain ⟨d,hd,he⟩:=List.any_eq_true.1 h;exact ⟨d,by have:=Oi.1 hd;omega,(qi.1 he).symm⟩
theorem YU {d:Nat} (h:d <= 10):uw (2^d)=true:=List.any_eq_true.2 ⟨d,Oi.2 (by omega),by simp⟩
theorem zEN {n:Nat} (h:1024<n):uw n=false:=by
 cases hc:uw n
 ·rfl
 ·obtain ⟨d,hd,rfl⟩:=s6 hc
  have:2^d <= 2^10:=Io (by omega) hd
  omega
theorem zEO:uw 0=false:=by decide
theorem vU (n:Nat) (w:vw) :
  vB prog 135 #[vd vq n] w fun e w'=>e=vl (.bool (uw n)) /\ w=w':=by
 by_cases h1:1 <= n
 ·by_cases h2:n <= 1024
  ·have HN:=zH (zEP ⟨n,by omega⟩ h1)
   have ha:=zBm ⟨n,by omega⟩ h1
   simp only at ha;obtain ⟨a,hae⟩:=zEX (n &&& (n-1));rw [<- hae] at ha;have HA:=zH hae;have d1:decide ((1:Int)<=n)=true:=tb (by omega)
   have d2:decide ((n:Int)<=1024)=true:=tb (by omega)
   have e1:vq.wrap ((n:Int)-1)=(n:Int)-1:=by rw [Wt];omega
   have d3:((a:Int) == 0)=decide (a=0):=by by_cases h:a=0 <;> simp [h]
   obtain ⟨r,hr⟩:=zEX (uw n);have HR:=zH (show decide (a=0)=r by rw [hr,HA.out];exact HN.out.symm)
   rw [<- hr];rw [HR.out] at d3;clear hr HN hae h1 h2;go_enter func135,ntmps135
   go_wp2_with fail
   go_ret
   exact ⟨rfl,rfl⟩
  ·rw [zEN (by omega)]
   have d1:decide ((1:Int)<=n)=true:=tb (by omega)
   have d2:decide ((n:Int)<=1024)=false:=db (by omega)
   clear h1 h2;go_enter func135,ntmps135
   go_wp2_with fail
   go_ret
   exact ⟨rfl,rfl⟩
 ·obtain rfl:n=0:=by omega
  rw [zEO];clear h1;go_enter func135,ntmps135
  go_wp2_with fail
  go_ret
  exact ⟨rfl,rfl⟩
theorem QP (A:Option vy) (n c:Nat) (l:List Nat) (w:vw) (hl:RWd w [ve A n c] l) :
  vB prog 136 #[ve A n c] w fun e w'=>e=vl (.bool (Xc l)) /\ w=w':=by
 obtain ⟨rfl,h1,h2,-,Ra⟩:=Nb hl;have gm:=um h1 h2;clear hl h1 h2;go_enter func136,ntmps136
 go_wp2_with fail
 go_loop [7] (fun i=>∃ j:Nat,j <= l.length /\ i=vd vq j /\ Hid (Xc (l.take j)=true)) (fun i=>l.length-(intOf i).toNat)
 case atStart=>exact ⟨0,Mb _,rfl,rfl⟩
 case round =>
  obtain ⟨j,hj,rfl,HB⟩:=hrel;by_cases ta:j<l.length
  ·obtain ⟨b,q,rfl,Gb,hc⟩:=Fg Ra ta
   have HL:=zH ta;have g1:(0:Int)<=j:=by omega
   have g2:(j:Int)<l.length:=by omega
   have HN:=zH (fun h=>SX (l:=l) ta h)
   have HY:=zH (fun h=>TX (l:=l) ta HB.out h)
   revert hc HN HY
   generalize l.getD j 0=y;intro hc HN HY;clear Ra;by_cases z:zb <= y
   ·have HZ:=zH (HN.out z)
    unfold zb at z;have d1:decide ((18446744069414584321:Int)<=y)=true:=tb (by omega)
    clear HN HY;go_wp2;go_ret
    exact ⟨by rw [HZ.out];rfl,rfl⟩
   ·have HZ:=zH (HY.out (by omega))
    unfold zb at z;have d1:decide ((18446744069414584321:Int)<=y)=false:=db (by omega)
    clear HN HY;go_wp2
    go_round
    case rel=>exact ⟨j+1,by omega,by go_num,HZ.out⟩
    case measure=>simp [intOf];omega
  ·have e:j=l.length:=by omega
   have HA:=zH (show Xc l=true by have:=HB.out;rwa [e,Zr] at this)
   clear Ra;go_wp2;go_ret
   exact ⟨by rw [HA.out];rfl,rfl⟩
theorem gW (x:Nat) (A:Option vy) (n c:Nat) (l:List Nat) (w:vw) (hl:RWd w [ve A n c] l) (hlen:l.length <= 1000000) :
  vB prog 138 #[vd vn x,ve A n c] w fun e w'=>∃ v,e=vl v /\ w'.ownsRow w.1.size 22 1 v (n+1) (Oa (x :: l)) /\ vA w.1.size w w':=by
 obtain ⟨rfl,h1,h2,ta,Ra⟩:=Nb hl;clear hl ta h1 h2;have da:=(Ca w.1.size w).alloc zR (.cells #[vd vn x] 22);have mF:(w.alloc (.cells #[vd vn x] 22)).ownsRow w.1.size 22 1 (ve (vE ⟨w.1.size,0,vD⟩) 1 1) 1 (Oa [x]):=⟨rfl, .inr ⟨w.1.size,1,_,rfl,zR,heap_alloc_new w _,zR,by simp [maxLen],rfl,rfl⟩⟩
 have hrd0:=Ra.below da;go_enter func138,ntmps138
 go_wp2_with (at_builtin;refine uk rfl _ _ rfl OL rfl mF rfl hrd0 (oq _) (by omega) (by have:=da.size;omega) ?_)
 intro v' w2 Aa Wa Dc;go_wp2;go_ret
 exact ⟨_,rfl,by rw [Nat.add_comm];exact MF (a:=[x]) Aa rfl,da.trans (tp mF Wa (by have:=da.size;omega))⟩
def Mp (K:Nat -> Prop) (w:vw) (v:vx) (ls:List (List Nat)):Prop :=
 ∃ A n c,v=ve A n c /\ ls.length=n /\ n <= c /\ c <= maxLen /\ ∀ (i:Nat) (hi:i<ls.length),∃ b q A1 n1 c1,A=vE ⟨b,q,vD⟩ /\ K b /\ b<w.1.size /\ w.cell? ⟨b,q+i,vD⟩=vE (ve A1 n1 c1) /\ Ue K w (ve A1 n1 c1) ls[i]
section
variable {K K' F F' UA T:Nat -> Prop} {w w':vw} {v:vx} {ls:List (List Nat)}
theorem DU (h:Mp K w v ls) (hs:w.1.size <= w'.1.size) (hw:∀ b,K b -> b<w.1.size -> w'.1[b]?=w.1[b]?):Mp K w' v ls:=by
 obtain ⟨A,n,c,h1,h2,h3,h4,h5⟩:=h;refine ⟨A,n,c,h1,h2,h3,h4,fun i hi=>?_⟩
 obtain ⟨b,q,A1,n1,c1,e1,e2,e3,e4,e5⟩:=h5 i hi;refine ⟨b,q,A1,n1,c1,e1,e2,by omega,?_,iw e5 hs hw⟩
 rw [<- e4];simp only [World.cell?,hw b e2 e3]
theorem CU (h:Mp K w v ls) (hb:vA w.1.size w w'):Mp K w' v ls:=DU h hb.size fun b _ hl=>hb.block b hl
theorem zDY (h:Mp K w v ls) (m:Moved F F' w w') (hK:∀ b,K b -> ¬F b):Mp K w' v ls:=DU h m.size fun b hb hl=>m.block b hl (hK b hb)
theorem G2 (h:Mp K w v ls):Jg w [v] ls:=by
 obtain ⟨A,n,c,rfl,h2,h3,h4,h5⟩:=h;refine ⟨A,n,c,rfl,h2,h3,h4,fun i hi=>?_⟩
 obtain ⟨b,q,A1,n1,c1,e1,e2,e3,e4,e5⟩:=h5 i hi;refine ⟨⟨b,q,vD⟩,[ve A1 n1 c1],e1,rfl,fun j hj=>?_,ak e5⟩
 obtain rfl:j=0:=by omega
 rw [Sl,show q+(i*1+0)=q+i by omega,e4]
 rfl
theorem vM {A:Option vy} {n c:Nat} (h:Mp K w (ve A n c) ls) {i:Nat} (hi:i<ls.length):∃ b q A1 n1 c1,A=vE ⟨b,q,vD⟩ /\ K b /\ b<w.1.size /\ w.cell? ⟨b,q+i,vD⟩=vE (ve A1 n1 c1) /\ Ue K w (ve A1 n1 c1) (ls.getD i []):=by
 obtain ⟨A',n',c',h1,h2,h3,h4,h5⟩:=h
 injection h1 with e1 e2 e3
 subst e1 e2 e3;obtain ⟨b,q,A1,n1,c1,e1,e2,e3,e4,e5⟩:=h5 i hi;exact ⟨b,q,A1,n1,c1,e1,e2,e3,e4,by rw [Cb,Xb hi];exact e5⟩
theorem zDX {A:Option vy} {n c:Nat} (h:Mp K w (ve A n c) ls):ls.length=n /\ n <= c /\ c <= maxLen:=by
 obtain ⟨A',n',c',h1,h2,h3,h4,h5⟩:=h
 injection h1 with e1 e2 e3
 subst e1 e2 e3;exact ⟨h2,h3,h4⟩
def aE (T:Nat -> Prop) (w:vw) (cs:List vx) (ls:List (List Nat)):Prop:=cs.length=ls.length /\ ∀ (i:Nat) (h1:i<cs.length) (h2:i<ls.length),Ue T w cs[i] ls[i]
theorem zM {cs:List vx} (h:aE T w cs ls) (hs:w.1.size <= w'.1.size) (hw:∀ b,T b -> b<w.1.size -> w'.1[b]?=w.1[b]?):aE T w' cs ls:=⟨h.1,fun i h1 h2=>iw (h.2 i h1 h2) hs hw⟩
theorem zEe {cs:List vx} (h:aE K w cs ls) (hk:∀ b,K b -> K' b):aE K' w cs ls:=⟨h.1,fun i h1 h2=>uM (h.2 i h1 h2) hk⟩
theorem zEc {cs:List vx} {x:vx} {l:List Nat} (h:aE T w cs ls) (hx:Ue T w x l):aE T w (cs++[x]) (ls++[l]):=by
 refine ⟨by simp [h.1],fun i h1 h2=>?_⟩
 by_cases hi:i<cs.length
 ·rw [Iq hi]
  have Ci:i<ls.length:=by rw [<- h.1];exact hi
  rw [Iq Ci];exact h.2 i hi Ci
 ·have e1:i=cs.length:=by simp at h1;omega
  have e2:i=ls.length:=by rw [e1,h.1]
  have g1:(cs++[x])[i]=x:=by subst e1;simp
  have g2:(ls++[l])[i]=l:=by subst e2;simp
  rw [g1,g2];exact hx
theorem zEd {cs:List vx} {base n:Nat} {e:vz} (h:aE T w cs ls) (ho:w.ownsRow base e 1 v n cs):Mp (fun b=>T b \/ v.ownBlock=vE b) w v ls:=by
 have hn:=ho.1;rcases ho.2 with ⟨rfl,rfl⟩ | ⟨g,cap,cur,hv,hb,hh,h1,h2,-⟩
 ·have:ls=[]:=DJ (by rw [<- h.1,hn])
  subst this;exact ⟨vD,0,0,rfl,rfl,zR,by simp [maxLen],fun i hi=>absurd hi (by simp)⟩
 ·subst hv
  refine ⟨_,n,cap,rfl,by rw [<- h.1,hn,Pp],h1,h2,fun i hi=>?_⟩
  have Ci:i<cs.length:=by rw [h.1];exact hi
  have hc:=ho.cells (g:=g) rfl i cs[i] (Xb Ci);have hk:=h.2 i Ci hi;obtain ⟨A1,c1,e1,-⟩:=nA hk;rw [e1] at hc hk;refine ⟨g,0,A1,_,c1,rfl, .inr rfl,(Nt.1 hh).1,?_,uM hk fun b hb=>.inl hb⟩
  rw [<- hc];by_cases h0:i=0 <;> simp [Addr.add,h0]
theorem YN {w:vw} {g i:Nat} {t:vz} {l:List Nat} (k:Blk w g t (Oa l).toArray) (h:i<l.length):w.cell? ⟨g,i,vD⟩=vE (vd vn ((l.getD i 0:Nat):Int)):=by
 rw [k.cell];simp [Oa,Cb,h]
def Sh (F:Nat -> Prop) (x:Nat):Nat -> Prop:=fun b=>F b \/ b=x
theorem TP (m:Moved F F' w w') (x:Nat):Moved (Sh F x) (Sh F' x) w w':=⟨m.os,m.tape,m.output,m.size,fun b hb hn=>m.block b hb (fun hf=>hn (.inl hf)),fun b hb=>by
 rcases hb with hb | hb
 ·rcases m.foot b hb with e | e
  ·exact .inl (.inl e)
  ·exact .inr e
 ·exact .inl (.inr hb)⟩
theorem E5 {x:Nat} (w:vw) (i:Nat) (u:vx):Moved (Sh F x) (Sh F x) w (w.setCell ⟨x,i,vD⟩ u) :=
 EM (Wg (p:=⟨x,i,vD⟩) (Ee w (vE x)) (.inl rfl) u) fun _ h=>.inr (Za h).symm
theorem zEx {w0:vw} {x:Nat} (m0:Moved F F w0 w) (m:Moved (Sh F x) (Sh F' x) w w') (hx:w0.1.size <= x):Moved F F' w0 w' :=
 ⟨m.os.trans m0.os,m.tape.trans m0.tape,m.output.trans m0.output,xb m0.size m.size,
  fun b hb hn=>(m.block b (by have:=m0.size;omega) (fun e=>by rcases e with e | e;exact hn e;omega)).trans (m0.block b hb hn),
  fun b hb=>by
   rcases m.foot b (.inl hb) with e | e
   ·rcases e with e | e
    ·exact .inl e
    ·exact .inr (by omega)
   ·exact .inr (xb m0.size e)⟩
theorem zEy {w0:vw} {x:Nat} (m0:Moved F F' w0 w) (m:Moved (Sh F' x) (Sh UA x) w w') (hx:w0.1.size <= x):Moved F UA w0 w' :=
 ⟨m.os.trans m0.os,m.tape.trans m0.tape,m.output.trans m0.output,xb m0.size m.size,
  fun b hb hn=>(m.block b (by have:=m0.size;omega) (fun e=>by
   rcases e with e | e
   ·rcases m0.foot b e with h | h
    ·exact hn h
    ·omega
   ·omega)).trans (m0.block b hb hn),
  fun b hb=>by
   rcases m.foot b (.inl hb) with e | e
   ·rcases e with e | e
    ·exact m0.foot b e
    ·exact .inr (by omega)
   ·exact .inr (xb m0.size e)⟩
theorem D5 {w0:vw} {row:Option Nat} (m:Moved F F' w0 w) (hg:w.grownBy w' row) (hr:∀ b,row=vE b -> w0.1.size <= b):Moved F F' w0 w' :=
 ⟨hg.os.trans m.os,hg.tape.trans m.tape,hg.output.trans m.output,xb m.size hg.size,fun b hb hn=>(hg.block b (by have:=m.size;omega) (fun e=>by have:=hr b e.symm;omega)).trans (m.block b hb hn),m.foot⟩
theorem Gg {w0:vw} {x:Nat} (m:Moved F F' w0 w) (hx:w0.1.size <= x) (i:Nat) (u:vx):Moved F F' w0 (w.setCell ⟨x,i,vD⟩ u) :=
 ⟨m.os,m.tape,m.output,by simpa [vF] using m.size,fun b hb hn=>(ug w _ u b (fun e=>by subst e;exact absurd hb (by simpa using hx))).trans (m.block b hb hn),m.foot⟩
theorem BZ {x i N:Nat} (hx:F x) (u:vx):Ji F N w (w.setCell ⟨x,i,vD⟩ u):=⟨rfl,rfl,rfl,by simp [vF],fun b _ hn=>ug w _ u b (fun e=>hn (by subst e;exact hx))⟩
theorem OrcAt.set {g x i:Nat} {O:Ha} (h:OrcAt w g O F) (hx:¬F x) (u:vx):OrcAt (w.setCell ⟨x,i,vD⟩ u) g O F :=
 h.keep (by simp [vF]) fun b hb=>ug w _ u b (fun e=>hx (by subst e;exact hb))
end
structure ij (K:Nat -> Prop) (w u:vw):Prop where
 os:u.os=w.os
 tape:u.tape=w.tape
 output:u.output=w.output
 size:w.1.size <= u.1.size
 block:∀ b,K b -> b<w.1.size -> u.1[b]?=w.1[b]?
section
variable {K K' F F':Nat -> Prop} {w u v:vw} {Q Q':vw -> Prop}
theorem zBf:ij K w w:=⟨rfl,rfl,rfl,zR,fun _ _ _=>rfl⟩
theorem uB (h:ij K w u) (k:ij K u v):ij K w v:=⟨k.os.trans h.os,k.tape.trans h.tape,k.output.trans h.output,xb h.size k.size,fun b hb hl=>(k.block b hb (Kc hl h.size)).trans (h.block b hb hl)⟩
theorem Tl (h:ij K w u) (hk:∀ b,K' b -> K b):ij K' w u:=⟨h.os,h.tape,h.output,h.size,fun b hb hl=>h.block b (hk b hb) hl⟩
theorem Af (h:vA w.1.size w u):ij K w u:=⟨h.os,h.tape,h.output,h.size,fun b _ hl=>h.block b hl⟩
theorem Ek (m:Moved F F' w u) (hK:∀ b,K b -> ¬F b):ij K w u:=⟨m.os,m.tape,m.output,m.size,fun b hb hl=>m.block b hl (hK b hb)⟩
theorem AX:ij K w w.drew:=⟨rfl,rfl,rfl,zR,fun _ _ _=>rfl⟩
theorem zBd {row:Option Nat} (h:w.grownBy u row) (hr:∀ b,row=vE b -> ¬K b):ij K w u:=⟨h.os,h.tape,h.output,h.size,fun b hb hl=>h.block b hl (fun e=>hr b e.symm hb)⟩
theorem CX {x i:Nat} {c:vx} (hx:¬K x):ij K w (w.setCell ⟨x,i,vD⟩ c):=⟨rfl,rfl,rfl,by simp [vF],fun b hb _=>ug w _ c b (fun e=>hx (by subst e;exact hb))⟩
def Hd (K:Nat -> Prop) (w:vw) (Q:vw -> Prop):Prop:=∀ u,ij K w u -> Q u
theorem Yg (h:Hd K w Q):Q w:=h w zBf
theorem Qd (h:Hd K w Q) (a:ij K w u):Hd K u Q:=fun v k=>h v (uB a k)
theorem Bi (h:Hd K w Q) (a:ij K w u):Q u:=h u a
theorem NO (h:Hd K w Q) (hk:∀ b,K b -> K' b):Hd K' w Q:=fun v k=>h v (Tl k hk)
theorem YZ (h:Hd K w Q):Hd (fun b=>K b /\ b<w.1.size) w Q:=fun u k=>h u ⟨k.os,k.tape,k.output,k.size,fun b hb hl=>k.block b ⟨hb,hl⟩ hl⟩
theorem VE (h:Hd K w Q) (hq:∀ u,Q u -> Q' u):Hd K w Q':=fun v k=>hq v (h v k)
theorem ZH {α:Type} {R:vw -> List vx -> α -> Prop} {w0:vw} {cs:List vx} {x:α} (hR:mB R) (h:R w0 cs x) (hb:vA w0.1.size w0 w):Hd (fun b=>b<w0.1.size) w fun u=>R u cs x:=fun u a =>
 hR w0 u cs x ⟨a.os.trans hb.os,a.tape.trans hb.tape,a.output.trans hb.output,xb hb.size a.size,fun b hl=>(a.block b hl (Kc hl hb.size)).trans (hb.block b hl)⟩ h
theorem hd_krr {x:vx} {ls:List (List Nat)} (h:Mp K w x ls):Hd K w fun u=>Jg u [x] ls:=fun _ a=>G2 (DU h a.size a.block)
theorem hd_own {base n size:Nat} {e:vz} {x:vx} {xs:List vx} (h:w.ownsRow base e size x n xs):Hd (fun b=>x.ownBlock=vE b) w fun u=>u.ownsRow base e size x n xs:=fun _ a =>
 di h fun b hb=>a.block b hb (h.lt b hb).2
def eG (w:vw) (b:Nat):vw:={ w with heap:=w.1.setIfInBounds b (.cells #[] 0) }
theorem aS {b:Nat} (h:¬K b):ij K w (eG w b):=⟨rfl,rfl,rfl,by simp [eG],fun c hc hl=>by
 have Ta:b≠c:=fun e=>h (e ▸ hc)
 simp [eG,Ta]⟩
theorem qW {b i:Nat} (hb:b<w.1.size):(eG w b).cell? ⟨b,i,vD⟩=vD:=by
 simp [eG,World.cell?,hb]
theorem Y1 {x:vx} {l:List Nat} (h:Hd K w fun u=>RWd u [x] l):Ue K w x l:=fun u hu=>by
 obtain ⟨A,n,c,e,h2,h3,h4,h5⟩:=Yg h;refine ⟨A,n,c,e,h2,h3,?_,h5⟩;by_cases h0:0<n
 ·obtain ⟨b,q,rfl,hb,hc⟩:=Jy h4 h0
  have hK:K b:=yJ fun hn=>by
   obtain ⟨A',n',c',e',-,-,k4,-⟩:=h (eG w b) (aS hn);rw [e] at e'
   injection e' with e' _
   injection e' with e1 e2 e3
   subst e1 e2;obtain ⟨b',q',e4,yi,yu⟩:=Jy k4 h0
   injection e4 with e4
   injection e4 with e5 e6
   subst e5 e6;have k1:=yu 0 h0;rw [qW hb] at k1;have k2:=h4.1;rw [Xb (by omega)] at k1
   cases k1
  refine ⟨h4.1,fun _=>⟨_,rfl,fun j y hj=>?_⟩⟩
  have hjn:j<n:=by
   have:=(List.getElem?_eq_some_iff.1 hj).1;have:=h4.1;omega
  rw [Sl];have:=hc j hjn;rw [hj] at this;simp only [World.cell?,hu b hK hb] at this |-;exact this
 ·exact ⟨h4.1,fun h=>absurd h h0⟩
theorem AP {x:vx} {ls:List (List Nat)} (h:Hd K w fun u=>Jg u [x] ls):Mp K w x ls:=by
 have h0:=Yg h;obtain ⟨A,n,c,e0,-⟩:=id h0
 injection e0 with e0
 subst e0;obtain ⟨h1,h2,h3,h4⟩:=Gj h0;refine ⟨A,n,c,rfl,h1,h2,h3,fun i hi=>?_⟩
 obtain ⟨b,q,A1,n1,c1,rfl,e2,e3,e4⟩:=Ju h4 hi;have hK:K b:=yJ fun hn=>by
  obtain ⟨-,-,-,k4⟩:=Gj (h (eG w b) (aS hn));obtain ⟨b',q',A2,n2,c2,f1,f2,f3,f4⟩:=Ju k4 hi
  injection f1 with f1
  injection f1 with f5 f6
  subst f5 f6;rw [qW e2] at f3;cases f3
 refine ⟨b,q,A1,n1,c1,rfl,hK,e2,e3,Y1 fun u a=>?_⟩
 obtain ⟨-,-,-,k4⟩:=Gj (h u a);obtain ⟨b',q',A2,n2,c2,f1,f2,f3,f4⟩:=Ju k4 hi
 injection f1 with f1
 injection f1 with f5 f6
 subst f5 f6;have e5:u.cell? ⟨b,q+i,vD⟩=w.cell? ⟨b,q+i,vD⟩:=by simp only [World.cell?,a.block b hK e2]
 rw [e5,e3] at f3
 injection f3 with f3
 injection f3 with g1 g2 g3
 subst g1 g2 g3;exact f4
end
end Go.Proofs.YteoghgbnielkpaaGreat
