/- A part of the proof. No condition. -/
import Derived.Maps.OwnOps
import Derived.Maps.OwnSet
import Derived.Test.YtjipleoamlmkfaaGreatProg
import Derived.Test.YtjipleoamlmkfaaGreatPF19
import Derived.Test.YtjipleoamlmkfaaGreatPF13
import Derived.Test.YtjipleoamlmkfaaGreatPF15
import Derived.Laws.Bits64

set_option maxRecDepth 100000
set_option maxHeartbeats 8000000
set_option linter.unusedVariables false
set_option linter.unusedSimpArgs false
namespace Go.Proofs.YtjipleoamlmkfaaGreat
open Go.RowKit Go.Maps
structure Qn where
 lab:Nat
 el:List Nat
 ans:Nat
structure La where
 ideal:Bool
 st:Nat
 dr:Nat
 qs:List Qn
def Sd (l:List Nat):Bool:=l.all fun x=>decide (x<Xa)
def ji (lab:Nat) (l:List Nat):Nat:=(Si Xa lab l).a
theorem WB (lab:Nat) (l:List Nat):ji lab l<Xa:=(SC (p:=Xa) (by decide) l ⟨0,0,(lab*65536%Xa+l.length)%Xa⟩ ⟨show 0<Xa by decide,show 0<Xa by decide,Nat.mod_lt _ (by decide)⟩).1
def nt (s:Nat):Nat:=(s+11400714819323198485)%18446744073709551616
def EA (z:Nat):Nat:=(z ^^^ (z >>> 30))*13787848793156543929%18446744073709551616
def FA (z:Nat):Nat:=(z ^^^ (z >>> 27))*10723151780598845931%18446744073709551616
def GA (z:Nat):Nat:=(z ^^^ (z >>> 31))%Xa
def dMix (z:Nat):Nat:=GA (FA (EA z))
def Yl (lab:Nat) (el:List Nat) (q:Qn):Bool:=q.lab == lab&&q.el == el
def Td (qs:List Qn) (lab:Nat) (el:List Nat):Option Nat:=(qs.find? (Yl lab el)).map (·.ans)
def Mh (O:La) (lab:Nat) (el:List Nat) (a:Nat):La:=⟨O.ideal,O.st,O.dr,O.qs++[⟨lab,el,a⟩]⟩
def Rm (O:La):La:=⟨O.ideal,nt O.st,O.dr+1,O.qs⟩
def yq (O:La):Nat:=dMix (nt O.st)
def GJ (O:La) (lab:Nat) (el:List Nat):Option Nat :=
 if Sd el then (match Td O.qs lab el with | some a=>some a | none=>if O.ideal then none else some (ji lab el)) else none
def Kc (O:La) (lab:Nat) (el:List Nat):Nat :=
 if Sd el then (match Td O.qs lab el with | some a=>a | none=>if O.ideal then yq O else ji lab el) else 0
def jc (O:La) (lab:Nat) (el:List Nat):La :=
 if Sd el then (match Td O.qs lab el with | some _=>O | none=>if O.ideal then Mh (Rm O) lab el (yq O) else Mh O lab el (ji lab el)) else O
def newO (ideal:Bool) (Im:Nat):La:=⟨ideal,Im,0,[]⟩
def te:List Nat -> List Nat
 | []=>[]
 | x :: r=>Jg x 8++te r
theorem qB:∀ (a b:List Nat),te (a++b)=te a++te b
 | [],b=>rfl
 | x :: r,b=>by simp [te,qB r b]
theorem rB:∀ (l:List Nat),(te l).length=8*l.length
 | []=>rfl
 | x :: r=>by simp [te,rB r,xE];omega
theorem cH:∀ (k n:Nat),∀ x∈Jg n k,x<256
 | 0,_,x,h=>by simp [Jg] at h
 | k+1,n,x,h=>by
  simp only [Jg,List.mem_cons] at h;rcases h with rfl | h
  ·omega
  ·exact cH k _ x h
theorem vE:∀ (l:List Nat),∀ x∈te l,x<256
 | [],x,h=>by simp [te] at h
 | y :: r,x,h=>by
  simp only [te,List.mem_append] at h;rcases h with h | h
  ·exact cH 8 y x h
  ·exact vE r x h
theorem bH:∀ (k a b:Nat),a<256^k -> b<256^k -> Jg a k=Jg b k -> a=b
 | 0,a,b,ha,hb,_=>by simp at ha hb;omega
 | k+1,a,b,ha,hb,h=>by
  simp only [Jg,List.cons.injEq] at h;rw [Nat.pow_succ] at ha hb;have:=bH k (a / 256) (b / 256) (by omega) (by omega) h.2
  omega
theorem uI:∀ {a b:List Nat},(∀ x∈a,x<18446744073709551616) -> (∀ x∈b,x<18446744073709551616) -> te a=te b -> a=b
 | [],[],_,_,_=>rfl
 | [],y :: r,_,_,h=>by have:=congrArg List.length h;simp [rB] at this
 | y :: r,[],_,_,h=>by have:=congrArg List.length h;simp [rB] at this
 | x :: r,y :: s,ha,hb,h=>by
  simp only [te] at h;obtain ⟨h1,h2⟩:=List.append_inj h (by simp [xE])
  have e1:=bH 8 x y (by have:=ha x (by simp);omega) (by have:=hb y (by simp);omega) h1
  have e2:=uI (fun z hz=>ha z (by simp [hz])) (fun z hz=>hb z (by simp [hz])) h2
  rw [e1,e2]
theorem GK:∀ {a b:List Nat},(∀ x∈a,x<256) -> (∀ x∈b,x<256) -> a.map (fun n=>UInt8.ofNat n)=b.map (fun n=>UInt8.ofNat n) -> a=b
 | [],[],_,_,_=>rfl
 | [],y :: r,_,_,h=>by simp at h
 | y :: r,[],_,_,h=>by simp at h
 | x :: r,y :: s,ha,hb,h=>by
  simp only [List.map_cons,List.cons.injEq] at h;have e1:x=y:=by
   have h3:=congrArg UInt8.toNat h.1;simp only [UInt8.toNat_ofNat'] at h3;have:=ha x (by simp)
   have:=hb y (by simp)
   omega
  rw [e1,GK (fun z hz=>ha z (by simp [hz])) (fun z hz=>hb z (by simp [hz])) h.2]
def Dh (lab:Nat) (el:List Nat):Lit:=.string ((te (lab :: el)).map fun n=>UInt8.ofNat n)
theorem gI (lab:Nat) (el:List Nat):WideAt.IsKeyLit (Dh lab el):=trivial
theorem Nj {a:Nat} {l:List Nat} {B:Nat} (h:a<B) (hl:∀ x∈l,x<B):∀ x∈a :: l,x<B:=fun x hx=>by
 rcases List.mem_cons.1 hx with rfl | hx
 ·exact h
 ·exact hl x hx
theorem eI {lab Jr:Nat} {el el':List Nat} (h1:lab<18446744073709551616) (h2:Jr<18446744073709551616) (h3:∀ x∈el,x<18446744073709551616) (h4:∀ x∈el',x<18446744073709551616) (h:Dh lab el=Dh Jr el'):lab=Jr /\ el=el':=by
 unfold Dh at h
 injection h with h
 have:=uI (a:=lab :: el) (b:=Jr :: el') (Nj h1 h3) (Nj h2 h4) (GK (vE _) (vE _) h)
 injection this with e1 e2
 exact ⟨e1,e2⟩
def cu (qs:List Qn):DataW Unit × Nat:=qs.foldl (fun s q=>(s.1.put (Dh q.lab q.el) (.lit (.int .i64 s.2)),s.2+1)) (.map [],0)
def Dn (qs:List Qn):DataW Unit:=(cu qs).1
theorem mI (qs:List Qn) (q:Qn):cu (qs++[q])=((cu qs).1.put (Dh q.lab q.el) (.lit (.int .i64 ((cu qs).2:Int))),(cu qs).2+1):=by simp [cu,List.foldl_append]
theorem VB {p:List Qn -> Prop} (h0:p []) (h1:∀ l q,p l -> p (l++[q])) (l:List Qn):p l:=by
 have:∀ n (l:List Qn),l.length=n -> p l:=by
  intro n
  induction n with
  | zero=>intro l hl;rw [List.eq_nil_of_length_eq_zero hl];exact h0
  | succ n ih =>
   intro l hl;have Ka:l≠[]:=fun e=>by rw [e] at hl;simp at hl
   rw [<- List.dropLast_concat_getLast Ka];exact h1 _ _ (ih _ (by simp [hl]))
 exact this _ l rfl
theorem dO (qs:List Qn):(cu qs).2=qs.length:=VB (p:=fun qs=>(cu qs).2=qs.length) rfl (fun l q h=>by rw [mI];simp [h]) qs
theorem oB (qs:List Qn) (q:Qn):Dn (qs++[q])=(Dn qs).put (Dh q.lab q.el) (.lit (.int .i64 qs.length)):=by
 unfold Dn;rw [mI,dO]
theorem jI (qs:List Qn):IsMap (Dn qs):=VB (p:=fun qs=>IsMap (Dn qs)) isMap_empty (fun l q h=>by rw [oB];exact h.put _ _) qs
theorem Py {l:List Nat} (h:Sd l=true):∀ x∈l,x<18446744073709551616:=fun x hx=>by
 have:=of_decide_eq_true (List.all_eq_true.1 h x hx);unfold Xa at this;omega
structure zy (q:Qn):Prop where
 lab:q.lab<18446744073709551616
 el:Sd q.el=true
 ans:q.ans<Xa
 len:q.el.length <= 1000000
structure OrcOk (O:La):Prop where
 st:O.st<18446744073709551616
 qs:∀ q∈O.qs,zy q
 apart:O.qs.Pairwise fun a b=>¬(a.lab=b.lab /\ a.el=b.el)
 real:O.ideal=false -> ∀ q∈O.qs,q.ans=ji q.lab q.el
theorem Ez {lab:Nat} {el:List Nat} {q:Qn}:Yl lab el q=true↔q.lab=lab /\ q.el=el:=by simp [Yl]
theorem fO {qs:List Qn} {lab:Nat} {el:List Nat} (h1:lab<18446744073709551616) (h2:∀ x∈el,x<18446744073709551616):(∀ q∈qs,zy q) -> Maps.has (Dn qs) (Dh lab el)=(Td qs lab el).isSome:=by
 refine VB (p:=fun qs=>(∀ q∈qs,zy q) -> Maps.has (Dn qs) (Dh lab el)=(Td qs lab el).isSome) (fun _=>rfl) (fun l q ih hq=>?_) qs
 have ih:=ih fun x hx=>hq x (by simp [hx])
 have hk:=hq q (by simp)
 rw [oB];by_cases e:Dh lab el=Dh q.lab q.el
 ·obtain ⟨e1,e2⟩:=eI h1 hk.lab h2 (Py hk.el) e
  rw [e,has_put_same (jI l) (gI _ _)];unfold Td;rw [Option.isSome_map,List.find?_isSome.2 ⟨q,by simp,Ez.2 ⟨e1.symm,e2.symm⟩⟩]
 ·rw [has_put_other e,ih]
  unfold Td;rw [List.find?_append];have:Yl lab el q=false:=by
   cases hc:Yl lab el q
   ·rfl
   ·obtain ⟨e1,e2⟩:=Ez.1 hc
    exact absurd (by rw [e1,e2]) e
  simp [this]
theorem eO {qs:List Qn} {lab:Nat} {el:List Nat} (h1:lab<18446744073709551616) (h2:∀ x∈el,x<18446744073709551616):(∀ q∈qs,zy q) -> (qs.Pairwise fun a b=>¬(a.lab=b.lab /\ a.el=b.el)) -> ∀ a,Td qs lab el=some a -> ∃ (i:Nat) (q:Qn),qs[i]?=some q /\ q.ans=a /\ ∀ z,(Dn qs).atKey (Dh lab el) z= .lit (.int .i64 i):=by
 refine VB (p:=fun qs=>(∀ q∈qs,zy q) -> (qs.Pairwise fun a b=>¬(a.lab=b.lab /\ a.el=b.el)) -> ∀ a,Td qs lab el=some a -> ∃ (i:Nat) (q:Qn),qs[i]?=some q /\ q.ans=a /\ ∀ z,(Dn qs).atKey (Dh lab el) z= .lit (.int .i64 i)) (fun _ _ a h=>by simp [Td] at h) (fun l q ih hq hp a ha=>?_) qs
 have hk:=hq q (by simp)
 rw [List.pairwise_append] at hp;have ih:=ih (fun x hx=>hq x (by simp [hx])) hp.1 a
 rw [oB];by_cases e:Dh lab el=Dh q.lab q.el
 ·obtain ⟨e1,e2⟩:=eI h1 hk.lab h2 (Py hk.el) e
  refine ⟨l.length,q,by simp,?_,fun z=>by rw [e];exact atKey_put_same (jI l) (gI _ _) _ _⟩
  unfold Td at ha;rw [List.find?_append] at ha;have hn:l.find? (Yl lab el)=none:=List.find?_eq_none.2 fun x hx hc=>by
   obtain ⟨e3,e4⟩:=Ez.1 hc;exact hp.2.2 x hx q (by simp) ⟨by rw [e3,e1],by rw [e4,e2]⟩
  rw [hn] at ha;simp [Yl,e1.symm,e2.symm] at ha
  exact ha
 ·have sp:Yl lab el q=false:=by
   cases hc:Yl lab el q
   ·rfl
   ·obtain ⟨e1,e2⟩:=Ez.1 hc
    exact absurd (by rw [e1,e2]) e
  have:Td l lab el=some a:=by
   unfold Td at ha |-;rw [List.find?_append] at ha
   simpa [sp] using ha
  obtain ⟨i,q',h3,h4,h5⟩:=ih this;exact ⟨i,q',by rw [List.getElem?_append_left (Array.getElem?_eq_some_iff.1 (by simpa using (show l.toArray[i]?=some q' by simpa using h3))).1];exact h3,h4,fun z=>by rw [atKey_put_other e];exact h5 z⟩
end Go.Proofs.YtjipleoamlmkfaaGreat
namespace Go.Proofs.YtjipleoamlmkfaaGreat
open Go.RowKit Go.Maps
def Km (K:Nat -> Prop) (w:World) (v:Value) (l:List Nat):Prop:=∀ u:World,(∀ b,K b -> b<w.heap.size -> u.heap[b]?=w.heap[b]?) -> RWd u [v] l
section
variable {K K' F F' Sp:Nat -> Prop} {w w' Ej u:World} {v:Value} {l:List Nat}
theorem Pk (h:Km K w v l):RWd w [v] l:=h w fun _ _ _=>rfl
theorem Dp (h:Km K w v l) (hs:w.heap.size <= w'.heap.size) (hw:∀ b,K b -> b<w.heap.size -> w'.heap[b]?=w.heap[b]?):Km K w' v l :=
 fun u hu=>h u fun b hb hl=>(hu b hb (by omega)).trans (hw b hb hl)
theorem pz (h:Km K w v l) (hk:∀ b,K b -> K' b):Km K' w v l:=fun u hu=>h u fun b hb hl=>hu b (hk b hb) hl
theorem Bw (h:Km K w v l) (hb:Below w.heap.size w w'):Km K w' v l:=Dp h hb.size fun b _ hl=>hb.block b hl
theorem zg {base n size:Nat} {e:TypeId} {xs:List Value} (h:w.ownsRow base e size v n xs) (ha:∀ b,v.ownBlock=some b -> u.heap[b]?=w.heap[b]?):u.ownsRow base e size v n xs:=by
 obtain ⟨h1,h2⟩:=h;refine ⟨h1,?_⟩;rcases h2 with h2 | ⟨g,cap,cur,hv,Kg,hh,r⟩
 ·exact Or.inl h2
 ·exact Or.inr ⟨g,cap,cur,hv,Kg,by rw [ha g (by rw [hv];rfl)];exact hh,r⟩
theorem qz {base n:Nat} {e:TypeId} (h:w.ownsRow base e 1 v n (Ca l)) (hl:∀ x∈l,x<18446744073709551616):Km (fun b=>v.ownBlock=some b) w v l:=fun u hu=>by
 have ho:=zg h fun b hb=>hu b hb (h.lt b hb).2
 obtain ⟨A,c,rfl,-⟩:=Tb ho;exact Fh ho hl
theorem oz {g n:Nat} {t:TypeId} (h:Blk w g t (Ca l).toArray) (hn:l.length=n) (hl:∀ x∈l,x<18446744073709551616) (hm:n <= maxLen):Km (fun b=>b=g) w (.slice (some ⟨g,0,none⟩) n n) l:=fun u hu=>by
 subst hn;exact Ix (t:=t) ((hu g rfl h.lt).trans h) hl hm
theorem pB (h:Km K w v l):∃ A c,v= .slice A l.length c /\ l.length <= c /\ c <= maxLen /\ (∀ x∈l,x<18446744073709551616):=by
 obtain ⟨A,n,c,h1,h2,h3,h4,h5⟩:=Pk h;obtain ⟨rfl,h6,h7,h8,h9⟩:=zb (w:=w) (A:=A) (n:=n) (c:=c) (l:=l) ⟨A,n,c,rfl,h2,h3,h4,h5⟩
 injection h1 with h1
 exact ⟨A,c,h1,h6,h7,h8⟩
structure Moved (F F':Nat -> Prop) (w w':World):Prop where
 os:w'.os=w.os
 tape:w'.tape=w.tape
 output:w'.output=w.output
 size:w.heap.size <= w'.heap.size
 block:∀ b,b<w.heap.size -> ¬F b -> w'.heap[b]?=w.heap[b]?
 foot:∀ b,F' b -> F b \/ w.heap.size <= b
theorem Moved.refl:Moved F F w w:=⟨rfl,rfl,rfl,zR,fun _ _ _=>rfl,fun _ h=>.inl h⟩
theorem Moved.trans (h:Moved F F' w w') (k:Moved F' Sp w' Ej):Moved F Sp w Ej :=
 ⟨k.os.trans h.os,k.tape.trans h.tape,k.output.trans h.output,Nat.le_trans h.size k.size,fun b hb hn=>(k.block b (by have:=h.size;omega) (fun hf=>by rcases h.foot b hf with e | e;exact hn e;omega)).trans (h.block b hb hn),
  fun b hb=>by
   rcases k.foot b hb with e | e
   ·exact h.foot b e
   ·exact .inr (Nat.le_trans h.size e)⟩
theorem Ic (h:Below w.heap.size w w'):Moved F F w w':=⟨h.os,h.tape,h.output,h.size,fun b hb _=>h.block b hb,fun _ h=>.inl h⟩
theorem zz {row:Option Nat} (h:w.grownBy w' row) (hr:∀ b,row=some b -> F b):Moved F F w w':=⟨h.os,h.tape,h.output,h.size,fun b hb hn=>h.block b hb (fun e=>hn (hr b e.symm)),fun _ h=>.inl h⟩
theorem VO (h:Moved F F' w w') (hf:∀ b,Sp b -> F' b \/ w.heap.size <= b):Moved F Sp w w':=⟨h.os,h.tape,h.output,h.size,h.block,fun b hb=>by
 rcases hf b hb with e | e
 ·exact h.foot b e
 ·exact .inr e⟩
theorem Ln (h:Moved F F' w w'):Moved F F' w w'.drew:=⟨h.os,h.tape,h.output,h.size,h.block,h.foot⟩
theorem Me (h:Moved F F' w w') {b:Nat} (hb:b<w.heap.size) (hn:¬F b):¬F' b:=fun hf=>by
 rcases h.foot b hf with e | e
 ·exact hn e
 ·omega
theorem Blk.moved {g:Nat} {t:TypeId} {cs:Array Value} (h:Blk w g t cs) (m:Moved F F' w w') (hg:¬F g):Blk w' g t cs:=(m.block g h.lt hg).trans h
theorem CB {base n size:Nat} {e:TypeId} {xs:List Value} (h:w.ownsRow base e size v n xs) (m:Moved F F' w w') (hv:∀ b,v.ownBlock=some b -> ¬F b):w'.ownsRow base e size v n xs :=
 zg h fun b hb=>m.block b (h.lt b hb).2 (hv b hb)
theorem gO (h:Km K w v l) (m:Moved F F' w w') (hK:∀ b,K b -> ¬F b):Km K w' v l:=Dp h m.size fun b hb hl=>m.block b hl (hK b hb)
theorem cD {w0:World} (h:Below w0.heap.size w0 w) (m:Moved F F' w w') (hF:∀ b,F b -> w0.heap.size <= b):Below w0.heap.size w0 w' :=
 h.trans ⟨m.os,m.tape,m.output,m.size,fun b hb=>m.block b (by have:=h.size;omega) (fun hf=>by have:=hF b hf;omega)⟩
end
def Kf (F:Nat -> Prop) (N:Nat) (w w':World):Prop:=w'.os=w.os /\ w'.tape=w.tape /\ w'.output=w.output /\ w.heap.size <= w'.heap.size /\ ∀ b,b<N -> ¬F b -> w'.heap[b]?=w.heap[b]?
theorem Cb (F:Nat -> Prop) (N:Nat):uc (Kf F N):=⟨fun _=>⟨rfl,rfl,rfl,zR,fun _ _ _=>rfl⟩,fun _ _ _ h k=>⟨k.1.trans h.1,k.2.1.trans h.2.1,k.2.2.1.trans h.2.2.1,Nat.le_trans h.2.2.2.1 k.2.2.2.1,fun b h1 h2=>(k.2.2.2.2 b h1 h2).trans (h.2.2.2.2 b h1 h2)⟩⟩
theorem zD {F:Nat -> Prop} {N:Nat} {w w':World} (h:Kf F N w.drew w'):∀ b o,b<N -> ¬F b -> w'.cell? ⟨b,o,none⟩=w.cell? ⟨b,o,none⟩:=fun b o hb Ka=>by
 have:=h.2.2.2.2 b hb Ka;simp only [World.cell?,this]
 rfl
theorem aG {a b:Prop} (h:a) (s:Imp a b:=by
 (repeat ((first | (apply Imp.via (YF (Cb _ _) rfl rfl rfl (fun _ _ _ h=>h))) | (apply Imp.via (XF (v:=?_) (Cb _ _) rfl rfl rfl (fun _ _ _ h=>h) ?hr);case hr=>(intro w' hR;(first | have yi:=zD ((Cb _ _).trans _ _ _ da (hR rfl)) | skip);clear hR;go_simp;try with_reducible rfl)));simp only [Act.put,zLa,zLb,zLc]))
 exact Imp.rfl'):b:=s h
theorem xk {a b:Prop} (h:a) (s:Imp a b:=by
 (repeat ((first | (apply Imp.via (Yw (Cb _ _) rfl rfl (fun _ _ _ h=>h))) | (apply Imp.via (Xw (v:=?_) (Cb _ _) rfl rfl (fun _ _ _ h=>h) ?hr);case hr=>(intro w' hR;(first | have yi:=zD ((Cb _ _).trans _ _ _ da hR) | skip);go_simp;try with_reducible rfl)));simp only [Act.put,zLa,zLb,zLc]))
 exact Imp.rfl'):b:=s h
theorem xf {F:Nat -> Prop} {N B:Nat} {w w':World} (h:Below B w w') (hN:N <= B):Kf F N w w':=⟨h.os,h.tape,h.output,h.size,fun b hb _=>h.block b (by omega)⟩
theorem AD {F F' Sp:Nat -> Prop} {N:Nat} {w w':World} (h:Moved F' Sp w w') (hN:N <= w.heap.size) (hf:∀ b,b<N -> F' b -> F b):Kf F N w w':=⟨h.os,h.tape,h.output,h.size,fun b hb hn=>h.block b (by omega) (fun e=>hn (hf b hb e))⟩
theorem lN {F:Nat -> Prop} {N:Nat} {w w':World} {row:Option Nat} (h:w.grownBy w' row) (hN:N <= w.heap.size) (hr:∀ b,row=some b -> F b):Kf F N w w':=⟨h.os,h.tape,h.output,h.size,fun b hb hn=>h.block b (by omega) (fun e=>hn (hr b e.symm))⟩
def tq (E:Nat -> Prop) (w:World) (cs:List Value) (qs:List Qn):Prop :=
 cs.length=qs.length*3 /\ ∀ (i:Nat) (q:Qn),qs[i]?=some q -> cs[i*3]?=some (.int .u64 q.lab) /\ cs[i*3+2]?=some (.int .u64 q.ans) /\ ∃ s,cs[i*3+1]?=some s /\ Km E w s q.el
theorem Xx {E:Nat -> Prop} {w w':World} {cs:List Value} {qs:List Qn} (h:tq E w cs qs) (hs:w.heap.size <= w'.heap.size) (hw:∀ b,E b -> b<w.heap.size -> w'.heap[b]?=w.heap[b]?):tq E w' cs qs :=
 ⟨h.1,fun i q hq=>by
  obtain ⟨h1,h2,s,h3,h4⟩:=h.2 i q hq;exact ⟨h1,h2,s,h3,Dp h4 hs hw⟩⟩
theorem jR {E E':Nat -> Prop} {w:World} {cs:List Value} {qs:List Qn} (h:tq E w cs qs) (hE:∀ b,E b -> E' b):tq E' w cs qs :=
 ⟨h.1,fun i q hq=>by
  obtain ⟨h1,h2,s,h3,h4⟩:=h.2 i q hq;exact ⟨h1,h2,s,h3,pz h4 hE⟩⟩
theorem kR (E:Nat -> Prop) (w:World):tq E w [] []:=⟨rfl,fun i q h=>by simp at h⟩
theorem iR {E:Nat -> Prop} {w:World} {cs:List Value} {qs:List Qn} {s:Value} {q:Qn} (h:tq E w cs qs) (hs:Km E w s q.el):tq E w (cs++[.int .u64 q.lab,s, .int .u64 q.ans]) (qs++[q]):=by
 refine ⟨by simp [h.1];omega,fun i x hx=>?_⟩
 by_cases hi:i<qs.length
 ·rw [List.getElem?_append_left hi] at hx
  obtain ⟨h1,h2,t,h3,h4⟩:=h.2 i x hx;have hl:=h.1;exact ⟨by rw [List.getElem?_append_left (by omega)];exact h1,by rw [List.getElem?_append_left (by omega)];exact h2,t,by rw [List.getElem?_append_left (by omega)];exact h3,h4⟩
 ·rw [List.getElem?_append_right (by omega)] at hx
  have pq:i-qs.length=0:=by
   rcases Nat.eq_zero_or_pos (i-qs.length) with e | e
   ·exact e
   ·rw [List.getElem?_eq_none (by simp;omega)] at hx;cases hx
  rw [pq] at hx
  injection hx with hx
  subst hx;have hl:=h.1;have e1:i=qs.length:=by omega
  subst e1;refine ⟨?_,?_,s,?_,hs⟩
  ·rw [List.getElem?_append_right (by omega),hl,Nat.sub_self];rfl
  ·rw [List.getElem?_append_right (by omega),hl,show qs.length*3+2-qs.length*3=2 by omega];rfl
  ·rw [List.getElem?_append_right (by omega),hl,show qs.length*3+1-qs.length*3=1 by omega];rfl
end Go.Proofs.YtjipleoamlmkfaaGreat
namespace Go.Proofs.YtjipleoamlmkfaaGreat
open Go.RowKit Go.Maps
structure OrcIn (w:World) (g:Nat) (O:La) (F:Nat -> Prop) (v:Value) (cs:List Value) (km sm pm:Nat) (E:Nat -> Prop):Prop where
 ok:OrcOk O
 blk:Blk w g 131 #[.bool O.ideal, .int .u64 O.st, .int .i64 O.dr,v, .map (some km), .map (some sm), .map (some pm)]
 own:w.ownsRow 0 133 3 v O.qs.length cs
 rows:tq E w cs O.qs
 map:w.ownsMap Tryz.prog 9 (plainElem Tryz.prog 3) km O.qs.length (Dn O.qs)
 el:∀ b,E b -> b<w.heap.size /\ b≠g /\ b≠km /\ v.ownBlock≠some b
 kmg:km≠g
 vkm:v.ownBlock≠some km
 vg:v.ownBlock≠some g
 fg:F g
 fv:∀ b,v.ownBlock=some b -> F b
 fkm:F km
 fE:∀ b,E b -> F b
 lt:∀ b,F b -> b<w.heap.size
def OrcAt (w:World) (g:Nat) (O:La) (F:Nat -> Prop):Prop:=∃ v cs km sm pm E,OrcIn w g O F v cs km sm pm E
section
variable {w w':World} {g:Nat} {O:La} {F:Nat -> Prop}
theorem OrcIn.keep {v:Value} {cs:List Value} {km sm pm:Nat} {E:Nat -> Prop} (h:OrcIn w g O F v cs km sm pm E) (hs:w.heap.size <= w'.heap.size) (hw:∀ b,F b -> w'.heap[b]?=w.heap[b]?):OrcIn w' g O F v cs km sm pm E where
 ok:=h.ok
 blk:=(hw g h.fg).trans h.blk
 own:=zg h.own fun b hb=>hw b (h.fv b hb)
 rows:=Xx h.rows hs fun b hb _=>hw b (h.fE b hb)
 map:=by
  obtain ⟨es,clock,h1,h2⟩:=h.map;exact ⟨es,clock,(hw km h.fkm).trans h1,h2⟩
 el:=fun b hb=>⟨Nat.lt_of_lt_of_le (h.el b hb).1 hs,(h.el b hb).2⟩
 kmg:=h.kmg
 vkm:=h.vkm
 vg:=h.vg
 fg:=h.fg
 fv:=h.fv
 fkm:=h.fkm
 fE:=h.fE
 lt:=fun b hb=>Nat.lt_of_lt_of_le (h.lt b hb) hs
theorem OrcAt.keep (h:OrcAt w g O F) (hs:w.heap.size <= w'.heap.size) (hw:∀ b,F b -> w'.heap[b]?=w.heap[b]?):OrcAt w' g O F:=by
 obtain ⟨v,cs,km,sm,pm,E,h⟩:=h;exact ⟨v,cs,km,sm,pm,E,h.keep hs hw⟩
theorem OrcAt.lt (h:OrcAt w g O F):∀ b,F b -> b<w.heap.size:=by
 obtain ⟨v,cs,km,sm,pm,E,h⟩:=h;exact h.lt
theorem OrcAt.ok (h:OrcAt w g O F):OrcOk O:=by
 obtain ⟨v,cs,km,sm,pm,E,h⟩:=h;exact h.ok
theorem OrcAt.fg (h:OrcAt w g O F):F g:=by
 obtain ⟨v,cs,km,sm,pm,E,h⟩:=h;exact h.fg
theorem OrcIn.below {v:Value} {cs:List Value} {km sm pm:Nat} {E:Nat -> Prop} (h:OrcIn w g O F v cs km sm pm E) (hb:Below w.heap.size w w'):OrcIn w' g O F v cs km sm pm E:=h.keep hb.size fun b hf=>hb.block b (h.lt b hf)
theorem OrcAt.below (h:OrcAt w g O F) (hb:Below w.heap.size w w'):OrcAt w' g O F:=h.keep hb.size fun b hf=>hb.block b (h.lt b hf)
theorem OrcIn.drew {v:Value} {cs:List Value} {km sm pm:Nat} {E:Nat -> Prop} (h:OrcIn w g O F v cs km sm pm E):OrcIn w.drew g O F v cs km sm pm E:=h.keep zR fun _ _=>rfl
theorem OrcAt.drew (h:OrcAt w g O F):OrcAt w.drew g O F:=h.keep zR fun _ _=>rfl
theorem OrcAt.moved {F1 F2:Nat -> Prop} (h:OrcAt w g O F) (m:Moved F1 F2 w w') (hd:∀ b,F b -> ¬F1 b):OrcAt w' g O F:=h.keep m.size fun b hf=>m.block b (h.lt b hf) (hd b hf)
end
end Go.Proofs.YtjipleoamlmkfaaGreat
namespace Go.Proofs.YtjipleoamlmkfaaGreat
open Go.RowKit Go.Maps
theorem xG {l:List Nat} {j:Nat} (hj:j<l.length) (h:Sd (l.take j)=true) (hx:l.getD j 0<Xa):Sd (l.take (j+1))=true:=by
 unfold Sd at *;rw [tB l j hj,List.all_append,h];simp only [List.all_cons,List.all_nil,Bool.and_true,Bool.true_and];exact decide_eq_true hx
theorem vG {l:List Nat} {j:Nat} (hj:j<l.length) (hx:Xa <= l.getD j 0):Sd l=false:=by
 unfold Sd;rw [List.all_eq_false];refine ⟨l.getD j 0,?_,by rw [decide_eq_true_iff];omega⟩
 rw [List.getD_eq_getElem?_getD,List.getElem?_eq_getElem hj];exact List.getElem_mem _
theorem zAi (A:Option Addr) (n c:Nat) (l:List Nat) (w:World) (hl:RWd w [.slice A n c] l) :
  Calls Tryz.prog 152 #[.slice A n c] w fun e w'=>e= .returned (.bool (Sd l)) /\ w=w':=by
 obtain ⟨rfl,h1,h2,-,za⟩:=zb hl;have gm:=uj h1 h2;clear hl h1 h2;go_enter Tryz.func152,Tryz.ntmps152
 go_wp2_with fail
 go_loop [7] (fun i=>∃ j:Nat,j <= l.length /\ i= .int .i64 j /\ Hid (Sd (l.take j)=true)) (fun i=>l.length-(intOf i).toNat)
 case atStart=>exact ⟨0,Nat.zero_le _,rfl,rfl⟩
 case round =>
  obtain ⟨j,hj,rfl,HB⟩:=hrel;by_cases oa:j<l.length
  ·obtain ⟨b,q,rfl,Za,hc⟩:=Ye za oa
   have HL:=zH oa;have g1:(0:Int) <= (j:Int):=by omega
   have g2:(j:Int)<(l.length:Int):=by omega
   have HN:=zH (fun h=>vG (l:=l) oa h)
   have HY:=zH (fun h=>xG (l:=l) oa HB.out h)
   revert hc HN HY
   generalize l.getD j 0=y;intro hc HN HY;clear za;by_cases z:Xa <= y
   ·have HZ:=zH (HN.out z)
    unfold Xa at z;have d1:decide ((18446744069414584321:Int) <= (y:Int))=true:=decide_eq_true (by omega)
    clear HN HY;go_wp2;go_ret
    exact ⟨by rw [HZ.out];rfl,rfl⟩
   ·have HZ:=zH (HY.out (by omega))
    unfold Xa at z;have d1:decide ((18446744069414584321:Int) <= (y:Int))=false:=decide_eq_false (by omega)
    clear HN HY;go_wp2
    go_round
    case rel=>exact ⟨j+1,by omega,by go_num,HZ.out⟩
    case measure=>simp [intOf];omega
  ·have e:j=l.length:=by omega
   have HA:=zH (show Sd l=true by have:=HB.out;rwa [e,List.take_length] at this)
   clear za;go_wp2;go_ret
   exact ⟨by rw [HA.out];rfl,rfl⟩
theorem VG (A:Option Addr) (n c:Nat) (l:List Nat) (w:World) (hl:RWd w [.slice A n c] l) (hlen:l.length <= 10000000) :
  Calls Tryz.prog 143 #[.slice A n c] w fun e w'=>∃ v,e= .returned v /\ w'.ownsRow w.heap.size 22 1 v n (Ca l) /\ Below w.heap.size w w':=by
 obtain ⟨rfl,h1,h2,oa,za⟩:=zb hl;clear hl;have h0:w.ownsRow w.heap.size 22 1 (.slice none 0 0) 0 []:=⟨rfl, .inl ⟨rfl,rfl⟩⟩;go_enter Tryz.func143,Tryz.ntmps143
 go_wp2_with (at_builtin;refine If rfl _ _ rfl Bq rfl h0 rfl za (yg _) (by omega) zR ?_)
 intro v' w1 ma Ha Ab;go_wp2;go_ret
 exact ⟨_,rfl,ma,mh h0 Ha zR⟩
theorem zG (base:Nat) (v:Value) (m x:Nat) (xs:List Value) (w:World) (ho:w.ownsRow base 5 1 v m xs) (hx:x<18446744073709551616) (hk:m <= 100000000) (hb:base <= w.heap.size) :
  Calls Tryz.prog 207 #[v, .int .u64 x] w fun e w'=>∃ v',e= .returned v' /\ w'.ownsRow base 5 1 v' (m+8) (xs++U8 (Jg x 8)) /\ w.grownBy w' v.ownBlock /\ (∀ g,v'.ownBlock=some g -> v.ownBlock=some g \/ w.heap.size <= g):=by
 go_enter Tryz.func207,Tryz.ntmps207
 go_wp2_with fail
 go_loopw [0,1,5] (fun s y i wr=>∃ j z:Nat,j <= 8 /\ i= .int .i64 j /\ y= .int .u64 z /\ Hid (z=x / 256^j) /\ z<18446744073709551616 /\ wr.ownsRow base 5 1 s (m+j) (xs++U8 (Jg x j)) /\ w.grownBy wr v.ownBlock /\ (∀ g,s.ownBlock=some g -> v.ownBlock=some g \/ w.heap.size <= g))
  (fun _ _ i _=>8-(intOf i).toNat)
 case atStart=>exact ⟨0,x,Nat.zero_le _,rfl,rfl,by simp [Hid],hx,by simpa [Jg,U8] using ho,Lc _ _,fun g h=>.inl h⟩
 case round =>
  obtain ⟨j,z,hj,rfl,rfl,HZ,hz,ma,Da,Za⟩:=hrel;have HB:=zH Za;clear Za;by_cases oa:j<8
  ·have hs:=Da.size
   go_wp2_with (at_builtin;refine If rfl _ _ rfl el_u8 rfl (ma.alloc _) rfl (Uk _ (.int .u8 ((z:Int)%256)) _) ?_ ?_ ?_ ?_)
   ·intro u hu;simp at hu;subst hu;rfl
   ·omega
   ·simp;omega
   intro v' w1 Ta Ha Ym;have Df:=Ha.size;simp only [World.size_alloc] at Df Ym;have R:=QP (rN Da _) HB.out Ha (Ym.imp id fun h=>⟨_,h,by simp⟩)
   have HR:=zH R;clear ma Da Ha Ym R HB;go_wp2
   go_roundw
   case rel =>
    refine ⟨j+1,z / 256,by omega,by go_num,by go_num,?_,by omega,?_,HR.out.1,HR.out.2⟩
    ·show z / 256=x / 256^(j+1)
     rw [HZ.out,Nat.div_div_eq_div_mul,Nat.pow_succ]
    ·rw [dH,<- HZ.out,RC,<- List.append_assoc]
     rw [<- List.append_assoc] at Ta;exact Ta
   case measure=>simp [intOf];omega
  ·go_wp2
   go_ret
   have e:j=8:=by omega
   subst e;exact ⟨_,rfl,ma,Da,HB.out⟩
theorem vI (l:List Nat) (j:Nat) (h:j<l.length):te (l.take (j+1))=te (l.take j)++Jg (l.getD j 0) 8:=by
 rw [tB l j h,qB];simp [te]
theorem cO (A B:Option Addr) (n c m d:Nat) (l k:List Nat) (w:World) (hl:RWd w [.slice A n c] l) (hk:RWd w [.slice B m d] k) (h1:l.length <= 1000000) (h2:k.length <= 1000000) :
  Calls Tryz.prog 153 #[.slice A n c, .slice B m d] w fun e w'=>e= .returned (.string (S (te (k++l)))) /\ Below w.heap.size w w':=by
 obtain ⟨rfl,h3,h4,oa,za⟩:=zb hl;obtain ⟨rfl,h5,h6,Xc,xp⟩:=zb hk;clear hl hk h3 h4 h5 h6;have ql:=zH oa;have Ug:=zH Xc;clear oa Xc;have e1:IntKind.i64.wrap ((k.length:Int)+(l.length:Int))=((k.length+l.length:Nat):Int):=by rw [IntKind.wrap_i64];omega
 have e2:IntKind.i64.wrap (8*((k.length+l.length:Nat):Int))=((8*(k.length+l.length):Nat):Int):=by rw [IntKind.wrap_i64];omega
 obtain ⟨t,ht⟩:=zEX (8*(k.length+l.length));obtain ⟨s,hs⟩:=zEX (k.length+l.length);rw [<- hs] at e1 e2 ht;rw [<- ht] at e2;have g0:(t:Int) <= 16000000:=by omega
 have HT:=zH ht;have HS:=zH hs;clear ht hs;have qv:∀ u:World,(Instr.makeSlice 267 (.int .i64 0) (.int .i64 t)).run Tryz.prog u =
   .ok (.slice (some ⟨u.heap.size,0,none⟩) 0 t) (u.alloc (.cells (madeCells #[.int .u8 0] t) 5)):=fun u=>by
  obtain ⟨i0,hi,Ff,Zb,td⟩:=info_parts bI;have h:=run_make (P:=Tryz.prog) u 267 5 i0 (.int .u8 0) Tryz.underlying267 hi Ff .i64 .i64 0 (t:Int) (by omega) (by omega) (by rw [td];omega) (by omega)
  rw [Int.toNat_natCast] at h
  simpa [Zb,Value.cells] using h
 have Tt:=World.ownsRow_made (base:=w.heap.size) (e:=5) (size:=1) w (madeCells #[.int .u8 0] t) t zR (by simp [maxLen];omega) (by rw [size_madeCells,Nat.mul_one])
 have aa:=(Below.refl w.heap.size w).alloc zR (.cells (madeCells #[.int .u8 0] t) 5);go_enter Tryz.func153,Tryz.ntmps153
 go_wp2_with fail
 generalize w.alloc _=w0 at Tt aa |-;clear qv;go_loopw [5,19] (fun s i wr=>∃ j:Nat,j <= k.length /\ i= .int .i64 j /\ wr.ownsRow w.heap.size 5 1 s (8*j) (U8 (te (k.take j))) /\ Below w.heap.size w wr) (fun _ i _=>k.length-(intOf i).toNat)
 case atStart=>exact ⟨0,Nat.zero_le _,rfl,by simpa [te,U8] using Tt,aa⟩
 case round =>
  clear Tt aa;obtain ⟨j,hj,rfl,ma,hb⟩:=hrel;by_cases oa:j<k.length
  ·obtain ⟨b,q,rfl,Za,hc⟩:=Ye (xp.below hb) oa
   have g1:(0:Int) <= (j:Int):=by omega
   have g2:(j:Int)<(k.length:Int):=by omega
   have HY:=zH (yz Ug.out oa);have HE:=zH (vI k j oa);have HL:=zH oa;clear oa;revert hc HY HE
   generalize k.getD j 0=y;intro hc HY HE;go_wp2_with fail
   refine (zG w.heap.size _ (8*j) y _ _ ma HY.out (by have:=HL.out;omega) hb.size).mono ?_
   rintro e w1 ⟨v',rfl,Ta,Da,Ym⟩;have ya:=hb.trans (Fo Da w.heap.size hb.size (fun g hg=>(sJ ma g hg).1))
   clear Da Ym ma hb hc;rw [<- RC,<- HE.out] at Ta;go_wp2
   go_roundw
   case rel=>exact ⟨j+1,by have:=HL.out;omega,by go_num,by rw [show 8*(j+1)=8*j+8 by omega];exact Ta,ya⟩
   case measure=>have:=HL.out;simp [intOf];omega
  ·have e:j=k.length:=by omega
   subst e;rw [List.take_length] at ma;clear oa hj;go_wp2_with fail
   go_loopw [5,29] (fun s i wq=>∃ j:Nat,j <= l.length /\ i= .int .i64 j /\ wq.ownsRow w.heap.size 5 1 s (8*(k.length+j)) (U8 (te (k++l.take j))) /\ Below w.heap.size w wq) (fun _ i _=>l.length-(intOf i).toNat)
   case atStart=>exact ⟨0,Nat.zero_le _,rfl,by simpa using ma,hb⟩
   case round =>
    clear ma hb;obtain ⟨j,hj,rfl,ma,hb⟩:=hrel;by_cases oa:j<l.length
    ·obtain ⟨b,q,rfl,Za,hc⟩:=Ye (za.below hb) oa
     have g1:(0:Int) <= (j:Int):=by omega
     have g2:(j:Int)<(l.length:Int):=by omega
     have HY:=zH (yz ql.out oa);have HE:=zH (show te (k++l.take (j+1))=te (k++l.take j)++Jg (l.getD j 0) 8 by rw [qB,qB,vI l j oa,List.append_assoc])
     have HL:=zH oa;clear oa;revert hc HY HE
     generalize l.getD j 0=y;intro hc HY HE;go_wp2_with fail
     refine (zG w.heap.size _ (8*(k.length+j)) y _ _ ma HY.out (by have:=HL.out;omega) hb.size).mono ?_
     rintro e w1 ⟨v',rfl,Ta,Da,Ym⟩;have ya:=hb.trans (Fo Da w.heap.size hb.size (fun g hg=>(sJ ma g hg).1))
     clear Da Ym ma hb hc;rw [<- RC,<- HE.out] at Ta;go_wp2
     go_roundw
     case rel=>exact ⟨j+1,by have:=HL.out;omega,by go_num,by rw [show 8*(k.length+(j+1))=8*(k.length+j)+8 by omega];exact Ta,ya⟩
     case measure=>have:=HL.out;simp [intOf];omega
    ·have e:j=l.length:=by omega
     subst e;rw [List.take_length] at ma;clear oa hj;obtain ⟨A',c',rfl,-,-,cB,-⟩:=Tb ma;have QU:=oS (P:=Tryz.prog) (w:=_) (dst:=9) (c:=c') Tryz.underlying267 Tryz.underlying5 Tryz.underlying9 cB;go_wp2;go_ret
     exact ⟨rfl,hb⟩
end Go.Proofs.YtjipleoamlmkfaaGreat
namespace Go.Proofs.YtjipleoamlmkfaaGreat
open Go.RowKit Go.Maps
theorem OrcIn.turn {w w':World} {g:Nat} {O O':La} {F:Nat -> Prop} {v:Value} {cs:List Value} {km sm pm:Nat} {E:Nat -> Prop} (h:OrcIn w g O F v cs km sm pm E) (ok:OrcOk O') (hq:O'.qs=O.qs)
  (kb:Blk w' g 131 #[.bool O'.ideal, .int .u64 O'.st, .int .i64 O'.dr,v, .map (some km), .map (some sm), .map (some pm)]) (hg:w.grownBy w' (some g)):OrcIn w' g O' F v cs km sm pm E where
 ok:=ok
 blk:=kb
 own:=by rw [hq];exact zg h.own fun b hb=>hg.block b (h.own.lt b hb).2 (fun e=>h.vg (by rw [hb,e]))
 rows:=by rw [hq];exact Xx h.rows hg.size fun b hb hl=>hg.block b hl (fun e=>(h.el b hb).2.1 (Option.some.inj e))
 map:=by
  rw [hq];obtain ⟨es,clock,h1,h2⟩:=h.map;exact ⟨es,clock,(hg.block km (h.lt km h.fkm) (fun e=>h.kmg (Option.some.inj e))).trans h1,h2⟩
 el:=fun b hb=>⟨Nat.lt_of_lt_of_le (h.el b hb).1 hg.size,(h.el b hb).2⟩
 kmg:=h.kmg
 vkm:=h.vkm
 vg:=h.vg
 fg:=h.fg
 fv:=h.fv
 fkm:=h.fkm
 fE:=h.fE
 lt:=fun b hb=>Nat.lt_of_lt_of_le (h.lt b hb) hg.size
theorem OA (w:World) (g i j:Nat) (x y:Value):w.grownBy ((w.setCell ⟨g,i,none⟩ x).setCell ⟨g,j,none⟩ y) (some g):=Yd (p:=⟨g,j,none⟩) (Yd (p:=⟨g,i,none⟩) (Lc w (some g)) (.inl rfl) x) (.inl rfl) y
theorem Xs {w:World} {g:Nat} {t:TypeId} {cs:Array Value} (k:Blk w g t cs) (i j:Nat) (x y:Value):Blk ((w.setCell ⟨g,i,none⟩ x).setCell ⟨g,j,none⟩ y) g t ((cs.setIfInBounds i x).setIfInBounds j y):=(k.set_ i x).set_ j y
theorem zCx {i:Bool} {st dr:Nat} {qs:List Qn} (h:OrcOk ⟨i,st,dr,qs⟩) {s1 d1:Nat} (hs:s1<18446744073709551616):OrcOk ⟨i,s1,d1,qs⟩:=⟨hs,h.qs,h.apart,h.real⟩
theorem uM (i:Bool) (st dr:Nat) (qs:List Qn):Rm ⟨i,st,dr,qs⟩=⟨i,nt st,dr+1,qs⟩:=rfl
theorem sM (i:Bool) (st dr:Nat) (qs:List Qn):yq ⟨i,st,dr,qs⟩=GA (FA (EA (nt st))):=rfl
theorem tM {w:World} {g:Nat} {O:La} {F:Nat -> Prop} {v:Value} {cs:List Value} {km sm pm:Nat} {E:Nat -> Prop} (h:OrcIn w g O F v cs km sm pm E) (hi:O.ideal=true) (hd:O.dr <= 1000000000) :
  Calls Tryz.prog 154 #[.pointer (some ⟨g,0,none⟩)] w fun e w'=>e= .returned (.int .u64 (yq O:Int)) /\ OrcIn w' g (Rm O) F v cs km sm pm E /\ w.grownBy w' (some g):=by
 obtain ⟨ideal,st,dr,qs⟩:=O;have Ef:st<18446744073709551616:=h.ok.st;have kb:Blk w g 131 #[.bool ideal, .int .u64 st, .int .i64 dr,v, .map (some km), .map (some sm), .map (some pm)]:=h.blk;have hd':dr <= 1000000000:=hd;clear hd;have Jt:ideal=true:=hi;subst Jt;clear hi;have H:=zH h;have e1:IntKind.i64.wrap ((dr:Int)+1)=((dr+1:Nat):Int):=by rw [IntKind.wrap_i64];omega
 have e2:IntKind.u64.wrap ((st:Int)+11400714819323198485)=((nt st:Nat):Int):=by rw [IntKind.wrap_u64];unfold nt;omega
 have hz:nt st<18446744073709551616:=Nat.mod_lt _ (by decide)
 obtain ⟨dr1,hdr⟩:=zEX (dr+1);rw [<- hdr] at e1;obtain ⟨s1,Gc⟩:=zEX (nt st);rw [<- Gc] at e2 hz;have HD:=zH hdr;have HS:=zH Gc;clear hdr Gc h;obtain ⟨a1,Mq⟩:=zEX (s1 ^^^ (s1 >>> 30));have ha1l:a1<18446744073709551616:=by rw [Mq];exact Nat.xor_lt_two_pow (n:=64) hz (by rw [Nat.shiftRight_eq_div_pow];omega)
 have x1:bits BinOp.xor IntKind.u64 (s1:Int) ((s1:Int) / 1073741824)=(a1:Int):=by
  rw [show (s1:Int) / (1073741824:Int)=((s1 >>> 30:Nat):Int) by rw [Nat.shiftRight_eq_div_pow];omega,bits_xor_u64_nat _ _ hz (by rw [Nat.shiftRight_eq_div_pow];omega),Mq]
 obtain ⟨a,ha⟩:=zEX (a1*13787848793156543929%18446744073709551616);have ia:a<18446744073709551616:=by omega
 have m1:IntKind.u64.wrap ((a1:Int)*13787848793156543929)=(a:Int):=by rw [IntKind.wrap_u64];omega
 have HA:=zH (show a=EA s1 by rw [ha,Mq,EA])
 clear ha Mq;obtain ⟨b1,ya⟩:=zEX (a ^^^ (a >>> 27));have hb1l:b1<18446744073709551616:=by rw [ya];exact Nat.xor_lt_two_pow (n:=64) ia (by rw [Nat.shiftRight_eq_div_pow];omega)
 have x2:bits BinOp.xor IntKind.u64 (a:Int) ((a:Int) / 134217728)=(b1:Int):=by
  rw [show (a:Int) / (134217728:Int)=((a >>> 27:Nat):Int) by rw [Nat.shiftRight_eq_div_pow];omega,bits_xor_u64_nat _ _ ia (by rw [Nat.shiftRight_eq_div_pow];omega),ya]
 obtain ⟨b,hb⟩:=zEX (b1*10723151780598845931%18446744073709551616);have Za:b<18446744073709551616:=by omega
 have m2:IntKind.u64.wrap ((b1:Int)*10723151780598845931)=(b:Int):=by rw [IntKind.wrap_u64];omega
 have HB:=zH (show b=FA a by rw [hb,ya,FA])
 clear hb ya;obtain ⟨c1,Nc⟩:=zEX (b ^^^ (b >>> 31));have x3:bits BinOp.xor IntKind.u64 (b:Int) ((b:Int) / 2147483648)=(c1:Int):=by
  rw [show (b:Int) / (2147483648:Int)=((b >>> 31:Nat):Int) by rw [Nat.shiftRight_eq_div_pow];omega,bits_xor_u64_nat _ _ Za (by rw [Nat.shiftRight_eq_div_pow];omega),Nc]
 obtain ⟨c,hcz⟩:=zEX (c1%18446744069414584321);have m3:(c1:Int).tmod 18446744069414584321=(c:Int):=by rw [Int.tmod_eq_emod_of_nonneg (by omega)];omega
 have HC:=zH (show c=GA b by rw [hcz,Nc,GA,Xa])
 clear hcz Nc;have X1:=zH ha1l;have X2:=zH hb1l;have X3:=zH hz;clear ha1l hb1l ia Za hz Ef;have hv:yq ⟨true,st,dr,qs⟩=c:=by rw [sM,<- HS.out,<- HA.out,<- HB.out,<- HC.out]
 rw [hv];clear hv HA HB HC;obtain ⟨O1,oo⟩:=zEX (Rm ⟨true,st,dr,qs⟩);rw [<- oo];have HO:=zH (show O1=⟨true,s1,dr1,qs⟩ by rw [oo,uM,HS.out,HD.out])
 clear oo HS HD;have hc:=kb.cell;have hf:=kb.frozen;have KB:=zH kb;clear kb;go_enter Tryz.func154,Tryz.ntmps154
 go_wp2_with fail
 go_ret
 have hg:=OA w g 2 1 (.int .i64 dr1) (.int .u64 s1);have kb:=Xs KB.out 2 1 (.int .i64 dr1) (.int .u64 s1);generalize (w.setCell ⟨g,2,none⟩ (.int .i64 dr1)).setCell ⟨g,1,none⟩ (.int .u64 s1)=w1 at hg kb |-;refine ⟨rfl,?_,hg⟩;rw [HO.out];exact H.out.turn (O':=⟨true,s1,dr1,qs⟩) (zCx H.out.ok X3.out) rfl (by simpa using kb) hg
end Go.Proofs.YtjipleoamlmkfaaGreat
namespace Go.Proofs.YtjipleoamlmkfaaGreat
open Go.RowKit Go.Maps
theorem UN:(Tryz.prog.info? 133).map (fun i=>(i.zero,i.size,i.bytes))=some (some (.agg #[.int .u64 0, .slice none 0 0, .int .u64 0]),3,40):=by kernel_rfl
theorem SZ:Gj Tryz.prog 51 133 3 40 (.agg #[.int .u64 0, .slice none 0 0, .int .u64 0]):=by
 obtain ⟨i0,hi,Ff,Zb,td⟩:=info_parts UN;exact ⟨Tryz.underlying51,⟨i0,hi,Ff,Zb,td⟩,rfl,by omega⟩
theorem R0 (w:World) (x y z:Value) (t:TypeId):Rd (w.alloc (.cells #[x,y,z] t)) 3 (some ⟨w.heap.size,0,none⟩) 1 [x,y,z]:=by
 refine ⟨rfl,fun _=>⟨_,rfl,fun j u hj=>?_⟩⟩
 match j,hj with
 | 0,hj=>simp at hj;subst hj;simp [Addr.add]
 | 1,hj=>simp at hj;subst hj;simp [Addr.add]
 | 2,hj=>simp at hj;subst hj;simp [Addr.add]
theorem qI:Keyed Tryz.prog 9:=string_keyed Tryz.underlying9
theorem z7 (lab:Nat) (l:List Nat) (h:l.length <= 1000000):keyOf Tryz.prog 9 (.string (S (te (lab :: l))))=some (Dh lab l):=by
 have:=WideMaps.keyOf_string_mk (P:=Tryz.prog) Tryz.underlying9 (s:=S (te (lab :: l))) (by rw [YK,rB,List.length_cons];simp only [maxLen];omega)
 rw [this];simp [S,Dh]
theorem EP {O:La} (h:OrcOk O) {lab:Nat} {l:List Nat} {an:Nat} (Yo:lab<18446744073709551616) (zi:Sd l=true) (Nq:an<Xa) (hlen:l.length <= 1000000) (Gx:Td O.qs lab l=none) (dB:O.ideal=false -> an=ji lab l):OrcOk (Mh O lab l an):=by
 refine ⟨h.st,fun q hq=>?_,?_,fun hi q hq=>?_⟩
 ·rcases List.mem_append.1 hq with hq | hq
  ·exact h.qs q hq
  ·rw [List.mem_singleton.1 hq];exact ⟨Yo,zi,Nq,hlen⟩
 ·show (O.qs++[_]).Pairwise _
  rw [List.pairwise_append];refine ⟨h.apart,List.pairwise_singleton _ _,fun a ha b hb hc=>?_⟩
  rw [List.mem_singleton.1 hb] at hc;unfold Td at Gx;rw [Option.map_eq_none_iff] at Gx;have:=List.find?_eq_none.1 Gx a ha;exact this (Ez.2 hc)
 ·rcases List.mem_append.1 hq with hq | hq
  ·exact h.real hi q hq
  ·rw [List.mem_singleton.1 hq];exact dB hi
structure OrcPre (w:World) (g km:Nat) (cells:Array Value) (v:Value) (n m:Nat) (cs:List Value) (qs:List Qn) (D:DataW Unit) (E:Nat -> Prop):Prop where
 blk:Blk w g 131 cells
 own:w.ownsRow 0 133 3 v n cs
 rows:tq E w cs qs
 map:w.ownsMap Tryz.prog 9 (plainElem Tryz.prog 3) km m D
theorem OrcPre.keep {w w':World} {g km:Nat} {cells:Array Value} {v:Value} {n m:Nat} {cs:List Value} {qs:List Qn} {D:DataW Unit} {E F:Nat -> Prop} (h:OrcPre w g km cells v n m cs qs D E) (hF:F g /\ F km /\ (∀ b,v.ownBlock=some b -> F b) /\ ∀ b,E b -> F b)
  (hs:w.heap.size <= w'.heap.size) (hw:∀ b,F b -> w'.heap[b]?=w.heap[b]?):OrcPre w' g km cells v n m cs qs D E where
 blk:=(hw g hF.1).trans h.blk
 own:=zg h.own fun b hb=>hw b (hF.2.2.1 b hb)
 rows:=Xx h.rows hs fun b hb _=>hw b (hF.2.2.2 b hb)
 map:=by
  obtain ⟨es,clock,h1,h2⟩:=h.map;exact ⟨es,clock,(hw km hF.2.1).trans h1,h2⟩
theorem OR {w w3 w4:World} {g km sm pm:Nat} {O:La} {F E:Nat -> Prop} {v v' vs:Value} {cs:List Value} {lab an N n eb:Nat} {l:List Nat}
  (OK:OrcOk (Mh O lab l an))
  (P:OrcPre w3 g km #[.bool O.ideal, .int .u64 O.st, .int .i64 O.dr,v, .map (some km), .map (some sm), .map (some pm)] v O.qs.length (O.qs.length+1) cs O.qs ((Dn O.qs).put (Dh lab l) (.lit (.int .i64 O.qs.length))) E)
  (hF:F g /\ F km /\ (∀ b,v.ownBlock=some b -> F b) /\ ∀ b,E b -> F b) (hX:v.ownBlock≠some g /\ v.ownBlock≠some km /\ ∀ b,E b -> b≠g /\ b≠km /\ v.ownBlock≠some b) (hgk:g≠km) (oa:∀ b,F b -> b<N) (hN:N <= eb) (Um:N <= w3.heap.size) (hew:w.heap.size <= eb)
  (vn:w3.ownsRow eb 22 1 vs n (Ca l)) (Kl:∀ x∈l,x<18446744073709551616)
  (ma:w4.ownsRow 0 133 3 v' (O.qs.length+1) (cs++[.int .u64 lab,vs, .int .u64 an])) (hg:w3.grownBy w4 v.ownBlock) (hb:v'.ownBlock=v.ownBlock \/ v'.ownBlock=some w3.heap.size)
  (M:Moved F F w w3) :
  ∃ F',OrcAt (w4.setCell ⟨g,3,none⟩ v') g (Mh O lab l an) F' /\ Moved F F' w (w4.setCell ⟨g,3,none⟩ v'):=by
 obtain ⟨fg,fkm,fv,fE⟩:=hF;obtain ⟨x1,x2,x3⟩:=hX;have Oa:w4.grownBy (w4.setCell ⟨g,3,none⟩ v') (some g):=Yd (p:=⟨g,3,none⟩) (Lc w4 _) (.inl rfl) _;have kb4:=P.blk.grown hg (fun e=>x1 e.symm)
 have kb5:=kb4.set_ 3 v';have Vb:∀ b,vs.ownBlock=some b -> eb <= b /\ b<w3.heap.size:=fun b h=>vn.lt b h
 have bu:∀ b,v'.ownBlock=some b -> F b \/ b=w3.heap.size:=fun b h=>by
  rcases hb with e | e
  ·exact .inl (fv b (by rw [<- e];exact h))
  ·rw [e] at h;exact .inr (Option.some.inj h).symm
 have hvg:v'.ownBlock≠some g:=fun h=>by
  rcases hb with e | e
  ·exact x1 (by rw [<- e];exact h)
  ·rw [e] at h;have:=Option.some.inj h;have:=oa g fg;omega
 have hvk:v'.ownBlock≠some km:=fun h=>by
  rcases hb with e | e
  ·exact x2 (by rw [<- e];exact h)
  ·rw [e] at h;have:=Option.some.inj h;have:=oa km fkm;omega
 have hvE:∀ b,E b -> v'.ownBlock≠some b:=fun b hE h=>by
  rcases hb with e | e
  ·exact (x3 b hE).2.2 (by rw [<- e];exact h)
  ·rw [e] at h;have:=Option.some.inj h;have:=oa b (fE b hE);omega
 have lU:∀ b,v.ownBlock=some b -> b<N:=fun b h=>oa b (fv b h)
 have Rx:=zg ma fun b h=>Oa.block b (ma.lt b h).2 (fun e=>hvg (by rw [h,e]))
 have vs4:=zg vn fun b h=>hg.block b (Vb b h).2 (fun e=>by have:=lU b e.symm;have:=Vb b h;omega)
 have vs5:=zg vs4 fun b h=>Oa.block b (vs4.lt b h).2 (fun e=>by have:=Option.some.inj e;have:=Vb b h;have:=oa g fg;omega)
 have kr5:=qz vs5 Kl;have rows4:=Xx P.rows hg.size fun b hE hl=>hg.block b hl (fun e=>(x3 b hE).2.2 e.symm)
 have rows5:=Xx rows4 Oa.size fun b hE hl=>Oa.block b hl (fun e=>(x3 b hE).1 (Option.some.inj e))
 have s4:=hg.size;have s5:=Oa.size;refine ⟨fun b=>F b \/ v'.ownBlock=some b \/ vs.ownBlock=some b,⟨v',cs++[.int .u64 lab,vs, .int .u64 an],km,sm,pm,fun b=>E b \/ vs.ownBlock=some b,?_⟩,?_⟩
 ·refine ⟨OK,?_,?_,?_,?_,?_,fun e=>hgk e.symm,hvk,hvg, .inl fg,fun b h=>.inr (.inl h), .inl fkm,?_,?_⟩
  ·show Blk _ g _ #[.bool O.ideal, .int .u64 O.st, .int .i64 O.dr,v', .map (some km), .map (some sm), .map (some pm)]
   simpa using kb5
  ·have:(Mh O lab l an).qs.length=O.qs.length+1:=by show (O.qs++[_]).length=_;simp
   rw [this];exact Rx
  ·exact iR (q:=⟨lab,l,an⟩) (jR rows5 fun b h=>.inl h) (pz kr5 fun b h=>.inr h)
  ·have:(Mh O lab l an).qs=O.qs++[⟨lab,l,an⟩]:=cL O lab l an
   rw [this,oB,List.length_append];obtain ⟨es,clock,h1,h2⟩:=P.map;refine ⟨es,clock,?_,h2⟩;have BU:km<w3.heap.size:=by have:=oa km fkm;omega
   exact (Oa.block km (by omega) (fun e=>hgk (Option.some.inj e).symm)).trans ((hg.block km BU (fun e=>x2 e.symm)).trans h1)
  ·intro b h
   rcases h with h | h
   ·exact ⟨by have:=oa b (fE b h);omega,(x3 b h).1,(x3 b h).2.1,hvE b h⟩
   ·have h1:=Vb b h
    refine ⟨by omega,fun e=>by have:=oa g fg;omega,fun e=>by have:=oa km fkm;omega,fun e=>?_⟩
    rcases bu b e with h2 | h2
    ·have:=oa b h2;omega
    ·omega
  ·intro b h
   rcases h with h | h
   ·exact .inl (fE b h)
   ·exact .inr (.inr h)
  ·intro b h
   rcases h with h | h | h
   ·have:=oa b h;omega
   ·have:=(ma.lt b h).2;omega
   ·have:=Vb b h;omega
 ·refine VO (F':=F) ((M.trans (zz (F:=F) hg fun b h=>fv b h)).trans (zz (F:=F) Oa fun b h=>by rw [<- Option.some.inj h];exact fg)) fun b h=>?_
  have hs:=M.size;rcases h with h | h | h
  ·exact .inl h
  ·rcases bu b h with h | h
   ·exact .inl h
   ·exact .inr (by omega)
  ·exact .inr (by have:=Vb b h;omega)
where
 cL (O:La) (lab:Nat) (el:List Nat) (a:Nat):(Mh O lab el a).qs=O.qs++[⟨lab,el,a⟩]:=by simp only [Mh]
theorem WJ {w:World} {g:Nat} {O:La} {F:Nat -> Prop} {v:Value} {cs:List Value} {km sm pm:Nat} {E:Nat -> Prop} (h:OrcIn w g O F v cs km sm pm E) (lab:Nat) (l:List Nat) (an:Nat) (A:Option Addr) (n c:Nat) {K:Nat -> Prop}
  (hl:Km K w (.slice A n c) l) (hK:∀ b,K b -> ¬F b) (Yo:lab<18446744073709551616) (zi:Sd l=true) (Nq:an<Xa) (hlen:l.length <= 1000000) (hn:O.qs.length <= 1000000) (Gx:Td O.qs lab l=none) (dB:O.ideal=false -> an=ji lab l) :
  Calls Tryz.prog 156 #[.pointer (some ⟨g,0,none⟩), .string (S (te (lab :: l))), .int .u64 lab, .slice A n c, .int .u64 an] w fun e w'=>e= .returned (.tuple #[]) /\ ∃ F',OrcAt w' g (Mh O lab l an) F' /\ Moved F F' w w':=by
 have OK1:=zH (EP h.ok Yo zi Nq hlen Gx dB);have iq:=zH (z7 lab l hlen);have Qe:=zH hlen;have Iu:=zH zi;have mw:l.length=n:=by obtain ⟨A',c',e,-⟩:=pB hl;injection e with _ e2 _;exact e2.symm
 have HRN:=zH mw;have HK:=zH hK;clear Yo zi Gx dB hK hlen mw;obtain ⟨hv⟩:Nonempty (∃ B d,v= .slice B O.qs.length d):=by
  obtain ⟨B,d,e,-⟩:=Tb h.own;exact ⟨B,d,e⟩
 obtain ⟨B,d,rfl⟩:=hv;have kb:=h.blk;have hc:=kb.cell;have hmp:=fun w=>run_eql_map_nil (P:=Tryz.prog) w 127 9 3 (some km) Tryz.underlying127
 have H:=zH h;have hglt:g<w.heap.size:=kb.lt;have hgk:g≠km:=fun e=>h.kmg e.symm
 have gn:(O.qs.length:Int) <= 1000000:=by omega
 obtain ⟨nq,YW⟩:=zEX (O.qs.length);rw [<- YW] at hc gn;have ye:=zH YW;clear h YW kb hn;go_enter Tryz.func156,Tryz.ntmps156
 go_wp2_with fail
 refine Pc (tg km) [10] [0,1,2,3,4,5,6,7,8,9,10] (by kernel_rfl) (by kernel_rfl) ?_
 refine di (tc km) ?_;intro Wc Ba da;have H1:=zH (show OrcIn Wc g O F (.slice B O.qs.length d) cs km sm pm E by rw [Ba.out];exact H.out.drew)
 have Ot:Km K Wc (.slice A n c) l:=by rw [Ba.out];exact Dp hl zR fun _ _ _=>rfl
 have M0:Moved F F w Wc:=by rw [Ba.out];exact Ln Moved.refl
 clear Ba H hl;obtain ⟨w1,Xb,Qt,Af⟩:=H1.out.map.update qI Tryz.underlying127 (by have:=ye.out;simp only [maxLen];omega) iq.out (val:=.int .i64 nq) (plainElem_int Tryz.underlying3 (by simp [Lit.wf,IntKind.min,IntKind.max,IntKind.signed,IntKind.bits];omega))
 refine Pp ?_;refine de (tc km) rfl rfl rfl ?_;go_simp;refine ⟨Af,?_⟩
 try simp only [Act.put,zLa,zLb,zLc]
 refine pc ?_;have aY:Blk w1 g 131 _:=H1.out.blk.grown Af (fun e=>hgk (Option.some.inj e))
 have Rn:=zg H1.out.own fun b hb=>Af.block b (H1.out.own.lt b hb).2 (fun e=>H1.out.vkm (by rw [hb,e]))
 have cK:=Xx H1.out.rows Af.size fun b hb hl=>Af.block b hl (fun e=>(H1.out.el b hb).2.2.1 (Option.some.inj e))
 have Jl:Km K w1 (.slice A n c) l:=Dp Ot Af.size fun b hb hl=>Af.block b hl (fun e=>HK.out b hb (by rw [Option.some.inj e];exact H1.out.fkm))
 have M1:=M0.trans (zz (F:=F) Af (fun b e=>by rw [<- Option.some.inj e];exact H1.out.fkm))
 have lk1:km<w1.heap.size:=Qt.lt;have Nc:=aY.cell;have Uv:=aY.frozen;have lg1:=aY.lt;have P1:=zH (OrcPre.mk aY Rn cK Qt);have HF:Hid (F g /\ F km /\ (∀ b,(Value.slice B O.qs.length d).ownBlock=some b -> F b) /\ ∀ b,E b -> F b):=⟨H1.out.fg,H1.out.fkm,H1.out.fv,H1.out.fE⟩;have HX:Hid ((Value.slice B O.qs.length d).ownBlock≠some g /\ (Value.slice B O.qs.length d).ownBlock≠some km /\ ∀ b,E b -> b≠g /\ b≠km /\ (Value.slice B O.qs.length d).ownBlock≠some b):=⟨H1.out.vg,H1.out.vkm,fun b hb=>⟨(H1.out.el b hb).2.1,(H1.out.el b hb).2.2.1,(H1.out.el b hb).2.2.2⟩⟩
 have Fb:=zH (show ∀ b,F b -> b<w1.heap.size from fun b hb=>Nat.lt_of_lt_of_le (H1.out.lt b hb) Af.size)
 obtain ⟨VF,hVF⟩:∃ VF:Nat -> Prop,∀ b,VF b↔(Value.slice B O.qs.length d).ownBlock=some b:=⟨_,fun _=>Iff.rfl⟩
 have nVg:¬VF g:=fun e=>HX.out.1 ((hVF g).1 e)
 have HVF:=zH hVF;rw [<- ye.out] at Nc;clear hVF aY Rn cK Qt hc Xb Af Ot M0 da hglt hmp H1 iq;clear Wc;go_wp2_with fail
 obtain ⟨N,hN⟩:=zEX (w1.heap.size);rw [<- hN] at lg1 lk1;have HN:=zH hN;clear hN;refine Zw (Kf VF N) [7,10,11,12,14] [14] [0,1,2,3,4,5,6,8,7,9,10,11,12,13,14] (by kernel_rfl) (by kernel_rfl) ?_
 refine bx (Cb VF N) ?_;intro Wc Ba da;have P2:=zH (P1.out.keep (w':=w1.drew) (F:=F) HF.out zR fun _ _=>rfl)
 rw [<- Ba.out] at P2;have XX:Km K Wc (.slice A n c) l:=by rw [Ba.out];exact Dp Jl zR fun _ _ _=>rfl
 have M2:Moved F F w Wc:=by rw [Ba.out];exact Ln M1
 have Ob:N <= Wc.heap.size:=by rw [Ba.out,HN.out];exact zR
 have hbN:N <= Wc.heap.size:=Ob;have Ja:w.heap.size <= Wc.heap.size:=M2.size;have HLc:Hid (∀ b,F b -> b<N):=by rw [HN.out];exact Fb.out
 clear Ba P1 Jl M1 Fb;refine aG ?_;refine Oz (Cb VF N) rfl rfl rfl (fun _=>by go_simp <;> rfl) ((VG A n c l _ (Pk XX) (by have:=Qe.out;omega)).mono ?_)
 rintro e w2 ⟨vs,rfl,vn,xa⟩;refine ⟨_,rfl,fun _=>xf xa Ob,?_⟩
 replace da:=(Cb VF N).trans _ _ _ da (xf xa Ob);simp only [Act.put,zLa,zLb,zLc];have P3:=zH (P2.out.keep (F:=F) HF.out xa.size fun b hb=>xa.block b (by have:=HLc.out b hb;omega))
 have M3:=M2.trans (Ic (F:=F) xa);have wg:N <= w2.heap.size:=by have:=xa.size;omega
 obtain ⟨Bs,ds,rfl,-,-,-,Ah⟩:=Tb vn;clear P2 M2 xa Ob XX da Nc;have da:=(Cb VF N).refl w2;refine aG ?_;refine og (Cb VF N) rfl rfl rfl ?_;go_simp;refine ⟨fun _=>xf ((Below.refl _ _).alloc zR _) wg,?_⟩
 have ia:=(Below.refl w2.heap.size w2).alloc zR (.cells #[.int .u64 lab, .slice Bs n ds, .int .u64 an] 133);have za:=R0 w2 (.int .u64 lab) (.slice Bs n ds) (.int .u64 an) 133;have P4:=zH (P3.out.keep (F:=F) HF.out ia.size fun b hb=>ia.block b (by have:=HLc.out b hb;omega))
 have jE:=db vn ia zR;have M4:=M3.trans (Ic (F:=F) ia);have Um:N <= (w2.alloc (.cells #[.int .u64 lab, .slice Bs n ds, .int .u64 an] 133)).heap.size:=Nat.le_trans wg ia.size;have Kw:=P4.out.own;rw [<- ye.out] at Kw
 try simp only [Act.put,zLa,zLb,zLc]
 generalize w2.alloc _=w3 at za P4 jE M4 Um Kw |-;generalize w2.heap.size=g2 at za |-;clear P3 M3 wg ia vn da;have da:=(Cb VF N).refl w3;refine og (Cb VF N) rfl rfl rfl ?_;refine om _ _ rfl SZ rfl Kw rfl za (by intro u hu;simp at hu;rcases hu with rfl | rfl | rfl <;> rfl) (by omega) (Nat.zero_le _) ?_
 intro v' w4 Ta Ha Ab;refine ⟨fun _=>lN Ha Um (fun b hb=>(HVF.out b).2 (by rw [<- ye.out];exact hb)),?_⟩
 try simp only [Act.put,zLa,zLb,zLc]
 have UX:=(P4.out.blk.grown Ha (fun e=>by rw [ye.out] at e;exact HX.out.1 e.symm)).frozen
 have hcg4:=(P4.out.blk.grown Ha (fun e=>by rw [ye.out] at e;exact HX.out.1 e.symm)).cell
 obtain ⟨Av,cv,hv',-⟩:=Tb Ta;subst hv';have Ni:=zH (OR OK1.out (by have:=P4.out;rw [ye.out] at this;exact this) HF.out HX.out hgk HLc.out (eb:=Wc.heap.size) hbN Um Ja jE (Py Iu.out) (by have:=Ta;rw [ye.out] at this;exact this) (by have:=Ha;rw [ye.out] at this;exact this) (by rw [<- ye.out];exact Ab) M4)
 rw [<- ye.out] at Ni;clear Ta Ha Ab za P4 Kw jE M4 da Um;have da:=(Cb VF N).refl w4;refine og (Cb VF N) rfl rfl rfl ?_;go_simp
 try refine And.intro (fun _=>(Cb VF N).refl _) ?_
 try simp only [Act.put,zLa,zLb,zLc]
 refine aG ?_;refine og (Cb VF N) rfl rfl rfl ?_;go_simp;refine ⟨fun h=>Bool.noConfusion h,?_⟩
 try simp only [Act.put,zLa,zLb,zLc]
 refine ax ?_;go_wp2
 go_end0
 exact ⟨rfl,Ni.out⟩
end Go.Proofs.YtjipleoamlmkfaaGreat
namespace Go.Proofs.YtjipleoamlmkfaaGreat
open Go.RowKit Go.Maps
theorem Yu (O:La) (lab:Nat) (el:List Nat) (a:Nat):(Mh O lab el a).qs=O.qs++[⟨lab,el,a⟩]:=by simp only [Mh]
theorem gH (i:Bool) (s d:Nat) (q:List Qn):(Rm ⟨i,s,d,q⟩).qs=q:=rfl
theorem My (O:La):(Rm O).qs=O.qs:=by
 cases O with
 | mk i s d q=>exact gH i s d q
def Eo (O:La) (lab:Nat) (el:List Nat) (a:Nat):Prop:=Sd el=true /\ Td O.qs lab el=some a
theorem qH {qs:List Qn} {q:Qn} {lab:Nat} {el:List Nat} {a:Nat} (h:Td qs lab el=some a):Td (qs++[q]) lab el=some a:=by
 unfold Td at h |-;rw [List.find?_append];cases hc:qs.find? (Yl lab el) with
 | none=>rw [hc] at h;cases h
 | some x=>rw [hc] at h;exact h
theorem rH {qs:List Qn} {lab:Nat} {el:List Nat} {a:Nat} (h:Td qs lab el=none):Td (qs++[⟨lab,el,a⟩]) lab el=some a:=by
 unfold Td at h |-;rw [Option.map_eq_none_iff] at h;rw [List.find?_append,h];simp [Yl]
theorem yL {O:La} {lab:Nat} {el:List Nat} {a:Nat} (h:Eo O lab el a):jc O lab el=O /\ Kc O lab el=a /\ GJ O lab el=some a:=by
 obtain ⟨h1,h2⟩:=h;simp [jc,Kc,GJ,h1,h2]
theorem uN (O:La) (lab:Nat) {el:List Nat} (he:Sd el=true):Eo (jc O lab el) lab el (Kc O lab el):=by
 refine ⟨he,?_⟩;unfold jc Kc;rw [if_pos he,if_pos he];cases hf:Td O.qs lab el with
 | some a=>exact hf
 | none =>
  cases O.ideal
  ·simp only [Bool.false_eq_true,if_false]
   exact rH hf
  ·simp only [if_true]
   rw [Yu,My];exact rH hf
theorem JG {O:La} {lab:Nat} {el:List Nat} {a:Nat} (h:Eo O lab el a) (Jr:Nat) (el':List Nat):Eo (jc O Jr el') lab el a:=by
 refine ⟨h.1,?_⟩;unfold jc;split
 ·split
  ·exact h.2
  ·split
   ·rw [Yu,My];exact qH h.2
   ·rw [Yu];exact qH h.2
 ·exact h.2
theorem gD (z:Nat):dMix z<Xa:=Nat.mod_lt _ (by decide)
def rm (O:La):Prop:=∀ q∈O.qs,q.ans<Xa
theorem OrcOk.ans {O:La} (h:OrcOk O):rm O:=fun q hq=>(h.qs q hq).ans
theorem Bt {O:La} (h:rm O) (lab:Nat) (el:List Nat):Kc O lab el<Xa:=by
 unfold Kc;split
 ·split
  ·rename_i a ha
   unfold Td at ha;cases hc:O.qs.find? (Yl lab el) with
   | none=>rw [hc] at ha;cases ha
   | some x =>
    rw [hc] at ha
    injection ha with ha
    rw [<- ha];exact h x (List.mem_of_find?_eq_some hc)
  ·split
   ·exact gD _
   ·exact WB _ _
 ·decide
theorem GD {O:La} (h:rm O) (lab:Nat) (el:List Nat):rm (jc O lab el):=by
 unfold jc;split
 ·split
  ·exact h
  ·split
   ·intro q hq
    rw [Yu,My] at hq;rcases List.mem_append.1 hq with hq | hq
    ·exact h q hq
    ·rw [List.mem_singleton.1 hq];exact gD _
   ·intro q hq
    rw [Yu] at hq;rcases List.mem_append.1 hq with hq | hq
    ·exact h q hq
    ·rw [List.mem_singleton.1 hq];exact WB lab el
 ·exact h
def Nb (O:La) (lab:Nat) (qs:List (List Nat)):La:=qs.foldl (fun o q=>jc o lab q) O
def Ee (O:La) (lab:Nat) (qs:List (List Nat)):List Nat:=(List.range qs.length).map fun i=>Kc (Nb O lab (qs.take i)) lab (qs.getD i [])
theorem FG (O:La) (lab:Nat) (qs:List (List Nat)) (i:Nat) (h:i<qs.length):Nb O lab (qs.take (i+1))=jc (Nb O lab (qs.take i)) lab (qs.getD i []):=by
 unfold Nb;rw [List.take_succ_eq_append_getElem h,List.foldl_append,List.getD_eq_getElem?_getD,List.getElem?_eq_getElem h]
 rfl
theorem DG (O:La) (lab:Nat) (qs:List (List Nat)):Nb O lab (qs.take qs.length)=Nb O lab qs:=by rw [List.take_length]
theorem Dw (O:La) (lab:Nat) (qs:List (List Nat)):(Ee O lab qs).length=qs.length:=by simp [Ee]
theorem GG (O:La) (lab:Nat) (qs:List (List Nat)) (i:Nat) (h:i<qs.length):(Ee O lab qs).getD i 0=Kc (Nb O lab (qs.take i)) lab (qs.getD i []):=by
 simp [Ee,List.getD_eq_getElem?_getD,h]
theorem xL {O:La} {lab:Nat} {el:List Nat} {a:Nat} (h:Eo O lab el a) (Jr:Nat):∀ qs:List (List Nat),Eo (Nb O Jr qs) lab el a:=by
 intro qs;unfold Nb
 induction qs generalizing O with
 | nil=>exact h
 | cons q r ih=>exact ih (JG h Jr q)
theorem zBr (O:La) (lab:Nat) (a b:List (List Nat)):Nb O lab (a++b)=Nb (Nb O lab a) lab b:=by simp [Nb]
theorem N8 (O:La) (lab:Nat) (qs:List (List Nat)) (hq:∀ q∈qs,Sd q=true) (i:Nat) (h:i<qs.length):Eo (Nb O lab qs) lab (qs.getD i []) ((Ee O lab qs).getD i 0):=by
 rw [GG O lab qs i h];have e:qs=qs.take (i+1)++qs.drop (i+1):=(List.take_append_drop _ _).symm;have hm:qs.getD i []∈qs:=by rw [List.getD_eq_getElem?_getD,List.getElem?_eq_getElem h];exact List.getElem_mem h
 have h1:=uN (Nb O lab (qs.take i)) lab (hq _ hm);rw [<- FG O lab qs i h] at h1;have h2:=xL h1 lab (qs.drop (i+1));rw [<- zBr,<- e] at h2;exact h2
theorem EG {O:La} (h:rm O) (lab:Nat):∀ qs:List (List Nat),rm (Nb O lab qs):=by
 intro qs;unfold Nb
 induction qs generalizing O with
 | nil=>exact h
 | cons q r ih=>exact ih (GD h lab q)
theorem IG {O:La} (h:rm O) (lab:Nat) (qs:List (List Nat)):∀ x∈Ee O lab qs,x<Xa:=fun x hx=>by
 simp only [Ee,List.mem_map] at hx;obtain ⟨k,_,rfl⟩:=hx;exact Bt (EG h _ _) _ _
def ld (l:List Nat):List (List Nat):=(List.range (l.length / 2)).map fun i=>[l.getD (2*i) 0,l.getD (2*i+1) 0]
theorem CI (l:List Nat):(ld l).length=l.length / 2:=by simp [ld]
theorem wQ (l:List Nat) (i:Nat) (h:i<l.length / 2):(ld l).getD i []=[l.getD (2*i) 0,l.getD (2*i+1) 0]:=by simp [ld,List.getD_eq_getElem?_getD,h]
def jq:Nat -> La -> List Nat -> List (List Nat)
 | 0,_,l=>[l]
 | d+1,O,l=>l :: jq d (Nb O 17 (ld l)) (Ee O 17 (ld l))
def ey:Nat -> La -> List Nat -> La
 | 0,O,_=>O
 | d+1,O,l=>ey d (Nb O 17 (ld l)) (Ee O 17 (ld l))
theorem Y5 {lab:Nat} {el:List Nat} {a:Nat}:∀ (d:Nat) {O:La} (l:List Nat),Eo O lab el a -> Eo (ey d O l) lab el a
 | 0,_,_,h=>h
 | d+1,_,_,h=>Y5 d _ (xL h 17 _)
def su (ls:List (List Nat)):Nat:=(ls.getLastD []).getD 0 0
def yj:List (List Nat) -> Nat -> List Nat
 | [],_=>[]
 | [_],_=>[]
 | l :: m :: r,i=>l.getD (i ^^^ 1) 0 :: yj (m :: r) (i / 2)
def dL (O:La) (lab:Nat) (el:List Nat):Option Nat:=if O.ideal then GJ O lab el else some (Kc O lab el)
def Aq (O:La) (lab:Nat) (el:List Nat):La:=if O.ideal then O else jc O lab el
def RO:List Nat -> La -> Nat -> List Nat -> Nat -> Option Nat
 | [],O,lab,el,_=>dL O lab el
 | p :: r,O,lab,el,i=>(dL O lab el).bind fun a=>RO r (Aq O lab el) 17 (if i%2=1 then [p,a] else [a,p]) (i / 2)
def JO:List Nat -> La -> Nat -> List Nat -> Nat -> La
 | [],O,lab,el,_=>Aq O lab el
 | p :: r,O,lab,el,i=>match dL O lab el with | some a=>JO r (Aq O lab el) 17 (if i%2=1 then [p,a] else [a,p]) (i / 2) | none=>Aq O lab el
theorem P8 {O:La} {lab:Nat} {el:List Nat} {a:Nat} (h:Eo O lab el a):dL O lab el=some a /\ Aq O lab el=O:=by
 obtain ⟨h1,h2,h3⟩:=yL h;unfold dL Aq;cases O.ideal
 ·simp [h1,h2]
 ·simp [h3]
theorem zBh (j:Nat):2*j ^^^ 1=2*j+1:=by
 have:(2*j+1) ^^^ 1=2*j:=by
  apply Nat.eq_of_testBit_eq
  intro i;rcases i with _ | i
  ·simp [Nat.testBit_zero]
  ·rw [Nat.testBit_xor,Nat.testBit_succ,Nat.testBit_succ,Nat.testBit_succ,show (2*j+1) / 2=j by omega,show 2*j / 2=j by omega]
   simp
 rw [<- this,Nat.xor_assoc,Nat.xor_self,Nat.xor_zero,this]
theorem zDL (j:Nat):(2*j+1) ^^^ 1=2*j:=by rw [<- zBh j,Nat.xor_assoc,Nat.xor_self,Nat.xor_zero]
theorem zBd {T:La}:∀ (d:Nat) (O:La) (l:List Nat) (lab:Nat) (el:List Nat) (i:Nat),l.length=2^d -> (∀ x∈l,x<Xa) -> (∀ lab el a,Eo (ey d O l) lab el a -> Eo T lab el a) -> rm O -> i<l.length ->
  Eo T lab el (l.getD i 0) -> RO (yj (jq d O l) i) T lab el i=some (su (jq d O l)) /\ JO (yj (jq d O l) i) T lab el i=T
 | 0,O,l,lab,el,i,hl,_,_,_,hi,h=>by
  have:i=0:=by simp at hl;omega
  subst this;obtain ⟨h1,h2⟩:=P8 h;exact ⟨by simp [jq,yj,RO,h1,su],by simp [jq,yj,JO,h2]⟩
 | d+1,O,l,lab,el,i,hl,oa,hT,hV,hi,h=>by
  have e2:l.length / 2=2^d:=by rw [hl,Nat.pow_succ];omega
  have Wh:(Ee O 17 (ld l)).length=2^d:=by rw [Dw,CI,e2]
  have yY:∀ k,l.getD k 0<Xa:=fun k=>by
   rw [List.getD_eq_getElem?_getD];rcases Nat.lt_or_ge k l.length with h1 | h1
   ·rw [List.getElem?_eq_getElem h1];exact oa _ (List.getElem_mem h1)
   ·rw [List.getElem?_eq_none h1];show 0<Xa;decide
  have hq:∀ q∈ld l,Sd q=true:=by
   intro q hq;simp only [ld,List.mem_map] at hq;obtain ⟨k,_,rfl⟩:=hq;simp only [Sd,List.all_cons,List.all_nil,Bool.and_true,Bool.and_eq_true,decide_eq_true_eq];exact ⟨yY _,yY _⟩
  have hj:i / 2<l.length / 2:=by
   rw [e2];rw [hl,Nat.pow_succ] at hi;omega
  have ha:=N8 O 17 (ld l) hq (i / 2) (by rw [CI];exact hj)
  rw [wQ l _ hj] at ha;have vY:=hT _ _ _ (Y5 d (Ee O 17 (ld l)) ha);have ih:=zBd d (Nb O 17 (ld l)) (Ee O 17 (ld l)) 17 [l.getD (2*(i / 2)) 0,l.getD (2*(i / 2)+1) 0] (i / 2) Wh (IG hV 17 _) hT (EG hV 17 _) (by rw [Wh,<- e2];exact hj) vY
  obtain ⟨h1,h2⟩:=P8 h;have hcons:∃ m r,jq d (Nb O 17 (ld l)) (Ee O 17 (ld l))=m :: r:=by cases d <;> exact ⟨_,_,rfl⟩
  obtain ⟨m,r,hmr⟩:=hcons;have fB:su (jq (d+1) O l)=su (m :: r):=by simp [jq,su,hmr]
  have hpath:yj (jq (d+1) O l) i=l.getD (i ^^^ 1) 0 :: yj (m :: r) (i / 2):=by simp [jq,hmr,yj]
  rw [hmr] at ih;have zi:(if i%2=1 then [l.getD (i ^^^ 1) 0,l.getD i 0] else [l.getD i 0,l.getD (i ^^^ 1) 0])=[l.getD (2*(i / 2)) 0,l.getD (2*(i / 2)+1) 0]:=by
   by_cases h3:i%2=1
   ·have e:i=2*(i / 2)+1:=by omega
    have e3:i ^^^ 1=2*(i / 2):=by
     have:=zDL (i / 2);rw [show 2*(i / 2)+1=i by omega] at this
     exact this
    rw [if_pos h3,e3,<- e]
   ·have e:i=2*(i / 2):=by omega
    have e3:i ^^^ 1=2*(i / 2)+1:=by
     have:=zBh (i / 2);rw [show 2*(i / 2)=i by omega] at this
     rw [this];omega
    rw [if_neg h3,e3,<- e]
  rw [fB,hpath];refine ⟨?_,?_⟩
  ·simp only [RO,h1,h2,Option.bind_some,zi]
   exact ih.1
  ·simp only [JO,h1,h2,zi]
   exact ih.2
end Go.Proofs.YtjipleoamlmkfaaGreat
namespace Go.Proofs.YtjipleoamlmkfaaGreat
open Go.RowKit Go.Maps
theorem JN {w:World} {a b c:Value}:(Instr.index 237 (.agg #[a,b,c]) (.int .i64 0)).run Tryz.prog w= .ok a w :=
 Iz (i:=0) Tryz.underlying237 WC yF (by omega) rfl
theorem xJ (label:Nat) (A:Option Addr) (n c:Nat) (l:List Nat) (w:World) (hl:RWd w [.slice A n c] l) (Ka:0<l.length) (hlen:l.length <= 1000000) :
  Calls Tryz.prog 155 #[.int .u64 18446744069414584321, .int .u64 label, .slice A n c] w fun e w'=>e= .returned (.int .u64 (ji label l:Int)) /\ Below w.heap.size w w':=by
 have HV:=zH (fun w=>Pj Xa w JE)
 have Hs:=zH (fun w' (hb:Below w.heap.size w w')=>XP Xa label A n c l w' JE (ib hb hl) Ka hlen)
 have HE:=zH (show ji label l=(Si Xa label l).a from rfl)
 have hidx:=fun w a b c=>JN (w:=w) (a:=a) (b:=b) (c:=c)
 clear hl Ka hlen;generalize ji label l=z at *;generalize Si Xa label l=s at *;unfold fv Xa at *;go_enter Tryz.func155,Tryz.ntmps155
 go_wp2_with fail
 refine (HV.out _).mono ?_;rintro e w1 ⟨rfl,ya⟩;go_wp2_with fail
 refine (Hs.out _ ya).mono ?_;rintro e w2 ⟨rfl,xa⟩;have aa:=ja ya xa;have ev:s.val= .agg #[.int .u64 s.a, .int .u64 s.b, .int .u64 s.c]:=rfl;rw [ev];go_wp2;go_ret
 exact ⟨by rw [HE.out];rfl,aa⟩
end Go.Proofs.YtjipleoamlmkfaaGreat
namespace Go.Proofs.YtjipleoamlmkfaaGreat
open Go.RowKit Go.Maps
theorem wN {O:La} {lab:Nat} {l:List Nat} (h:Sd l=false):Kc O lab l=0 /\ jc O lab l=O:=by
 unfold Kc jc;simp only [h,Bool.false_eq_true,if_false,and_self]
theorem zN {O:La} {lab a:Nat} {l:List Nat} (h:Sd l=true) (hf:Td O.qs lab l=some a):Kc O lab l=a /\ jc O lab l=O:=by
 unfold Kc jc;simp only [h,hf,if_true,and_self]
theorem vN {O:La} {lab:Nat} {l:List Nat} (h:Sd l=true) (hf:Td O.qs lab l=none) (hi:O.ideal=true):Kc O lab l=yq O /\ jc O lab l=Mh (Rm O) lab l (yq O):=by
 unfold Kc jc;simp only [h,hf,hi,if_true,and_self]
theorem yN {O:La} {lab:Nat} {l:List Nat} (h:Sd l=true) (hf:Td O.qs lab l=none) (hi:O.ideal=false):Kc O lab l=ji lab l /\ jc O lab l=Mh O lab l (ji lab l):=by
 unfold Kc jc;simp only [h,hf,hi,if_true,Bool.false_eq_true,if_false,and_self]
theorem ZT (w:World):(zeroValue 3).run Tryz.prog w= .ok (.int .i64 0) w:=by kernel_rfl
theorem EE {w:World} {g:Nat} {O:La} {F:Nat -> Prop} {v:Value} {cs:List Value} {km sm pm:Nat} {E:Nat -> Prop} (h:OrcIn w g O F v cs km sm pm E) {lab:Nat} {l:List Nat} (Yo:lab<18446744073709551616) (hl:Sd l=true) (hlen:l.length <= 1000000) :
  (∃ c:Int,(Instr.lookup 127 (.map (some km)) (.string (S (te (lab :: l)))) true).run Tryz.prog w= .ok (.tuple #[.int .i64 c, .bool (Td O.qs lab l).isSome]) w /\
   ∀ a,Td O.qs lab l=some a -> ∃ (i:Nat) (gq:Nat) (d:Nat),c=(i:Int) /\ i<O.qs.length /\ v= .slice (some ⟨gq,0,none⟩) O.qs.length d /\ w.cell? ⟨gq,i*3+2,none⟩=some (.int .u64 a) /\ gq<w.heap.size):=by
 have hk:=z7 lab l hlen;obtain ⟨x,ps,Xb,hx⟩:=h.map.look_ok qI Tryz.underlying127 (ZT w) (plainElem_int Tryz.underlying3 (by decide)) hk
 obtain ⟨c,rfl,hc,-⟩:=plainElem_int_inv Tryz.underlying3 hx;rw [fO Yo (Py hl) h.ok.qs] at Xb;refine ⟨c,Xb,fun a ha=>?_⟩
 obtain ⟨i,q,h1,h2,h3⟩:=eO Yo (Py hl) h.ok.qs h.ok.apart a ha;have hi:i<O.qs.length:=by
  rcases Nat.lt_or_ge i O.qs.length with e | e
  ·exact e
  ·rw [List.getElem?_eq_none e] at h1;cases h1
 rw [h3] at hc;have Pv:c=(i:Int):=by
  have:=congrArg Prod.fst hc;simp at this
  exact this.symm
 obtain ⟨h4,h5,-⟩:=h.rows.2 i q h1;rcases h.own.2 with ⟨rfl,h0⟩ | ⟨gq,cap,cur,hv,-,hh,-⟩
 ·omega
 ·refine ⟨i,gq,cap,Pv,hi,hv,?_,(Array.getElem?_eq_some_iff.1 hh).1⟩
  have:=h.own.cells (g:=gq) (by rw [hv];rfl) (i*3+2) _ h5
  rw [h2] at this
  simpa [Addr.add] using this
def litI (d:DataW Unit):Int:=match d with | .lit (.int _ c)=>c | _=>0
def rZ (O:La) (lab:Nat) (l:List Nat):Int:=litI ((Dn O.qs).atKey (Dh lab l) (.lit (.int .i64 0)))
theorem Z9 {w:World} {g:Nat} {O:La} {F:Nat -> Prop} {v:Value} {cs:List Value} {km sm pm:Nat} {E:Nat -> Prop} (h:OrcIn w g O F v cs km sm pm E) {lab:Nat} {l:List Nat} (Yo:lab<18446744073709551616) (hl:Sd l=true) (hlen:l.length <= 1000000) :
  (Instr.lookup 127 (.map (some km)) (.string (S (te (lab :: l)))) true).run Tryz.prog w= .ok (.tuple #[.int .i64 (rZ O lab l), .bool (Td O.qs lab l).isSome]) w:=by
 have hk:=z7 lab l hlen;obtain ⟨x,ps,Xb,hx⟩:=h.map.look_ok qI Tryz.underlying127 (ZT w) (plainElem_int Tryz.underlying3 (by decide)) hk
 obtain ⟨c,rfl,hc,-⟩:=plainElem_int_inv Tryz.underlying3 hx;rw [fO Yo (Py hl) h.ok.qs] at Xb;have:rZ O lab l=c:=by
  unfold rZ;rw [show (Dn O.qs).atKey (Dh lab l) (.lit (.int .i64 0))= .lit (.int .i64 c) from congrArg Prod.fst hc]
  rfl
 rw [this];exact Xb
theorem zCk {w:World} {g:Nat} {O:La} {F:Nat -> Prop} {v:Value} {cs:List Value} {km sm pm:Nat} {E:Nat -> Prop} (h:OrcIn w g O F v cs km sm pm E) {lab:Nat} {l:List Nat} (Yo:lab<18446744073709551616) (hl:Sd l=true) (hlen:l.length <= 1000000) :
  ∀ a,Td O.qs lab l=some a -> ∃ (i:Nat) (gq:Nat) (d:Nat),rZ O lab l=(i:Int) /\ i<O.qs.length /\ v= .slice (some ⟨gq,0,none⟩) O.qs.length d /\ w.cell? ⟨gq,i*3+2,none⟩=some (.int .u64 a) /\ gq<w.heap.size:=fun a ha=>by
 obtain ⟨c,Xb,hf⟩:=EE h Yo hl hlen;obtain ⟨i,gq,d,h1,h2⟩:=hf a ha;refine ⟨i,gq,d,?_,h2⟩;have:=Z9 h Yo hl hlen;rw [Xb] at this;simp at this
 rw [<- this,h1]
theorem zCB {O:La} {lab:Nat} {l:List Nat} (h:Sd l=false):GJ O lab l=none:=by
 unfold GJ;simp only [h,Bool.false_eq_true,if_false]
theorem zCD {O:La} {lab a:Nat} {l:List Nat} (h:Sd l=true) (hf:Td O.qs lab l=some a):GJ O lab l=some a:=by
 unfold GJ;simp only [h,hf,if_true]
theorem zCA {O:La} {lab:Nat} {l:List Nat} (h:Sd l=true) (hf:Td O.qs lab l=none) (hi:O.ideal=true):GJ O lab l=none:=by
 unfold GJ;simp only [h,hf,hi,if_true]
theorem zCC {O:La} {lab:Nat} {l:List Nat} (h:Sd l=true) (hf:Td O.qs lab l=none) (hi:O.ideal=false):GJ O lab l=some (ji lab l):=by
 unfold GJ;simp only [h,hf,hi,if_true,Bool.false_eq_true,if_false]
end Go.Proofs.YtjipleoamlmkfaaGreat
namespace Go.Proofs.YtjipleoamlmkfaaGreat
open Go.RowKit Go.Maps
theorem vM (O:La):(Rm O).ideal=O.ideal:=by
 cases O with
 | mk i s d q=>exact wM i s d q
where
 wM (i:Bool) (s d:Nat) (q:List Qn):(Rm ⟨i,s,d,q⟩).ideal=i:=rfl
theorem QA {w:World} {g:Nat} {O:La} {F:Nat -> Prop} (h:OrcAt w g O F) (lab:Nat) (l:List Nat) (A:Option Addr) (n c:Nat) {K:Nat -> Prop} (hl:Km K w (.slice A n c) l) (hK:∀ b,K b -> ¬F b)
  (Yo:lab<18446744073709551616) (hlen:l.length <= 1000000) (Ka:0<l.length \/ O.ideal=true) (hn:O.qs.length <= 1000000) (hd:O.dr <= 1000000) :
  Calls Tryz.prog 77 #[.pointer (some ⟨g,0,none⟩), .int .u64 lab, .slice A n c] w fun e w'=>e= .returned (.int .u64 (Kc O lab l:Int)) /\ ∃ F',OrcAt w' g (jc O lab l) F' /\ Moved F F' w w':=by
 have qU:=zH (zAi A n c l w (Pk hl));obtain ⟨v,cs,km,sm,pm,E,Pb⟩:=h;cases he:Sd l
 ·rw [he] at qU
  obtain ⟨e1,e2⟩:=wN (O:=O) (lab:=lab) he;rw [e1,e2];have Ni:=zH (show ∃ F',OrcAt w g O F' /\ Moved F F' w w from ⟨F,⟨v,cs,km,sm,pm,E,Pb⟩,Moved.refl⟩)
  clear hl hK Ka hn hd Pb he e1 e2;go_enter Tryz.func77,Tryz.ntmps77
  go_wp2_with fail
  refine qU.out.mono ?_;rintro e w1 ⟨rfl,rfl⟩;go_wp2_with fail
  go_ret
  exact ⟨rfl,Ni.out⟩
 ·rw [he] at qU
  have HE:=zH he;have HI:=zH Pb;have HL:=zH hl;have HK:=zH hK;have Qe:=zH hlen;have HN:=zH hn;have oZ:=zH Yo;have iq:=zH (fun w1 (k:Blk w1 w.heap.size 22 #[.int .u64 lab]) (hb:Below w.heap.size w w1)=>show Calls Tryz.prog 153 #[.slice A n c, .slice (some ⟨w.heap.size,0,none⟩) 1 1] w1 fun e w'=>e= .returned (.string (S (te (lab :: l)))) /\ Below w1.heap.size w1 w' from cO A (some ⟨w.heap.size,0,none⟩) n c 1 1 l [lab] w1 (ib hb (Pk hl)) (Ix (l:=[lab]) k (by simp;exact Yo) (by simp [maxLen])) hlen (by simp))
  have Gf:=Blk.new w 22 #[.int .u64 lab];have aa:=(Below.refl w.heap.size w).alloc zR (.cells #[.int .u64 lab] 22);clear he hl hK Pb hlen hn;cases hf:Td O.qs lab l with
  | some a =>
   obtain ⟨e1,e2⟩:=zN (O:=O) (lab:=lab) HE.out hf;rw [e1,e2];have HF:=zH hf;clear e1 e2 hf Ka hd;go_enter Tryz.func77,Tryz.ntmps77
   go_wp2_with fail
   refine qU.out.mono ?_;rintro e w1 ⟨rfl,rfl⟩;go_wp2_with fail
   generalize w.alloc _=w1 at Gf aa |-;refine (iq.out w1 Gf aa).mono ?_;rintro e w2 ⟨rfl,xa⟩;replace aa:=ja aa xa;have H2:=zH (HI.out.below aa);have Ug:=zH (Bw HL.out aa);have M2:=Ic (F:=F) aa;obtain ⟨x,Xb,Xv⟩:=EE H2.out oZ.out HE.out Qe.out;have hc:=H2.out.blk.cell;clear xa aa Gf iq;rw [HF.out] at Xb Xv;obtain ⟨i,gq,d,rfl,hi,rfl,So,hgq⟩:=Xv a rfl;have Ni:=zH (show ∃ F',OrcAt w2 g O F' /\ Moved F F' w w2 from ⟨F,⟨_,cs,km,sm,pm,E,H2.out⟩,M2⟩)
   obtain ⟨nq,YW⟩:=zEX (O.qs.length);rw [<- YW] at hi hc;have g1:(0:Int) <= (i:Int):=by omega
   have g2:(i:Int)<(nq:Int):=by omega
   clear Xv YW M2;simp only [Option.isSome] at Xb;go_wp2_with fail
   go_ret
   exact ⟨rfl,Ni.out⟩
  | none =>
   have HF:=zH hf;cases hi:O.ideal
   ·obtain ⟨e1,e2⟩:=yN (O:=O) (lab:=lab) HE.out hf hi
    rw [e1,e2];have HH:=zH hi;have bB:0<l.length:=by
     rcases Ka with e | e
     ·exact e
     ·rw [hi] at e;cases e
    have HNE:=zH bB;clear e1 e2 hf hi Ka bB hd;go_enter Tryz.func77,Tryz.ntmps77
    go_wp2_with fail
    refine qU.out.mono ?_;rintro e w1 ⟨rfl,rfl⟩;go_wp2_with fail
    generalize w.alloc _=w1 at Gf aa |-;refine (iq.out w1 Gf aa).mono ?_;rintro e w2 ⟨rfl,xa⟩;replace aa:=ja aa xa;have H2:=zH (HI.out.below aa);have Ug:=zH (Bw HL.out aa);have M2:=Ic (F:=F) aa;obtain ⟨x,Xb,Xv⟩:=EE H2.out oZ.out HE.out Qe.out;have hc:=H2.out.blk.cell;clear xa aa Gf iq;rw [HF.out] at Xb;rw [HH.out] at hc;clear Xv;simp only [Option.isSome] at Xb;go_wp2_with fail
    refine (xJ lab A n c l w2 (Pk Ug.out) HNE.out Qe.out).mono ?_;rintro e w3 ⟨rfl,Ga⟩;have H3:=zH (H2.out.below Ga);have HL3:=zH (Bw Ug.out Ga);have M3:=M2.trans (Ic (F:=F) Ga);clear hc Xb Ga M2;go_wp2_with fail
    refine (WJ H3.out lab l (ji lab l) A n c HL3.out HK.out oZ.out HE.out (WB lab l) Qe.out HN.out HF.out (fun _=>rfl)).mono ?_
    rintro e w4 ⟨rfl,F',h4,m4⟩;have Ni:=zH (show ∃ F',OrcAt w4 g (Mh O lab l (ji lab l)) F' /\ Moved F F' w w4 from ⟨F',h4,M3.trans m4⟩)
    clear h4 m4 M3;go_wp2;go_ret
    exact ⟨rfl,Ni.out⟩
   ·obtain ⟨e1,e2⟩:=vN (O:=O) (lab:=lab) HE.out hf hi
    rw [e1,e2];have HH:=zH hi;have HD:=zH hd;clear e1 e2 hf hi Ka hd;go_enter Tryz.func77,Tryz.ntmps77
    go_wp2_with fail
    refine qU.out.mono ?_;rintro e w1 ⟨rfl,rfl⟩;go_wp2_with fail
    generalize w.alloc _=w1 at Gf aa |-;refine (iq.out w1 Gf aa).mono ?_;rintro e w2 ⟨rfl,xa⟩;replace aa:=ja aa xa;have H2:=zH (HI.out.below aa);have Ug:=zH (Bw HL.out aa);have M2:=Ic (F:=F) aa;obtain ⟨x,Xb,Xv⟩:=EE H2.out oZ.out HE.out Qe.out;have hc:=H2.out.blk.cell;clear xa aa Gf iq;rw [HF.out] at Xb;rw [HH.out] at hc;clear Xv;simp only [Option.isSome] at Xb;go_wp2_with fail
    refine (tM H2.out HH.out (by have:=HD.out;omega)).mono ?_
    rintro e w3 ⟨rfl,h3,Ge⟩;have H3:=zH h3;have HL3:=zH (Dp Ug.out Ge.size fun b hb hl=>Ge.block b hl (fun e=>HK.out b hb (by rw [Option.some.inj e];exact HI.out.fg)))
    have M3:=M2.trans (zz (F:=F) Ge (fun b hb=>by rw [<- Option.some.inj hb];exact HI.out.fg))
    clear hc Xb Ge M2 h3;go_wp2_with fail
    refine (WJ H3.out lab l (yq O) A n c HL3.out HK.out oZ.out HE.out (gD _) Qe.out (by rw [My];exact HN.out) (by rw [My];exact HF.out) (fun e=>by rw [vM,HH.out] at e;cases e)).mono ?_
    rintro e w4 ⟨rfl,F',h4,m4⟩;have Ni:=zH (show ∃ F',OrcAt w4 g (Mh (Rm O) lab l (yq O)) F' /\ Moved F F' w w4 from ⟨F',h4,M3.trans m4⟩)
    clear h4 m4 M3;go_wp2;go_ret
    exact ⟨rfl,Ni.out⟩
end Go.Proofs.YtjipleoamlmkfaaGreat
namespace Go.Proofs.YtjipleoamlmkfaaGreat
open Go.RowKit Go.Maps
theorem K4 {w u:World} (h:Below w.drew.heap.size w.drew u):Below w.heap.size w u:=⟨h.os,h.tape,h.output,h.size,h.block⟩
theorem r8 {a b:Prop} (h:a) (s:Imp a b:=by
 (repeat ((first | (apply Imp.via (Yw (pa) rfl rfl (fun _ _ _ h=>h))) | (apply Imp.via (Xw (v:=?_) (pa) rfl rfl (fun _ _ _ h=>h) ?hr);case hr=>(intro w' hR;(first | have yi:=rz ((pa).trans _ _ _ da hR) | skip);have Xb:=fY.out _ (K4 (pa.trans _ _ _ da hR));go_simp;try with_reducible rfl)));simp only [Act.put,zLa,zLb,zLc]))
 exact Imp.rfl'):b:=s h
theorem zCz {w:World} {g:Nat} {O:La} {F:Nat -> Prop} (h:OrcAt w g O F) (lab:Nat) (l:List Nat) (A:Option Addr) (n c:Nat) (hl:RWd w [.slice A n c] l)
  (Yo:lab<18446744073709551616) (hlen:l.length <= 1000000) (Ka:0<l.length \/ O.ideal=true) (hn:O.qs.length <= 1000000) :
  Calls Tryz.prog 79 #[.pointer (some ⟨g,0,none⟩), .int .u64 lab, .slice A n c] w fun e w'=>e= .returned (.tuple #[.int .u64 (((GJ O lab l).getD 0:Nat):Int), .bool (GJ O lab l).isSome]) /\ Below w.heap.size w w':=by
 have qU:=zH (zAi A n c l w hl);obtain ⟨v,cs,km,sm,pm,E,Pb⟩:=h;cases he:Sd l
 ·rw [he] at qU
  rw [zCB (O:=O) (lab:=lab) he];clear hl Ka hn Pb he;go_enter Tryz.func79,Tryz.ntmps79
  go_wp2_with fail
  refine qU.out.mono ?_;rintro e w1 ⟨rfl,rfl⟩;go_wp2_with fail
  go_ret2
  exact ⟨rfl,Below.refl _ _⟩
 ·rw [he] at qU
  have HE:=zH he;have HI:=zH Pb;have HL:=zH hl;have Qe:=zH hlen;have HN:=zH hn;have oZ:=zH Yo;have iq:=zH (fun w1 b (k:Blk w1 b 22 #[.int .u64 lab]) (hb:Below w.heap.size w w1)=>show Calls Tryz.prog 153 #[.slice A n c, .slice (some ⟨b,0,none⟩) 1 1] w1 fun e w'=>e= .returned (.string (S (te (lab :: l)))) /\ Below w1.heap.size w1 w' from cO A (some ⟨b,0,none⟩) n c 1 1 l [lab] w1 (ib hb hl) (Ix (l:=[lab]) k (by simp;exact Yo) (by simp [maxLen])) hlen (by simp))
  have fY:=zH (fun u (hb:Below w.heap.size w u)=>Z9 (Pb.below hb) Yo he hlen)
  have bz:=zH Pb;have aj:=Pb.blk.cell;have Ht:=Pb.blk.lt;have HFD:=zH (zCk Pb Yo he hlen);clear he hl Pb hlen hn;cases hf:Td O.qs lab l with
  | some a =>
   rw [zCD (O:=O) (lab:=lab) HE.out hf];obtain ⟨i,gq,d,Pv,hi,rfl,hcq0,hgq⟩:=HFD.out a hf;have fY:=zH (show ∀ u,Below w.heap.size w u -> (Instr.lookup 127 (.map (some km)) (.string (S (te (lab :: l)))) true).run Tryz.prog u= .ok (.tuple #[.int .i64 i, .bool true]) u from fun u hb=>by have:=fY.out u hb;rw [hf,Pv] at this;exact this)
   have HCQ:=zH hcq0;have HI0:=zH hi;clear hf Ka HFD Pv hcq0 hi;go_enter Tryz.func79,Tryz.ntmps79
   go_wp2_with fail
   refine qU.out.mono ?_;rintro e w1 ⟨rfl,rfl⟩;go_wp2_with fail
   refine Pc (Bb) [6,7] [0,1,2,3,4,5,6,7,8,9,10,11,12,13] (by kernel_rfl) (by kernel_rfl) ?_
   refine di (pa) ?_;intro Wc Ba da;refine Kb ?_;refine de (pa) rfl rfl rfl ?_;go_simp;refine ⟨(Below.refl _ _).alloc zR _,?_⟩;have aa:Below w.heap.size w (Wc.alloc (.cells #[.int .u64 lab] 22)):=by rw [Ba.out];exact (Below.refl w.heap.size w.drew).alloc zR _ |> K4
   have Gf:=Blk.new Wc 22 #[.int .u64 lab];replace da:=pa.trans _ _ _ da ((Below.refl Wc.heap.size Wc).alloc zR (.cells #[.int .u64 lab] 22))
   try simp only [Act.put,zLa,zLb,zLc]
   generalize Wc.alloc _=w1 at Gf aa da |-;clear Ba;refine oc (pa) rfl rfl rfl (fun _=>by go_simp <;> rfl) ((iq.out w1 _ Gf aa).mono ?_)
   rintro e w2 ⟨rfl,xa⟩;refine ⟨_,rfl,xa,?_⟩;replace da:=(pa).trans _ _ _ da (xa);simp only [Act.put,zLa,zLb,zLc];refine r8 ?_;refine pc ?_;have hc:=(bz.out.below (ja aa xa)).blk.cell;replace aa:=ja aa xa;clear xa Gf da aj Ht;have So:=(aa.cell (p:=⟨gq,i*3+2,none⟩) hgq).trans HCQ.out;have hi:=HI0.out;obtain ⟨nq,YW⟩:=zEX (O.qs.length);rw [<- YW] at hi hc;have g1:(0:Int) <= (i:Int):=by omega
   have g2:(i:Int)<(nq:Int):=by omega
   clear YW;go_wp2_with fail
   go_ret2
   exact ⟨rfl,aa⟩
  | none =>
   have HF:=zH hf;cases hi:O.ideal
   ·rw [zCC (O:=O) (lab:=lab) HE.out hf hi]
    have fY:=zH (show ∀ u,Below w.heap.size w u -> (Instr.lookup 127 (.map (some km)) (.string (S (te (lab :: l)))) true).run Tryz.prog u= .ok (.tuple #[.int .i64 (rZ O lab l), .bool false]) u from fun u hb=>by have:=fY.out u hb;rw [hf] at this;exact this)
    have HH:=zH hi;have bB:0<l.length:=by
     rcases Ka with e | e
     ·exact e
     ·rw [hi] at e;cases e
    have HNE:=zH bB;clear hf hi Ka bB;go_enter Tryz.func79,Tryz.ntmps79
    go_wp2_with fail
    refine qU.out.mono ?_;rintro e w1 ⟨rfl,rfl⟩;go_wp2_with fail
    refine Pc (Bb) [6,7] [0,1,2,3,4,5,6,7,8,9,10,11,12,13] (by kernel_rfl) (by kernel_rfl) ?_
    refine di (pa) ?_;intro Wc Ba da;refine Kb ?_;refine de (pa) rfl rfl rfl ?_;go_simp;refine ⟨(Below.refl _ _).alloc zR _,?_⟩;have aa:Below w.heap.size w (Wc.alloc (.cells #[.int .u64 lab] 22)):=by rw [Ba.out];exact (Below.refl w.heap.size w.drew).alloc zR _ |> K4
    have Gf:=Blk.new Wc 22 #[.int .u64 lab];replace da:=pa.trans _ _ _ da ((Below.refl Wc.heap.size Wc).alloc zR (.cells #[.int .u64 lab] 22))
    try simp only [Act.put,zLa,zLb,zLc]
    generalize Wc.alloc _=w1 at Gf aa da |-;clear Ba;refine oc (pa) rfl rfl rfl (fun _=>by go_simp <;> rfl) ((iq.out w1 _ Gf aa).mono ?_)
    rintro e w2 ⟨rfl,xa⟩;refine ⟨_,rfl,xa,?_⟩;replace da:=(pa).trans _ _ _ da (xa);simp only [Act.put,zLa,zLb,zLc];refine r8 ?_;refine pc ?_;have hc:=(bz.out.below (ja aa xa)).blk.cell;replace aa:=ja aa xa;clear xa Gf da aj Ht;rw [HH.out] at hc;go_wp2_with fail
    refine (xJ lab A n c l _ (ib aa HL.out) HNE.out Qe.out).mono ?_;rintro e w3 ⟨rfl,Ga⟩;replace aa:=ja aa Ga;go_wp2
    go_ret2
    exact ⟨rfl,aa⟩
   ·rw [zCA (O:=O) (lab:=lab) HE.out hf hi]
    have fY:=zH (show ∀ u,Below w.heap.size w u -> (Instr.lookup 127 (.map (some km)) (.string (S (te (lab :: l)))) true).run Tryz.prog u= .ok (.tuple #[.int .i64 (rZ O lab l), .bool false]) u from fun u hb=>by have:=fY.out u hb;rw [hf] at this;exact this)
    have HH:=zH hi;clear hf hi Ka;go_enter Tryz.func79,Tryz.ntmps79
    go_wp2_with fail
    refine qU.out.mono ?_;rintro e w1 ⟨rfl,rfl⟩;go_wp2_with fail
    refine Pc (Bb) [6,7] [0,1,2,3,4,5,6,7,8,9,10,11,12,13] (by kernel_rfl) (by kernel_rfl) ?_
    refine di (pa) ?_;intro Wc Ba da;refine Kb ?_;refine de (pa) rfl rfl rfl ?_;go_simp;refine ⟨(Below.refl _ _).alloc zR _,?_⟩;have aa:Below w.heap.size w (Wc.alloc (.cells #[.int .u64 lab] 22)):=by rw [Ba.out];exact (Below.refl w.heap.size w.drew).alloc zR _ |> K4
    have Gf:=Blk.new Wc 22 #[.int .u64 lab];replace da:=pa.trans _ _ _ da ((Below.refl Wc.heap.size Wc).alloc zR (.cells #[.int .u64 lab] 22))
    try simp only [Act.put,zLa,zLb,zLc]
    generalize Wc.alloc _=w1 at Gf aa da |-;clear Ba;refine oc (pa) rfl rfl rfl (fun _=>by go_simp <;> rfl) ((iq.out w1 _ Gf aa).mono ?_)
    rintro e w2 ⟨rfl,xa⟩;refine ⟨_,rfl,xa,?_⟩;replace da:=(pa).trans _ _ _ da (xa);simp only [Act.put,zLa,zLb,zLc];refine r8 ?_;refine pc ?_;have hc:=(bz.out.below (ja aa xa)).blk.cell;replace aa:=ja aa xa;clear xa Gf da aj Ht;rw [HH.out] at hc;go_wp2_with fail
    go_ret2
    exact ⟨rfl,aa⟩
end Go.Proofs.YtjipleoamlmkfaaGreat
namespace Go.Proofs.YtjipleoamlmkfaaGreat
open Go.RowKit Go.Maps
theorem pJ (i:Bool) (s:Nat) (hs:s<18446744073709551616):OrcOk (newO i s):=⟨hs,fun _ h=>(nomatch h),List.Pairwise.nil,fun _ _ h=>(nomatch h)⟩
theorem cJ (w:World) :
  Calls Tryz.prog 87 #[] w fun e w'=>∃ g km sm pm F,e= .returned (.pointer (some ⟨g,0,none⟩)) /\ OrcIn w' g ⟨false,0,0,[]⟩ F (.slice none 0 0) [] km sm pm (fun _=>False) /\ (∀ b,F b -> w.heap.size <= b) /\ Below w.heap.size w w':=by
 have hmm:=@run_makeMap Tryz.prog;have hm:=World.ownsMap_made (H:=Unit) w Tryz.prog 9 (plainElem Tryz.prog 3);go_enter Tryz.func87,Tryz.ntmps87
 go_wp2_with fail
 go_ret
 have ya:=(Below.refl w.heap.size w).alloc zR (.map #[] 0);have xa:=ya.alloc (by first | omega | (simp;done) | (simp;omega)) (.map #[] 0)
 have Ga:=xa.alloc (by first | omega | (simp;done) | (simp;omega)) (.map #[] 0)
 have Pa:=Ga.alloc (by first | omega | (simp;done) | (simp;omega)) (.cells #[.bool false, .int .u64 0, .int .i64 0, .slice none 0 0, .map (some w.heap.size), .map (some (w.heap.size+1)), .map (some (w.heap.size+1+1))] 131)
 have kb:=Blk.new (((w.alloc (.map #[] 0)).alloc (.map #[] 0)).alloc (.map #[] 0)) 131 #[.bool false, .int .u64 0, .int .i64 0, .slice none 0 0, .map (some w.heap.size), .map (some (w.heap.size+1)), .map (some (w.heap.size+1+1))];have hm4:=((hm.alloc (.map #[] 0)).alloc (.map #[] 0)).alloc (.cells #[.bool false, .int .u64 0, .int .i64 0, .slice none 0 0, .map (some w.heap.size), .map (some (w.heap.size+1)), .map (some (w.heap.size+1+1))] 131);have Ra:(((w.alloc (.map #[] 0)).alloc (.map #[] 0)).alloc (.map #[] 0)).heap.size=w.heap.size+1+1+1:=by simp
 rw [Ra] at kb;generalize (((w.alloc (.map #[] 0)).alloc (.map #[] 0)).alloc (.map #[] 0)).alloc _=w4 at Pa kb hm4 |-;have hl:=kb.lt;refine ⟨w.heap.size+1+1+1,w.heap.size,w.heap.size+1,w.heap.size+1+1,fun b=>b=w.heap.size+1+1+1 \/ b=w.heap.size,rfl,?_,fun b h=>by omega,Pa⟩
 exact ⟨pJ false 0 (by decide),kb,⟨rfl, .inl ⟨rfl,rfl⟩⟩,kR _ _,hm4,fun _ h=>h.elim,by omega,by simp [Value.ownBlock],by simp [Value.ownBlock], .inl rfl,by simp [Value.ownBlock], .inr rfl,fun _ h=>h.elim,fun b h=>by omega⟩
theorem zC8 (w:World) :
  Calls Tryz.prog 28 #[] w fun e w'=>∃ g F,e= .returned (.pointer (some ⟨g,0,none⟩)) /\ OrcAt w' g ⟨false,0,0,[]⟩ F /\ (∀ b,F b -> w.heap.size <= b) /\ Below w.heap.size w w':=by
 go_enter Tryz.func28,Tryz.ntmps28
 go_wp2_with fail
 refine (cJ w).mono ?_;rintro e w1 ⟨g,km,sm,pm,F,rfl,h,hF,hb⟩;go_wp2;go_ret
 exact ⟨g,F,rfl,⟨_,_,_,_,_,_,h⟩,hF,hb⟩
theorem GN (Im:Nat) (w:World) (hs:Im<18446744073709551616) :
  Calls Tryz.prog 29 #[.int .u64 Im] w fun e w'=>∃ g F,e= .returned (.pointer (some ⟨g,0,none⟩)) /\ OrcAt w' g ⟨true,Im,0,[]⟩ F /\ (∀ b,F b -> w.heap.size <= b) /\ Below w.heap.size w w':=by
 have HS:=zH hs;clear hs;go_enter Tryz.func29,Tryz.ntmps29
 go_wp2_with fail
 refine (cJ w).mono ?_;rintro e w1 ⟨g,km,sm,pm,F,rfl,h,hF,hb⟩;have hf:=h.blk.frozen;have H:=zH h;have HF:=zH hF;have hc:=h.blk.cell;clear h hF;go_wp2_with fail
 go_ret
 have hg:=OA w1 g 0 1 (.bool true) (.int .u64 Im);have kb:=Xs H.out.blk 0 1 (.bool true) (.int .u64 Im);have It:=HF.out g H.out.fg;generalize (w1.setCell ⟨g,0,none⟩ (.bool true)).setCell ⟨g,1,none⟩ (.int .u64 Im)=w2 at hg kb |-;refine ⟨g,F,rfl,⟨_,_,_,_,_,_,H.out.turn (O':=⟨true,Im,0,[]⟩) (pJ true Im HS.out) rfl (by simpa using kb) hg⟩,HF.out,hb.trans (Nh hg hb.size It)⟩
theorem S9 {w:World} {g:Nat} {O:La} {F:Nat -> Prop} (h:OrcAt w g O F) :
  Calls Tryz.prog 78 #[.pointer (some ⟨g,0,none⟩)] w fun e w'=>e= .returned (.bool O.ideal) /\ w=w':=by
 obtain ⟨v,cs,km,sm,pm,E,Pb⟩:=h;have hc:=Pb.blk.cell;clear Pb;go_enter Tryz.func78,Tryz.ntmps78
 go_wp2_with fail
 go_ret
 exact ⟨rfl,rfl⟩
end Go.Proofs.YtjipleoamlmkfaaGreat
namespace Go.Proofs.YtjipleoamlmkfaaGreat
open Go.RowKit Go.Maps
def VU (n:Nat):Bool:=(List.range 11).any fun d=>2^d == n
theorem tL:∀ b:Fin 1025,1 <= b.val -> bits .and .i64 (b.val:Int) ((b.val:Int)-1)=((b.val &&& (b.val-1):Nat):Int):=by decide +kernel
theorem pP:∀ b:Fin 1025,1 <= b.val -> VU b.val=decide (b.val &&& (b.val-1)=0):=by decide +kernel
theorem nP {n:Nat} (h:VU n=true):∃ d,d <= 10 /\ n=2^d:=by
 obtain ⟨d,hd,he⟩:=List.any_eq_true.1 h;exact ⟨d,by have:=List.mem_range.1 hd;omega,(beq_iff_eq.1 he).symm⟩
theorem eJ {d:Nat} (h:d <= 10):VU (2^d)=true:=List.any_eq_true.2 ⟨d,List.mem_range.2 (by omega),by simp⟩
theorem mP {n:Nat} (h:1024<n):VU n=false:=by
 cases hc:VU n
 ·rfl
 ·obtain ⟨d,hd,rfl⟩:=nP hc
  have:2^d <= 2^10:=Nat.pow_le_pow_right (by omega) hd
  omega
theorem oP:VU 0=false:=by decide
theorem dI (n:Nat) (w:World) :
  Calls Tryz.prog 107 #[.int .i64 n] w fun e w'=>e= .returned (.bool (VU n)) /\ w=w':=by
 by_cases h1:1 <= n
 ·by_cases h2:n <= 1024
  ·have HN:=zH (pP ⟨n,by omega⟩ h1)
   have ha:=tL ⟨n,by omega⟩ h1
   simp only at ha;obtain ⟨a,hae⟩:=zEX (n &&& (n-1));rw [<- hae] at ha;have HA:=zH hae;have d1:decide ((1:Int) <= (n:Int))=true:=decide_eq_true (by omega)
   have d2:decide ((n:Int) <= (1024:Int))=true:=decide_eq_true (by omega)
   have e1:IntKind.i64.wrap ((n:Int)-1)=(n:Int)-1:=by rw [IntKind.wrap_i64];omega
   have d3:((a:Int) == 0)=decide (a=0):=by by_cases h:a=0 <;> simp [h]
   obtain ⟨r,hr⟩:=zEX (VU n);have HR:=zH (show decide (a=0)=r by rw [hr,HA.out];exact HN.out.symm)
   rw [<- hr];rw [HR.out] at d3;clear hr HN hae h1 h2;go_enter Tryz.func107,Tryz.ntmps107
   go_wp2_with fail
   go_ret
   exact ⟨rfl,rfl⟩
  ·rw [mP (by omega)]
   have d1:decide ((1:Int) <= (n:Int))=true:=decide_eq_true (by omega)
   have d2:decide ((n:Int) <= (1024:Int))=false:=decide_eq_false (by omega)
   clear h1 h2;go_enter Tryz.func107,Tryz.ntmps107
   go_wp2_with fail
   go_ret
   exact ⟨rfl,rfl⟩
 ·obtain rfl:n=0:=by omega
  rw [oP];clear h1;go_enter Tryz.func107,Tryz.ntmps107
  go_wp2_with fail
  go_ret
  exact ⟨rfl,rfl⟩
theorem MI (A:Option Addr) (n c:Nat) (l:List Nat) (w:World) (hl:RWd w [.slice A n c] l) :
  Calls Tryz.prog 108 #[.slice A n c] w fun e w'=>e= .returned (.bool (Sd l)) /\ w=w':=by
 obtain ⟨rfl,h1,h2,-,za⟩:=zb hl;have gm:=uj h1 h2;clear hl h1 h2;go_enter Tryz.func108,Tryz.ntmps108
 go_wp2_with fail
 go_loop [7] (fun i=>∃ j:Nat,j <= l.length /\ i= .int .i64 j /\ Hid (Sd (l.take j)=true)) (fun i=>l.length-(intOf i).toNat)
 case atStart=>exact ⟨0,Nat.zero_le _,rfl,rfl⟩
 case round =>
  obtain ⟨j,hj,rfl,HB⟩:=hrel;by_cases oa:j<l.length
  ·obtain ⟨b,q,rfl,Za,hc⟩:=Ye za oa
   have HL:=zH oa;have g1:(0:Int) <= (j:Int):=by omega
   have g2:(j:Int)<(l.length:Int):=by omega
   have HN:=zH (fun h=>vG (l:=l) oa h)
   have HY:=zH (fun h=>xG (l:=l) oa HB.out h)
   revert hc HN HY
   generalize l.getD j 0=y;intro hc HN HY;clear za;by_cases z:Xa <= y
   ·have HZ:=zH (HN.out z)
    unfold Xa at z;have d1:decide ((18446744069414584321:Int) <= (y:Int))=true:=decide_eq_true (by omega)
    clear HN HY;go_wp2;go_ret
    exact ⟨by rw [HZ.out];rfl,rfl⟩
   ·have HZ:=zH (HY.out (by omega))
    unfold Xa at z;have d1:decide ((18446744069414584321:Int) <= (y:Int))=false:=decide_eq_false (by omega)
    clear HN HY;go_wp2
    go_round
    case rel=>exact ⟨j+1,by omega,by go_num,HZ.out⟩
    case measure=>simp [intOf];omega
  ·have e:j=l.length:=by omega
   have HA:=zH (show Sd l=true by have:=HB.out;rwa [e,List.take_length] at this)
   clear za;go_wp2;go_ret
   exact ⟨by rw [HA.out];rfl,rfl⟩
theorem tS (x:Nat) (A:Option Addr) (n c:Nat) (l:List Nat) (w:World) (hl:RWd w [.slice A n c] l) (hlen:l.length <= 1000000) :
  Calls Tryz.prog 109 #[.int .u64 x, .slice A n c] w fun e w'=>∃ v,e= .returned v /\ w'.ownsRow w.heap.size 22 1 v (n+1) (Ca (x :: l)) /\ Below w.heap.size w w':=by
 obtain ⟨rfl,h1,h2,oa,za⟩:=zb hl;clear hl oa h1 h2;have aa:=(Below.refl w.heap.size w).alloc zR (.cells #[.int .u64 x] 22);have Tt:(w.alloc (.cells #[.int .u64 x] 22)).ownsRow w.heap.size 22 1 (.slice (some ⟨w.heap.size,0,none⟩) 1 1) 1 (Ca [x]):=⟨rfl, .inr ⟨w.heap.size,1,_,rfl,zR,heap_alloc_new w _,zR,by simp [maxLen],rfl,rfl⟩⟩
 have hrd0:=za.below aa;go_enter Tryz.func109,Tryz.ntmps109
 go_wp2_with (at_builtin;refine If rfl _ _ rfl Bq rfl Tt rfl hrd0 (yg _) (by omega) (by have:=aa.size;omega) ?_)
 intro v' w2 ma Ha Ab;go_wp2;go_ret
 exact ⟨_,rfl,by rw [Nat.add_comm];exact Kr (a:=[x]) ma rfl,aa.trans (mh Tt Ha (by have:=aa.size;omega))⟩
end Go.Proofs.YtjipleoamlmkfaaGreat
namespace Go.Proofs.YtjipleoamlmkfaaGreat
open Go.RowKit Go.Maps
def ti (K:Nat -> Prop) (w:World) (v:Value) (ls:List (List Nat)):Prop :=
 ∃ A n c,v= .slice A n c /\ ls.length=n /\ n <= c /\ c <= maxLen /\ ∀ (i:Nat) (hi:i<ls.length),∃ b q A1 n1 c1,A=some ⟨b,q,none⟩ /\ K b /\ b<w.heap.size /\ w.cell? ⟨b,q+i,none⟩=some (.slice A1 n1 c1) /\ Km K w (.slice A1 n1 c1) ls[i]
section
variable {K K' F F' Sp T:Nat -> Prop} {w w':World} {v:Value} {ls:List (List Nat)}
theorem tE (h:ti K w v ls) (hs:w.heap.size <= w'.heap.size) (hw:∀ b,K b -> b<w.heap.size -> w'.heap[b]?=w.heap[b]?):ti K w' v ls:=by
 obtain ⟨A,n,c,h1,h2,h3,h4,h5⟩:=h;refine ⟨A,n,c,h1,h2,h3,h4,fun i hi=>?_⟩
 obtain ⟨b,q,A1,n1,c1,e1,e2,e3,e4,e5⟩:=h5 i hi;refine ⟨b,q,A1,n1,c1,e1,e2,by omega,?_,Dp e5 hs hw⟩
 rw [<- e4];simp only [World.cell?,hw b e2 e3]
theorem sE (h:ti K w v ls) (hb:Below w.heap.size w w'):ti K w' v ls:=tE h hb.size fun b _ hl=>hb.block b hl
theorem jO (h:ti K w v ls) (m:Moved F F' w w') (hK:∀ b,K b -> ¬F b):ti K w' v ls:=tE h m.size fun b hb hl=>m.block b hl (hK b hb)
theorem pI (h:ti K w v ls):Qd w [v] ls:=by
 obtain ⟨A,n,c,rfl,h2,h3,h4,h5⟩:=h;refine ⟨A,n,c,rfl,h2,h3,h4,fun i hi=>?_⟩
 obtain ⟨b,q,A1,n1,c1,e1,e2,e3,e4,e5⟩:=h5 i hi;refine ⟨⟨b,q,none⟩,[.slice A1 n1 c1],e1,rfl,fun j hj=>?_,Pk e5⟩
 obtain rfl:j=0:=by omega
 rw [Kj,show q+(i*1+0)=q+i by omega,e4]
 rfl
theorem oI {A:Option Addr} {n c:Nat} (h:ti K w (.slice A n c) ls) {i:Nat} (hi:i<ls.length):∃ b q A1 n1 c1,A=some ⟨b,q,none⟩ /\ K b /\ b<w.heap.size /\ w.cell? ⟨b,q+i,none⟩=some (.slice A1 n1 c1) /\ Km K w (.slice A1 n1 c1) (ls.getD i []):=by
 obtain ⟨A',n',c',h1,h2,h3,h4,h5⟩:=h
 injection h1 with e1 e2 e3
 subst e1 e2 e3;obtain ⟨b,q,A1,n1,c1,e1,e2,e3,e4,e5⟩:=h5 i hi;exact ⟨b,q,A1,n1,c1,e1,e2,e3,e4,by rw [List.getD_eq_getElem?_getD,List.getElem?_eq_getElem hi];exact e5⟩
theorem iO {A:Option Addr} {n c:Nat} (h:ti K w (.slice A n c) ls):ls.length=n /\ n <= c /\ c <= maxLen:=by
 obtain ⟨A',n',c',h1,h2,h3,h4,h5⟩:=h
 injection h1 with e1 e2 e3
 subst e1 e2 e3;exact ⟨h2,h3,h4⟩
def Rs (T:Nat -> Prop) (w:World) (cs:List Value) (ls:List (List Nat)):Prop:=cs.length=ls.length /\ ∀ (i:Nat) (h1:i<cs.length) (h2:i<ls.length),Km T w cs[i] ls[i]
theorem xz {cs:List Value} (h:Rs T w cs ls) (hs:w.heap.size <= w'.heap.size) (hw:∀ b,T b -> b<w.heap.size -> w'.heap[b]?=w.heap[b]?):Rs T w' cs ls:=⟨h.1,fun i h1 h2=>Dp (h.2 i h1 h2) hs hw⟩
theorem AO {cs:List Value} (h:Rs K w cs ls) (hk:∀ b,K b -> K' b):Rs K' w cs ls:=⟨h.1,fun i h1 h2=>pz (h.2 i h1 h2) hk⟩
theorem yO {cs:List Value} {x:Value} {l:List Nat} (h:Rs T w cs ls) (hx:Km T w x l):Rs T w (cs++[x]) (ls++[l]):=by
 refine ⟨by simp [h.1],fun i h1 h2=>?_⟩
 by_cases hi:i<cs.length
 ·rw [List.getElem_append_left hi]
  have pq:i<ls.length:=by rw [<- h.1];exact hi
  rw [List.getElem_append_left pq];exact h.2 i hi pq
 ·have e1:i=cs.length:=by simp at h1;omega
  have e2:i=ls.length:=by rw [e1,h.1]
  have g1:(cs++[x])[i]=x:=by subst e1;simp
  have g2:(ls++[l])[i]=l:=by subst e2;simp
  rw [g1,g2];exact hx
theorem zO {cs:List Value} {base n:Nat} {e:TypeId} (h:Rs T w cs ls) (ho:w.ownsRow base e 1 v n cs):ti (fun b=>T b \/ v.ownBlock=some b) w v ls:=by
 have hn:=ho.1;rcases ho.2 with ⟨rfl,rfl⟩ | ⟨g,cap,cur,hv,hb,hh,h1,h2,-⟩
 ·have:ls=[]:=List.eq_nil_of_length_eq_zero (by rw [<- h.1,hn])
  subst this;exact ⟨none,0,0,rfl,rfl,zR,by simp [maxLen],fun i hi=>absurd hi (by simp)⟩
 ·subst hv
  refine ⟨_,n,cap,rfl,by rw [<- h.1,hn,Nat.mul_one],h1,h2,fun i hi=>?_⟩
  have pq:i<cs.length:=by rw [h.1];exact hi
  have hc:=ho.cells (g:=g) rfl i cs[i] (List.getElem?_eq_getElem pq);have hk:=h.2 i pq hi;obtain ⟨A1,c1,e1,-⟩:=pB hk;rw [e1] at hc hk;refine ⟨g,0,A1,_,c1,rfl, .inr rfl,(Array.getElem?_eq_some_iff.1 hh).1,?_,pz hk fun b hb=>.inl hb⟩
  rw [<- hc];by_cases h0:i=0 <;> simp [Addr.add,h0]
theorem QG {w:World} {g i:Nat} {t:TypeId} {l:List Nat} (k:Blk w g t (Ca l).toArray) (h:i<l.length):w.cell? ⟨g,i,none⟩=some (.int .u64 ((l.getD i 0:Nat):Int)):=by
 rw [k.cell];simp [Ca,List.getD_eq_getElem?_getD,h]
def Be (F:Nat -> Prop) (x:Nat):Nat -> Prop:=fun b=>F b \/ b=x
theorem xB (m:Moved F F' w w') (x:Nat):Moved (Be F x) (Be F' x) w w':=⟨m.os,m.tape,m.output,m.size,fun b hb hn=>m.block b hb (fun hf=>hn (.inl hf)),fun b hb=>by
 rcases hb with hb | hb
 ·rcases m.foot b hb with e | e
  ·exact .inl (.inl e)
  ·exact .inr e
 ·exact .inl (.inr hb)⟩
theorem VI {x:Nat} (w:World) (i:Nat) (u:Value):Moved (Be F x) (Be F x) w (w.setCell ⟨x,i,none⟩ u) :=
 zz (Yd (p:=⟨x,i,none⟩) (Lc w (some x)) (.inl rfl) u) fun _ h=>.inr (Option.some.inj h).symm
theorem WO {w0:World} {x:Nat} (m0:Moved F F w0 w) (m:Moved (Be F x) (Be F' x) w w') (hx:w0.heap.size <= x):Moved F F' w0 w' :=
 ⟨m.os.trans m0.os,m.tape.trans m0.tape,m.output.trans m0.output,Nat.le_trans m0.size m.size,
  fun b hb hn=>(m.block b (by have:=m0.size;omega) (fun e=>by rcases e with e | e;exact hn e;omega)).trans (m0.block b hb hn),
  fun b hb=>by
   rcases m.foot b (.inl hb) with e | e
   ·rcases e with e | e
    ·exact .inl e
    ·exact .inr (by omega)
   ·exact .inr (Nat.le_trans m0.size e)⟩
theorem XO {w0:World} {x:Nat} (m0:Moved F F' w0 w) (m:Moved (Be F' x) (Be Sp x) w w') (hx:w0.heap.size <= x):Moved F Sp w0 w' :=
 ⟨m.os.trans m0.os,m.tape.trans m0.tape,m.output.trans m0.output,Nat.le_trans m0.size m.size,
  fun b hb hn=>(m.block b (by have:=m0.size;omega) (fun e=>by
   rcases e with e | e
   ·rcases m0.foot b e with h | h
    ·exact hn h
    ·omega
   ·omega)).trans (m0.block b hb hn),
  fun b hb=>by
   rcases m.foot b (.inl hb) with e | e
   ·rcases e with e | e
    ·exact m0.foot b e
    ·exact .inr (by omega)
   ·exact .inr (Nat.le_trans m0.size e)⟩
theorem UI {w0:World} {row:Option Nat} (m:Moved F F' w0 w) (hg:w.grownBy w' row) (hr:∀ b,row=some b -> w0.heap.size <= b):Moved F F' w0 w' :=
 ⟨hg.os.trans m.os,hg.tape.trans m.tape,hg.output.trans m.output,Nat.le_trans m.size hg.size,fun b hb hn=>(hg.block b (by have:=m.size;omega) (fun e=>by have:=hr b e.symm;omega)).trans (m.block b hb hn),m.foot⟩
theorem Ld {w0:World} {x:Nat} (m:Moved F F' w0 w) (hx:w0.heap.size <= x) (i:Nat) (u:Value):Moved F F' w0 (w.setCell ⟨x,i,none⟩ u) :=
 ⟨m.os,m.tape,m.output,by simpa [World.setCell] using m.size,fun b hb hn=>(Below.heap_setCell w _ u b (fun e=>by subst e;exact absurd hb (by simpa using hx))).trans (m.block b hb hn),m.foot⟩
theorem DH {x i N:Nat} (hx:F x) (u:Value):Kf F N w (w.setCell ⟨x,i,none⟩ u):=⟨rfl,rfl,rfl,by simp [World.setCell],fun b _ hn=>Below.heap_setCell w _ u b (fun e=>hn (by subst e;exact hx))⟩
theorem OrcAt.set {g x i:Nat} {O:La} (h:OrcAt w g O F) (hx:¬F x) (u:Value):OrcAt (w.setCell ⟨x,i,none⟩ u) g O F :=
 h.keep (by simp [World.setCell]) fun b hb=>Below.heap_setCell w _ u b (fun e=>hx (by subst e;exact hb))
end
end Go.Proofs.YtjipleoamlmkfaaGreat
namespace Go.Proofs.YtjipleoamlmkfaaGreat
open Go.RowKit
structure Vf (K:Nat -> Prop) (w u:World):Prop where
 os:u.os=w.os
 tape:u.tape=w.tape
 output:u.output=w.output
 size:w.heap.size <= u.heap.size
 block:∀ b,K b -> b<w.heap.size -> u.heap[b]?=w.heap[b]?
section
variable {K K' F F':Nat -> Prop} {w u v:World} {Q Q':World -> Prop}
theorem kL:Vf K w w:=⟨rfl,rfl,rfl,zR,fun _ _ _=>rfl⟩
theorem Ey (h:Vf K w u) (k:Vf K u v):Vf K w v:=⟨k.os.trans h.os,k.tape.trans h.tape,k.output.trans h.output,Nat.le_trans h.size k.size,fun b hb hl=>(k.block b hb (Nat.lt_of_lt_of_le hl h.size)).trans (h.block b hb hl)⟩
theorem Us (h:Vf K w u) (hk:∀ b,K' b -> K b):Vf K' w u:=⟨h.os,h.tape,h.output,h.size,fun b hb hl=>h.block b (hk b hb) hl⟩
theorem vf (h:Below w.heap.size w u):Vf K w u:=⟨h.os,h.tape,h.output,h.size,fun b _ hl=>h.block b hl⟩
theorem zl (m:Moved F F' w u) (hK:∀ b,K b -> ¬F b):Vf K w u:=⟨m.os,m.tape,m.output,m.size,fun b hb hl=>m.block b hl (hK b hb)⟩
theorem XC:Vf K w w.drew:=⟨rfl,rfl,rfl,zR,fun _ _ _=>rfl⟩
theorem iL {row:Option Nat} (h:w.grownBy u row) (hr:∀ b,row=some b -> ¬K b):Vf K w u:=⟨h.os,h.tape,h.output,h.size,fun b hb hl=>h.block b hl (fun e=>hr b e.symm hb)⟩
theorem Dy {x i:Nat} {c:Value} (hx:¬K x):Vf K w (w.setCell ⟨x,i,none⟩ c):=⟨rfl,rfl,rfl,by simp [World.setCell],fun b hb _=>Below.heap_setCell w _ c b (fun e=>hx (by subst e;exact hb))⟩
def Hd (K:Nat -> Prop) (w:World) (Q:World -> Prop):Prop:=∀ u,Vf K w u -> Q u
theorem dj (h:Hd K w Q):Q w:=h w kL
theorem Mc (h:Hd K w Q) (a:Vf K w u):Hd K u Q:=fun v k=>h v (Ey a k)
theorem Xy (h:Hd K w Q) (a:Vf K w u):Q u:=h u a
theorem Y3 (h:Hd K w Q):Hd (fun b=>K b /\ b<w.heap.size) w Q:=fun u k=>h u ⟨k.os,k.tape,k.output,k.size,fun b hb hl=>k.block b ⟨hb,hl⟩ hl⟩
theorem MD (h:Hd K w Q) (hq:∀ u,Q u -> Q' u):Hd K w Q':=fun v k=>hq v (h v k)
theorem OH {α:Type} {R:World -> List Value -> α -> Prop} {w0:World} {cs:List Value} {x:α} (hR:Ao R) (h:R w0 cs x) (hb:Below w0.heap.size w0 w):Hd (fun b=>b<w0.heap.size) w fun u=>R u cs x:=fun u a =>
 hR w0 u cs x ⟨a.os.trans hb.os,a.tape.trans hb.tape,a.output.trans hb.output,Nat.le_trans hb.size a.size,fun b hl=>(a.block b hl (Nat.lt_of_lt_of_le hl hb.size)).trans (hb.block b hl)⟩ h
theorem CN {x:Value} {ls:List (List Nat)} (h:ti K w x ls):Hd K w fun u=>Qd u [x] ls:=fun _ a=>pI (tE h a.size a.block)
theorem Yy {base n size:Nat} {e:TypeId} {x:Value} {xs:List Value} (h:w.ownsRow base e size x n xs):Hd (fun b=>x.ownBlock=some b) w fun u=>u.ownsRow base e size x n xs:=fun _ a =>
 zg h fun b hb=>a.block b hb (h.lt b hb).2
def Tw (w:World) (b:Nat):World:={ w with heap:=w.heap.setIfInBounds b (.cells #[] 0) }
theorem pG {b:Nat} (h:¬K b):Vf K w (Tw w b):=⟨rfl,rfl,rfl,by simp [Tw],fun c hc hl=>by
 have Ka:b≠c:=fun e=>h (e ▸ hc)
 simp [Tw,Ka]⟩
theorem sK {b i:Nat} (hb:b<w.heap.size):(Tw w b).cell? ⟨b,i,none⟩=none:=by
 simp [Tw,World.cell?,hb]
theorem nI {x:Value} {l:List Nat} (h:Hd K w fun u=>RWd u [x] l):Km K w x l:=fun u hu=>by
 obtain ⟨A,n,c,e,h2,h3,h4,h5⟩:=dj h;refine ⟨A,n,c,e,h2,h3,?_,h5⟩;by_cases h0:0<n
 ·obtain ⟨b,q,rfl,hb,hc⟩:=ru h4 h0
  have hK:K b:=Classical.byContradiction fun hn=>by
   obtain ⟨A',n',c',e',-,-,k4,-⟩:=h (Tw w b) (pG hn);rw [e] at e'
   injection e' with e' _
   injection e' with e1 e2 e3
   subst e1 e2;obtain ⟨b',q',e4,Qo,Jk⟩:=ru k4 h0
   injection e4 with e4
   injection e4 with e5 e6
   subst e5 e6;have k1:=Jk 0 h0;rw [sK hb] at k1;have k2:=h4.1;rw [List.getElem?_eq_getElem (by omega)] at k1
   cases k1
  refine ⟨h4.1,fun _=>⟨_,rfl,fun j y hj=>?_⟩⟩
  have hjn:j<n:=by
   have:=(List.getElem?_eq_some_iff.1 hj).1;have:=h4.1;omega
  rw [Kj];have:=hc j hjn;rw [hj] at this;simp only [World.cell?,hu b hK hb] at this |-;exact this
 ·exact ⟨h4.1,fun h=>absurd h h0⟩
theorem kO {x:Value} {ls:List (List Nat)} (h:Hd K w fun u=>Qd u [x] ls):ti K w x ls:=by
 have h0:=dj h;obtain ⟨A,n,c,e0,-⟩:=id h0
 injection e0 with e0
 subst e0;obtain ⟨h1,h2,h3,h4⟩:=sh h0;refine ⟨A,n,c,rfl,h1,h2,h3,fun i hi=>?_⟩
 obtain ⟨b,q,A1,n1,c1,rfl,e2,e3,e4⟩:=Zl h4 hi;have hK:K b:=Classical.byContradiction fun hn=>by
  obtain ⟨-,-,-,k4⟩:=sh (h (Tw w b) (pG hn));obtain ⟨b',q',A2,n2,c2,f1,f2,f3,f4⟩:=Zl k4 hi
  injection f1 with f1
  injection f1 with f5 f6
  subst f5 f6;rw [sK e2] at f3;cases f3
 refine ⟨b,q,A1,n1,c1,rfl,hK,e2,e3,nI fun u a=>?_⟩
 obtain ⟨-,-,-,k4⟩:=sh (h u a);obtain ⟨b',q',A2,n2,c2,f1,f2,f3,f4⟩:=Zl k4 hi
 injection f1 with f1
 injection f1 with f5 f6
 subst f5 f6;have e5:u.cell? ⟨b,q+i,none⟩=w.cell? ⟨b,q+i,none⟩:=by simp only [World.cell?,a.block b hK e2]
 rw [e5,e3] at f3
 injection f3 with f3
 injection f3 with g1 g2 g3
 subst g1 g2 g3;exact f4
end
end Go.Proofs.YtjipleoamlmkfaaGreat
