/- A part of the proof. No condition. -/
import Derived.Test.YtodmnanljoaocaaGreatPU1
import Derived.Deep.AppendLies

set_option maxRecDepth 100000
set_option maxHeartbeats 8000000
set_option linter.unusedVariables false
set_option linter.unusedSimpArgs false
namespace Go.Proofs.YtodmnanljoaocaaGreat
open Go.RowKit
open Tryz
open Go renaming World->vv, Value->vw, Addr->vx, TypeId->vy, Calls->vA
open Go.Value renaming int->vd, slice->ve, agg->vf
open Go.IntKind renaming u64->vq, i64->vt
open Go.Ending renaming returned->vn
open Go.RowKit renaming Below->vz
open Go.Act renaming put->vF
open Option renaming none->vB, some->vD
theorem zGo (p:Nat) (pub vars:Int) (A:Option vx) (n c:Nat) (rows:List Ya) (bl bw qs:Int) (w:vv) (hr:RSl 3 Ue w [ve A n c] rows) (ht:Ad p pub vars rows=true) :
  vA prog 38 (pq p pub vars A n c bl bw qs) w fun e w'=>XI ⟨p,pub,vars,rows.length,bl,bw,qs⟩ e /\ vz w.1.size w w':=by
 have bad:Uw ⟨p,pub,vars,rows.length,bl,bw,qs⟩=1 -> ∀ {e:Ending} {w':vv},(e=vn (.tuple #[vf Xf,vd vt 1]) /\ vz w.1.size w w') -> XI ⟨p,pub,vars,rows.length,bl,bw,qs⟩ e /\ vz w.1.size w w':=fun he _ _ h=>⟨⟨_,_,h.1, .inl ⟨zD,rfl,he.symm⟩⟩,h.2⟩
 by_cases hB:bl<2 \/ 256<bl \/ bl.toNat &&& (bl.toNat-1)≠0 \/ qs<1 \/ 64<qs \/ (bw≠1 /\ bw≠2 /\ bw≠4 /\ bw≠8)
 ·exact (zGp p pub vars A n c rows bl bw qs w hr ht hB).mono fun _ _=>bad (Gb hB)
 have h2:bl.toNat &&& (bl.toNat-1)=0:=rI fun e=>hB (.inr (.inr (.inl e)))
 have Nt:0 <= pub /\ pub<vars:=by
  have h:=ht;unfold Ad at h;simp only [Pd,uo,XB] at h;omega
 obtain ⟨U,rfl⟩:=Zl Nt.1;obtain ⟨V,rfl⟩:=Zl (show 0 <= vars by omega)
 obtain ⟨b,rfl⟩:=Zl (show 0 <= bl by omega)
 obtain ⟨q,rfl⟩:=Zl (show 0 <= qs by omega)
 rw [Dn] at h2;exact zGq p U V A n c rows b q bw w hr ht zO zO h2 zO zO zO
def GY (p:Nat) (pub vars:Int) (rows:vw) (bl bw qs:Int) (ws:vw):Array vw:=#[vd vq p,vd vt pub,vd vt vars,rows,vd vt bl,vd vt bw,vd vt qs,ws]
theorem Blk.cells' {w:vv} {g:Nat} {t:vy} {cs:Array vw} (h:Blk w g t cs):(∀ i,w.cell? ⟨g,i,vB⟩=cs[i]?) /\ (∀ i,w.frozen? ⟨g,i,vB⟩=false):=⟨h.cell,h.frozen⟩
theorem Z8 (y0 y1 y2 y3 y4 y5 y6:Int) (a b c d:Nat) (w:vv) (ha:a <= 100000) (hb:b <= 100000) (hc:c <= 100000) (hd:d <= 100000) :
  vA prog 11 #[vf #[vd vq y0,vd vt y1,vd vt y2,vd vt y3,vd vt y4,vd vt y5,vd vt y6,vd vt a,vd vt b,vd vt c,vd vt d]] w fun e w'=>e=vn (vd vt ((a+b+c+d:Nat):Int)) /\ vz w.1.size w w':=by
 have i1:(a:Int) <= 100000:=by omega
 have i2:(b:Int) <= 100000:=by omega
 have i3:(c:Int) <= 100000:=by omega
 have i4:(d:Int) <= 100000:=by omega
 go_enter func11,ntmps11
 go_wp2_with fail
 go_ret
 exact ⟨zS,(Bb _ _).alloc zR _⟩
theorem UR (y0 y1 y2 y3 y4 y5 y6:Int) (a b c d:Nat) (w:vv) (ha:a <= 100000) (hb:b <= 100000) (hc:c <= 100000) (hd:d <= 100000) :
  vA prog 145 #[vf #[vd vq y0,vd vt y1,vd vt y2,vd vt y3,vd vt y4,vd vt y5,vd vt y6,vd vt a,vd vt b,vd vt c,vd vt d]] w fun e w'=>e=vn (vd vt ((a+b+c+d:Nat):Int)) /\ vz w.1.size w w':=by
 have i1:(a:Int) <= 100000:=by omega
 have i2:(b:Int) <= 100000:=by omega
 have i3:(c:Int) <= 100000:=by omega
 have i4:(d:Int) <= 100000:=by omega
 go_enter func145,ntmps145
 go_wp2_with fail
 go_ret
 exact ⟨zS,(Bb _ _).alloc zR _⟩
def Au (B:Nat) (w w':vv):Prop:=vz B w w'
theorem uh (B:Nat):Wd (Au B):=⟨fun w=>Bb _ w,fun _ _ _ h k=>Below.trans h k⟩
theorem J0 {B:Nat} {w w':vv} (h:Au B w.drew w'):∀ b o,b<B -> w'.cell? ⟨b,o,vB⟩=w.cell? ⟨b,o,vB⟩:=fun b o hb=>Below.cell h (p:=⟨b,o,vB⟩) hb
theorem Kv {a b:Prop} (h:a) (s:Imp a b:=by
 (repeat ((first | (apply Imp.via (oI (uh _) rfl rfl (fun _ _ _ h=>h))) | (apply Imp.via (nI (v:=?_) (uh _) rfl rfl (fun _ _ _ h=>h) ?hr);case hr=>(intro w' hR;(first | have Yq:=J0 ((uh _).trans _ _ _ da hR) | skip);go_simp;try with_reducible rfl)));simp only [vF,zLa,zLb,zLc]))
 exact Imp.rfl'):b:=s h
theorem dE {B:Nat} {w w':vv} (h:vz w.1.size w w') (hB:B <= w.1.size):Au B w w':=h.mono hB
theorem ZL {B:Nat} (w:vv) {g i:Nat} (v:vw) (hg:B <= g):Au B w (w.setCell ⟨g,i,vB⟩ v):=(Bb B w).setCell (p:=⟨g,i,vB⟩) hg v
def okL (l:List Oper):List Nat -> Array Bool -> Bool
 | [],_=>true
 | i :: rest,Ea=>decide (i<l.length)&&Region.free .any l.toArray Ea i&&(Region.ready .any l.toArray Ea).contains i&&okL l rest (Ea.setIfInBounds i true)
def lI (P:Program) (l:List Oper) (Q:Exit -> Act -> vv -> Prop) (R:vv -> vv -> Prop) (order:List Nat) (fuel:Nat) (Ea:Array Bool) (a:Act) (w:vv):Prop :=
 Region.noSelect l.toArray=true -> okL l order Ea=true -> rn P l.toArray Q R (order.length+fuel) Ea a w
section
variable {P:Program} {l:List Oper} {Q:Exit -> Act -> vv -> Prop} {R:vv -> vv -> Prop} {rest:List Nat} {fuel i:Nat} {o:Oper} {Ea:Array Bool} {a:Act} {w:vv}
theorem zIe {id:Nat} (R:vv -> vv -> Prop) (order:List Nat) (fuel:Nat) (hm:P.follows .mixedOrders=true) (jb:(Region.noSelect l.toArray&&order.length+fuel == l.length&&okL l order (List.replicate l.length false).toArray)=true)
  (h:lI P l Q R order fuel (List.replicate l.length false).toArray a w.drew):(Code.region id l.toArray true).wp P Q a w:=by
 simp only [Pd,Qk] at jb;refine zP R hm ?_;rw [<- jb.1.2];have:=h jb.1.1 jb.2
 rwa [jb.1.2] at this |-
theorem zIi (M:Wd R) {order:List Nat} (h:∀ W,Hid (W=w) -> R w W -> lI P l Q R order fuel Ea a W):lI P l Q R order fuel Ea a w:=h w rfl (M.refl w)
theorem K6 (h:okL l (i :: rest) Ea=true):i<l.length /\ Region.free .any l.toArray Ea i=true /\ (Region.ready .any l.toArray Ea).contains i=true /\ okL l rest (Ea.setIfInBounds i true)=true:=by
 unfold okL at h;simp only [Pd,Ru] at h;obtain ⟨⟨⟨h1,h2⟩,h3⟩,h4⟩:=h;exact ⟨h1,h2,h3,h4⟩
theorem zIf {v:vw} (M:Wd R) (ho:l[i]?=vD o) (hw:Region.wanted o (yielded l.toArray a.tmps)=true) (hQ:∀ c a w,Q (.panic c) (a.put o.dst v) w -> Q (.panic c) a w)
  (Rc:∀ w',R w w' -> (execOp a.eval o).run P w'= .ok (.value v) w') (h:lI P l Q R rest fuel (Ea.setIfInBounds i true) (a.put o.dst v) w):lI P l Q R (i :: rest) fuel Ea a w:=by
 intro hn jb;obtain ⟨h1,h2,h3,h5⟩:=K6 jb;have e:=nw (h:=h1) ho;subst e;have:=qo (fuel:=rest.length+fuel) i M h1 hn h2 h3 hQ (.inl ⟨hw,Rc⟩) (h hn h5);rw [pk,show rest.length+1+fuel=rest.length+fuel+1 by omega]
 exact this
theorem zIh (M:Wd R) (ho:l[i]?=vD o) (hw:Region.wanted o (yielded l.toArray a.tmps)=false) (hQ:∀ c a w,Q (.panic c) (a.put o.dst undef) w -> Q (.panic c) a w)
  (h:lI P l Q R rest fuel (Ea.setIfInBounds i true) (a.put o.dst undef) w):lI P l Q R (i :: rest) fuel Ea a w:=by
 intro hn jb;obtain ⟨h1,h2,h3,h5⟩:=K6 jb;have e:=nw (h:=h1) ho;subst e;have:=qo (fuel:=rest.length+fuel) i M h1 hn h2 h3 hQ (.inr ⟨hw,rfl⟩) (h hn h5);rw [pk,show rest.length+1+fuel=rest.length+fuel+1 by omega]
 exact this
end
def jl (a:Act) (vs:Nat -> vw) (js:List (Option Tmp × Nat)):Act:=js.foldl (fun a j=>a.put j.1 (vs j.2)) a
theorem jS (l:List Oper) (vs:Nat -> vw):∀ (js:List Nat) (a:Act),Rg l vs a js=jl a vs (js.map fun j=>(Me l j,j))
 | [],_=>rfl
 | _ :: js,_=>jS l vs js _
section
variable {P:Program} {l:List Oper} {Q:Exit -> Act -> vv -> Prop} {R:vv -> vv -> Prop} {T:List Qp} {ps:List (Nat × My)} {B:Nat} {w0:vv} {a0:Act} {L0:Array Bool}
abbrev Xb:Nat -> Prop:=fun _=>False
theorem uQ {B:Nat} {w w':vv}:Us B Xb w w'↔vz B w w':=⟨fun h=>⟨h.1,h.2.1,h.2.2.1,h.2.2.2.1,fun b hb=>h.2.2.2.2 b hb id⟩,fun h=>⟨h.os,h.tape,h.output,h.size,fun b hb _=>h.block b hb⟩⟩
def dN (w w':vv) (F:Nat -> Nat -> Prop) (eat:List Nat):Nat -> Prop:=fun b=>(w.1.size <= b /\ b<w'.1.size) \/ ∃ j∈eat,F j b
def AL (B:Nat) (w w':vv) (F:Nat -> Nat -> Prop) (eat:List Nat):Prop:=vz B w w' /\ ∀ b,b<w.1.size -> (∀ j∈eat,¬F j b) -> w'.1[b]?=w.1[b]?
theorem zEo (B:Nat) (w:vv) (F:Nat -> Nat -> Prop) (eat:List Nat):AL B w w F eat:=⟨Bb _ _,fun _ _ _=>rfl⟩
theorem S5 {B:Nat} {w w':vv} (h:vz w.1.size w w') (hB:B <= w.1.size) (F:Nat -> Nat -> Prop) (eat:List Nat):AL B w w' F eat:=⟨h.mono hB,fun b hb _=>h.block b hb⟩
theorem zIg (M:Wd R) (T:List Qp) (ps:List (Nat × My)) (js:List (Option Tmp × Nat)) (hs tail:List Nat) {fuel:Nat} (hn:Region.noSelect l.toArray=true)
  (jb:(GR l T L0&&(T.all fun s=>decide (s.i<l.length))&&decide (T.length+tail.length=fuel)&&FF l hs tail (Sx T L0)&&(((T.map (·.i)).map fun j=>(Me l j,j)) == js))=true)
  (hB:B <= w0.1.size) (hR:∀ w',vz B w0 w' -> R w0 w') (Kf:∀ s∈T,EL (UK ps) B Xb w0 s) (yO:∀ s∈T,bQ P l (UK ps) B Xb w0 a0 s)
  (Uo:∀ (w:vv) (vs:Nat -> vw) (F:Nat -> Nat -> Prop),vz B w0 w -> (∀ s∈T,(∀ k∈T,s.i ∉ k.eat) -> UK ps s.i vs (F s.i) w /\ ∀ b,F s.i b -> b<w.1.size /\ B <= b) -> (∀ j k b,j≠k -> F j b -> ¬F k b) ->
   po P l hs Q R tail (Sx T L0) (jl a0 vs js) w):lI P l Q R [] fuel L0 a0 w0:=by
 intro _ _;simp only [Pd,Qk,Ru] at jb;obtain ⟨⟨⟨⟨h1,h2⟩,h3⟩,h4⟩,h5⟩:=jb;rw [Wg] at h2;have ok:=L6 h1;have ta:∀ s∈T,s.i<l.length:=fun s hs=>by simpa using h2 s hs
 have Dg:∀ s∈T,L0.getD s.i true=false:=fun s hs=>(RK _ _ ok.topo _ (Ie.2 ⟨s,hs,rfl⟩) _ (Dc (ta s hs))).2
 rw [List.length_nil,yf];refine zIk (X:=Xb) (fr:=tail.length) M hn h1 hB (fun w' h=>hR w' (uQ.1 h)) (fun _=>undef) (fun _=>l.length) (fun _ _=>zR) (fun s hs h=>absurd (ta s hs) (Nat.not_lt.2 h)) Kf yO ?_ fun w vs F he hf hd=>?_
 ·rw [List.filter_eq_self.2 fun s hs=>by rw [Dg s hs];rfl]
  exact h3
 ·have e:(T.map (·.i)).filter (·<l.length)=T.map (·.i):=List.filter_eq_self.2 fun j hj=>by
   obtain ⟨s,hs,rfl⟩:=Ie.1 hj
   simpa using ta s hs
  rw [e,jS,h5];exact Uo w vs F (uQ.1 he) (fun s hs Ua=>⟨(hf s hs Ua).1,fun b hb=>⟨((hf s hs Ua).2 b hb).1,((hf s hs Ua).2 b hb).2.resolve_right id⟩⟩) hd hn h4
theorem wX {s:Qp} {o:Oper} (js:List (Option Tmp × Nat)) (ho:l[s.i]?=vD o) (hjs:((s.deps.filter (·<l.length)).map fun j=>(Me l j,j))=js)
  (h:∀ (w:vv) (vs:Nat -> vw) (F:Nat -> Nat -> Prop),vz B w0 w -> (∀ j∈s.deps,UK ps j vs (F j) w /\ ∀ b,F j b -> b<w.1.size /\ B <= b) -> (∀ j k b,j≠k -> F j b -> ¬F k b) ->
   Ly P (execOp (jl a0 vs js).eval o) w fun v w'=>AL B w w' F s.eat /\ UK ps s.i (yq vs s.i v) (dN w w' F s.eat) w'):bQ P l (UK ps) B Xb w0 a0 s:=by
 intro o' uH w vs F he hd SJ;rw [ho] at uH;obtain rfl:=Pb uH;rw [jS,hjs];refine pZ ?_ (h w vs F (uQ.1 he) (fun j hj=>⟨(hd j hj).1,fun b hb=>⟨((hd j hj).2 b hb).1,((hd j hj).2 b hb).2.resolve_right id⟩⟩) SJ)
 rintro v w' ⟨h1,h2⟩;exact ⟨uQ.2 h1.1,h1.2,h2⟩
end
def yN (f:(Nat -> vw) -> vw) (i:Nat):My:=fun vs _ _=>vs i=f vs
def dD (t:vy) (cs:(Nat -> vw) -> Array vw) (mk:Nat -> vw) (i:Nat):My:=fun vs F w=>∃ g,vs i=mk g /\ F g /\ Blk w g t (cs vs)
abbrev UH (n:Nat):Nat -> vw:=fun g=>ve (vD ⟨g,0,vB⟩) n n
abbrev mkP:Nat -> vw:=fun g=>.pointer (vD ⟨g,0,vB⟩)
section
variable {p:Nat -> My} {B:Nat} {X:Nat -> Prop} {w0:vv} {s:Qp}
theorem zHB {f:(Nat -> vw) -> vw} (hp:p s.i=yN f s.i) (hf:∀ vs us:Nat -> vw,(∀ m∈s.deps,us m=vs m) -> f us=f vs):EL p B X w0 s:=by
 intro vs us F w w' _ _ h _ _ hv;rw [hp] at hv |-;unfold yN at *;rw [h _ zS,hv,hf vs us fun m hm=>h m (by simp [hm])]
theorem zAd {t:vy} {cs:(Nat -> vw) -> Array vw} {mk:Nat -> vw} (hp:p s.i=dD t cs mk s.i) (hf:∀ vs us:Nat -> vw,(∀ m∈s.deps,us m=vs m) -> cs us=cs vs):EL p B X w0 s:=by
 intro vs us F w w' _ _ h _ hk hv;rw [hp] at hv |-;obtain ⟨g,h1,h2,h3⟩:=hv;exact ⟨g,by rw [h _ zS,h1],h2,by rw [hf vs us fun m hm=>h m (by simp [hm])];exact (hk g h2).trans h3⟩
theorem FY {w w':vv} {t:vy} {cs:(Nat -> vw) -> Array vw} {mk:Nat -> vw} {F:Nat -> Nat -> Prop} {eat:List Nat} {vs:Nat -> vw} {i g:Nat} (h:Blk w' g t (cs (yq vs i (mk g)))) (hg:w.1.size <= g):dD t cs mk i (yq vs i (mk g)) (dN w w' F eat) w' :=
 ⟨g,zAR _ _ _, .inl ⟨hg,h.lt⟩,h⟩
end
def Ql:List Nat -> List Nat
 | []=>[]
 | x :: l=>if Ql l=[] /\ x=0 then [] else x :: Ql l
theorem zAH:∀ l:List Nat,Ql (l++[0])=Ql l
 | []=>rfl
 | x :: l=>by
  rw [List.cons_append,Ql,zAH l]
  rfl
theorem zAG {y:Nat} (hy:y≠0):∀ l:List Nat,Ql (l++[y])=l++[y]
 | []=>by simp [Ql,hy]
 | x :: l=>by
  rw [List.cons_append,Ql,zAG hy l];simp
theorem zAF:∀ l:List Nat,(Ql l).length <= l.length
 | []=>zR
 | x :: l=>by
  rw [Ql];split
  ·exact Rb _
  ·have:=zAF l
   simpa using this
theorem zX:∀ (l:List Nat) (i:Nat),(Ql l).getD i 0=l.getD i 0
 | [],_=>rfl
 | x :: l,i=>by
  rw [Ql];split
  ·rename_i h
   cases i with
   | zero=>simp [h.2]
   | succ i =>
    have:=zX l i;rw [h.1] at this
    simpa using this
  ·cases i with
   | zero=>rfl
   | succ i=>simpa using zX l i
theorem zHS {l:List Nat} {x:Nat}:x∈Ql l -> x∈l:=by
 induction l with
 | nil=>exact id
 | cons y l ih =>
  rw [Ql];split
  ·intro h;cases h
  ·intro h
   rcases Ij.1 h with h | h
   ·exact Ij.2 (.inl h)
   ·exact Ij.2 (.inr (ih h))
def XA (p:Nat) (l:List Nat):List Nat:=Ql (l.map (·%p))
def MD (p:Nat) (a b:List Nat) (i:Nat):Nat:=(a.getD i 0+b.getD i 0)%p
def yg (p:Nat) (a b:List Nat):List Nat:=XA p ((List.range (max a.length b.length)).map (MD p a b))
def Ol (p:Nat) (a:List Nat) (n:Nat):List Nat:=XA p (a.map fun x=>x*n%p)
def Yw (a:List Nat) (n:Nat):List Nat:=List.replicate n 0++a
def Yi (p:Nat) (a b:List Nat):Nat -> List Nat
 | 0=>[]
 | k+1=>yg p (Yi p a b k) (Yw (Ol p b (a.getD k 0)) k)
def Zh (p:Nat) (a b:List Nat):List Nat:=Yi p a b a.length
def evS (p:Nat) (a:List Nat) (f:Nat -> Nat):Nat -> Nat
 | 0=>0
 | k+1=>(evS p a f k+a.getD k 0*f k%p)%p
def Ji (p x:Nat):Nat -> Nat
 | 0=>1
 | k+1=>Ji p x k*x%p
def Re (p:Nat) (a:List Nat) (x:Nat):Nat:=evS p a (Ji p x) a.length
def lh (a:List Nat) (n:Nat):List Nat:=a++List.replicate (n-a.length) 0
theorem K5 (p:Nat) (l:List Nat) (i:Nat):(l.map (·%p)).getD i 0=l.getD i 0%p:=by
 rw [Gc,Gc,List.getElem?_map];cases l[i]? <;> simp
theorem zAD (p:Nat) (l:List Nat) (i:Nat):(XA p l).getD i 0=l.getD i 0%p:=by
 rw [XA,zX,K5]
theorem IS {p:Nat} (hp:0<p) {l:List Nat} {x:Nat} (h:x∈XA p l):x<p:=by
 obtain ⟨y,-,rfl⟩:=Ie.1 (zHS h);exact Ic _ hp
theorem zAE (p:Nat) (l:List Nat):(XA p l).length <= l.length:=by
 have:=zAF (l.map (·%p))
 simpa [XA] using this
theorem By (f:Nat -> Nat) (n i:Nat):((List.range n).map f).getD i 0=if i<n then f i else 0:=by
 rw [Gc,List.getElem?_map];split
 ·rename_i h
  rw [List.getElem?_range h]
  rfl
 ·rename_i h
  rw [Kx (by simpa using h)]
  rfl
theorem uJ {l:List Nat} {i:Nat} (h:l.length <= i):l.getD i 0=0:=by
 rw [Gc,Kx h]
 rfl
theorem FL (p:Nat) (a b:List Nat) (i:Nat):(yg p a b).getD i 0=(a.getD i 0+b.getD i 0)%p:=by
 rw [yg,zAD,By];split
 ·rw [MD,Nat.mod_mod]
 ·rename_i h
  rw [uJ (l:=a) zO,uJ (l:=b) zO]
theorem RB (p:Nat) (a b:List Nat):(yg p a b).length <= max a.length b.length:=by
 have:=zAE p ((List.range (max a.length b.length)).map (MD p a b))
 simpa [yg] using this
theorem J5 (f:Nat -> Nat) (h:f 0=0) (l:List Nat) (i:Nat):(l.map f).getD i 0=f (l.getD i 0):=by
 rw [Gc,Gc,List.getElem?_map];cases l[i]? <;> simp [h]
theorem vS (p:Nat) (a:List Nat) (n i:Nat):(Ol p a n).getD i 0=a.getD i 0*n%p:=by
 rw [Ol,zAD,J5 (fun x=>x*n%p) zS,Nat.mod_mod]
theorem PC (p:Nat) (a:List Nat) (n:Nat):(Ol p a n).length <= a.length:=by
 have:=zAE p (a.map fun x=>x*n%p)
 simpa [Ol] using this
theorem pP (a:List Nat) (n i:Nat):(Yw a n).getD i 0=if i<n then 0 else a.getD (i-n) 0:=by
 rw [Yw,Gc];split
 ·rename_i h
  rw [zL (by simpa using h)]
  simp [h]
 ·rename_i h
  rw [FG (by simpa using h),Gc,List.length_replicate]
theorem jX (a:List Nat) (n:Nat):(Yw a n).length=n+a.length:=by simp [Yw]
theorem pW (p:Nat) (a b:List Nat):∀ k,(Yi p a b (k+1)).length <= k+b.length
 | 0=>by
  have h1:=RB p (Yi p a b 0) (Yw (Ol p b (a.getD 0 0)) 0);have h3:=PC p b (a.getD 0 0);rw [jX] at h1;have h0:(Yi p a b 0).length=0:=rfl;rw [h0] at h1;rw [Yi];omega
 | k+1=>by
  have h1:=RB p (Yi p a b (k+1)) (Yw (Ol p b (a.getD (k+1) 0)) (k+1));have h2:=pW p a b k;have h3:=PC p b (a.getD (k+1) 0);rw [jX] at h1;rw [Yi];omega
theorem yF (p:Nat) (a b:List Nat):(Zh p a b).length <= a.length-1+b.length:=by
 rw [Zh];cases h:a.length with
 | zero=>exact Rb _
 | succ k=>exact pW p a b k
theorem zEi {p:Nat} (a b:List Nat) (k i:Nat) (h:a.getD k 0=0):(Yi p a b (k+1)).getD i 0=(Yi p a b k).getD i 0%p:=by
 rw [Yi,FL,pP,vS,h];split <;> simp
theorem zEj {p:Nat} (hp:0<p) (a b:List Nat) (k i:Nat):(Yi p a b k).getD i 0<p:=by
 cases k with
 | zero=>simpa [Yi] using hp
 | succ k=>rw [Yi,FL];exact Ic _ hp
theorem D7 (a:List Nat) (n i:Nat):(lh a n).getD i 0=a.getD i 0:=by
 rw [lh,Gc,Gc];by_cases h:i<a.length
 ·rw [zL h]
 ·rw [FG zO,Kx (l:=a) zO,List.getElem?_replicate]
  split <;> rfl
theorem E7 (a:List Nat) (n:Nat):(lh a n).length=max n a.length:=by
 simp [lh]
 omega
theorem DO {a b:List Nat} (hl:a.length=b.length) (h:∀ i,i<a.length -> a.getD i 0=b.getD i 0):a=b:=by
 apply List.ext_getElem hl
 intro i h1 h2;have:=h i h1;rw [Gc,Gc,Dc h1,Dc h2] at this;exact this
def FRows (N:Nat) (gb:Option Nat) (w:vv) (cs:Array vw) (i:Nat) (f:Nat -> List Nat):Prop:=∀ k,k<i -> ∃ v,cs[k]?=vD v /\ Bi N gb w v (f k)
theorem zC1 {N n g:Nat} {gb:Option Nat} {w:vv} {t:vy} {cs:Array vw} {f:Nat -> List Nat} (h:FRows N gb w cs n f) (hk:Blk w g t cs) (hm:n <= maxLen):Ye w [ve (vD ⟨g,0,vB⟩) n n] ((List.range n).map f):=by
 refine ⟨_,n,n,rfl,zS,zR,hm,fun i hi=>?_⟩
 have Ih:i<n:=by simpa using hi
 obtain ⟨v,h1,h2⟩:=h i Ih;refine ⟨_,[v],rfl,rfl,fun j hj=>?_,by simpa using h2 w fun _ _ _ _=>rfl⟩
 obtain rfl:j=0:=by omega
 rw [yt,show 0+(i*1+0)=i by omega,hk.cell,h1]
 rfl
theorem zHd {N g:Nat} {gb:Option Nat} {w:vv} {t:vy} {l:List Nat} (h:Blk w g t (Qa l).toArray) (hl:∀ x∈l,x<18446744073709551616) (hm:l.length <= maxLen) (hN:N <= g) (hg:vD g≠gb):Bi N gb w (ve (vD ⟨g,0,vB⟩) l.length l.length) l :=
 fun _ hu=>TH (t:=t) ((hu g hN h.lt hg).trans h) hl hm
theorem G5 {w:vv} {g n:Nat} {t:vy} {l:List Nat} (h:Blk w g t (Qa l).toArray) (hn:l.length=n) (hl:∀ x∈l,x<18446744073709551616) (hm:n <= maxLen):RWd w [ve (vD ⟨g,0,vB⟩) n n] l:=by
 subst hn;exact TH h hl hm
theorem V9 {N g n:Nat} {gb:Option Nat} {w:vv} {t:vy} {l:List Nat} (h:Blk w g t (Qa l).toArray) (hn:l.length=n) (hl:∀ x∈l,x<18446744073709551616) (hm:n <= maxLen) (hN:N <= g) (hg:vD g≠gb):Bi N gb w (ve (vD ⟨g,0,vB⟩) n n) l:=by
 subst hn;exact zHd h hl hm hN hg
structure Mr (p n:Nat):Prop where
 pos:1 <= n
 le:n <= 4096
 two:∃ j,n=2^j
 dvd:(p-1)%n=0
def Zj (p n:Nat):Nat:=(Vc p).1^((p-1) / n)%p
theorem zBq:∀ j:Fin 13,bits .and vt ((2^j.val:Nat):Int) (((2^j.val:Nat):Int)-1)=0:=by decide +kernel
theorem X7 {j:Nat} (h:2^j <= 4096):j<13:=by
 rcases Mm j 13 with h1 | h1
 ·exact h1
 ·have:2^13 <= 2^j:=QB zO h1
  omega
theorem zFQ:∀ b:Fin 257,1 <= b.val -> b.val &&& (b.val-1)=0 -> ∃ j:Fin 9,b.val=2^j.val:=by decide +kernel
theorem K0 {p:Nat} (h:jc p=true):(Vc p).1<p:=by
 rcases BC h with rfl | rfl | rfl | rfl | rfl | rfl | rfl <;> decide
theorem zCv (p n:Nat) (w:vv) (hp:jc p=true) (hn:Mr p n) :
  vA prog 266 #[fv p,vd vt n] w fun e w'=>e=vn (.tuple #[vd vq (Zj p n:Int), .bool true]) /\ vz w.1.size w w':=by
 obtain ⟨h1,h2,h3,h4⟩:=hn;obtain ⟨Lc,Nb⟩:=tc hp;have HV:=zH (fun w=>Tu p w hp)
 have HG:=zH (fun w=>PZ p w hp)
 have hand:bits .and vt (n:Int) ((n:Int)-1)=0:=by
  obtain ⟨j,hj⟩:=h3;have:=zBq ⟨j,X7 zO⟩;simp only at this;rw [<- hj] at this;exact this
 obtain ⟨pm,Ml⟩:=zEX (p-1);obtain ⟨m,hm⟩:=zEX (pm / n);have HP:=zH (fun w=>BU p (Vc p).1 m w hp (K0 hp) (by rw [hm];exact Az (Mx _ _) zO))
 have hR:Zj p n=(Vc p).1^m%p:=by unfold Zj;rw [hm,Ml]
 rw [hR];have ep:vq.wrap ((p:Int)-1)=(pm:Int):=by rw [Ml];exact wu p 1 zO Nb
 have ep2:(p:Int)-1=(pm:Int):=by omega
 have ep3:vq.wrap (pm:Int)=pm:=Kk _ zO;have en:vq.wrap (n:Int)=n:=Kk _ zO;have em:vq.wrap (m:Int)=m:=Kk _ (by rw [hm];exact Az (Mx _ _) zO)
 have r1:(pm:Int)%(n:Int)=0:=by rw [Ml];omega
 have r2:(pm:Int).tmod (n:Int)=0:=by rw [Ex zO];exact r1
 have r3:(pm:Int) / (n:Int)=m:=by rw [hm];rfl
 have r4:(pm:Int).tdiv (n:Int)=m:=by rw [hm];rfl
 have n0:¬((n:Int)=0):=by omega
 have n5:¬(n=0):=by omega
 have n1:(1:Int)<=n:=by omega
 have n2:((n:Int) == 0)=false:=by rw [Je];exact n0
 have n3:(0:Int)<n:=by omega
 have n4:(n:Int) <= 4096:=by omega
 clear hR hm Lc Nb h1 h2 h3 h4 hp;generalize (Vc p).1=gn at *;generalize gn^m%p=r at *;unfold fv at *;obtain ⟨kf,ba⟩:=zN w 250 #[vd vq p];clear Ml;go_enter func266,ntmps266
 go_wp2_with fail
 refine (HV.out _).mono ?_;rintro e' w1 ⟨rfl,La⟩;replace kf:=ma kf La;replace ba:=pa ba La;clear La;have cf:=kf.cell;have lf:=kf.lt;go_wp2_with fail
 refine Oh (yc) (ya) [] [] [0,1,2,3,4,5,6,7,8,9,10,11] zK zK ?_;refine Ph (ya) ?_;intro Wc da;refine Hg ?_;refine Fe ya rfl rfl rfl rfl (fun w' hR=>HG.out _) ?_
 refine zPU ?_;refine Hg ?_;refine Fe ya rfl rfl rfl rfl (fun w' hR=>HP.out _) ?_
 refine zPU ?_;refine Hg ?_;refine ox rfl ?_;intro wd mf;replace da:=zM ya da mf;clear mf;go_wp2
 go_ret2
 exact ⟨rfl,pa ba.drew da⟩
theorem zAp (p n:Nat) (w:vv) (hp:jc p=true) (hn:Mr p n) :
  vA prog 227 #[fv p,vd vt n] w fun e w'=>e=vn (.tuple #[vd vq (Zj p n:Int), .bool true]) /\ vz w.1.size w w':=by
 have HR:=zH (fun w=>zCv p n w hp hn)
 have d1:decide ((n:Int)<1)=false:=Ib (zQ hn.pos);have d2:decide ((4096:Int)<n)=false:=Ib (zQ hn.le);clear hn hp;generalize Zj p n=r at *;unfold fv at *;have ba:=zA w (.cells #[vd vq p] 250);go_enter func227,ntmps227
 go_wp2_with fail
 refine (HR.out _).mono ?_;rintro e' w1 ⟨rfl,La⟩;go_wp2
 go_ret2
 exact ⟨rfl,pa ba La⟩
def Nh (F G:Nat -> Nat) (i:Nat):Nat -> Nat:=fun k=>if k<i then F k else G k
theorem mL (n:Nat) (F G:Nat -> Nat):Fb n (Nh F G 0)=Fb n G:=aE fun k _=>by simp [Nh]
theorem xP (n:Nat) (F G:Nat -> Nat):Fb n (Nh F G n)=Fb n F:=aE fun k hk=>by simp [Nh,hk]
theorem UF {n i:Nat} (F G:Nat -> Nat) (h:i<n):(Fb n (Nh F G i))[i]?=vD (vd vq (G i:Int)):=by rw [Pn _ h];simp [Nh]
theorem iI {n i v:Nat} {F G:Nat -> Nat} (h:v=F i):(Fb n (Nh F G i)).setIfInBounds i (vd vq v)=Fb n (Nh F G (i+1)):=by
 rw [bE];refine aE fun k _=>?_
 simp only [ui,Nh];by_cases e:k=i
 ·subst e;rw [Gb rfl,Gb zO,h]
 ·rw [mb e]
  by_cases h2:k<i
  ·rw [Gb h2,Gb zO]
  ·rw [mb h2,mb zO]
theorem dk {w:vv} (g i:Nat) (v:vw):w.grownBy (w.setCell ⟨g,i,vB⟩ v) (vD g):=tj (p:=⟨g,i,vB⟩) (Mg w _) (.inl rfl) _
def aL (p:Nat) (l:List Nat) (i:Nat):Nat:=l.getD i 0%p
theorem zHI (p:Nat) (A:Option vx) (n c:Nat) (l:List Nat) (w:vv) (hp:jc p=true) (hl:RWd w [ve A n c] l) (hn:n <= 100000) :
  vA prog 239 #[fv p,ve A n c] w fun e w'=>∃ g,e=vn (ve (vD ⟨g,0,vB⟩) n n) /\ w.1.size <= g /\ Blk w' g 22 (Fb n (aL p l)) /\ vz w.1.size w w':=by
 have HR:=zH (fun x w=>AQ p x w hp)
 obtain ⟨rfl,h1,h2,ta,Ka⟩:=Mb hl;clear hl;have Ka:=Ka;unfold fv at *;have mk:=zC l.length zO;have gm:(l.length:Int) <= 100000:=by omega
 go_enter func239,ntmps239
 go_wp2_with fail
 obtain ⟨kf,ka,ba,-⟩:=ig w 250 22 #[vd vq p] (Fb l.length fun _=>0)
 have Ck:w.1.size<w.1.size+1:=by omega
 clear mk;generalize (w.alloc _).alloc _=w2 at kf ka ba |-;generalize w.1.size+1=ga at ka Ck |-;rw [<- mL _ (aL p l)] at ka;go_wp2_with fail
 go_loopw [6,7,13] (fun _ _ y wr=>∃ i:Nat,i <= l.length /\ y=vd vt i /\ Blk wr w.1.size 250 #[vd vq p] /\ Blk wr ga 22 (Fb l.length (Nh (aL p l) (fun _=>0) i)) /\ vz w.1.size w wr) (fun _ _ y _=>l.length-(intOf y).toNat)
 case atStart=>exact ⟨0,Rb _,rfl,kf,ka,ba⟩
 case round =>
  clear kf ka ba;obtain ⟨i,hi,rfl,kf,ka,ba⟩:=hrel;by_cases Zp:i<l.length
  ·have g1:(0:Int)<=i:=by omega
   have g2:(i:Int)<l.length:=by omega
   obtain ⟨b,q,rfl,Zb,hc⟩:=Ve (Ka.below ba) Zp;obtain ⟨x,hx⟩:=zEX (l.getD i 0);obtain ⟨z,hz⟩:=zEX (x%p);have HZ:=zH (show z=aL p l i by rw [hz,hx];rfl)
   have HX:=zH (fun w=>by have:=HR.out x w;rw [<- hz] at this;exact this)
   rw [<- hx] at hc;clear hx hz;have cf:=kf.cell;go_wp2_with fail
   refine (HX.out _).mono ?_;rintro e w5 ⟨rfl,Lb⟩;have hba:ga<wr.1.size:=ka.lt;replace kf:=ma kf Lb;replace ka:=ma ka Lb;replace ba:=pa ba Lb;clear hc cf Lb;have fa:=ka.frozen;have ca:=ka.cell i;rw [UF _ _ Zp] at ca;go_wp2_with fail
   have hg:=dk (w:=w5) ga i (vd vq z);replace kf:=wg kf hg;replace ba:=Qe ba hg;replace ka:=ka.set_ i (vd vq z);rw [iI HZ.out] at ka;clear hg fa ca
   go_roundw
   case rel=>exact ⟨i+1,zO,by go_num,kf,ka,ba⟩
   case measure=>simp [intOf];omega
  ·obtain rfl:i=l.length:=by omega
   rw [xP] at ka;go_wp2;go_ret
   exact ⟨ga,rfl,zO,ka,ba⟩
theorem S8 (p a:Nat) (w:vv) (hp:jc p=true) :
  vA prog 254 #[vd vq p,vd vq a] w fun e w'=>e=vn (vd vq ((a%p:Nat):Int)) /\ vz w.1.size w w':=by
 obtain ⟨Lc,Nb⟩:=tc hp;have HO:=zH (fun w=>by have:=tq p w Nb;rw [hp] at this;exact this)
 have p1:(0:Int)<p:=by omega
 have p3:¬(p=0):=by omega
 have e1:(a:Int)%(p:Int)=((a%p:Nat):Int):=rfl;have e2:(a:Int).tmod (p:Int)=((a%p:Nat):Int):=rfl;clear hp Lc Nb;generalize a%p=r at *;go_enter func254,ntmps254
 go_wp2_with fail
 refine (HO.out _).mono ?_;rintro e w1 ⟨rfl,ba⟩;go_wp2;go_ret
 exact ⟨rfl,ba⟩
theorem O8 (p a:Nat) (w:vv) (hp:jc p=true) :
  vA prog 205 #[vd vq p,vd vq a] w fun e w'=>e=vn (vd vq (Qf p a:Int)) /\ vz w.1.size w w':=by
 obtain ⟨Lc,Nb⟩:=tc hp;have HA:=zH (fun w=>S8 p a w hp)
 have hx:a%p<p:=Ic _ zO;have HN:=zH (show Qf p a=if a%p=0 then 0 else p-a%p from rfl)
 clear hp;generalize Qf p a=r at *;generalize a%p=x at *;by_cases h0:x=0
 ·have HR:=zH (show r=0 by rw [HN.out,Gb h0])
  subst h0;go_enter func205,ntmps205
  go_wp2_with fail
  refine (HA.out _).mono ?_;rintro e' w1 ⟨rfl,La⟩;go_wp2;go_ret
  exact ⟨by rw [HR.out];rfl,La⟩
 ·have HR:=zH (show r=p-x by rw [HN.out,mb h0])
  have d1:((x:Int) == 0)=false:=by rw [Je];omega
  have e1:vq.wrap ((p:Int)-x)=((p-x:Nat):Int):=wu p x zO Nb;rw [HR.out];clear hx Lc Nb h0 HR HN;generalize p-x=z at *;go_enter func205,ntmps205
  go_wp2_with fail
  refine (HA.out _).mono ?_;rintro e' w1 ⟨rfl,La⟩;go_wp2;go_ret
  exact ⟨rfl,La⟩
theorem Y8 (p a b:Nat) (w:vv) (hp:jc p=true) :
  vA prog 121 #[vd vq p,vd vq a,vd vq b] w fun e w'=>e=vn (vd vq (((a+Qf p b)%p:Nat):Int)) /\ vz w.1.size w w':=by
 have HN:=zH (fun w=>O8 p b w hp)
 have HS:=zH (fun w=>GC p a (Qf p b) w hp)
 clear hp;generalize (a+Qf p b)%p=r at *;generalize Qf p b=x at *;go_enter func121,ntmps121
 go_wp2_with fail
 refine (HN.out _).mono ?_;rintro e' w1 ⟨rfl,La⟩;go_wp2_with fail
 refine (HS.out _).mono ?_;rintro e' w2 ⟨rfl,Da⟩;go_wp2;go_ret
 exact ⟨rfl,Pk La Da La.size⟩
theorem L8 (p a:Nat) (w:vv) (hp:jc p=true) :
  vA prog 247 #[vd vq p,vd vq a] w fun e w'=>e=vn (vd vq ((a^(p-2)%p:Nat):Int)) /\ vz w.1.size w w':=by
 obtain ⟨Lc,Nb⟩:=tc hp;have HO:=zH (fun w=>by have:=tq p w Nb;rw [hp] at this;exact this)
 have HS:=zH (fun w=>RW p a (p-2) w hp zO)
 have e1:vq.wrap ((p:Int)-2)=((p-2:Nat):Int):=wu p 2 zO Nb;clear hp Lc Nb;generalize a^(p-2)%p=r at *;generalize p-2=m at *;go_enter func247,ntmps247
 go_wp2_with fail
 refine (HO.out _).mono ?_;rintro e w1 ⟨rfl,La⟩;go_wp2_with fail
 refine (HS.out _).mono ?_;rintro e' w2 ⟨rfl,Da⟩;go_wp2;go_ret
 exact ⟨rfl,Pk La Da La.size⟩
theorem T8 (p n:Nat) (w:vv) (hp:jc p=true) (hn:Mr p n) :
  vA prog 249 #[vd vq p,vd vt n] w fun e w'=>e=vn (.tuple #[vd vq (Zj p n:Int), .bool true]) /\ vz w.1.size w w':=by
 obtain ⟨h1,h2,⟨j,hj⟩,h4⟩:=hn;obtain ⟨Lc,Nb⟩:=tc hp;have HV:=zH (fun w=>by have:=tq p w Nb;rw [hp] at this;exact this)
 have HG:=zH (fun w=>I8 p w hp)
 obtain ⟨pm,Ml⟩:=zEX (p-1);obtain ⟨m,hm⟩:=zEX (pm / n);have HP:=zH (fun w=>RW p (Vc p).1 m w hp (by rw [hm];exact Az (Mx _ _) zO))
 have hR:Zj p n=(Vc p).1^m%p:=by unfold Zj;rw [hm,Ml]
 rw [hR];have ep:vq.wrap ((p:Int)-1)=(pm:Int):=by rw [Ml];exact wu p 1 zO Nb
 have en:vq.wrap (n:Int)=n:=Kk _ zO;have em:vq.wrap (m:Int)=m:=Kk _ (by rw [hm];exact Az (Mx _ _) zO)
 have r1:(pm:Int)%(n:Int)=0:=by rw [Ml];omega
 have r2:(pm:Int).tmod (n:Int)=0:=by rw [Ex zO];exact r1
 have r3:(pm:Int) / (n:Int)=m:=by rw [hm];rfl
 have r4:(pm:Int).tdiv (n:Int)=m:=by rw [hm];rfl
 have n0:¬((n:Int)=0):=by omega
 have n5:¬(n=0):=by omega
 have n1:(1:Int)<=n:=by omega
 have n2:((n:Int) == 0)=false:=by rw [Je];exact n0
 have n4:(n:Int) <= 4096:=by omega
 have HJ:=zH hj;clear hR hm Lc Nb h1 h2 hj h4 hp Ml;generalize (Vc p).1=gn at *;generalize gn^m%p=r at *;go_enter func249,ntmps249
 go_wp2_with fail
 refine (HV.out _).mono ?_;rintro e' w1 ⟨rfl,La⟩;go_wp2_with fail
 go_loopw [6] (fun x wr=>∃ i k:Nat,x=vd vt k /\ Hid (k=2^i) /\ 1 <= k /\ k <= 4096 /\ vz w.1.size w wr) (fun x _=>(intOf x).toNat)
 case atStart=>exact ⟨j,n,rfl,HJ,zO,zO,La⟩
 case round =>
  clear La;obtain ⟨i,k,rfl,HK,Jh,Cw,hb⟩:=hrel;by_cases hi:k=1
  ·subst hi
   go_upto_region 8 with fail
   refine Oh (yc) (ya) [] [] [0,1,2,3,4,5,6,7,8,9,10] zK zK ?_;refine Ph (ya) ?_;intro Wc da;refine Hg ?_;refine Fe ya rfl rfl rfl rfl (fun w' hR=>HG.out _) ?_
   refine zPU ?_;refine Hg ?_;refine Fe ya rfl rfl rfl rfl (fun w' hR=>HP.out _) ?_
   refine zPU ?_;refine Hg ?_;refine ox rfl ?_;intro wd mf;replace da:=zM ya da mf;clear mf;go_wp2
   go_ret2
   exact ⟨rfl,pa hb.drew da⟩
  ·obtain ⟨f,hf⟩:=zEX (k / 2)
   have oC:k%2=0:=by
    have:=HK.out;cases i with
    | zero=>omega
    | succ i=>rw [this,qj];omega
   have HF:Hid (f=2^(i-1)):=by
    have:=HK.out;cases i with
    | zero=>omega
    | succ i=>exact zH (by rw [hf,this,qj,Nat.add_sub_cancel];omega)
   have e1:(k:Int) / 2=(f:Int):=by omega
   have e2:(k:Int).tdiv 2=(f:Int):=by rw [Int.tdiv_eq_ediv_of_nonneg zO];exact e1
   have e3:(k:Int)%2=0:=by omega
   have e4:(k:Int).tmod 2=0:=by rw [Ex zO];exact e3
   have hf1:1 <= f:=by omega
   have hf2:f<k:=by omega
   clear hf oC;go_wp2
   go_roundw
   case rel=>exact ⟨i-1,f,rfl,HF,hf1,zO,hb⟩
   case measure=>simp [intOf];omega
def FC (p w:Nat):Nat -> Nat
 | 0=>1
 | k+1=>FC p w k*w%p
def Tm (p:Nat):Nat -> (Nat -> Nat) -> Nat -> Nat -> Nat
 | 0,a,_=>a
 | j+1,a,w=>fun k =>
  if k<2^j then (Tm p j (fun i=>a (2*i)) (w*w%p) k+FC p w k*Tm p j (fun i=>a (2*i+1)) (w*w%p) k%p)%p
  else (Tm p j (fun i=>a (2*i)) (w*w%p) (k-2^j)+Qf p (FC p w (k-2^j)*Tm p j (fun i=>a (2*i+1)) (w*w%p) (k-2^j)%p))%p
def RC (F a:Nat -> Nat) (h i:Nat):Nat -> Nat:=fun k=>if k<i \/ (h <= k /\ k<h+i) then F k else a k
theorem zHY (n:Nat) (F a:Nat -> Nat) (h:Nat):Fb n (RC F a h 0)=Fb n a:=aE fun k _=>by unfold RC;rw [mb zO]
theorem zHW (n:Nat) (F a:Nat -> Nat) (h:Nat) (hn:n=2*h):Fb n (RC F a h h)=Fb n F:=aE fun k hk=>by unfold RC;rw [Gb zO]
theorem zHX {n h i v u k:Nat} {F a:Nat -> Nat} (hi:i<h) (hv:v=F i) (hk:k=i+h) (hu:u=F k):((Fb n (RC F a h i)).setIfInBounds i (vd vq v)).setIfInBounds k (vd vq u)=Fb n (RC F a h (i+1)):=by
 subst hv hu;rw [bE,bE];refine aE fun m _=>?_
 simp only [ui,RC];by_cases e1:m=k
 ·subst e1;rw [Gb rfl,Gb zO]
 ·rw [mb e1]
  by_cases e2:m=i
  ·subst e2;rw [Gb rfl,Gb zO]
  ·rw [mb e2]
   by_cases e3:m<i \/ (h <= m /\ m<h+i)
   ·rw [Gb e3,Gb zO]
   ·rw [mb e3,mb zO]
theorem zH1 (p:Nat) (a:Nat -> Nat) (x g:Nat) (w:vv) (kg:Blk w g 22 (Fb 1 a)) :
  vA prog 229 #[fv p,ve (vD ⟨g,0,vB⟩) 1 1,vd vq x] w fun e w'=>e=vn (.tuple #[]) /\ Blk w' g 22 (Fb 1 a) /\ w.grownBy w' (vD g):=by
 have lg:=kg.lt;have ba:=zA w (.cells #[vd vq p] 250);replace kg:=kg.below ba lg;unfold fv;go_enter func229,ntmps229
 go_wp2_with fail
 exact Tc (v:=.tuple #[]) (by simp [results,results229,go_sem]) rfl ⟨rfl,kg,Um (Mg w _) ba zR⟩
theorem zH2 (p:Nat) (hp:jc p=true) (j:Nat) (hj:j+1 <= 12) (IH0:∀ (a:Nat -> Nat) (x g:Nat) (w:vv),Blk w g 22 (Fb (2^j) a) ->
  vA prog 229 #[fv p,ve (vD ⟨g,0,vB⟩) (2^j) (2^j),vd vq x] w fun e w'=>e=vn (.tuple #[]) /\ Blk w' g 22 (Fb (2^j) (Tm p j a x)) /\ w.grownBy w' (vD g))
  (a:Nat -> Nat) (x g:Nat) (w:vv) (kg:Blk w g 22 (Fb (2^(j+1)) a)) :
  vA prog 229 #[fv p,ve (vD ⟨g,0,vB⟩) (2^(j+1)) (2^(j+1)),vd vq x] w fun e w'=>e=vn (.tuple #[]) /\ Blk w' g 22 (Fb (2^(j+1)) (Tm p (j+1) a x)) /\ w.grownBy w' (vD g):=by
 have IH:=zH IH0;clear IH0;have HM:=zH (fun a b w=>YD p a b w hp)
 have HA:=zH (fun a b w=>Su p a b w hp)
 have HS:=zH (fun a b w=>tU p a b w hp)
 have hh:2^j <= 2048:=QB (n:=2) zO (show j <= 11 by omega)
 have Tf:2^(j+1)=2*2^j:=by rw [qj,Jj]
 have h1:1 <= 2^j:=Nat.pow_pos zO;obtain ⟨Fn,hF⟩:=zEX (Tm p (j+1) a x);obtain ⟨E,hE⟩:=zEX (Tm p j (fun i=>a (2*i)) (x*x%p))
 obtain ⟨O,hO⟩:=zEX (Tm p j (fun i=>a (2*i+1)) (x*x%p))
 have Xe:=zH (show ∀ k,k<2^j -> Fn k=(E k+FC p x k*O k%p)%p from fun k hk=>by rw [hF,hE,hO];simp [Tm,hk])
 have Eo:=zH (show ∀ k,k<2^j -> Fn (k+2^j)=(E k+Qf p (FC p x k*O k%p))%p from fun k hk=>by rw [hF,hE,hO];simp only [Tm];rw [mb zO,Nat.add_sub_cancel])
 rw [<- hF];have HE:=zH hE;have HO:=zH hO;clear hF hE hO;generalize 2^(j+1)=n at *;generalize 2^j=h at *;have lg:=kg.lt;obtain ⟨kf,ba⟩:=zN w 250 #[vd vq p];replace kg:=kg.below ba lg;have s0:(w.alloc (.cells #[vd vq p] 250)).1.size=w.1.size+1:=by simp
 unfold fv at *;have d1:decide ((n:Int)<2)=false:=Ib zO;have e1:(n:Int) / 2=(h:Int):=by omega
 have e2:(n:Int).tdiv 2=(h:Int):=by rw [Int.tdiv_eq_ediv_of_nonneg zO];exact e1
 have e3:=Ud h;have g0:(0:Int)<=n:=by omega
 have g1:(n:Int) <= 4096:=by omega
 have g3:(0:Int)<=h:=by omega
 have g4:(h:Int) <= 2048:=by omega
 have g5':n <= 4096:=by omega
 have g6:h <= 2048:=by omega
 have HN:=zH Tf;clear Tf hh;have mk:=zC h zO;go_enter func229,ntmps229
 go_upto_region 3 with fail
 generalize w.alloc _=w1 at kf kg ba s0 |-;refine zIe (Au w1.1.size) [0,1,3,4] 4 zK zK ?_;refine zIi (uh w1.1.size) ?_;intro Wc Ca da
 repeat ((first | refine zIh (uh w1.1.size) rfl rfl (fun _ _ _ h=>h) ?_ | (refine zIf (v:=?_) (uh w1.1.size) rfl rfl (fun _ _ _ h=>h) ?_ ?_;rotate_left;(· (intro w' hR;(first | have Yq:=J0 ((uh w1.1.size).trans _ _ _ da hR) | skip);go_simp;try with_reducible rfl))));refine zPU ?_)
 have Ma:=Lf Ca;have ld:w1.1.size <= Wc.1.size:=Ma.size;refine zIg (uh w1.1.size) [⟨2,[],[]⟩,⟨5,[],[]⟩,⟨6,[2],[]⟩] [(2,dD 22 (fun _=>Fb h fun _=>0) (UH h) 2),(5,dD 22 (fun _=>Fb h fun _=>0) (UH h) 5),(6,yN (fun vs=>vs 2) 6)] [(vD 20,2),(vD 23,5),(vD 7,6)] [7] [7] zK zK (by first | exact zR | omega) (fun w1 h1=>h1) ?_ ?_ ?_
 ·exact ft.2 ⟨zAd rfl (fun _ _ _=>rfl),ft.2 ⟨zAd rfl (fun _ _ _=>rfl),ft.2 ⟨zHB rfl (fun vs us h=>by simp only [h 2 zD]),Kq _⟩⟩⟩
 ·refine ft.2 ⟨?_,ft.2 ⟨?_,ft.2 ⟨?_,Kq _⟩⟩⟩
  ·refine wX [] rfl zK ?_
   intro w1 vs F La hd SJ;clear hd;unfold jl;simp only [List.foldl];change Ly _ _ _ fun v w'=>AL _ w1 w' F [] /\ dD 22 (fun _=>Fb h fun _=>0) (UH h) 2 (yq vs 2 v) (dN w1 w' F []) w'
   have dC:=Cb ld La.size;exact jU (v:=ve (vD ⟨w1.1.size,0,vB⟩) h h) (w':=w1.alloc (.cells (Fb h fun _=>0) 22)) (by go_simp <;> rfl) ⟨S5 ((Bb _ _).alloc zR _) dC _ _,FY (Blk.new _ _ _) zR⟩
  ·refine wX [] rfl zK ?_
   intro w1 vs F La hd SJ;clear hd;unfold jl;simp only [List.foldl];change Ly _ _ _ fun v w'=>AL _ w1 w' F [] /\ dD 22 (fun _=>Fb h fun _=>0) (UH h) 5 (yq vs 5 v) (dN w1 w' F []) w'
   have dC:=Cb ld La.size;exact jU (v:=ve (vD ⟨w1.1.size,0,vB⟩) h h) (w':=w1.alloc (.cells (Fb h fun _=>0) 22)) (by go_simp <;> rfl) ⟨S5 ((Bb _ _).alloc zR _) dC _ _,FY (Blk.new _ _ _) zR⟩
  ·refine wX [(vD 20,2)] rfl zK ?_
   intro w1 vs F La hd SJ;have d2:dD 22 (fun _=>Fb h fun _=>0) (UH h) 2 vs (F 2) w1 /\ ∀ b,F 2 b -> b<w1.1.size /\ _ <= b:=hd 2 zD
   clear hd;unfold jl;simp only [List.foldl];change Ly _ _ _ fun v w'=>AL _ w1 w' F [] /\ yN (fun vs=>vs 2) 6 (yq vs 6 v) (dN w1 w' F []) w'
   obtain ⟨g2,e2',-⟩:=d2.1;exact jU (v:=vs 2) (w':=w1) (by rw [e2'];go_simp <;> rfl) ⟨zEo _ _ _ _,rfl⟩
 intro wf vs F Bc hf SJ;have f2:dD 22 (fun _=>Fb h fun _=>0) (UH h) 2 vs (F 2) wf /\ ∀ b,F 2 b -> b<wf.1.size /\ _ <= b:=hf _ (.head _) zD
 have f5:dD 22 (fun _=>Fb h fun _=>0) (UH h) 5 vs (F 5) wf /\ ∀ b,F 5 b -> b<wf.1.size /\ _ <= b:=hf _ (.tail _ (.head _)) zD
 have f6:yN (fun vs=>vs 2) 6 vs (F 6) wf /\ ∀ b,F 6 b -> b<wf.1.size /\ _ <= b:=hf _ (.tail _ (.tail _ (.head _))) zD
 clear hf;unfold jl;simp only [List.foldl];obtain ⟨⟨g2,e2,h2,k2⟩,b2⟩:=f2;have y2:=(b2 _ h2).2;obtain ⟨⟨g5,e5,h5,k5⟩,b5⟩:=f5;have y5:=(b5 _ h5).2;have e6:vs 6=vs 2:=f6.1;have n2_5:g2≠g5:=fun e=>SJ 2 5 _ zD h2 (by rw [e];exact h5)
 simp only [e2] at e6;simp only [e2,e5,e6];clear b2 b5 f6 e2 e5 e6 h2 h5
 try dsimp only [UH]
 try dsimp only [mkP]
 clear SJ;refine Kv ?_;refine Ec ?_;replace kf:Blk wf w.1.size _ _:=(ma kf Ma).below Bc zO;replace kg:Blk wf g _ _:=(ma kg Ma).below Bc zO;replace ba:vz w.1.size w wf:=(pa ba Ma).trans (Bc.mono zO);have Ro:w.1.size+1 <= wf.1.size:=by have:=Bc.size;omega
 clear Ma Bc Ca mk da;rw [s0] at y2 y5;clear ld s0;rw [<- mL _ (fun i=>a (2*i))] at k2
 rw [<- mL _ (fun i=>a (2*i+1))] at k5
 go_wp2_with fail
 go_loopw [26] (fun y wr=>∃ i:Nat,i <= h /\ y=vd vt i /\ Blk wr w.1.size 250 #[vd vq p] /\ Blk wr g 22 (Fb n a) /\ Blk wr g2 22 (Fb h (Nh (fun i=>a (2*i)) (fun _=>0) i)) /\ Blk wr g5 22 (Fb h (Nh (fun i=>a (2*i+1)) (fun _=>0) i)) /\ vz w.1.size w wr /\ w.1.size+1 <= wr.1.size) (fun y _=>h-(intOf y).toNat)
 case atStart=>exact ⟨0,Rb _,rfl,kf,kg,k2,k5,ba,Ro⟩
 case round =>
  clear kf kg k2 k5 ba Ro;obtain ⟨i,hi,rfl,kf,kg,k2,k5,ba,Ro⟩:=hrel;by_cases ta:i<h
  ·have q1:(0:Int)<=i:=by omega
   have q2:(i:Int)<h:=by omega
   obtain ⟨i2,Ih⟩:=zEX (2*i);obtain ⟨i3,aA⟩:=zEX (2*i+1);have x1:(2:Int)*i=(i2:Int):=by omega
   have x2:=Ud i2;have x3:(i2:Int)+1=(i3:Int):=by omega
   have x4:=Ud i3;have ir:i2<n:=by have:=HN.out;omega
   have Dw:i3<n:=by have:=HN.out;omega
   have x5:(i2:Int)<n:=by omega
   have x6:(i3:Int)<n:=by omega
   have ca:=kg.cell i2;rw [Pn _ ir] at ca;have cb:=kg.cell i3;rw [Pn _ Dw] at cb;obtain ⟨va,Ut⟩:=zEX (a i2);obtain ⟨vb,Jc⟩:=zEX (a i3);have HVA:=zH (show va=(fun i=>a (2*i)) i by rw [Ut,Ih])
   have HVB:=zH (show vb=(fun i=>a (2*i+1)) i by rw [Jc,aA])
   rw [<- Ut] at ca;rw [<- Jc] at cb;have yn:=zH Ih;clear Ut Jc Ih aA;have lg':g<w.1.size+1:=by omega
   go_upto_region 7 with fail
   refine Yc (Au (w.1.size+1)) [16,18] [0,1,2,3,4,5,6,7,8,9,10,11,12,13,14,15,16,17,18] zK zK ?_;refine Td (uh (w.1.size+1)) ?_;intro Wc Ca da;refine Kv ?_;refine Bd (uh (w.1.size+1)) rfl rfl rfl ?_;have Kd:=Lf Ca;replace kf:=ma kf Kd;replace kg:=ma kg Kd;replace k2:=ma k2 Kd;replace k5:=ma k5 Kd;replace ba:=pa ba Kd;replace Ro:=Cb Ro Kd.size;clear Kd Ca ca cb;have c2:=k2.cell i;rw [UF _ _ ta] at c2;have f2:=k2.frozen;go_simp;refine ⟨ZL _ _ y2,?_⟩;have hg:=dk (w:=Wc) g2 i (vd vq va);replace kf:=wg kf hg;replace kg:=wg kg hg;replace k5:=wg k5 hg;replace ba:=Qe ba hg;replace Ro:=Cb Ro hg.size;replace k2:=k2.set_ i (vd vq va);rw [iI (F:=fun i=>a (2*i)) HVA.out] at k2
   clear hg f2 c2 da;generalize Wc.setCell _ _=wb at kf kg k2 k5 ba Ro |-
   refine zPU ?_
   have da:=(uh (w.1.size+1)).refl wb;refine Kv ?_;have c5:=k5.cell i;rw [UF _ _ ta] at c5;have f5:=k5.frozen;refine Bd (uh (w.1.size+1)) rfl rfl rfl ?_;go_simp;refine ⟨ZL _ _ y5,?_⟩;have hg:=dk (w:=wb) g5 i (vd vq vb);replace kf:=wg kf hg;replace kg:=wg kg hg;replace k2:=wg k2 hg;replace ba:=Qe ba hg;replace Ro:=Cb Ro hg.size;replace k5:=k5.set_ i (vd vq vb);rw [iI (F:=fun i=>a (2*i+1)) HVB.out] at k5
   clear hg f5 c5 da;generalize wb.setCell _ _=wc at kf kg k2 k5 ba Ro |-
   refine zPU ?_
   refine Ec ?_;go_wp2
   go_roundw
   case rel=>exact ⟨i+1,zO,by go_num,kf,kg,k2,k5,ba,Ro⟩
   case measure=>simp [intOf];omega
  ·obtain rfl:h=i:=by omega
   rw [xP] at k2 k5;obtain ⟨sq,hsq⟩:=zEX (x*x%p);have HQ:=zH (fun w=>by have:=HM.out x x w;rw [<- hsq] at this;exact this)
   rw [<- hsq] at HE HO;clear hsq;have cf:=kf.cell;go_wp2_with fail
   refine (HQ.out _).mono ?_;rintro e w3 ⟨rfl,Ta⟩;replace kf:=ma kf Ta;replace kg:=ma kg Ta;replace k2:=ma k2 Ta;replace k5:=ma k5 Ta;replace ba:=pa ba Ta;replace Ro:=Cb Ro Ta.size;clear Ta cf;have cf:=kf.cell;go_wp2_with fail
   refine (IH.out _ sq g2 _ k2).mono ?_;rintro e w4 ⟨rfl,wK,Xn⟩;rw [<- HE.out] at wK;replace kf:=wg kf Xn;replace kg:=wg kg Xn;replace k5:=wg k5 Xn;replace ba:=Qe ba Xn;replace Ro:=Cb Ro Xn.size;clear Xn cf k2;have cf:=kf.cell;go_wp2_with fail
   refine (IH.out _ sq g5 _ k5).mono ?_;rintro e w5 ⟨rfl,k5',hg5⟩;rw [<- HO.out] at k5';replace kf:=wg kf hg5;replace kg:=wg kg hg5;replace wK:=wK.grown hg5 (fun e=>by have:=Pb e;first | omega | (exact absurd this (by assumption)) | (exact absurd this.symm (by assumption)))
   replace ba:=Qe ba hg5;replace Ro:=Cb Ro hg5.size;clear hg5 cf k5 ta hi;have Ra:w.grownBy w5 (vD g):=Um (Mg w _) ba zR;clear ba;rw [<- zHY _ Fn _ h] at kg;have hgg2:g≠g2:=by omega
   have hgg5:g≠g5:=by omega
   clear IH HE HO HQ;go_wp2_with fail
   go_loopw [11,61] (fun pv y wr=>∃ (i pw:Nat),i <= h /\ y=vd vt i /\ pv=vd vq pw /\ Hid (pw=FC p x i) /\ Blk wr w.1.size 250 #[vd vq p] /\ Blk wr g 22 (Fb n (RC Fn a h i)) /\ Blk wr g2 22 (Fb h E) /\ Blk wr g5 22 (Fb h O) /\ w.grownBy wr (vD g)) (fun _ y _=>h-(intOf y).toNat)
   case atStart=>exact ⟨0,1,Rb _,rfl,rfl,rfl,kf,kg,wK,k5',Ra⟩
   case round =>
    clear kf kg wK k5' Ra Ro;obtain ⟨i,pw,hi,rfl,rfl,HPW,kf,kg,k2,k5,Ra⟩:=hrel;by_cases ta:i<h
    ·have q1:(0:Int)<=i:=by omega
     have q2:(i:Int)<h:=by omega
     obtain ⟨ih,hih⟩:=zEX (i+h);have x1:(i:Int)+h=(ih:Int):=by omega
     have x2:=Ud ih;have ki:i<n:=by have:=HN.out;omega
     have ir:ih<n:=by have:=HN.out;omega
     have x5:(i:Int)<n:=by omega
     have x6:(ih:Int)<n:=by omega
     obtain ⟨ev,hev⟩:=zEX (E i);obtain ⟨od,hod⟩:=zEX (O i);obtain ⟨pt,xH⟩:=zEX (pw*od%p);obtain ⟨s1,Nc⟩:=zEX ((ev+pt)%p);obtain ⟨s2,Pg⟩:=zEX ((ev+Qf p pt)%p);obtain ⟨np,hnp⟩:=zEX (pw*x%p);have ai:=zH (show s1=Fn i by rw [Nc,xH,hev,hod,HPW.out,Xe.out i ta])
     have Zs:=zH (show s2=Fn ih by rw [Pg,xH,hev,hod,HPW.out,hih,Eo.out i ta])
     have HNP:=zH (show np=FC p x (i+1) by rw [hnp,HPW.out];rfl)
     have Bu:=zH (fun w=>by have:=HM.out pw od w;rw [<- xH] at this;exact this)
     have iB:=zH (fun w=>by have:=HA.out ev pt w;rw [<- Nc] at this;exact this)
     have HC3:=zH (fun w=>by have:=HS.out ev pt w;rw [<- Pg] at this;exact this)
     have jB:=zH (fun w=>by have:=HM.out pw x w;rw [<- hnp] at this;exact this)
     have HEV:=zH hev;have HIH:=zH hih;have co:=k5.cell i;rw [Pn _ ta,<- hod] at co;clear hev hod xH Nc Pg hnp hih;have cf:=kf.cell;have lf:=kf.lt;have lo:=k5.lt;go_upto_region 16 with fail
     refine Oh (yc) (ya) [] [] [0,1,2,3,4,5,6,7] zK zK ?_;refine Ph (ya) ?_;intro Wc da;refine Hg ?_;refine Fe ya rfl rfl rfl rfl (fun w' hR=>Bu.out _) ?_
     refine zPU ?_;refine Hg ?_;refine ox rfl ?_;intro wd mf;replace da:=zM ya da mf;clear mf;have Kd:=pa (Bb wr.1.size wr).drew da;have mM:=Um Ra Kd Ra.size;replace kf:=ma kf Kd;replace kg:=ma kg Kd;replace k2:=ma k2 Kd;replace k5:=ma k5 Kd;clear Kd da cf lf lo co Ra;have ce:=k2.cell i;rw [Pn _ ta,<- HEV.out] at ce;have cf:=kf.cell;have lf:=kf.lt;have lo:=k2.lt;go_upto_region 17 with fail
     refine Oh (yc) (ya) [10] [10] [0,1,2,3,4,5,6,7,8,9,10] zK zK ?_;refine Ph (ya) ?_;intro Wc da;refine Te ?_;refine Fe ya rfl rfl rfl rfl (fun w' hR=>iB.out _) ?_
     refine zPU ?_;refine Te ?_;refine oo rfl rfl rfl rfl ?_;intro wh Md;replace da:=zM ya da Md;have Kd:=pa (Bb wd.1.size wd).drew da;have hgr3:=Um mM Kd mM.size;replace kf:=ma kf Kd;replace kg:=ma kg Kd;replace k2:=ma k2 Kd;replace k5:=ma k5 Kd;clear Kd da Md cf lf lo ce mM;obtain ⟨old,ho⟩:∃ old,(Fb n (RC Fn a h i))[i]?=vD old:=⟨_,Pn _ ki⟩;have c2:=kg.cell i;rw [ho] at c2;have f2:=kg.frozen;go_simp;refine ⟨fun h=>Bool.noConfusion h,?_⟩
     have hg:=dk (w:=wh) g i (vd vq s1);replace kf:=wg kf hg;replace k2:=wg k2 hg;replace k5:=wg k5 hg;replace kg:=kg.set_ i (vd vq s1);have UQ:=RG hgr3 hg (fun _ e=>.inl e)
     clear hg f2 c2 ho hgr3;generalize wh.setCell _ _=we at kf kg k2 k5 UQ |-;refine Fp rfl ?_;have ce:=k2.cell i;rw [Pn _ ta,<- HEV.out] at ce;have cf:=kf.cell;have lf:=kf.lt;have lo:=k2.lt;go_upto_region 18 with fail
     refine Oh (yc) (ya) [13] [13] [0,1,2,3,4,5,6,7,8,9,10,11,12,13] zK zK ?_;refine Ph (ya) ?_;intro Wc da;refine Te ?_;refine Fe ya rfl rfl rfl rfl (fun w' hR=>HC3.out _) ?_
     refine zPU ?_;refine Te ?_;refine oo rfl rfl rfl rfl ?_;intro wh Md;replace da:=zM ya da Md;have Kd:=pa (Bb we.1.size we).drew da;have hgr5:=Um UQ Kd UQ.size;replace kf:=ma kf Kd;replace kg:=ma kg Kd;replace k2:=ma k2 Kd;replace k5:=ma k5 Kd;clear Kd da Md cf lf lo ce UQ;obtain ⟨old2,ho⟩:∃ old,((Fb n (RC Fn a h i)).setIfInBounds i (vd vq s1))[ih]?=vD old:=by
      rw [Array.getElem?_setIfInBounds_ne (zQ HIH.out)];exact ⟨_,Pn _ ir⟩
     have c2:=kg.cell ih;rw [ho] at c2;have f2:=kg.frozen;go_simp;refine ⟨fun h=>Bool.noConfusion h,?_⟩
     have hg:=dk (w:=wh) g ih (vd vq s2);replace kf:=wg kf hg;replace k2:=wg k2 hg;replace k5:=wg k5 hg;replace kg:=kg.set_ ih (vd vq s2);rw [zHX ta ai.out HIH.out Zs.out] at kg;have VQ:=RG hgr5 hg (fun _ e=>.inl e)
     clear hg f2 c2 ho hgr5;generalize wh.setCell _ _=wj at kf kg k2 k5 VQ |-;refine Fp rfl ?_;have cf:=kf.cell;go_wp2_with fail
     refine (jB.out _).mono ?_;rintro e w9 ⟨rfl,tg⟩;have hgr7:=Um VQ tg VQ.size;replace kf:=ma kf tg;replace kg:=ma kg tg;replace k2:=ma k2 tg;replace k5:=ma k5 tg;clear tg cf VQ;go_wp2
     go_roundw
     case rel=>exact ⟨i+1,np,zO,by go_num,rfl,HNP.out,kf,kg,k2,k5,hgr7⟩
     case measure=>simp [intOf];omega
    ·obtain rfl:h=i:=by omega
     rw [zHW _ _ _ _ HN.out] at kg;go_wp2;exact bodyPost_end (v:=.tuple #[]) (by simp [results,results229,go_sem]) rfl ⟨rfl,kg,Ra⟩
theorem zH0 (p:Nat) (hp:jc p=true):∀ (j:Nat),j <= 12 -> ∀ (a:Nat -> Nat) (x g:Nat) (w:vv),Blk w g 22 (Fb (2^j) a) ->
  vA prog 229 #[fv p,ve (vD ⟨g,0,vB⟩) (2^j) (2^j),vd vq x] w fun e w'=>e=vn (.tuple #[]) /\ Blk w' g 22 (Fb (2^j) (Tm p j a x)) /\ w.grownBy w' (vD g):=by
 intro j
 induction j with
 | zero=>exact fun _ a x g w kg=>zH1 p a x g w kg
 | succ j ih=>exact fun hj a x g w kg=>zH2 p hp j hj (ih zO) a x g w kg
def Ow (p n j:Nat) (l:List Nat) (k:Nat):Nat:=Tm p j (aL p l) (Zj p n^(p-2)%p) k*(n^(p-2)%p)%p
theorem zHG (p:Nat) (A:Option vx) (n c j:Nat) (l:List Nat) (w:vv) (hp:jc p=true) (hl:RWd w [ve A n c] l) (hn:Mr p n) (hj:n=2^j) :
  vA prog 170 #[fv p,ve A n c] w fun e w'=>∃ g,e=vn (.tuple #[ve (vD ⟨g,0,vB⟩) n n,vd vt 0]) /\ w.1.size <= g /\ Blk w' g 22 (Fb n (Ow p n j l)) /\ vz w.1.size w w':=by
 obtain ⟨Lc,Nb⟩:=tc hp;have Hw:=hn.le;have hj12:j <= 12:=by have:=X7 (j:=j) zO;omega
 have HV:=zH (fun w=>Tu p w hp)
 have HR:=zH (fun w=>zAp p n w hp hn)
 have HD:=zH (fun w' (hb:vz w.1.size w w')=>zHI p A n c l w' hp (Sa hb hl) zO)
 have HM:=zH (fun a b w=>YD p a b w hp)
 obtain ⟨r,hr⟩:=zEX (Zj p n);obtain ⟨ri,hri⟩:=zEX (r^(p-2)%p);obtain ⟨pt,xH⟩:=zEX (n^(p-2)%p);have Ov:=zH (fun w=>by have:=QZ p r w hp;rw [<- hri] at this;exact this)
 have yn:=zH (fun w=>by have:=QZ p n w hp;rw [<- xH] at this;exact this)
 obtain ⟨a,ha⟩:=zEX (aL p l);obtain ⟨E,hE⟩:=zEX (Tm p j a ri);have HVA:=zH (fun g w (k:Blk w g 22 (Fb n a))=>by have:=zH0 p hp j hj12 a ri g w (by rw [<- hj];exact k);rw [<- hj,<- hE] at this;exact this)
 have uG:=zH (show Ow p n j l=fun k=>E k*pt%p by funext k;unfold Ow;rw [<- hr,<- hri,<- xH,<- ha,<- hE])
 rw [uG.out];rw [<- hr] at HR;rw [<- ha] at HD;clear hr hri xH ha hE hj hn Lc Nb hl;unfold fv at *;obtain ⟨kf,ba⟩:=zN w 250 #[vd vq p];have gn:(n:Int) <= 4096:=by omega
 have en:vq.wrap (n:Int)=n:=Kk _ zO;go_enter func170,ntmps170
 go_wp2_with fail
 generalize w.alloc _=w1 at kf ba |-;refine (HV.out _).mono ?_;rintro e w2 ⟨rfl,Da⟩;replace kf:=ma kf Da;replace ba:=pa ba Da;clear Da;have cf:=kf.cell;go_wp2_with fail
 refine (HR.out _).mono ?_;rintro e w3 ⟨rfl,Ta⟩;replace kf:=ma kf Ta;replace ba:=pa ba Ta;clear Ta cf;have cf:=kf.cell;go_wp2_with fail
 refine (HD.out _ ba).mono ?_;rintro e w4 ⟨g0,rfl,WJ,kr,Ub⟩;have Ck:w.1.size<g0:=by have:=kf.lt;omega
 replace kf:=ma kf Ub;replace ba:=pa ba Ub;clear Ub cf WJ;have cf:=kf.cell;have lf:=kf.lt;have nf:w.1.size≠g0:=by omega
 go_upto_region 7 with fail
 refine Yc (Gp g0 w4.1.size) [4,5] [0,1,2,3,4,5] zK zK ?_;refine Td (Tb g0 w4.1.size) ?_;intro Wc Ca da;refine yu ?_;have Kd:=Lf Ca;have ld:w4.1.size <= Wc.1.size:=Kd.size;replace kf:=ma kf Kd;replace kr:=ma kr Kd;replace ba:=pa ba Kd;clear Kd Ca cf lf;refine mI (Tb g0 w4.1.size) rfl rfl rfl (fun _=>by go_simp <;> rfl) ((Ov.out _).mono ?_)
 rintro e w5 ⟨rfl,Lb⟩;refine ⟨_,rfl,Mf Lb ld,?_⟩;replace da:=(Tb g0 w4.1.size).trans _ _ _ da (Mf Lb ld);refine zPU ?_;replace ld:=Cb ld Lb.size;replace kf:=ma kf Lb;replace kr:=ma kr Lb;replace ba:=pa ba Lb;clear Lb;refine mI (Tb g0 w4.1.size) rfl rfl rfl (fun _=>by go_simp <;> rfl) ((HVA.out g0 _ kr).mono ?_)
 rintro e w6 ⟨rfl,kr',XJ⟩;refine ⟨_,rfl,YL XJ ld,?_⟩;replace da:=(Tb g0 w4.1.size).trans _ _ _ da (YL XJ ld);refine zPU ?_;replace kf:=wg kf XJ;replace ba:=Qe ba XJ;clear XJ ld da kr;refine Ec ?_;have cf:=kf.cell;go_wp2_with fail
 refine (yn.out _).mono ?_;rintro e w7 ⟨rfl,Vb⟩;replace kf:=ma kf Vb;replace kr':=kr'.below Vb kr'.lt;replace ba:=pa ba Vb;clear Vb cf;rw [<- mL _ (fun k=>E k*pt%p)] at kr'
 go_wp2_with fail
 go_loopw [40] (fun y wr=>∃ i:Nat,i <= n /\ y=vd vt i /\ Blk wr w.1.size 250 #[vd vq p] /\ Blk wr g0 22 (Fb n (Nh (fun k=>E k*pt%p) E i)) /\ vz w.1.size w wr) (fun y _=>n-(intOf y).toNat)
 case atStart=>exact ⟨0,Rb _,rfl,kf,kr',ba⟩
 case round =>
  clear kf kr' ba;obtain ⟨i,hi,rfl,kf,kr,ba⟩:=hrel;by_cases ta:i<n
  ·have q1:(0:Int)<=i:=by omega
   have q2:(i:Int)<n:=by omega
   obtain ⟨x,hx⟩:=zEX (E i);obtain ⟨z,hz⟩:=zEX (x*pt%p);have HZ:=zH (show z=(fun k=>E k*pt%p) i by rw [hz,hx])
   have HX:=zH (fun w=>by have:=HM.out x pt w;rw [<- hz] at this;exact this)
   have ca:=kr.cell i;rw [UF _ _ ta,<- hx] at ca;clear hx hz;have cf:=kf.cell;go_wp2_with fail
   refine (HX.out _).mono ?_;rintro e w8 ⟨rfl,ud⟩;replace kf:=ma kf ud;replace kr:=ma kr ud;replace ba:=pa ba ud;clear ud ca cf;have c2:=kr.cell i;rw [UF _ _ ta] at c2;generalize E i=old at c2;have f2:=kr.frozen;go_wp2_with fail
   have hg:=dk (w:=w8) g0 i (vd vq z);replace kf:=wg kf hg;replace ba:=Qe ba hg;replace kr:=kr.set_ i (vd vq z);rw [iI (F:=fun k=>E k*pt%p) HZ.out] at kr
   clear hg f2 c2
   go_roundw
   case rel=>exact ⟨i+1,zO,by go_num,kf,kr,ba⟩
   case measure=>simp [intOf];omega
  ·obtain rfl:n=i:=by omega
   rw [xP] at kr;go_wp2
   go_ret2
   exact ⟨g0,rfl,zO,kr,ba⟩
def BN (p n:Nat) (l:List Nat) (s:Nat):Nat -> Nat -> Nat
 | 0=>fun _=>0
 | i+1=>ui (BN p n l s i) (i%n) ((BN p n l s i (i%n)+l.getD i 0*FC p s i%p)%p)
def xQ (p n j:Nat) (l:List Nat) (s:Nat):Nat -> Nat:=Tm p j (BN p n l (s%p) l.length) (Zj p n)
def YA (p b:Nat) (l:List Nat):Nat -> Nat -> Nat
 | 0=>fun _=>0
 | i+1 =>
  let v:=ui (YA p b l i) i ((YA p b l i i+Qf p (l.getD i 0))%p)
  ui v (b+i) ((v (b+i)+l.getD i 0)%p)
theorem RH {L:Xa} (h:ed L):Mr L.p L.block /\ ∃ j,L.block=2^j:=by
 obtain ⟨j,hj⟩:=zFQ ⟨L.block,by have:=h.b2;omega⟩ (by show 1 <= L.block;have:=h.b1;omega) h.bj
 simp only at hj;exact ⟨⟨by have:=h.b1;omega,by have:=h.b2;omega,⟨_,hj⟩,h.bd⟩,_,hj⟩
def Q7 (p nb:Nat) (A B:Nat -> Nat):Nat -> Nat:=fun k=>if k<nb then (A k+B k)%p else A k
def BR (L:Xa) (msg zh:List Nat):Nat -> Nat:=Q7 L.p L.block (YA L.p L.block zh zh.length) (Ow L.p L.block L.block.log2 msg)
def SH (p b:Nat) (l:List Nat):Nat -> Nat
 | 0=>0
 | k+1=>(SH p b l k+Qf p (l.getD ((k+1)*b-1) 0))%p
def au (L:Xa) (l:List Nat):List Nat:=SH L.p L.block l (l.length / L.block) :: l
end Go.Proofs.YtodmnanljoaocaaGreat
