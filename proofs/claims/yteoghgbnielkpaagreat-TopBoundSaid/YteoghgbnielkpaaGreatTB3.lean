/- A part of the proof. No condition. -/
import Derived.Test.YteoghgbnielkpaaGreatTB1
import Derived.Deep.RegionHeld3
import Derived.BigQuiet
import Derived.Deep.QuietTactic

set_option maxRecDepth 100000
set_option maxHeartbeats 8000000
set_option linter.unusedVariables false
set_option linter.unusedSimpArgs false
namespace Go.Proofs.YteoghgbnielkpaaGreat
open Go.RowKit
open Tryz
open Go renaming World->vw, Value->vx, Addr->vy, TypeId->vz, Calls->vB
open Go.Value renaming int->vd, slice->ve
open Go.IntKind renaming i64->vq, u8->vu
open Go.Ending renaming returned->vl
open Go.RowKit renaming Below->vA
open Go.Act renaming put->vG
open Option renaming none->vD, some->vE
structure Pd (R:vw -> vw -> Prop):Prop where
 refl:∀ w,R w w
 trans:∀ a b c,R a b -> R b c -> R a c
theorem zM {R:vw -> vw -> Prop} (M:Pd R) {a b c:vw} (h:R a b) (k:R b c):R a c:=M.trans _ _ _ h k
def Wb (w w':vw):Prop:=vA w.1.size w w'
theorem oa:Pd Wb:=⟨fun w=>tb _ w,fun _ _ _ h k=>ma h k⟩
def Vk (g:Nat) (w w':vw):Prop:=w.grownBy w' (vE g)
theorem oe (g:Nat):Pd (Vk g):=⟨fun w=>Ce w _,fun _ _ _ h k=>Mr h k fun _ e=>.inl e⟩
section
variable {P:Program} {ops:Array Oper} {Q:Exit -> Act -> vw -> Prop} {R:vw -> vw -> Prop}
theorem oS {S S':vw -> Prop} (hS:∀ w,S' w -> S w):∀ (fuel:Nat) (Aa:Array Bool) (a:Act) (w:vw),wpAnyH P .any ops Q S' fuel Aa a w -> wpAnyH P .any ops Q S fuel Aa a w
 | 0,_,_,_,h=>h
 | fuel+1,_,_,_,h=>⟨h.1,fun i hi=>wpOp_mono (fun a' w' h'=>⟨hS _ h'.1,oS hS fuel _ a' w' h'.2⟩) (h.2 i hi)⟩
def Tn (P:Program) (ops:Array Oper) (Q:Exit -> Act -> vw -> Prop) (R:vw -> vw -> Prop) (fuel:Nat) (Aa:Array Bool) (a:Act) (w:vw):Prop :=
 wpAnyH P .any ops Q (R w) fuel Aa a w
theorem lO {id:Nat} {a:Act} {w:vw} {l:List Oper} (R:vw -> vw -> Prop) (hm:P.follows .mixedOrders=true) (h:Tn P l.toArray Q R l.length (List.replicate l.length false).toArray a w.drew):(Code.region id l.toArray true).wp P Q a w:=by
 refine wp_region_held (S:=R w.drew) hm ?_;have e:Array.replicate l.toArray.size false=(List.replicate l.length false).toArray:=by simp
 rw [e]
 simpa [Tn] using h
theorem gY {fuel:Nat} {Aa:Array Bool} {a:Act} {w:vw} (hr:Region.ready .any ops Aa=[]) (h:Q .normal a w):Tn P ops Q R fuel Aa a w:=wpAnyH_done hr h fuel
end
section
variable {P:Program} {l:List Oper} {Q:Exit -> Act -> vw -> Prop} {R:vw -> vw -> Prop}
theorem Qm (i:Nat) {v:vx} {fuel:Nat} {Aa:Array Bool} {a:Act} {w:vw} (M:Pd R) (ta:i<l.length)
  (hs:Region.noSelect l.toArray=true) (hf:Region.free .any l.toArray Aa i=true) (hr:(Region.ready .any l.toArray Aa).contains i=true)
  (hQ:∀ c a w,Q (.panic c) (a.put l[i].dst v) w -> Q (.panic c) a w)
  (hy:(Region.wanted l[i] (yielded l.toArray a.tmps)=true /\ ∀ w',R w w' -> (execOp a.eval l[i]).run P w'= .ok (.value v) w') \/ (Region.wanted l[i] (yielded l.toArray a.tmps)=false /\ v=undef))
  (h:Tn P l.toArray Q R fuel (Aa.setIfInBounds i true) (a.put l[i].dst v) w):Tn P l.toArray Q R (fuel+1) Aa a w :=
 wpAnyH_take (i:=i) (oi:=l[i]) (by simp [ta]) hs hf hr hQ hy (M.refl w) h
theorem zCb (i:Nat) {fuel:Nat} {Aa:Array Bool} {a:Act} {w:vw} (M:Pd R) (ta:i<l.length) (hr:Region.ready .any l.toArray Aa=[i])
  (hw:Region.wanted l[i] (yielded l.toArray a.tmps)=true)
  (h:l[i].wp P a w (fun a' w'=>R w w' /\ Tn P l.toArray Q R fuel (Aa.setIfInBounds i true) a' w') Q):Tn P l.toArray Q R (fuel+1) Aa a w:=by
 refine ⟨fun h0=>absurd (hr ▸ h0) zS,fun j hj=>?_⟩
 rw [hr,Zo] at hj;subst hj;unfold wpOp;have hi:l.toArray[j]?=vE l[j]:=by simp [ta]
 simp only [hi,hw,if_true];exact .inl (Oper.wp_mono (fun a' w' h'=>⟨h'.1,oS (fun w2 h2=>M.trans _ _ _ h'.1 h2) _ _ _ _ h'.2⟩) h)
theorem zCa (i:Nat) {f:FuncId} {vals:Array vx} {fuel:Nat} {Aa:Array Bool} {a:Act} {w:vw} (M:Pd R) (ta:i<l.length) (hr:Region.ready .any l.toArray Aa=[i])
  (hw:Region.wanted l[i] (yielded l.toArray a.tmps)=true)
  (h:vB P f vals w fun e w'=>∃ v,e=vl v /\ R w w' /\ Tn P l.toArray Q R fuel (Aa.setIfInBounds i true) (a.put l[i].dst v) w')
  (Tc:∀ w,(execOp a.eval l[i]).run P w= .ok (.enter f vals) w):Tn P l.toArray Q R (fuel+1) Aa a w:=by
 refine zCb i M ta hr hw ?_;unfold Oper.wp;rw [Tc w];refine Calls.mono h ?_;rintro e w' ⟨v,rfl,h1,h2⟩;exact ⟨h1,h2⟩
end
section
variable {P:Program} {l:List Oper} {Q:Exit -> Act -> vw -> Prop} {R:vw -> vw -> Prop}
def wpS (P:Program) (l:List Oper) (Q:Exit -> Act -> vw -> Prop) (R:vw -> vw -> Prop) (i:Nat) (fuel:Nat) (Aa:Array Bool) (a:Act) (w:vw):Prop :=
 ∃ (h:i<l.length),Region.wanted l[i] (yielded l.toArray a.tmps)=true /\ l[i].wp P a w (fun a' w'=>R w w' /\ Tn P l.toArray Q R fuel (Aa.setIfInBounds i true) a' w') Q
theorem wpS_op {i fuel:Nat} {Aa:Array Bool} {a:Act} {w:vw} (M:Pd R) (h:wpS P l Q R i fuel Aa a w):wpOp P l.toArray Q i (fun a' w'=>R w w' /\ wpAnyH P .any l.toArray Q (R w) fuel (Aa.setIfInBounds i true) a' w') a w:=by
 obtain ⟨ta,hw,h⟩:=h;unfold wpOp;have hi:l.toArray[i]?=vE l[i]:=by simp [ta]
 simp only [hi,hw,if_true];exact .inl (Oper.wp_mono (fun a' w' h'=>⟨h'.1,oS (fun w2 h2=>M.trans _ _ _ h'.1 h2) _ _ _ _ h'.2⟩) h)
theorem zJZ {i:Nat} {f:FuncId} {vals:Array vx} {fuel:Nat} {Aa:Array Bool} {a:Act} {w:vw} (ta:i<l.length) (hw:Region.wanted l[i] (yielded l.toArray a.tmps)=true)
  (h:vB P f vals w fun e w'=>∃ v,e=vl v /\ R w w' /\ Tn P l.toArray Q R fuel (Aa.setIfInBounds i true) (a.put l[i].dst v) w')
  (Tc:∀ w,(execOp a.eval l[i]).run P w= .ok (.enter f vals) w):wpS P l Q R i fuel Aa a w:=by
 refine ⟨ta,hw,?_⟩;unfold Oper.wp;rw [Tc w];refine Calls.mono h ?_;rintro e w' ⟨v,rfl,h1,h2⟩;exact ⟨h1,h2⟩
end
theorem ju {P:Program} {o:Oper} {ops:Array Oper} {a:Act} {v:vx} {R:vw -> vw -> Prop} {w:vw} (hw:Region.wanted o (yielded ops a.tmps)=true) (h:∀ w',R w w' -> (execOp a.eval o).run P w'= .ok (.value v) w') :
  (Region.wanted o (yielded ops a.tmps)=true /\ ∀ w',R w w' -> (execOp a.eval o).run P w'= .ok (.value v) w') \/ (Region.wanted o (yielded ops a.tmps)=false /\ v=undef):=.inl ⟨hw,h⟩
theorem zAS {P:Program} {w:vw} {t e:vz} {size bytes:Nat} {z:vx} (E:Tq P t e size bytes z) (A:Option vy) (n c h:Nat) (hc:h <= c) :
  (Instr.slice t (ve A n c) vD (vE (vd vq h)) vD).run P w= .ok (ve A h c) w:=by
 obtain ⟨ht,⟨i,hi,hz,hs,Em⟩,uJ,jb⟩:=E;have he:P.elem t=e:=by simp [Program.elem,ht]
 rw [run_slice_h (P:=P) w t A n c (by rw [he];exact ht) vq (h:Int) zO zO,he]
 cases A <;> simp [sizeOf,typeInfo,hi,sliced,Result.andThen,Addr.add]
def LD (l:List Oper) (hs:List Nat):List Nat -> Array Bool -> Bool
 | [],Aa=>(Region.ready .any l.toArray Aa).isEmpty
 | i :: rest,Aa=>decide (i<l.length)&&Region.free .any l.toArray Aa i&&(Region.ready .any l.toArray Aa).contains i &&
   (!hs.contains i||Region.ready .any l.toArray Aa == [i])&&LD l hs rest (Aa.setIfInBounds i true)
def Po (P:Program) (l:List Oper) (hs:List Nat) (Q:Exit -> Act -> vw -> Prop) (R:vw -> vw -> Prop) (order:List Nat) (Aa:Array Bool) (a:Act) (w:vw):Prop :=
 Region.noSelect l.toArray=true -> LD l hs order Aa=true -> Tn P l.toArray Q R order.length Aa a w
section
variable {P:Program} {l:List Oper} {hs:List Nat} {Q:Exit -> Act -> vw -> Prop} {R:vw -> vw -> Prop} {rest:List Nat} {i:Nat} {o:Oper} {Aa:Array Bool} {a:Act} {w:vw}
theorem zd {id:Nat} (R:vw -> vw -> Prop) (hs order:List Nat) (hm:P.follows .mixedOrders=true) (Xa:(Region.noSelect l.toArray&&order.length == l.length&&LD l hs order (List.replicate l.length false).toArray)=true)
  (h:Po P l hs Q R order (List.replicate l.length false).toArray a w.drew):(Code.region id l.toArray true).wp P Q a w:=by
 simp only [Vb,Dh] at Xa;refine lO R hm ?_;rw [<- Xa.1.2];have:=h Xa.1.1 Xa.2
 rwa [Xa.1.2] at this |-
theorem Gv (M:Pd R) {order:List Nat} (h:∀ W,R w W -> Po P l hs Q R order Aa a W):Po P l hs Q R order Aa a w:=h w (M.refl w)
theorem Hc (h:Q .normal a w):Po P l hs Q R [] Aa a w:=fun _ Xa=>gY (by simpa [LD] using Xa) h
theorem gW (h:LD l hs (i :: rest) Aa=true):i<l.length /\ Region.free .any l.toArray Aa i=true /\ (Region.ready .any l.toArray Aa).contains i=true /\
  (hs.contains i=true -> Region.ready .any l.toArray Aa=[i]) /\ LD l hs rest (Aa.setIfInBounds i true)=true:=by
 unfold LD at h;simp only [Vb,Bool.or_eq_true,Gl,yo,Dh] at h;obtain ⟨⟨⟨⟨h1,h2⟩,h3⟩,h4⟩,h5⟩:=h;refine ⟨h1,h2,h3,fun h6=>?_,h5⟩
 rcases h4 with h4 | h4
 ·rw [h6] at h4;cases h4
 ·exact h4
theorem xC {h:i<l.length} (ho:l[i]?=vE o):l[i]=o:=by
 rw [Qb h] at ho
 injection ho
theorem uE {v:vx} (M:Pd R) (ho:l[i]?=vE o) (hw:Region.wanted o (yielded l.toArray a.tmps)=true) (hQ:∀ c a w,Q (.panic c) (a.put o.dst v) w -> Q (.panic c) a w)
  (Tc:∀ w',R w w' -> (execOp a.eval o).run P w'= .ok (.value v) w') (h:Po P l hs Q R rest (Aa.setIfInBounds i true) (a.put o.dst v) w):Po P l hs Q R (i :: rest) Aa a w:=by
 intro hn Xa;obtain ⟨h1,h2,h3,-,h5⟩:=gW Xa;have e:=xC (h:=h1) ho;subst e;exact Qm i M h1 hn h2 h3 hQ (.inl ⟨hw,Tc⟩) (h hn h5)
theorem xE (M:Pd R) (ho:l[i]?=vE o) (hw:Region.wanted o (yielded l.toArray a.tmps)=false) (hQ:∀ c a w,Q (.panic c) (a.put o.dst undef) w -> Q (.panic c) a w)
  (h:Po P l hs Q R rest (Aa.setIfInBounds i true) (a.put o.dst undef) w):Po P l hs Q R (i :: rest) Aa a w:=by
 intro hn Xa;obtain ⟨h1,h2,h3,-,h5⟩:=gW Xa;have e:=xC (h:=h1) ho;subst e;exact Qm i M h1 hn h2 h3 hQ (.inr ⟨hw,rfl⟩) (h hn h5)
theorem Te (M:Pd R) (hh:hs.contains i=true) (ho:l[i]?=vE o) (hw:Region.wanted o (yielded l.toArray a.tmps)=true)
  (h:o.wp P a w (fun a' w'=>R w w' /\ Po P l hs Q R rest (Aa.setIfInBounds i true) a' w') Q):Po P l hs Q R (i :: rest) Aa a w:=by
 intro hn Xa;obtain ⟨h1,-,-,h4,h5⟩:=gW Xa;have e:=xC (h:=h1) ho;subst e;exact zCb i M h1 (h4 hh) hw (Oper.wp_mono (fun a' w' h'=>⟨h'.1,h'.2 hn h5⟩) h)
theorem tE {f:FuncId} {vals:Array vx} (M:Pd R) (hh:hs.contains i=true) (ho:l[i]?=vE o) (hw:Region.wanted o (yielded l.toArray a.tmps)=true)
  (Tc:∀ w,(execOp a.eval o).run P w= .ok (.enter f vals) w)
  (h:vB P f vals w fun e w'=>∃ v,e=vl v /\ R w w' /\ Po P l hs Q R rest (Aa.setIfInBounds i true) (a.put o.dst v) w'):Po P l hs Q R (i :: rest) Aa a w:=by
 refine Te M hh ho hw ?_;unfold Oper.wp;rw [Tc w];refine Calls.mono h ?_;rintro e w' ⟨v,rfl,h1,h2⟩;exact ⟨h1,h2⟩
theorem Ic {f:FuncId} {vals:Array vx} (M:Pd R) (hh:hs.contains i=true) (ho:l[i]?=vE o) (hw:Region.wanted o (yielded l.toArray a.tmps)=true) (h:vB P f vals w fun e w'=>∃ v,e=vl v /\ R w w' /\ Po P l hs Q R rest (Aa.setIfInBounds i true) (a.put o.dst v) w') (Tc:∀ w,(execOp a.eval o).run P w= .ok (.enter f vals) w:=by (intro _;go_simp <;> rfl)):Po P l hs Q R (i :: rest) Aa a w :=
 tE M hh ho hw Tc h
end
theorem iL {w w':vw} (h:Wb w.drew w'):∀ b o,b<w.1.size -> w'.cell? ⟨b,o,vD⟩=w.cell? ⟨b,o,vD⟩:=fun b o hb=>Below.cell h (p:=⟨b,o,vD⟩) hb
theorem N8 {g:Nat} {w w':vw} (h:Vk g w w'):∀ b o,b<w.1.size -> b≠g -> w'.cell? ⟨b,o,vD⟩=w.cell? ⟨b,o,vD⟩:=fun b o hb Sa=>by
 have:=h.block b hb (fun e=>Sa (by injection e))
 simp only [World.cell?,this]
theorem zGp {g:Nat} {w w':vw} (h:Vk g w.drew w'):∀ b o,b<w.1.size -> b≠g -> w'.cell? ⟨b,o,vD⟩=w.cell? ⟨b,o,vD⟩:=fun b o hb Sa=>N8 h b o hb Sa
def iM (g i:Nat) (w w':vw):Prop:=w.grownBy w' (vE g) /\ ∀ t cs,Blk w g t cs -> ∃ v,Blk w' g t (cs.setIfInBounds i v)
theorem Hs (g i:Nat):Pd (iM g i):=by
 refine ⟨fun w=>⟨Ce w _,fun t cs h=>⟨cs.getD i undef,?_⟩⟩,fun a b c h k=>⟨Mr h.1 k.1 fun _ e=>.inl e,fun t cs hb=>?_⟩⟩
 ·have e:cs.setIfInBounds i (cs.getD i undef)=cs:=by
   apply Array.ext
   ·simp
   ·intro j h1 h2
    rw [Array.getElem_setIfInBounds]
    ·split
     ·subst_vars
      simp [h2]
     ·rfl
  rw [e];exact h
 ·obtain ⟨v,hv⟩:=h.2 t cs hb
  obtain ⟨u,hu⟩:=k.2 t _ hv;exact ⟨u,by simpa using hu⟩
theorem L8 {g i:Nat} (w:vw) (v:vx):iM g i w (w.setCell ⟨g,i,vD⟩ v):=⟨mh (p:=⟨g,i,vD⟩) (Ce w _) (.inl rfl) v,fun _ _ hb=>⟨v,hb.set_ i v⟩⟩
theorem J8 {g i:Nat} {w w':vw} (h:iM g i w.drew w'):∀ b o,b<w.1.size -> b≠g -> w'.cell? ⟨b,o,vD⟩=w.cell? ⟨b,o,vD⟩:=fun b o hb Sa=>N8 (w:=w.drew) h.1 b o hb Sa
theorem K8 {g i:Nat} {w w':vw} {t:vz} {cs:Array vx} (h:iM g i w.drew w') (k:Blk w g t cs):∀ j,j≠i -> w'.cell? ⟨g,j,vD⟩=cs[j]?:=fun j hj=>by
 obtain ⟨v,hv⟩:=h.2 t cs k;rw [hv.cell j,Array.getElem?_setIfInBounds,ya (fun e=>hj e.symm)]
theorem jg {w c:vw} (h:Hid (c=w.drew)):vA w.1.size w c:=by rw [h.out];exact (tb _ _).drew
def Imp (a b:Prop):Prop:=a -> b
theorem Imp.via {a b c:Prop} (f:b -> c) (h:Imp a b):Imp a c:=fun x=>f (h x)
theorem Imp.rfl' {a:Prop}:Imp a a:=id
theorem zPU {a b:Prop} (h:a) (s:Imp a b:=by
 (try simp only [vG,zLa,zLb,zLc])
 exact Imp.rfl'):b:=s h
theorem Sm {a b:Prop} (h:a) (s:Imp a b:=by
 (repeat ((first | (apply Imp.via (xE (oe _) rfl rfl (fun _ _ _ h=>h))) | (apply Imp.via (uE (v:=?_) (oe _) rfl rfl (fun _ _ _ h=>h) ?hr);case hr=>(intro w' hR;(first | have qn:=zGp ((oe _).trans _ _ _ ea hR) | skip);go_simp;try with_reducible rfl)));simp only [vG,zLa,zLb,zLc]))
 exact Imp.rfl'):b:=s h
theorem Pb {a b:Prop} (h:a) (s:Imp a b:=by
 (repeat ((first | (apply Imp.via (xE (oa) rfl rfl (fun _ _ _ h=>h))) | (apply Imp.via (uE (v:=?_) (oa) rfl rfl (fun _ _ _ h=>h) ?hr);case hr=>(intro w' hR;(first | have qn:=iL ((oa).trans _ _ _ ea hR) | skip);go_simp;try with_reducible rfl)));simp only [vG,zLa,zLb,zLc]))
 exact Imp.rfl'):b:=s h
def Ld (bars:List Nat) (Aa:Array Bool):Bool:=bars.any fun b=>Aa.getD b true
theorem JG {bars:List Nat} {Aa:Array Bool} {j:Nat} (h:j ∉ bars):Ld bars (Aa.setIfInBounds j true)=Ld bars Aa:=by
 unfold Ld
 induction bars with
 | nil=>rfl
 | cons b r ih =>
  simp only [Ah,not_or] at h;simp only [List.any_cons];rw [getD_set_ne true h.1,ih h.2]
section
variable {P:Program} {ops:Array Oper} {Q:Exit -> Act -> vw -> Prop} {bars:List Nat} {S:vw -> Prop}
def rE (P:Program) (ops:Array Oper) (Q:Exit -> Act -> vw -> Prop) (bars:List Nat) (S:vw -> Prop):Nat -> Array Bool -> Act -> vw -> Prop
 | 0,Aa,a,w=>Region.ready .any ops Aa=[] /\ Q .normal a w
 | fuel+1,Aa,a,w =>
  (Region.ready .any ops Aa=[] -> Q .normal a w) /\
  ∀ i∈Region.ready .any ops Aa,wpOp P ops Q i (fun a' w'=>(Ld bars (Aa.setIfInBounds i true)=false -> S w') /\ rE P ops Q bars S fuel (Aa.setIfInBounds i true) a' w') a w
theorem eY:∀ (fuel:Nat) (Aa:Array Bool) (a:Act) (w:vw),rE P ops Q bars S fuel Aa a w -> wpAny P .any ops Q fuel Aa a w
 | 0,_,_,_,h=>h
 | fuel+1,_,_,_,h=>⟨h.1,fun i hi=>wpOp_mono (fun a' w' h'=>eY fuel _ a' w' h'.2) (h.2 i hi)⟩
theorem dY {S':vw -> Prop} (hS:∀ w,S' w -> S w):∀ (fuel:Nat) (Aa:Array Bool) (a:Act) (w:vw),rE P ops Q bars S' fuel Aa a w -> rE P ops Q bars S fuel Aa a w
 | 0,_,_,_,h=>h
 | fuel+1,_,_,_,h=>⟨h.1,fun i hi=>wpOp_mono (fun a' w' h'=>⟨fun hp=>hS _ (h'.1 hp),dY hS fuel _ a' w' h'.2⟩) (h.2 i hi)⟩
theorem MN {Aa:Array Bool} {i:Nat} (h:Ld bars Aa=true):Ld bars (Aa.setIfInBounds i true)=true:=by
 unfold Ld at *;rw [List.any_eq_true] at *;obtain ⟨b,hb,h1⟩:=h;refine ⟨b,hb,?_⟩;by_cases e:i=b
 ·subst e
  rcases Wg i Aa.size with h2 | h2
  ·simp [h2]
  ·simp [Nat.not_lt.2 h2]
 ·rw [getD_set_ne true e];exact h1
theorem cY {S':vw -> Prop}:∀ (fuel:Nat) (Aa:Array Bool) (a:Act) (w:vw),Ld bars Aa=true -> rE P ops Q bars S' fuel Aa a w -> rE P ops Q bars S fuel Aa a w
 | 0,_,_,_,_,h=>h
 | fuel+1,_,_,_,hp,h=>⟨h.1,fun i hi=>wpOp_mono (fun a' w' h'=>⟨fun My=>(by rw [MN hp] at My;cases My),cY fuel _ a' w' (MN hp) h'.2⟩) (h.2 i hi)⟩
theorem mK {T:vw -> Prop} {i:Nat} {oi:Oper} {v:vx} (hi:ops[i]?=vE oi) (bg:∀ (j:Nat) (o:Oper) cs b,ops[j]?=vE o -> o.op≠.select cs b)
  (hQ:∀ c a w,Q (.panic c) (a.put oi.dst v) w -> Q (.panic c) a w) (hib:i ∉ bars)
  (hT:(∀ w,T w) \/ ((∀ w,S w -> T w) /\ ∀ b∈bars,∀ ob,ops[b]?=vE ob -> ∃ e∈ob.after,Region.binds .any e=true /\ e.on=i)) :
  ∀ (fuel:Nat) (Aa:Array Bool) (a:Act) (w:vw),((∀ w,T w) \/ Ld bars Aa=false) ->
   (∀ j oj,ops[j]?=vE oj -> j≠i -> Aa.getD j true=false -> (∀ e∈oj.after,Region.binds .any e=true -> e.on≠i) -> oi.apart ops oj=true) ->
   i∈Region.ready .any ops Aa -> YieldsIf P ops T oi v a -> T w -> (Ld bars Aa=false -> S w) ->
   rE P ops Q bars S fuel (Aa.setIfInBounds i true) (a.put oi.dst v) w -> rE P ops Q bars S (fuel+1) Aa a w:=by
 intro fuel
 induction fuel with
 | zero =>
  intro Aa a w af _ hr hy hTw hS H;refine ⟨fun h=>(by rw [h] at hr;cases hr),fun j hj=>?_⟩
  by_cases Ci:j=i
  ·subst Ci;exact hy.wpOp hi hTw ⟨fun hp=>hS (by rwa [JG hib] at hp),H⟩
  ·have:=ready_mono hj Ci
   rw [H.1] at this;cases this
 | succ fuel ih =>
  intro Aa a w af MF hr hy hTw hS H;refine ⟨fun h=>(by rw [h] at hr;cases hr),fun j hj=>?_⟩
  by_cases Ci:j=i
  ·subst Ci;exact hy.wpOp hi hTw ⟨fun hp=>hS (by rwa [JG hib] at hp),H⟩
  ·have h1:=H.2 j (ready_mono hj Ci)
   obtain ⟨UF,oj,Fi,Gh⟩:=mem_ready.1 hj;have eJ:∀ e∈oj.after,Region.binds .any e=true -> e.on≠i:=fun e he hb heq=>by
    have h1:=Gh e he hb;have h0:=(mem_ready.1 hr).1;rw [heq] at h1;rcases Wg i Aa.size with h' | h'
    ·simp [h'] at h0 h1;rw [h0] at h1;cases h1
    ·simp [Array.getElem?_eq_none h'] at h1
   have h2:=wpOp_putIf Fi (MF j oj Fi Ci UF eJ) (fun cs b=>bg i oi cs b hi) (fun cs b=>bg j oj cs b Fi) hQ hy h1
   have aN:∀ k ok,ops[k]?=vE ok -> k≠i -> (Aa.setIfInBounds j true).getD k true=false ->
     (∀ e∈ok.after,Region.binds .any e=true -> e.on≠i) -> oi.apart ops ok=true:=fun k ok hk hki kG Fq=>by
    refine MF k ok hk hki ?_ Fq;by_cases TF:j=k
    ·subst TF;exact UF
    ·rw [getD_set_ne true TF] at kG;exact kG
   have Gq:Ld bars ((Aa.setIfInBounds i true).setIfInBounds j true)=Ld bars (Aa.setIfInBounds j true):=by
    rw [Array.setIfInBounds_comm _ _ (Ne.symm Ci),JG hib]
   refine wpOp_mono (fun a' w' h3=>?_) h2
   have zF:Ld bars (Aa.setIfInBounds j true)=false -> S w':=fun hp=>h3.2.1 (by rw [Gq];exact hp)
   have W4:((∀ w,T w) \/ Ld bars (Aa.setIfInBounds j true)=false) /\ T w':=by
    rcases hT with hT | ⟨hST,IU⟩
    ·exact ⟨.inl hT,hT w'⟩
    ·rcases af with af | af
     ·exact ⟨.inl af,af w'⟩
     ·have hjb:j ∉ bars:=fun hb=>by
       obtain ⟨e,he,BF,hei⟩:=IU j hb oj Fi;exact eJ e he BF hei
      have My:Ld bars (Aa.setIfInBounds j true)=false:=by rw [JG hjb];exact af
      exact ⟨.inr My,hST _ (zF My)⟩
   refine ⟨zF,ih (Aa.setIfInBounds j true) a' w' W4.1 aN (ready_mono hr (Ne.symm Ci)) h3.1 W4.2 zF ?_⟩;rw [Array.setIfInBounds_comm _ _ Ci];exact h3.2.2
end
def wpB (P:Program) (ops:Array Oper) (Q:Exit -> Act -> vw -> Prop) (bars:List Nat) (R:vw -> vw -> Prop) (fuel:Nat) (Aa:Array Bool) (a:Act) (w:vw):Prop :=
 rE P ops Q bars (R w) fuel Aa a w
def QL (l:List Oper) (b i:Nat):Bool:=match l[b]? with | some o=>o.after.any fun e=>Region.binds .any e&&e.on == i | none=>true
def bz (l:List Oper) (hs bars:List Nat):List Nat -> Array Bool -> Bool
 | [],Aa=>(Region.ready .any l.toArray Aa).isEmpty
 | i :: rest,Aa=>decide (i<l.length)&&(Region.ready .any l.toArray Aa).contains i &&
   (if hs.contains i then Region.ready .any l.toArray Aa == [i] else Region.free .any l.toArray Aa i&&!bars.contains i&&(Ld bars Aa||bars.all fun b=>QL l b i))&&bz l hs bars rest (Aa.setIfInBounds i true)
def yx (P:Program) (l:List Oper) (hs bars:List Nat) (Q:Exit -> Act -> vw -> Prop) (R:vw -> vw -> Prop) (order:List Nat) (Aa:Array Bool) (a:Act) (w:vw):Prop :=
 Region.noSelect l.toArray=true -> bz l hs bars order Aa=true -> wpB P l.toArray Q bars R order.length Aa a w
section
variable {P:Program} {l:List Oper} {hs bars:List Nat} {Q:Exit -> Act -> vw -> Prop} {R:vw -> vw -> Prop} {rest:List Nat} {i:Nat} {o:Oper} {Aa:Array Bool} {a:Act} {w:vw}
theorem yB {id:Nat} (R:vw -> vw -> Prop) (hs bars order:List Nat) (hm:P.follows .mixedOrders=true) (Xa:(Region.noSelect l.toArray&&order.length == l.length&&bz l hs bars order (List.replicate l.length false).toArray)=true)
  (h:yx P l hs bars Q R order (List.replicate l.length false).toArray a w.drew):(Code.region id l.toArray true).wp P Q a w:=by
 simp only [Vb,Dh] at Xa;refine wp_region_any hm (eY (bars:=bars) (S:=R w.drew) _ _ _ _ ?_);have h2:=h Xa.1.1 Xa.2;have e:Array.replicate l.toArray.size false=(List.replicate l.length false).toArray:=by simp
 rw [Xa.1.2] at h2;rw [e]
 simpa [wpB] using h2
theorem AB (M:Pd R) {order:List Nat} (h:∀ W,Hid (W=w) -> R w W -> yx P l hs bars Q R order Aa a W):yx P l hs bars Q R order Aa a w:=h w rfl (M.refl w)
theorem zB (h:Q .normal a w):yx P l hs bars Q R [] Aa a w:=fun _ Xa=>⟨by simpa [bz] using Xa,h⟩
theorem sL (h:bz l hs bars (i :: rest) Aa=true):i<l.length /\ (Region.ready .any l.toArray Aa).contains i=true /\
  (hs.contains i=true -> Region.ready .any l.toArray Aa=[i]) /\
  (hs.contains i=false -> Region.free .any l.toArray Aa i=true /\ i ∉ bars /\ (Ld bars Aa=true \/ ∀ b∈bars,QL l b i=true)) /\ bz l hs bars rest (Aa.setIfInBounds i true)=true:=by
 unfold bz at h;simp only [Vb,yo] at h;obtain ⟨⟨⟨h1,h2⟩,h3⟩,h4⟩:=h;refine ⟨h1,h2,fun h6=>?_,fun h6=>?_,h4⟩
 ·rw [Ka h6] at h3
  simpa using h3
 ·rw [ya (by rw [h6];exact Bool.noConfusion)] at h3
  simp only [Vb,Gl,Bool.or_eq_true,fe] at h3;refine ⟨h3.1.1,fun hm=>?_,h3.2⟩
  have:=h3.1.2;simp [hm] at this
theorem ZX {b:Nat} {ob:Oper} (hb:l.toArray[b]?=vE ob) (h:QL l b i=true):∃ e∈ob.after,Region.binds .any e=true /\ e.on=i:=by
 unfold QL at h;rw [qo] at hb;rw [hb] at h;simp only [Array.any_eq_true] at h;obtain ⟨k,hk,he⟩:=h;simp only [Vb,Dh] at he;exact ⟨ob.after[k],Array.getElem_mem hk,he.1,he.2⟩
theorem iY {v:vx} (M:Pd R) (hh:hs.contains i=false) (ho:l[i]?=vE o) (hw:Region.wanted o (yielded l.toArray a.tmps)=true) (hQ:∀ c a w,Q (.panic c) (a.put o.dst v) w -> Q (.panic c) a w)
  (Tc:∀ w',(Ld bars Aa=false -> R w w') -> (execOp a.eval o).run P w'= .ok (.value v) w') (h:yx P l hs bars Q R rest (Aa.setIfInBounds i true) (a.put o.dst v) w):yx P l hs bars Q R (i :: rest) Aa a w:=by
 intro hn Xa;obtain ⟨h1,h2,-,h4,h5⟩:=sL Xa;obtain ⟨f1,f2,f3⟩:=h4 hh;have Ei:l.toArray[i]?=vE o:=by rw [qo];exact ho
 cases hp:Ld bars Aa
 ·refine mK (T:=R w) Ei (Ov hn) hQ f2 (.inr ⟨fun _ h=>h,fun b hb ob hob=>ZX hob ?_⟩) _ _ _ _ (.inr hp) (Region.free_spec Ei f1) (by simpa using h2) (.inl ⟨hw,fun w' hR=>Tc w' fun _=>hR⟩) (M.refl w) (fun _=>M.refl w) (h hn h5)
  rcases f3 with f3 | f3
  ·rw [hp] at f3;cases f3
  ·exact f3 b hb
 ·exact mK (T:=fun _=>True) Ei (Ov hn) hQ f2 (.inl fun _=>trivial) _ _ _ _ (.inl fun _=>trivial) (Region.free_spec Ei f1) (by simpa using h2) (.inl ⟨hw,fun w' _=>Tc w' fun h=>by rw [hp] at h;cases h⟩) trivial (fun _=>M.refl w) (h hn h5)
theorem jY (M:Pd R) (hh:hs.contains i=false) (ho:l[i]?=vE o) (hw:Region.wanted o (yielded l.toArray a.tmps)=false) (hQ:∀ c a w,Q (.panic c) (a.put o.dst undef) w -> Q (.panic c) a w)
  (h:yx P l hs bars Q R rest (Aa.setIfInBounds i true) (a.put o.dst undef) w):yx P l hs bars Q R (i :: rest) Aa a w:=by
 intro hn Xa;obtain ⟨h1,h2,-,h4,h5⟩:=sL Xa;obtain ⟨f1,f2,f3⟩:=h4 hh;have Ei:l.toArray[i]?=vE o:=by rw [qo];exact ho
 exact mK (T:=fun _=>True) Ei (Ov hn) hQ f2 (.inl fun _=>trivial) _ _ _ _ (.inl fun _=>trivial) (Region.free_spec Ei f1) (by simpa using h2) (.inr ⟨hw,rfl⟩) trivial (fun _=>M.refl w) (h hn h5)
theorem Ro {a b:Prop} (h:a) (s:Imp a b:=by
 (repeat ((first | (apply Imp.via (jY (oa) rfl rfl rfl (fun _ _ _ h=>h))) | (apply Imp.via (iY (v:=?_) (oa) rfl rfl rfl (fun _ _ _ h=>h) ?hr);case hr=>(intro w' hR;(first | have qn:=iL ((oa).trans _ _ _ ea (hR rfl)) | skip);clear hR;go_simp;try with_reducible rfl)));simp only [vG,zLa,zLb,zLc]))
 exact Imp.rfl'):b:=s h
theorem ak (M:Pd R) (hh:hs.contains i=true) (ho:l[i]?=vE o) (hw:Region.wanted o (yielded l.toArray a.tmps)=true)
  (h:o.wp P a w (fun a' w'=>(Ld bars (Aa.setIfInBounds i true)=false -> R w w') /\ yx P l hs bars Q R rest (Aa.setIfInBounds i true) a' w') Q):yx P l hs bars Q R (i :: rest) Aa a w:=by
 intro hn Xa;obtain ⟨h1,h2,h3,-,h5⟩:=sL Xa;have hr:=h3 hh;refine ⟨fun h0=>absurd (hr ▸ h0) zS,fun j hj=>?_⟩
 rw [hr,Zo] at hj;subst hj;unfold wpOp;have hi:l.toArray[j]?=vE o:=by rw [qo];exact ho
 simp only [hi,hw,if_true];refine .inl (Oper.wp_mono (fun a' w' h'=>⟨h'.1,?_⟩) h)
 have hk:=h'.2 hn h5;cases hp:Ld bars (Aa.setIfInBounds j true)
 ·exact dY (fun w2 h2=>M.trans _ _ _ (h'.1 hp) h2) _ _ _ _ hk
 ·exact cY _ _ _ _ hp hk
theorem ku {f:FuncId} {vals:Array vx} (M:Pd R) (hh:hs.contains i=true) (ho:l[i]?=vE o) (hw:Region.wanted o (yielded l.toArray a.tmps)=true)
  (Tc:∀ w,(execOp a.eval o).run P w= .ok (.enter f vals) w)
  (h:vB P f vals w fun e w'=>∃ v,e=vl v /\ (Ld bars (Aa.setIfInBounds i true)=false -> R w w') /\ yx P l hs bars Q R rest (Aa.setIfInBounds i true) (a.put o.dst v) w'):yx P l hs bars Q R (i :: rest) Aa a w:=by
 refine ak M hh ho hw ?_;unfold Oper.wp;rw [Tc w];refine Calls.mono h ?_;rintro e w' ⟨v,rfl,h1,h2⟩;exact ⟨h1,h2⟩
end
def So (g N:Nat) (w w':vw):Prop:=w'.os=w.os /\ w'.tape=w.tape /\ w'.output=w.output /\ w.1.size <= w'.1.size /\ ∀ b,b<N -> b≠g -> w'.1[b]?=w.1[b]?
theorem Yb (g N:Nat):Pd (So g N):=⟨fun _=>⟨rfl,rfl,rfl,zR,fun _ _ _=>rfl⟩,fun _ _ _ h k=>⟨k.1.trans h.1,k.2.1.trans h.2.1,k.2.2.1.trans h.2.2.1,zb h.2.2.2.1 k.2.2.2.1,fun b h1 h2=>(k.2.2.2.2 b h1 h2).trans (h.2.2.2.2 b h1 h2)⟩⟩
theorem B4 {g N:Nat} {w w':vw} (h:So g N w.drew w'):∀ b o,b<N -> b≠g -> w'.cell? ⟨b,o,vD⟩=w.cell? ⟨b,o,vD⟩:=fun b o hb Sa=>by
 have:=h.2.2.2.2 b hb Sa;simp only [World.cell?,this]
 rfl
theorem qY {a b:Prop} (h:a) (s:Imp a b:=by
 (repeat ((first | (apply Imp.via (xE (Yb _ _) rfl rfl (fun _ _ _ h=>h))) | (apply Imp.via (uE (v:=?_) (Yb _ _) rfl rfl (fun _ _ _ h=>h) ?hr);case hr=>(intro w' hR;(first | have qn:=B4 ((Yb _ _).trans _ _ _ ea hR) | skip);go_simp;try with_reducible rfl)));simp only [vG,zLa,zLb,zLc]))
 exact Imp.rfl'):b:=s h
theorem dm {a b:Prop} (h:a) (s:Imp a b:=by
 (repeat ((first | (apply Imp.via (jY (Yb _ _) rfl rfl rfl (fun _ _ _ h=>h))) | (apply Imp.via (iY (v:=?_) (Yb _ _) rfl rfl rfl (fun _ _ _ h=>h) ?hr);case hr=>(intro w' hR;(first | have qn:=B4 ((Yb _ _).trans _ _ _ ea (hR rfl)) | skip);clear hR;go_simp;try with_reducible rfl)));simp only [vG,zLa,zLb,zLc]))
 exact Imp.rfl'):b:=s h
theorem Xk {g N B:Nat} {w w':vw} (h:vA B w w') (hN:N <= B):So g N w w':=⟨h.os,h.tape,h.output,h.size,fun b hb _=>h.block b zO⟩
theorem uC {g N:Nat} {w w':vw} (h:w.grownBy w' (vE g)) (hN:N <= w.1.size):So g N w w':=⟨h.os,h.tape,h.output,h.size,fun b hb Sa=>h.block b zO (fun e=>Sa (Ya e))⟩
theorem oy {g N:Nat} {w w':vw} {row:Option Nat} (h:w.grownBy w' row) (hN:N <= w.1.size) (hr:∀ k,row=vE k -> N <= k):So g N w w':=⟨h.os,h.tape,h.output,h.size,fun b hb _=>h.block b zO (fun e=>by have:=hr b e.symm;omega)⟩
theorem rM {B:Nat} {w0 w1 w2:vw} (h1:vA B w0 w1) (h2:vA w1.1.size w1 w2) (hB:B <= w1.1.size:=by omega):vA B w0 w2:=h1.trans (h2.mono hB)
theorem O8 {g:Nat} {w w':vw} (h:vA w.1.size w w'):Vk g w w':=Vf (Ce w _) h zR
theorem zCY {w w':vw} {p:vy} {v:vx} (h:vA w.drew.1.size w.drew w') (hc:w.cell? p=vE v):w'.cell? p=vE v:=(Below.cell h (Gf _ _ hc)).trans hc
theorem Yg (w:vw) (t1 t2:vz) (ke Tf:Array vx) :
  Blk ((w.alloc (.cells ke t1)).alloc (.cells Tf t2)) w.1.size t1 ke /\ Blk ((w.alloc (.cells ke t1)).alloc (.cells Tf t2)) (w.1.size+1) t2 Tf /\ vA w.1.size w ((w.alloc (.cells ke t1)).alloc (.cells Tf t2)) /\ ((w.alloc (.cells ke t1)).alloc (.cells Tf t2)).1.size=w.1.size+2:=by
 refine ⟨(Blk.new w t1 ke).alloc _,?_,((tb _ w).alloc zR _).alloc zS _,zS⟩;have:=Blk.new (w.alloc (.cells ke t1)) t2 Tf
 simpa using this
theorem oq (w:vw) (t1 t2 t3:vz) (ke Tf pk:Array vx) :
  Blk (((w.alloc (.cells ke t1)).alloc (.cells Tf t2)).alloc (.cells pk t3)) w.1.size t1 ke /\ Blk (((w.alloc (.cells ke t1)).alloc (.cells Tf t2)).alloc (.cells pk t3)) (w.1.size+1) t2 Tf /\ Blk (((w.alloc (.cells ke t1)).alloc (.cells Tf t2)).alloc (.cells pk t3)) (w.1.size+1+1) t3 pk /\
   vA w.1.size w (((w.alloc (.cells ke t1)).alloc (.cells Tf t2)).alloc (.cells pk t3)) /\ (((w.alloc (.cells ke t1)).alloc (.cells Tf t2)).alloc (.cells pk t3)).1.size=w.1.size+3:=by
 obtain ⟨h1,h2,h3,h4⟩:=Yg w t1 t2 ke Tf;refine ⟨h1.alloc _,h2.alloc _,?_,h3.alloc h3.size _,zS⟩;have:=Blk.new ((w.alloc (.cells ke t1)).alloc (.cells Tf t2)) t3 pk
 rwa [h4] at this
theorem OG {w:vw} {g:Nat} {t:vz} {y0 y1 y2:vx} (k:Blk w g t #[y0,y1,y2]) (x0 x1 x2:vx):Blk (((w.setCell ⟨g,0,vD⟩ x0).setCell ⟨g,1,vD⟩ x1).setCell ⟨g,2,vD⟩ x2) g t #[x0,x1,x2]:=by
 have h:=(((k.set_ 0 x0).set_ 1 x1).set_ 2 x2)
 simpa using h
theorem PG {w:vw} {g:Nat} (x0 x1 x2:vx):w.grownBy (((w.setCell ⟨g,0,vD⟩ x0).setCell ⟨g,1,vD⟩ x1).setCell ⟨g,2,vD⟩ x2) (vE g):=by
 iterate 3 refine mh ?_ (.inl rfl) _
 exact Ce w _
theorem Er {g B:Nat} {a w:vw} (h:a.grownBy w (vE g)) (hB:B <= a.1.size) (hg:B <= g):vA B a w:=zt h B hB fun _ e=>by have:=Ya e;omega
theorem Ef {g:Nat} {a b c:vw} (h:vA a.1.size a b) (k:b.grownBy c (vE g)) (e:a.1.size <= g:=by omega):vA a.1.size a c:=h.trans (Er k h.size e)
section
variable {P:Program} {ops:Array Oper} {Q:Exit -> Act -> vw -> Prop} {R:vw -> vw -> Prop}
def PureRun (P:Program) (R:vw -> vw -> Prop) (W:vw) (ρ:Operand -> vx) (o:Oper) (v:vx):Prop :=
 (∀ w,R W w -> (execOp ρ o).run P w= .ok (.value v) w) \/ ∃ f vals,(∀ w,(execOp ρ o).run P w= .ok (.enter f vals) w) /\ ∀ w,R W w -> vB P f vals w fun e w'=>e=vl v /\ R w w'
def PureAt (P:Program) (ops:Array Oper) (R:vw -> vw -> Prop) (W:vw) (o:Oper) (v:vx) (a:Act):Prop :=
 (Region.wanted o (yielded ops a.tmps)=true /\ PureRun P R W a.eval o v) \/ (Region.wanted o (yielded ops a.tmps)=false /\ v=undef)
theorem PureRun.later (M:Pd R) {W W':vw} {ρ:Operand -> vx} {o:Oper} {v:vx} (h:PureRun P R W ρ o v) (hR:R W W'):PureRun P R W' ρ o v:=by
 rcases h with h | ⟨f,vals,h1,h2⟩
 ·exact .inl fun w hw=>h w (M.trans _ _ _ hR hw)
 ·exact .inr ⟨f,vals,h1,fun w hw=>h2 w (M.trans _ _ _ hR hw)⟩
theorem PureAt.later (M:Pd R) {W W':vw} {o:Oper} {v:vx} {a:Act} (h:PureAt P ops R W o v a) (hR:R W W'):PureAt P ops R W' o v a :=
 h.imp (fun h=>⟨h.1,h.2.later M hR⟩) id
theorem PureAt.same {W:vw} {o:Oper} {v:vx} {a a':Act} (h:PureAt P ops R W o v a) (he:execOp a'.eval o=execOp a.eval o) (hw:Region.wanted o (yielded ops a'.tmps)=Region.wanted o (yielded ops a.tmps)):PureAt P ops R W o v a':=by
 unfold PureAt PureRun at *;rw [he,hw];exact h
theorem PureAt.op {W w:vw} {i:Nat} {o:Oper} {v:vx} {a:Act} {K:Act -> vw -> Prop} (M:Pd R) (hi:ops[i]?=vE o) (h:PureAt P ops R W o v a) (hR:R W w) (hK:∀ w',R w w' -> K (a.put o.dst v) w'):wpOp P ops Q i K a w:=by
 unfold wpOp;simp only [hi];rcases h with ⟨hw,h | ⟨f,vals,h1,h2⟩⟩ | ⟨hw,rfl⟩
 ·simp only [hw,if_true,Oper.wp,h w hR,Oper.upon]
  exact .inl (hK w (M.refl w))
 ·simp only [hw,if_true,Oper.wp,h1 w,Oper.upon]
  refine .inl (Calls.mono (h2 w hR) ?_);rintro e w' ⟨rfl,h3⟩;exact hK w' h3
 ·simp only [hw,Bool.false_eq_true,if_false]
  exact hK w (M.refl w)
theorem zJX {Pi:Act -> Prop} {j:Nat} {oi oj:Oper} {v:vx} (hj:ops[j]?=vE oj) (GC:oi.apart ops oj=true)
  (hsi:∀ cs b,oi.op≠.select cs b) (hsj:∀ cs b,oj.op≠.select cs b)
  (hPi:∀ a a',Pi a -> execOp a'.eval oi=execOp a.eval oi -> Region.wanted oi (yielded ops a'.tmps)=Region.wanted oi (yielded ops a.tmps) -> Pi a')
  (hQ:∀ c a w,Q (.panic c) (a.put oi.dst v) w -> Q (.panic c) a w) {K:Act -> vw -> Prop} {a:Act} {w:vw}
  (hy:Pi a) (h:wpOp P ops Q j K (a.put oi.dst v) w):wpOp P ops Q j (fun a' w'=>Pi a' /\ K (a'.put oi.dst v) w') a w:=by
 obtain ⟨h1,h2,h3⟩:=Oper.apart_spec GC;have keep:∀ u,Pi (a.put oj.dst u):=fun u=>hPi a _ hy (execOp_put oi hsi a oj.dst u h3) (wanted_put oi a oj.dst u h3)
 unfold wpOp at *;simp only [hj] at *;rw [wanted_put oj a oi.dst v h1] at h;split
 ·rename_i hw
  simp only [hw,if_true] at h;rcases h with h | ⟨V4,hlets⟩
  case inr=>exact .inr ⟨by unfold Oper.asks at *;rw [execOp_put oj hsj a oi.dst v h1] at V4;exact V4,hlets⟩
  refine .inl ?_;unfold Oper.wp at *;rw [execOp_put oj hsj a oi.dst v h1] at h;generalize (execOp a.eval oj).run P w=r at *;rcases r with ⟨n,w'⟩ | ⟨x,w'⟩
  ·cases n <;> simp only [Oper.upon] at h |-
   case value u=>exact ⟨keep u,by rw [<- Act.put_comm a v u h2];exact h⟩
   case skip=>exact ⟨keep _,by rw [<- Act.put_comm a v undef h2];exact h⟩
   case defer d =>
    refine ⟨hPi _ _ (hPi a { a with defers:=d :: a.defers } hy rfl rfl) (execOp_put oi hsi _ oj.dst _ h3) (wanted_put oi _ oj.dst _ h3),?_⟩
    rw [<- Act.put_comm _ v undef h2,<- Act.put_defers];exact h
   case enter f args =>
    refine Calls.mono h fun e Nk he=>?_
    rcases e with u | c | _
    ·exact ⟨keep u,by rw [<- Act.put_comm a v u h2];exact he⟩
    ·exact hQ _ _ _ he
    ·exact he
   case row row args=>exact Rows.mono h fun u Nk he=>⟨keep u,by rw [<- Act.put_comm a v u h2];exact he⟩
  ·cases x <;> simp only [Oper.upon] at h |-
   case panic u=>exact hQ _ _ _ h
 ·rename_i hw
  simp only [hw] at h;exact ⟨keep _,by rw [<- Act.put_comm a v undef h2];exact h⟩
def May (bars:List Nat) (R:vw -> vw -> Prop) (Aa:Array Bool) (w w1:vw):Prop:=if Ld bars Aa=true then w1=w else R w w1
theorem May.refl (M:Pd R) (bars:List Nat) (Aa:Array Bool) (w:vw):May bars R Aa w w:=by
 unfold May;split
 ·rfl
 ·exact M.refl w
theorem May.of {bars:List Nat} {Aa:Array Bool} {w w1:vw} (hp:Ld bars Aa=false) (h:R w w1):May bars R Aa w w1:=by
 unfold May;rw [ya (by rw [hp];exact Bool.noConfusion)]
 exact h
theorem May.out {bars:List Nat} {Aa:Array Bool} {w w1:vw} (hp:Ld bars Aa=false) (h:May bars R Aa w w1):R w w1:=by
 unfold May at h
 rwa [ya (by rw [hp];exact Bool.noConfusion)] at h
theorem May.eq {bars:List Nat} {Aa:Array Bool} {w w1:vw} (hp:Ld bars Aa=true) (h:May bars R Aa w w1):w1=w:=by
 unfold May at h
 rwa [Ka hp] at h
def sE (P:Program) (ops:Array Oper) (Q:Exit -> Act -> vw -> Prop) (bars:List Nat) (R:vw -> vw -> Prop):Nat -> Array Bool -> Act -> vw -> Prop
 | 0,Aa,a,w=>Region.ready .any ops Aa=[] /\ ∀ w1,May bars R Aa w w1 -> Q .normal a w1
 | fuel+1,Aa,a,w=>∀ w1,May bars R Aa w w1 -> (Region.ready .any ops Aa=[] -> Q .normal a w1) /\
   ∀ i∈Region.ready .any ops Aa,wpOp P ops Q i (fun a' w'=>(Ld bars (Aa.setIfInBounds i true)=false -> R w1 w') /\ sE P ops Q bars R fuel (Aa.setIfInBounds i true) a' w') a w1
theorem zB3 (M:Pd R) {bars:List Nat}:∀ (fuel:Nat) (Aa:Array Bool) (a:Act) (w w2:vw),Ld bars Aa=false -> R w w2 -> sE P ops Q bars R fuel Aa a w -> sE P ops Q bars R fuel Aa a w2
 | 0,_,_,_,_,hp,hR,h=>⟨h.1,fun w1 h1=>h.2 w1 (.of hp (M.trans _ _ _ hR (h1.out hp)))⟩
 | _+1,_,_,_,_,hp,hR,h=>fun w1 h1=>h w1 (.of hp (M.trans _ _ _ hR (h1.out hp)))
theorem zB0 (M:Pd R) {bars:List Nat}:∀ (fuel:Nat) (Aa:Array Bool) (a:Act) (w:vw),sE P ops Q bars R fuel Aa a w -> wpAny P .any ops Q fuel Aa a w
 | 0,_,_,w,h=>⟨h.1,h.2 w (.refl M _ _ w)⟩
 | fuel+1,_,_,w,h=>⟨(h w (.refl M _ _ w)).1,fun i hi=>wpOp_mono (fun a' w' h'=>zB0 M fuel _ a' w' h'.2) ((h w (.refl M _ _ w)).2 i hi)⟩
theorem zJV (M:Pd R) {bars:List Nat} {i:Nat} {oi:Oper} {v:vx} (hi:ops[i]?=vE oi) (bg:∀ (j:Nat) (o:Oper) cs b,ops[j]?=vE o -> o.op≠.select cs b)
  (hQ:∀ c a w,Q (.panic c) (a.put oi.dst v) w -> Q (.panic c) a w) (hib:i ∉ bars) (IU:∀ b∈bars,∀ ob,ops[b]?=vE ob -> ∃ e∈ob.after,Region.binds .any e=true /\ e.on=i) :
  ∀ (fuel:Nat) (Aa:Array Bool) (a:Act) (w:vw),Ld bars Aa=false ->
   (∀ j oj,ops[j]?=vE oj -> j≠i -> Aa.getD j true=false -> (∀ e∈oj.after,Region.binds .any e=true -> e.on≠i) -> oi.apart ops oj=true) ->
   i∈Region.ready .any ops Aa -> PureAt P ops R w oi v a -> sE P ops Q bars R fuel (Aa.setIfInBounds i true) (a.put oi.dst v) w -> sE P ops Q bars R (fuel+1) Aa a w:=by
 intro fuel
 induction fuel with
 | zero =>
  intro Aa a w hp _ hr hy H w1 Lh;have My:Ld bars (Aa.setIfInBounds i true)=false:=by rw [JG hib];exact hp
  have II:=Lh.out hp;refine ⟨fun h=>(by rw [h] at hr;cases hr),fun j hj=>?_⟩
  by_cases Ci:j=i
  ·subst Ci
   exact hy.op M hi II fun w' h'=>⟨fun _=>h',zB3 M _ _ _ _ _ My (M.trans _ _ _ II h') H⟩
  ·have:=ready_mono hj Ci
   rw [H.1] at this;cases this
 | succ fuel ih =>
  intro Aa a w hp MF hr hy H w1 Lh;have My:Ld bars (Aa.setIfInBounds i true)=false:=by rw [JG hib];exact hp
  have II:=Lh.out hp;refine ⟨fun h=>(by rw [h] at hr;cases hr),fun j hj=>?_⟩
  by_cases Ci:j=i
  ·subst Ci
   exact hy.op M hi II fun w' h'=>⟨fun _=>h',zB3 M _ _ _ _ _ My (M.trans _ _ _ II h') H⟩
  ·have h1:=(H w1 (.of My II)).2 j (ready_mono hj Ci)
   obtain ⟨UF,oj,Fi,Gh⟩:=mem_ready.1 hj;have eJ:∀ e∈oj.after,Region.binds .any e=true -> e.on≠i:=fun e he hb heq=>by
    have h1:=Gh e he hb;have h0:=(mem_ready.1 hr).1;rw [heq] at h1;rcases Wg i Aa.size with h' | h'
    ·simp [h'] at h0 h1;rw [h0] at h1;cases h1
    ·simp [Array.getElem?_eq_none h'] at h1
   have hjb:j ∉ bars:=fun hb=>by
    obtain ⟨e,he,BF,hei⟩:=IU j hb oj Fi;exact eJ e he BF hei
   have hpj:Ld bars (Aa.setIfInBounds j true)=false:=by rw [JG hjb];exact hp
   have hpij:Ld bars ((Aa.setIfInBounds i true).setIfInBounds j true)=false:=by rw [JG hjb];exact My
   have h2:=zJX (Pi:=PureAt P ops R w1 oi v) Fi (MF j oj Fi Ci UF eJ) (fun cs b=>bg i oi cs b hi) (fun cs b=>bg j oj cs b Fi) (fun _ _ h he hw=>h.same he hw) hQ (hy.later M II) h1
   have aN:∀ k ok,ops[k]?=vE ok -> k≠i -> (Aa.setIfInBounds j true).getD k true=false ->
     (∀ e∈ok.after,Region.binds .any e=true -> e.on≠i) -> oi.apart ops ok=true:=fun k ok hk hki kG Fq=>by
    refine MF k ok hk hki ?_ Fq;by_cases TF:j=k
    ·subst TF;exact UF
    ·rw [getD_set_ne true TF] at kG;exact kG
   refine wpOp_mono (fun a' w' h3=>?_) h2
   have lA:=h3.2.1 hpij;refine ⟨fun _=>lA,ih (Aa.setIfInBounds j true) a' w' hpj aN (ready_mono hr (Ne.symm Ci)) (h3.1.later M lA) ?_⟩
   rw [Array.setIfInBounds_comm _ _ Ci];exact h3.2.2
theorem zJW {bars:List Nat} {i:Nat} {oi:Oper} {v:vx} (hi:ops[i]?=vE oi) (bg:∀ (j:Nat) (o:Oper) cs b,ops[j]?=vE o -> o.op≠.select cs b)
  (hQ:∀ c a w,Q (.panic c) (a.put oi.dst v) w -> Q (.panic c) a w) :
  ∀ (fuel:Nat) (Aa:Array Bool) (a:Act) (w:vw),Ld bars Aa=true ->
   (∀ j oj,ops[j]?=vE oj -> j≠i -> Aa.getD j true=false -> (∀ e∈oj.after,Region.binds .any e=true -> e.on≠i) -> oi.apart ops oj=true) ->
   i∈Region.ready .any ops Aa -> YieldsIf P ops (fun _=>True) oi v a -> sE P ops Q bars R fuel (Aa.setIfInBounds i true) (a.put oi.dst v) w -> sE P ops Q bars R (fuel+1) Aa a w:=by
 intro fuel;have Fq:∀ {Aa:Array Bool} {j:Nat} {w w':vw},Ld bars Aa=true -> Ld bars (Aa.setIfInBounds j true)=false -> R w w':=fun h h'=>by
  rw [MN h] at h';cases h'
 induction fuel with
 | zero =>
  intro Aa a w hp _ hr hy H w1 Lh;obtain rfl:=Lh.eq hp;refine ⟨fun h=>(by rw [h] at hr;cases hr),fun j hj=>?_⟩
  by_cases Ci:j=i
  ·subst Ci
   exact hy.wpOp hi trivial ⟨Fq hp,H⟩
  ·have:=ready_mono hj Ci
   rw [H.1] at this;cases this
 | succ fuel ih =>
  intro Aa a w hp MF hr hy H w1 Lh;obtain rfl:=Lh.eq hp;refine ⟨fun h=>(by rw [h] at hr;cases hr),fun j hj=>?_⟩
  by_cases Ci:j=i
  ·subst Ci
   exact hy.wpOp hi trivial ⟨Fq hp,H⟩
  ·have h1:=(H w1 (by unfold May;rw [Ka (MN hp)])).2 j (ready_mono hj Ci)
   obtain ⟨UF,oj,Fi,Gh⟩:=mem_ready.1 hj;have eJ:∀ e∈oj.after,Region.binds .any e=true -> e.on≠i:=fun e he hb heq=>by
    have h1:=Gh e he hb;have h0:=(mem_ready.1 hr).1;rw [heq] at h1;rcases Wg i Aa.size with h' | h'
    ·simp [h'] at h0 h1;rw [h0] at h1;cases h1
    ·simp [Array.getElem?_eq_none h'] at h1
   have h2:=wpOp_putIf Fi (MF j oj Fi Ci UF eJ) (fun cs b=>bg i oi cs b hi) (fun cs b=>bg j oj cs b Fi) hQ hy h1
   have aN:∀ k ok,ops[k]?=vE ok -> k≠i -> (Aa.setIfInBounds j true).getD k true=false ->
     (∀ e∈ok.after,Region.binds .any e=true -> e.on≠i) -> oi.apart ops ok=true:=fun k ok hk hki kG Fq=>by
    refine MF k ok hk hki ?_ Fq;by_cases TF:j=k
    ·subst TF;exact UF
    ·rw [getD_set_ne true TF] at kG;exact kG
   refine wpOp_mono (fun a' w' h3=>⟨Fq hp,ih (Aa.setIfInBounds j true) a' w' (MN hp) aN (ready_mono hr (Ne.symm Ci)) h3.1 ?_⟩) h2
   rw [Array.setIfInBounds_comm _ _ Ci];exact h3.2.2
end
def Sn (P:Program) (l:List Oper) (hs bars:List Nat) (Q:Exit -> Act -> vw -> Prop) (R:vw -> vw -> Prop) (order:List Nat) (Aa:Array Bool) (a:Act) (w:vw):Prop :=
 Region.noSelect l.toArray=true -> bz l hs bars order Aa=true -> sE P l.toArray Q bars R order.length Aa a w
section
variable {P:Program} {l:List Oper} {hs bars:List Nat} {Q:Exit -> Act -> vw -> Prop} {R:vw -> vw -> Prop} {rest:List Nat} {i:Nat} {o:Oper} {Aa:Array Bool} {a:Act} {w:vw}
theorem kh {id:Nat} (R:vw -> vw -> Prop) (M:Pd R) (hs bars order:List Nat) (hm:P.follows .mixedOrders=true) (Xa:(Region.noSelect l.toArray&&order.length == l.length&&bz l hs bars order (List.replicate l.length false).toArray)=true)
  (h:Sn P l hs bars Q R order (List.replicate l.length false).toArray a w.drew):(Code.region id l.toArray true).wp P Q a w:=by
 simp only [Vb,Dh] at Xa;refine wp_region_any hm (zB0 (R:=R) (bars:=bars) M _ _ _ _ ?_);have h2:=h Xa.1.1 Xa.2;have e:Array.replicate l.toArray.size false=(List.replicate l.length false).toArray:=by simp
 rw [Xa.1.2] at h2;rw [e]
 simpa using h2
theorem lh (M:Pd R) {order:List Nat} (h:∀ W,R w W -> Sn P l hs bars Q R order Aa a W):Sn P l hs bars Q R order Aa a w:=h w (M.refl w)
theorem Qs (hp:Ld bars Aa=false) (h:∀ w1,R w w1 -> Q .normal a w1):Sn P l hs bars Q R [] Aa a w:=fun _ Xa=>⟨by simpa [bz] using Xa,fun w1 h1=>h w1 (h1.out hp)⟩
theorem Up (hp:Ld bars Aa=true) (h:Q .normal a w):Sn P l hs bars Q R [] Aa a w:=fun _ Xa=>⟨by simpa [bz] using Xa,fun w1 h1=>by rw [h1.eq hp];exact h⟩
theorem fY {v:vx} (M:Pd R) (hh:hs.contains i=false) (hp:Ld bars Aa=false) (ho:l[i]?=vE o) (hQ:∀ c a w,Q (.panic c) (a.put o.dst v) w -> Q (.panic c) a w)
  (hpu:PureAt P l.toArray R w o v a) (h:Sn P l hs bars Q R rest (Aa.setIfInBounds i true) (a.put o.dst v) w):Sn P l hs bars Q R (i :: rest) Aa a w:=by
 intro hn Xa;obtain ⟨h1,h2,-,h4,h5⟩:=sL Xa;obtain ⟨f1,f2,f3⟩:=h4 hh;have Ei:l.toArray[i]?=vE o:=by rw [qo];exact ho
 refine zJV M Ei (Ov hn) hQ f2 (fun b hb ob hob=>ZX hob ?_) _ _ _ _ hp (Region.free_spec Ei f1) (by simpa using h2) hpu (h hn h5)
 rcases f3 with f3 | f3
 ·rw [hp] at f3;cases f3
 ·exact f3 b hb
theorem zB1 {v:vx} (M:Pd R) (hh:hs.contains i=false) (hp:Ld bars Aa=false) (ho:l[i]?=vE o) (hw:Region.wanted o (yielded l.toArray a.tmps)=true) (hQ:∀ c a w,Q (.panic c) (a.put o.dst v) w -> Q (.panic c) a w)
  (Tc:∀ w',R w w' -> (execOp a.eval o).run P w'= .ok (.value v) w') (h:Sn P l hs bars Q R rest (Aa.setIfInBounds i true) (a.put o.dst v) w):Sn P l hs bars Q R (i :: rest) Aa a w :=
 fY M hh hp ho hQ (.inl ⟨hw, .inl Tc⟩) h
theorem zB2 (M:Pd R) (hh:hs.contains i=false) (hp:Ld bars Aa=false) (ho:l[i]?=vE o) (hw:Region.wanted o (yielded l.toArray a.tmps)=false) (hQ:∀ c a w,Q (.panic c) (a.put o.dst undef) w -> Q (.panic c) a w)
  (h:Sn P l hs bars Q R rest (Aa.setIfInBounds i true) (a.put o.dst undef) w):Sn P l hs bars Q R (i :: rest) Aa a w :=
 fY M hh hp ho hQ (.inr ⟨hw,rfl⟩) h
theorem Me {a b:Prop} (h:a) (s:Imp a b:=by
 (repeat ((first | (apply Imp.via (zB2 (oa) rfl rfl rfl rfl (fun _ _ _ h=>h))) | (apply Imp.via (zB1 (v:=?_) (oa) rfl rfl rfl rfl (fun _ _ _ h=>h) ?hr);case hr=>(intro w' hR;(first | have qn:=iL ((oa).trans _ _ _ ea hR) | skip);go_simp;try with_reducible rfl)));simp only [vG,zLa,zLb,zLc]))
 exact Imp.rfl'):b:=s h
theorem zJT {v:vx} {f:FuncId} {vals:Array vx} (M:Pd R) (hh:hs.contains i=false) (hp:Ld bars Aa=false) (ho:l[i]?=vE o) (hw:Region.wanted o (yielded l.toArray a.tmps)=true) (hQ:∀ c a w,Q (.panic c) (a.put o.dst v) w -> Q (.panic c) a w)
  (Tc:∀ w,(execOp a.eval o).run P w= .ok (.enter f vals) w) (hc:∀ w',R w w' -> vB P f vals w' fun e Nk=>e=vl v /\ R w' Nk)
  (h:Sn P l hs bars Q R rest (Aa.setIfInBounds i true) (a.put o.dst v) w):Sn P l hs bars Q R (i :: rest) Aa a w :=
 fY M hh hp ho hQ (.inl ⟨hw, .inr ⟨f,vals,Tc,hc⟩⟩) h
theorem Nd {v:vx} {f:FuncId} {vals:Array vx} (M:Pd R) (hh:hs.contains i=false) (hp:Ld bars Aa=false) (ho:l[i]?=vE o) (hw:Region.wanted o (yielded l.toArray a.tmps)=true) (hc:∀ w',R w w' -> vB P f vals w' fun e Nk=>e=vl v /\ R w' Nk) (h:Sn P l hs bars Q R rest (Aa.setIfInBounds i true) (a.put o.dst v) w) (hQ:∀ c a w,Q (.panic c) (a.put o.dst v) w -> Q (.panic c) a w:=by exact fun _ _ _ h=>h) (Tc:∀ w,(execOp a.eval o).run P w= .ok (.enter f vals) w:=by (intro _;go_simp <;> rfl)):Sn P l hs bars Q R (i :: rest) Aa a w :=
 zJT M hh hp ho hw hQ Tc hc h
theorem zJU {v:vx} (hh:hs.contains i=false) (hp:Ld bars Aa=true) (ho:l[i]?=vE o) (hw:Region.wanted o (yielded l.toArray a.tmps)=true) (hQ:∀ c a w,Q (.panic c) (a.put o.dst v) w -> Q (.panic c) a w)
  (Tc:∀ w',(execOp a.eval o).run P w'= .ok (.value v) w') (h:Sn P l hs bars Q R rest (Aa.setIfInBounds i true) (a.put o.dst v) w):Sn P l hs bars Q R (i :: rest) Aa a w:=by
 intro hn Xa;obtain ⟨h1,h2,-,h4,h5⟩:=sL Xa;have Ei:l.toArray[i]?=vE o:=by rw [qo];exact ho
 exact zJW Ei (Ov hn) hQ _ _ _ _ hp (Region.free_spec Ei (h4 hh).1) (by simpa using h2) (.inl ⟨hw,fun w' _=>Tc w'⟩) (h hn h5)
theorem Xe {a b:Prop} (h:a) (s:Imp a b:=by
 (repeat ((first | (apply Imp.via (zB2 (oa) rfl rfl rfl rfl (fun _ _ _ h=>h))) | (apply Imp.via (zB1 (v:=?_) (oa) rfl rfl rfl rfl (fun _ _ _ h=>h) ?hr);case hr=>(intro w' hR;(first | have qn:=iL ((oa).trans _ _ _ ea hR) | skip);go_simp;try with_reducible rfl)) | (apply Imp.via (zJU (v:=?_) rfl rfl rfl rfl (fun _ _ _ h=>h) ?hr);case hr=>(intro w';go_simp;try with_reducible rfl)));simp only [vG,zLa,zLb,zLc]))
 exact Imp.rfl'):b:=s h
theorem Oo (hh:hs.contains i=true) (hp:Ld bars Aa=false) (ho:l[i]?=vE o) (hw:Region.wanted o (yielded l.toArray a.tmps)=true)
  (h:∀ w1,R w w1 -> o.wp P a w1 (fun a' w'=>(Ld bars (Aa.setIfInBounds i true)=false -> R w1 w') /\ Sn P l hs bars Q R rest (Aa.setIfInBounds i true) a' w') Q):Sn P l hs bars Q R (i :: rest) Aa a w:=by
 intro hn Xa;obtain ⟨h1,-,h3,-,h5⟩:=sL Xa;have hr:=h3 hh;intro w1 Lh;refine ⟨fun h0=>absurd (hr ▸ h0) zS,fun j hj=>?_⟩
 rw [hr,Zo] at hj;subst hj;unfold wpOp;have hi:l.toArray[j]?=vE o:=by rw [qo];exact ho
 simp only [hi,hw,if_true];exact .inl (Oper.wp_mono (fun a' w' h'=>⟨h'.1,h'.2 hn h5⟩) (h w1 (Lh.out hp)))
end
def Gives (w:vw) (el:vz) (size n:Nat) (xs:List vx) (e:Ending) (w':vw):Prop :=
 ∃ v,e=vl v /\ w'.ownsRow w.1.size el size v n xs /\ vA w.1.size w w'
theorem Gives.then_ {w w1 w2:vw} {v v':vx} {n m:Nat} {xs ys:List vx} (hb:vA w.1.size w w1) (hv:w1.ownsRow w.1.size 5 1 v n xs)
  (Ca:w2.ownsRow w.1.size 5 1 v' m ys) (hg:w1.grownBy w2 v.ownBlock):Gives w 5 1 m ys (vl v') w2 :=
 ⟨v',rfl,Ca,hb.grown hg hb.size fun k hk=>(hv.lt k hk).1⟩
theorem zJN (A:Option vy) (n c:Nat) (x:Int) (xs:List vx) (w:vw) (hr:Rd w 1 A n xs) (h1:∀ u∈xs,u.oneCell'=true) (Fw:-9223372036854775808 <= x) (Bw:x <= 9223372036854775807) (hk:n+4 <= 100000000) :
  vB prog 108 #[ve A n c,vd vq x] w (Gives w 5 1 (n+4) (xs++U8 (Je (lenOf x) 4))):=by
 go_enter func108,ntmps108
 go_wp2_with (first | (go_at_call 201;refine (YW A n c 4 xs w hr h1 hk).mono ?_;rintro e w1 ⟨v,rfl,hv,hb⟩) | (go_at_call 200;refine (cZ w.1.size _ n x xs w1 hv Fw Bw hk hb.size).mono ?_;rintro e w2 ⟨v2,rfl,sh,hg,hw⟩))
 go_ret
 exact Gives.then_ hb hv sh hg
theorem zJO (A C:Option vy) (n c m d:Nat) (xs:List vx) (l:List Nat) (w:vw) (hr:Rd w 1 A n xs) (h1:∀ u∈xs,u.oneCell'=true) (hs:Rd w 1 C m (Oa l)) (hl:∀ x∈l,x<18446744073709551616) (hk:n+4+8*m <= 100000000) :
  vB prog 107 #[ve A n c,ve C m d] w (Gives w 5 1 (n+4+8*m) (xs++(U8 (Je m 4)++U8 (l.flatMap fun x=>Je x 8)))):=by
 have HL:=zH (N6 zO:lenOf (m:Int)=m);have HR:=zH (YW A n c (4+8*m) xs w hr h1 zO);have HT:Hid (((4+8*m:Nat):Int)=4+8*(m:Int)):=by simp [Hid]
 rw [HT.out] at HR;have HM:Hid (l.length=m):=by have:=hs.len1;rw [Vt] at this;exact this
 go_enter func107,ntmps107
 go_wp2_with (first | (go_at_call 201;refine HR.out.mono ?_;rintro e w1 ⟨v,rfl,hv,hb⟩) | (go_at_call 200;refine (cZ w.1.size _ n m xs w1 hv zO zO zO hb.size).mono ?_;rintro e w2 ⟨v2,rfl,sh,hg,hw⟩;have Ba:vA w.1.size w w2:=hb.grown hg hb.size fun k hk=>(hv.lt k hk).1))
 rw [HL.out] at sh;go_loopw [5,19] (fun s i wr=>∃ j:Nat,j <= m /\ i=vd vq j /\ wr.ownsRow w.1.size 5 1 s (n+4+8*j) (xs++(U8 (Je m 4)++U8 ((l.take j).flatMap fun x=>Je x 8))) /\ vA w.1.size w wr)
  (fun _ i _=>m-(intOf i).toNat)
 case atStart=>exact ⟨0,Kb _,rfl,by simpa [U8] using sh,Ba⟩
 case round =>
  obtain ⟨j,hj,rfl,Ca,yb⟩:=hrel;by_cases ta:j<m
  ·have Di:j<l.length:=by rw [HM.out];exact ta
   obtain ⟨ad,u,rfl,hu,hc⟩:=(hs.below yb).at_ ta;obtain ⟨y,hy⟩:=zEX (l[j]);have hyl:y<18446744073709551616:=by rw [hy];exact hl _ (He _)
   rw [ZB Di,<- hy] at hu
   injection hu with hu
   subst hu;have HY:=zH hy;clear hy;go_wp2_with (go_at_call 202;refine (QO w.1.size _ _ y 8 _ _ Ca hyl zO yb.size).mono ?_;rintro e w3 ⟨v3,rfl,Qy,ah,hw3⟩)
   have Ta:vA w.1.size w w3:=yb.grown ah yb.size fun k hk=>(Ca.lt k hk).1
   clear Ca ah hw3;go_wp2
   go_roundw
   case rel =>
    refine ⟨j+1,zO,by go_num,?_,Ta⟩
    rw [Lv Di,<- HY.out,List.flatMap_append,RH,show n+4+8*(j+1)=n+4+8*j+8 from by omega]
    simpa using Qy
   case measure=>simp [intOf];omega
  ·go_wp2
   go_ret
   have e:j=m:=by omega
   subst e;rw [VE (by rw [HM.out];exact zR)] at Ca
   exact ⟨_,rfl,Ca,yb⟩
def S (l:List Nat):ByteArray:=⟨(l.map fun n=>UInt8.ofNat n).toArray⟩
theorem S_size (l:List Nat):(S l).size=l.length:=by simp [S,ByteArray.size]
theorem zIy {P:Program} {w:vw} {src e dst:vz} {A:Option vy} {n c:Nat} {l:List Nat} (hs:P.underlying src=vE (.slice e)) (he:P.underlying e=vE (.int vu)) (hd:P.underlying dst=vE .string)
  (h:Rd w 1 A n (U8 l)):(convert src dst (ve A n c)).run P w= .ok (.string (S l)) w:=by
 have hl:l.length=n:=by have:=h.len1;rwa [DJ] at this
 rcases dp n with h0 | h0
 ·subst h0
  obtain rfl:l=[]:=UE hl;rcases A with _ | ad
  ·rw [run_convert_bytes_nil w src e hs he _ _ dst hd]
   rfl
  ·rw [run_convert_bytes_string w src dst e _ 0 c hs he hd,run_bytesToString w ad 0 c [] (by simpa using run_loadCells_list (P:=P) w ad [] (fun j v hj=>by simp at hj))]
   rfl
 ·obtain ⟨ad,rfl,hc⟩:=h.2 h0
  have hlc:=run_loadCells_list (P:=P) w ad (U8 l) hc;rw [DJ,hl] at hlc;rw [run_convert_bytes_string w src dst e _ n c hs he hd,run_bytesToString w ad n c (l.map fun x:Nat=>(x:Int)) (by rw [hlc];simp [U8,Function.comp_def]),foldl_push_bytes]
  simp [S,ByteArray.empty,ByteArray.emptyWithCapacity,Function.comp_def]
  rfl
theorem Ue {P:Program} {l:List Oper} {hs:List Nat} {Q:Exit -> Act -> vw -> Prop} {R:vw -> vw -> Prop} {Aa:Array Bool} {a:Act} {w:vw} (M:Pd R) {order:List Nat} (h:∀ W,Hid (W=w) -> R w W -> Po P l hs Q R order Aa a W):Po P l hs Q R order Aa a w:=h w rfl (M.refl w)
theorem du {g:Nat} {w w':vw} (h:vA w.1.size w w'):Vk g w w':=Vf (Ce w _) h zR
abbrev Dx:=(Nat -> vx) -> (Nat -> Prop) -> vw -> Prop
structure so where
 i:Nat
 deps:List Nat
 eat:List Nat
def Yd (l:List Oper) (j:Nat):Option Tmp:=(l[j]?).bind (·.dst)
def ug (l:List Oper) (vs:Nat -> vx) (a:Act) (js:List Nat):Act:=js.foldl (fun a j=>a.put (Yd l j) (vs j)) a
def TJ:List (Nat × Dx) -> Nat -> Dx
 | [],_=>fun _ _ _=>True
 | (k,p) :: r,j=>if Nat.beq k j then p else TJ r j
theorem DW (l:List Oper) (vs:Nat -> vx) (d:Option Tmp) (v:vx):∀ (js:List Nat) (a:Act),(∀ j∈js,∀ t,d=vE t -> Yd l j≠vE t) -> ug l vs (a.put d v) js=(ug l vs a js).put d v
 | [],_,_=>rfl
 | j :: js,a,h=>by
  show ug l vs ((a.put d v).put (Yd l j) (vs j)) js=_
  rw [Act.put_comm a v (vs j) (h j zS)];exact DW l vs d v js _ fun k hk=>h k (by simp [hk])
theorem zAm (l:List Oper) {vs us:Nat -> vx}:∀ (js:List Nat) (a:Act),(∀ j∈js,vs j=us j) -> ug l vs a js=ug l us a js
 | [],_,_=>rfl
 | j :: js,a,h=>by
  show ug l vs (a.put (Yd l j) (vs j)) js=ug l us (a.put (Yd l j) (us j)) js
  rw [h j zS];exact zAm l js _ fun k hk=>h k (by simp [hk])
def oh (vs:Nat -> vx) (i:Nat) (v:vx):Nat -> vx:=fun j=>if j=i then v else vs j
theorem zBF (vs:Nat -> vx) (i:Nat) (v:vx):oh vs i v i=v:=Ka rfl
theorem TX {vs:Nat -> vx} {i j:Nat} {v:vx} (h:j≠i):oh vs i v j=vs j:=ya h
theorem FW (l:List Oper) (vs:Nat -> vx) (i:Nat) (v:vx) (f f':Nat -> Bool):∀ (js:List Nat) (a:Act),js.Nodup -> i∈js -> f i=false -> f' i=true -> (∀ j∈js,j≠i -> f' j=f j) ->
  (∀ j∈js,j≠i -> ∀ t,Yd l i=vE t -> Yd l j≠vE t) -> ug l (oh vs i v) a (js.filter f')=(ug l vs a (js.filter f)).put (Yd l i) v
 | [],_,_,h,_,_,_,_=>by cases h
 | j :: js,a,hn,hi,h0,h1,h2,h3=>by
  obtain ⟨hj,aD⟩:=List.nodup_cons.1 hn;by_cases e:j=i
  ·subst e
   have hf:js.filter f'=js.filter f:=List.filter_congr fun k hk=>h2 k (by simp [hk]) (by rintro rfl;exact hj hk)
   rw [KH h1,JH (by rw [h0];exact BB),hf]
   show ug l (oh vs j v) (a.put (Yd l j) (oh vs j v j)) _=_
   rw [zBF,DW _ _ _ _ _ _ (fun k hk=>h3 k (by simp [(wm.1 hk).1]) (by rintro rfl;exact hj (wm.1 hk).1))]
   rw [zAm l _ a fun k hk=>TX (by rintro rfl;exact hj (wm.1 hk).1)]
  ·have QF:i∈js:=by
    rcases Ah.1 hi with h | h
    ·exact absurd h.symm e
    ·exact h
   have key:=fun a=>FW l vs i v f f' js a aD QF h0 h1 (fun k hk=>h2 k (by simp [hk])) fun k hk=>h3 k (by simp [hk])
   have e2:=h2 j zS e;cases hfj:f j
   ·rw [JH (by rw [e2,hfj];exact BB),JH (by rw [hfj];exact BB)]
    exact key a
   ·rw [KH (by rw [e2,hfj]),KH hfj]
    show ug l (oh vs i v) (a.put (Yd l j) (oh vs i v j)) _=(ug l vs (a.put (Yd l j) (vs j)) _).put _ _
    rw [TX e];exact key _
theorem uR (l:List Oper) (vs:Nat -> vx) (t:Tmp):∀ (js:List Nat) (a:Act),(∀ j∈js,Yd l j≠vE t) -> (ug l vs a js).eval (.tmp t)=a.eval (.tmp t)
 | [],_,_=>rfl
 | j :: js,a,h=>by
  show (ug l vs (a.put (Yd l j) (vs j)) js).eval _=_
  rw [uR l vs t js _ fun k hk=>h k (by simp [hk])]
  exact Act.eval_put fun d hd he=>h j zS (by rw [hd];injection he with he;rw [he])
theorem EW (l:List Oper) (vs:Nat -> vx) (t:Tmp) (j:Nat) (hd:Yd l j=vE t):∀ (js:List Nat) (a:Act),j∈js -> (∀ k∈js,k≠j -> Yd l k≠vE t) -> (ug l vs a js).eval (.tmp t)=if t<a.tmps.size then vs j else undef
 | [],_,h,_=>by cases h
 | k :: js,a,h,Sa=>by
  show (ug l vs (a.put (Yd l k) (vs k)) js).eval _=_
  by_cases hj:j∈js
  ·rw [EW l vs t j hd js _ hj fun m hm=>Sa m (by simp [hm])]
   have e:(a.put (Yd l k) (vs k)).tmps.size=a.tmps.size:=by cases h:Yd l k <;> simp [vG]
   rw [e]
  ·obtain rfl:j=k:=by
    rcases Ah.1 h with h | h
    ·exact h
    ·exact absurd h hj
   rw [uR l vs t js _ fun m hm=>Sa m (by simp [hm]) fun e=>hj (e ▸ hm),hd]
   by_cases ht:t<a.tmps.size <;> simp [Act.eval,vG,ht]
def Sq (B:Nat) (X:Nat -> Prop) (w w':vw):Prop:=w'.os=w.os /\ w'.tape=w.tape /\ w'.output=w.output /\ w.1.size <= w'.1.size /\ ∀ b,b<B -> ¬X b -> w'.1[b]?=w.1[b]?
theorem zDV {B:Nat} {X:Nat -> Prop} {a b c:vw} (h:Sq B X a b) (k:Sq B X b c):Sq B X a c :=
 ⟨k.1.trans h.1,k.2.1.trans h.2.1,k.2.2.1.trans h.2.2.1,zb h.2.2.2.1 k.2.2.2.1,fun g h1 h2=>(k.2.2.2.2 g h1 h2).trans (h.2.2.2.2 g h1 h2)⟩
theorem zDU (B:Nat) (X:Nat -> Prop) (w:vw):Sq B X w w:=⟨rfl,rfl,rfl,zR,fun _ _ _=>rfl⟩
def Mv (B:Nat) (X:Nat -> Prop) (own:Nat -> Nat) (w:vw) (i:Nat):Nat -> Prop:=fun b=>b<w.1.size /\ (B <= b \/ X b) /\ own b=i
def Yi (P:Program) (x:Sem Next) (w:vw) (K:vx -> vw -> Prop):Prop :=
 (∃ v w',x.run P w= .ok (.value v) w' /\ K v w') \/ (∃ w',x.run P w= .ok .skip w' /\ K undef w') \/ (∃ f vals,x.run P w= .ok (.enter f vals) w /\ vB P f vals w fun e w'=>∃ v,e=vl v /\ K v w')
theorem zDH {P:Program} {o:Oper} {a:Act} {w:vw} {K:Act -> vw -> Prop} {Q:Exit -> Act -> vw -> Prop} (h:Yi P (execOp a.eval o) w fun v w'=>K (a.put o.dst v) w'):o.wp P a w K Q:=by
 unfold Oper.wp;rcases h with ⟨v,w',h1,h2⟩ | ⟨w',h1,h2⟩ | ⟨f,vals,h1,h2⟩
 ·rw [h1];exact h2
 ·rw [h1];exact h2
 ·rw [h1]
  refine Calls.mono h2 ?_;rintro e w' ⟨v,rfl,h3⟩;exact h3
theorem fy {P:Program} {x:Sem Next} {w w':vw} {K:vx -> vw -> Prop} {v:vx} (h:x.run P w= .ok (.value v) w') (hK:K v w'):Yi P x w K:=.inl ⟨v,w',h,hK⟩
theorem xM {P:Program} {x:Sem Next} {w:vw} {K:vx -> vw -> Prop} {f:FuncId} {vals:Array vx} {post:Ending -> vw -> Prop} (h:x.run P w= .ok (.enter f vals) w) (hc:vB P f vals w post) (hK:∀ e w',post e w' -> ∃ v,e=vl v /\ K v w'):Yi P x w K:=.inr (.inr ⟨f,vals,h,hc.mono hK⟩)
def pC (l:List Oper) (i j:Nat):Bool:=match l[i]? with | some o=>(o.after.any fun e=>Region.binds .any e&&e.on == j) | none=>false
def eR (l:List Oper) (i:Nat):List Tmp:=match l[i]? with | some o=>(o.op.operands.toList.filterMap fun | .tmp t=>vE t | _=>vD) | none=>[]
def OJ (l:List Oper) (L0:Array Bool):List Nat -> List Nat -> Bool
 | _,[]=>true
 | pre,i :: rest=>(match l[i]? with | some o=>o.guard.isNone&&!L0.getD i true&&o.after.all (fun e=>!Region.binds .any e||L0.getD e.on false||(pre.contains e.on&&decide (e.on<l.length))) | none=>true)&&OJ l L0 (i :: pre) rest
def dR (l:List Oper) (T:List so) (L0:Array Bool):Bool :=
 L0.size == l.length&&(T.map (·.i)).Nodup&&OJ l L0 [] (T.map (·.i)) &&
 (T.all fun s=>T.all fun t=>s.i == t.i||(Yd l s.i).isNone||Yd l s.i != Yd l t.i) &&
 (T.all fun s=>(eR l s.i).all fun x=>T.all fun t=>Yd l t.i != vE x||s.deps.contains t.i) &&
 (T.all fun s=>s.deps.all fun j=>(T.any fun t=>t.i == j)&&(decide (l.length <= j)||pC l s.i j)) &&
 (T.all fun s=>s.eat.all fun j=>s.deps.contains j&&T.all fun t=>t.i == s.i||!t.deps.contains j) &&
 ((List.range l.length).all fun i=>L0.getD i true||(T.any fun t=>t.i == i)||((T.all fun t=>decide (l.length <= t.i)||pC l i t.i)||(List.range l.length).any fun j=>!L0.getD j true&&!(T.any fun t=>t.i == j)&&pC l i j))
def GO (P:Program) (l:List Oper) (p:Nat -> Dx) (B:Nat) (X:Nat -> Prop) (w0:vw) (a0:Act) (s:so):Prop :=
 ∀ (o:Oper),l[s.i]?=vE o -> ∀ (w:vw) (vs:Nat -> vx) (F:Nat -> Nat -> Prop),Sq B X w0 w -> (∀ j∈s.deps,p j vs (F j) w /\ ∀ b,F j b -> b<w.1.size /\ (B <= b \/ X b)) -> (∀ j k b,j≠k -> F j b -> ¬F k b) ->
  Yi P (execOp (ug l vs a0 (s.deps.filter (·<l.length))).eval o) w fun v w'=>Sq B X w w' /\ (∀ b,b<w.1.size -> (∀ j∈s.eat,¬F j b) -> w'.1[b]?=w.1[b]?) /\ p s.i (oh vs s.i v) (fun b=>(w.1.size <= b /\ b<w'.1.size) \/ ∃ j∈s.eat,F j b) w'
def uK (p:Nat -> Dx) (B:Nat) (X:Nat -> Prop) (w0:vw) (s:so):Prop :=
 ∀ (vs us:Nat -> vx) (F:Nat -> Prop) (w w':vw),Sq B X w0 w -> Sq B X w w' -> (∀ m∈s.i :: s.deps,us m=vs m) -> (∀ b,F b -> b<w.1.size) -> (∀ b,F b -> w'.1[b]?=w.1[b]?) -> p s.i vs F w -> p s.i us F w'
section
variable {P:Program} {l:List Oper} {Q:Exit -> Act -> vw -> Prop} {R:vw -> vw -> Prop} {T:List so} {p:Nat -> Dx} {B:Nat} {X:Nat -> Prop} {w0:vw} {a0:Act} {L0:Array Bool}
structure DO (l:List Oper) (T:List so) (p:Nat -> Dx) (B:Nat) (X:Nat -> Prop) (w0:vw) (a0:Act) (L0 L:Array Bool) (vs:Nat -> vx) (own:Nat -> Nat) (a:Act) (w:vw):Prop where
 size:L.size=l.length
 old:∀ i:Nat,L0.getD i true=true -> L.getD i true=true
 new:∀ i:Nat,L.getD i true=true -> L0.getD i true=true \/ ∃ t∈T,t.i=i
 eff:Sq B X w0 w
 act:a=ug l vs a0 ((T.map (·.i)).filter fun j=>L.getD j true&&!L0.getD j true)
 facts:∀ s∈T,L.getD s.i true=true -> (∀ k∈T,s.i∈k.eat -> L.getD k.i true=false) -> p s.i vs (Mv B X own w s.i) w
theorem G0 {i j:Nat} (h:pC l i j=true):∃ o,l[i]?=vE o /\ ∃ e∈o.after,Region.binds .any e=true /\ e.on=j:=by
 unfold pC at h;split at h
 ·rename_i o ho
  simp only [Array.any_eq_true] at h;obtain ⟨k,hk,he⟩:=h;simp only [Vb,Dh] at he;exact ⟨o,ho,o.after[k],Array.getElem_mem hk,he.1,he.2⟩
 ·cases h
theorem PJ:∀ (js pre:List Nat),OJ l L0 pre js=true -> ∀ i∈js,∀ o,l[i]?=vE o -> o.guard=vD /\ L0.getD i true=false
 | [],_,_,i,hi,_,_=>by cases hi
 | j :: js,pre,h,i,hi,o,ho=>by
  unfold OJ at h;rw [Vb] at h;rcases Ah.1 hi with rfl | hi
  ·have h1:=h.1
   rw [ho] at h1;simp only [Vb,Gl,Option.isNone_iff_eq_none] at h1;exact ⟨h1.1.1,h1.1.2⟩
  ·exact PJ js _ h.2 i hi o ho
theorem I8 {L:Array Bool} (hs:L.size=l.length) (h0:∀ i:Nat,L0.getD i true=true -> L.getD i true=true) (jb:L0.size=l.length):∀ (js pre:List Nat),OJ l L0 pre js=true -> (∀ i∈pre,L.getD i true=true) -> (∃ i∈js,L.getD i true=false) -> ∃ i∈js,i∈Region.ready .any l.toArray L
 | [],_,_,_,⟨i,hi,_⟩=>by cases hi
 | j :: js,pre,h,hp,hx=>by
  unfold OJ at h;rw [Vb] at h;cases hj:L.getD j true
  ·refine ⟨j,zS,?_⟩
   have ta:j<l.length:=by
    rcases Wg j l.length with h | h
    ·exact h
    ·rw [<- hs] at h
     simp [Nat.not_lt.2 h] at hj
   have ho:l[j]?=vE l[j]:=Qb ta;have h1:=h.1;rw [ho] at h1;simp only [Vb] at h1;have h2:=h1.2;rw [Array.all_eq_true] at h2;refine mem_ready.2 ⟨hj,l[j],by rw [qo];exact ho,fun e he hb=>?_⟩
   obtain ⟨k,hk,rfl⟩:=Array.getElem_of_mem he;have h3:=h2 k hk;rw [hb] at h3;simp only [Bool.not_true,Bool.false_or,Bool.or_eq_true] at h3;have key:∀ n:Nat,n<l.length -> L.getD n true=true -> L.getD n false=true:=fun n hn h=>by
    rw [<- hs] at hn
    simpa [hn] using h
   rcases h3 with h3 | h3
   ·have hn:l.toArray[j].after[k].on<l.length:=by
     rcases Wg (l[j].after[k].on) l.length with h | h
     ·exact h
     ·rw [<- jb] at h
      have py:L0.getD (l[j].after[k].on) false=true:=h3;simp [Nat.not_lt.2 h] at py
    refine key _ hn (h0 _ ?_);rw [<- jb] at hn;have py:L0.getD (l[j].after[k].on) false=true:=h3;have aD:l[j].after[k].on<L0.size:=hn;simp [aD] at py |-
    exact py
   ·rw [Vb,yo,TE] at h3
    exact key _ h3.2 (hp _ h3.1)
  ·obtain ⟨i,hi,h'⟩:=hx
   have Sa:i∈js:=by
    rcases Ah.1 hi with rfl | hi
    ·rw [hj] at h';cases h'
    ·exact hi
   obtain ⟨k,hk,hr⟩:=I8 hs h0 jb js (j :: pre) h.2 (by intro i hi;rcases Ah.1 hi with rfl | hi;exact hj;exact hp i hi) ⟨i,Sa,h'⟩
   exact ⟨k,by simp [hk],hr⟩
theorem ZZ {P:Program} {x:Sem Next} {w:vw} {K K':vx -> vw -> Prop} (h:∀ v w',K v w' -> K' v w') (hd:Yi P x w K):Yi P x w K':=by
 rcases hd with ⟨v,w',h1,h2⟩ | ⟨w',h1,h2⟩ | ⟨f,vals,h1,h2⟩
 ·exact .inl ⟨v,w',h1,h _ _ h2⟩
 ·exact .inr (.inl ⟨w',h1,h _ _ h2⟩)
 ·exact .inr (.inr ⟨f,vals,h1,h2.mono fun e w' ⟨v,he,hk⟩=>⟨v,he,h _ _ hk⟩⟩)
structure CO (l:List Oper) (T:List so) (L0:Array Bool):Prop where
 size:L0.size=l.length
 nodup:(T.map (·.i)).Nodup
 topo:OJ l L0 [] (T.map (·.i))=true
 dst:∀ s∈T,∀ t∈T,s.i≠t.i -> ∀ x,Yd l s.i=vE x -> Yd l t.i≠vE x
 opers:∀ s∈T,∀ x∈eR l s.i,∀ t∈T,Yd l t.i=vE x -> t.i∈s.deps
 deps:∀ s∈T,∀ j∈s.deps,(∃ t∈T,t.i=j) /\ (l.length <= j \/ pC l s.i j=true)
 eat:∀ s∈T,∀ j∈s.eat,j∈s.deps /\ ∀ t∈T,t.i≠s.i -> j ∉ t.deps
 tail:∀ i,i<l.length -> L0.getD i true=false -> (∀ t∈T,t.i≠i) -> (∀ t∈T,l.length <= t.i \/ pC l i t.i=true) \/ ∃ j,j<l.length /\ L0.getD j true=false /\ (∀ t∈T,t.i≠j) /\ pC l i j=true
theorem G8 (h:dR l T L0=true):CO l T L0:=by
 unfold dR at h;simp only [Vb,fe,List.any_eq_true,Bool.or_eq_true,Dh,yo,TE,ef,ne_eq,Gl,Option.isNone_iff_eq_none] at h;obtain ⟨⟨⟨⟨⟨⟨⟨h1,h2⟩,h3⟩,h4⟩,h5⟩,h6⟩,h7⟩,h8⟩:=h;refine ⟨h1,h2,h3,?_,?_,?_,?_,?_⟩
 ·intro s hs t ht Sa x hx
  rcases h4 s hs t ht with (e | e) | e
  ·exact absurd e Sa
  ·rw [e] at hx;cases hx
  ·rw [hx] at e;exact fun e'=>e e'.symm
 ·intro s hs x hx t ht e
  rcases h5 s hs x hx t ht with h | h
  ·exact absurd e h
  ·exact h
 ·intro s hs j hj
  exact h6 s hs j hj
 ·intro s hs j hj
  obtain ⟨h,h'⟩:=h7 s hs j hj;refine ⟨h,fun t ht Sa hd=>?_⟩
  rcases h' t ht with e | e
  ·exact Sa e
  ·rw [<- Bool.not_eq_true,TE] at e
   exact e hd
 ·intro i hi h0 hT
  rcases h8 i (pj.2 hi) with (h | ⟨t,ht,e⟩) | h | ⟨j,hj,h⟩
  ·rw [h0] at h;cases h
  ·exact absurd e (hT t ht)
  ·exact .inl h
  ·refine .inr ⟨j,pj.1 hj,h.1.1,fun t ht e=>?_,h.2⟩
   have:=h.1.2;rw [<- Bool.not_eq_true,List.any_eq_true] at this;exact this ⟨t,ht,by rw [Dh];exact e⟩
theorem zEK {L:Array Bool} {i:Nat} (h:i<L.size) (a b:Bool):L.getD i a=L.getD i b:=by simp [h]
theorem gu {L:Array Bool} {i j:Nat}:(L.setIfInBounds i true).getD j true=true↔L.getD j true=true \/ j=i:=by
 by_cases e:i=j
 ·subst e
  by_cases h:i<L.size <;> simp [h]
 ·rw [getD_set_ne true e]
  exact ⟨.inl,fun h=>h.resolve_right fun h=>e h.symm⟩
theorem zA4 {L:Array Bool} {i j:Nat} (h:(L.setIfInBounds i true).getD j true=false):L.getD j true=false:=by
 cases hj:L.getD j true
 ·rfl
 ·have:=gu (i:=i).2 (.inl hj)
  rw [h] at this;cases this
def RJ (own:Nat -> Nat) (w:vw) (s:so):Nat -> Nat:=fun b=>if b<w.1.size /\ own b ∉ s.eat then own b else s.i
structure VS (l:List Oper) (T:List so) (L:Array Bool) (own:Nat -> Nat) (w:vw):Prop where
 own:∀ b,b<w.1.size -> L.getD (own b) true=true
 deps:∀ t∈T,L.getD t.i true=true -> ∀ j∈t.deps,L.getD j true=true
theorem zGA (ok:CO l T L0) {L:Array Bool} {vs:Nat -> vx} {own:Nat -> Nat} {a:Act} {w:vw} (bg:Region.noSelect l.toArray=true) (I:DO l T p B X w0 a0 L0 L vs own a w) {s:so} (hs:s∈T) {o:Oper} (ho:l[s.i]?=vE o) (hd:∀ j∈s.deps,L.getD j true=true) :
  execOp a.eval o=execOp (ug l vs a0 (s.deps.filter (·<l.length))).eval o:=by
 refine execOp_congr o (fun cs b=>Ov bg s.i o cs b (by rw [qo];exact ho)) fun x hx=>?_
 cases x with
 | tmp t =>
  have ht:t∈eR l s.i:=by
   unfold eR;rw [ho];exact List.mem_filterMap.2 ⟨.tmp t,by simpa using hx,rfl⟩
  have hTs:∀ j∈T.map (·.i),Yd l j=vE t -> j∈s.deps:=fun j hj e=>by
   obtain ⟨u,hu,rfl⟩:=Od.1 hj;exact ok.opers s hs t ht u hu e
  have PI:∀ j∈s.deps,j∈T.map (·.i):=fun j hj=>by
   obtain ⟨⟨u,hu,e⟩,-⟩:=ok.deps s hs j hj;exact Od.2 ⟨u,hu,e⟩
  have huni:∀ j∈T.map (·.i),∀ k∈T.map (·.i),k≠j -> Yd l j=vE t -> Yd l k≠vE t:=fun j hj k hk Sa e=>by
   obtain ⟨u,hu,rfl⟩:=Od.1 hj;obtain ⟨v,hv,rfl⟩:=Od.1 hk;exact ok.dst u hu v hv (fun e=>Sa e.symm) t e
  have hlen:∀ j,Yd l j=vE t -> j<l.length:=fun j e=>by
   rcases Wg j l.length with h | h
   ·exact h
   ·unfold Yd at e;rw [oo h] at e;cases e
  rw [I.act];by_cases hex:∃ j∈s.deps,Yd l j=vE t
  ·obtain ⟨j,hj,e⟩:=hex
   have hjT:=PI j hj;have h0:L0.getD j true=false:=by
    obtain ⟨u,hu,rfl⟩:=Od.1 hjT;exact (PJ _ _ ok.topo _ hjT _ (Qb (hlen _ e))).2
   rw [EW l vs t j e _ _ (wm.2 ⟨hjT,by rw [hd j hj,h0];rfl⟩) fun k hk Sa=>huni j hjT k (wm.1 hk).1 Sa e,
    EW l vs t j e _ _ (wm.2 ⟨hj,by simpa using hlen j e⟩) fun k hk Sa=>huni j hjT k (PI k (wm.1 hk).1) Sa e]
  ·rw [uR l vs t _ _ fun j hj e=>hex ⟨j,hTs j (wm.1 hj).1 e,e⟩,uR l vs t _ _ fun j hj e=>hex ⟨j,(wm.1 hj).1,e⟩]
 | _=>rfl
theorem zGH (ok:CO l T L0) {L:Array Bool} {vs:Nat -> vx} {own:Nat -> Nat} {a:Act} {w:vw} (I:DO l T p B X w0 a0 L0 L vs own a w) (J:VS l T L own w) (hB:B <= w0.1.size)
  (kd:∀ s∈T,uK p B X w0 s) {s:so} (hs:s∈T) {o:Oper} (ho:l[s.i]?=vE o) (hL:L.getD s.i true=false) (hd:∀ j∈s.deps,L.getD j true=true) {v:vx} {w':vw}
  (he:Sq B X w w') (hk:∀ b,b<w.1.size -> (∀ j∈s.eat,¬Mv B X own w j b) -> w'.1[b]?=w.1[b]?)
  (hp:p s.i (oh vs s.i v) (fun b=>(w.1.size <= b /\ b<w'.1.size) \/ ∃ j∈s.eat,Mv B X own w j b) w') :
  DO l T p B X w0 a0 L0 (L.setIfInBounds s.i true) (oh vs s.i v) (RJ own w s) (a.put o.dst v) w' /\ VS l T (L.setIfInBounds s.i true) (RJ own w s) w':=by
 have hsi:s.i<l.length:=(List.getElem?_eq_some_iff.1 ho).1;have hoi:Yd l s.i=o.dst:=by simp [Yd,ho]
 have hsT:s.i∈T.map (·.i):=Od.2 ⟨s,hs,rfl⟩
 have hL0:L0.getD s.i true=false:=(PJ _ _ ok.topo _ hsT _ ho).2;have Sa:∀ b,b<w.1.size -> own b≠s.i:=fun b hb e=>by
  have:=J.own b hb;rw [e,hL] at this;cases this
 have O5:∀ t∈T,t.i=s.i -> t=s:=fun t ht e=>by
  have hn:=ok.nodup;obtain ⟨i,hi,rfl⟩:=Ym ht;obtain ⟨j,hj,rfl⟩:=Ym hs;have:=(List.getElem_inj (h₀:=by simpa using hi) (h₁:=by simpa using hj) hn).1 (by simpa using e)
  subst this
  rfl
 refine ⟨⟨by simp [I.size],fun i h=>gu.2 (.inl (I.old i h)),fun i h=>?_,zDV I.eff he,?_,?_⟩,⟨fun b hb=>?_,fun t ht h j hj=>?_⟩⟩
 ·rcases gu.1 h with h | rfl
  ·exact I.new i h
  ·exact .inr ⟨s,hs,rfl⟩
 ·rw [I.act,<- hoi]
  refine (FW l vs s.i v _ _ _ a0 ok.nodup hsT (by rw [hL];rfl) (by rw [gu.2 (.inr rfl),hL0];rfl) (fun j _ Sa=>?_) (fun j hj Sa t e=>?_)).symm
  ·have:(L.setIfInBounds s.i true).getD j true=L.getD j true:=getD_set_ne true fun e=>Sa e.symm
   rw [this]
  ·obtain ⟨u,hu,rfl⟩:=Od.1 hj
   exact ok.dst s hs u hu (fun e=>Sa e.symm) t e
 ·intro t ht hLt hea
  by_cases e:t.i=s.i
  ·obtain rfl:=O5 t ht e
   have e2:Mv B X (RJ own w t) w' t.i=(fun b=>(w.1.size <= b /\ b<w'.1.size) \/ ∃ j∈t.eat,Mv B X own w j b):=by
    funext b
    apply propext
    unfold Mv RJ;constructor
    ·rintro ⟨h1,h2,h3⟩
     rcases Wg b w.1.size with h | h
     ·by_cases hm:own b∈t.eat
      ·exact .inr ⟨own b,hm,h,h2,rfl⟩
      ·rw [Ka ⟨h,hm⟩] at h3
       exact absurd h3 (Sa b h)
     ·exact .inl ⟨h,h1⟩
    ·rintro (⟨h1,h2⟩ | ⟨j,hj,h1,h2,rfl⟩)
     ·exact ⟨h2, .inl (zb hB (zb I.eff.2.2.2.1 h1)),ya fun h=>zO⟩
     ·exact ⟨pd h1 he.2.2.2.1,h2,ya fun h=>h.2 hj⟩
   rw [e2];exact hp
  ·have hLt':L.getD t.i true=true:=(gu.1 hLt).resolve_right e
   have hte:t.i ∉ s.eat:=fun h=>by
    have:=hea s hs h;rw [gu.2 (.inr rfl)] at this;cases this
   have hf:=I.facts t ht hLt' fun k hk h=>zA4 (hea k hk h)
   have e2:Mv B X (RJ own w s) w' t.i=Mv B X own w t.i:=by
    funext b
    apply propext
    unfold Mv RJ;constructor
    ·rintro ⟨h1,h2,h3⟩
     by_cases hm:b<w.1.size /\ own b ∉ s.eat
     ·rw [Ka hm] at h3
      exact ⟨hm.1,h2,h3⟩
     ·rw [ya hm] at h3
      exact absurd h3.symm e
    ·rintro ⟨h1,h2,h3⟩
     rw [<- h3] at hte;exact ⟨pd h1 he.2.2.2.1,h2,by rw [Ka ⟨h1,hte⟩];exact h3⟩
   rw [e2];refine kd t ht vs _ _ w w' I.eff he (fun m hm=>TX fun e=>?_) (fun b hb=>hb.1) (fun b hb=>?_) hf
   ·subst e
    rcases Ah.1 hm with h | h
    ·exact ‹¬t.i=s.i› h.symm
    ·have:=J.deps t ht hLt' _ h
     rw [hL] at this;cases this
   ·refine hk b hb.1 fun j hj hO=>?_
    have:=hO.2.2;rw [hb.2.2] at this;exact hte (this ▸ hj)
 ·unfold RJ
  split
  ·rename_i h
   exact gu.2 (.inl (J.own b h.1))
  ·exact gu.2 (.inr rfl)
 ·rcases gu.1 h with h | h
  ·exact gu.2 (.inl (J.deps t ht h j hj))
  ·obtain rfl:=O5 t ht h
   exact gu.2 (.inl (hd j hj))
def Qv (T:List so) (L0:Array Bool):Array Bool:=T.foldl (fun L s=>L.setIfInBounds s.i true) L0
theorem MY:∀ (T:List so) (L0:Array Bool) (j:Nat),(Qv T L0).getD j true=true↔L0.getD j true=true \/ ∃ t∈T,t.i=j
 | [],L0,j=>by simp [Qv]
 | s :: T,L0,j=>by
  show (Qv T (L0.setIfInBounds s.i true)).getD j true=true↔_
  rw [MY T,gu];constructor
  ·rintro ((h | rfl) | ⟨t,ht,e⟩)
   ·exact .inl h
   ·exact .inr ⟨s,zS,rfl⟩
   ·exact .inr ⟨t,by simp [ht],e⟩
  ·rintro (h | ⟨t,ht,e⟩)
   ·exact .inl (.inl h)
   ·rcases Ah.1 ht with rfl | ht
    ·exact .inl (.inr e.symm)
    ·exact .inr ⟨t,ht,e⟩
theorem NY:∀ (T:List so) (L0:Array Bool),(Qv T L0).size=L0.size
 | [],_=>rfl
 | s :: T,L0=>by
  show (Qv T (L0.setIfInBounds s.i true)).size=_
  rw [NY T];simp
theorem zGB (M:Pd R) (bg:Region.noSelect l.toArray=true) (ok:CO l T L0) (hB:B <= w0.1.size) (hR:∀ w',Sq B X w0 w' -> R w0 w') (kd:∀ s∈T,uK p B X w0 s) (pN:∀ s∈T,GO P l p B X w0 a0 s) {fr:Nat}
  (Bo:∀ (w:vw) (vs:Nat -> vx) (F:Nat -> Nat -> Prop),Sq B X w0 w -> (∀ s∈T,(∀ k∈T,s.i ∉ k.eat) -> p s.i vs (F s.i) w /\ ∀ b,F s.i b -> b<w.1.size /\ (B <= b \/ X b)) -> (∀ j k b,j≠k -> F j b -> ¬F k b) ->
   Tn P l.toArray Q R fr (Qv T L0) (ug l vs a0 ((T.map (·.i)).filter (·<l.length))) w) :
  ∀ (n:Nat) (L:Array Bool) (vs:Nat -> vx) (own:Nat -> Nat) (a:Act) (w:vw),(T.filter fun s=>!L.getD s.i true).length=n -> DO l T p B X w0 a0 L0 L vs own a w -> VS l T L own w -> wpAnyH P .any l.toArray Q (R w0) (n+fr) L a w:=by
 intro n
 induction n with
 | zero =>
  intro L vs own a w hn I J;have hup:∀ t∈T,L.getD t.i true=true:=fun t ht=>by
   have:=UE hn;rw [List.filter_eq_nil_iff] at this
   simpa using this t ht
  have hLe:L=Qv T L0:=by
   apply Array.ext
   ·rw [NY,I.size,ok.size]
   ·intro i h1 h2
    have e1:L.getD i true=L[i]:=by simp [h1]
    have e2:(Qv T L0).getD i true=(Qv T L0)[i]:=by simp [h2]
    rw [<- e1,<- e2,Bool.eq_iff_iff,MY];constructor
    ·exact I.new i
    ·rintro (h | ⟨t,ht,rfl⟩)
     ·exact I.old i h
     ·exact hup t ht
  have hact:a=ug l vs a0 ((T.map (·.i)).filter (·<l.length)):=by
   rw [I.act]
   congr 1
   refine List.filter_congr fun j hj=>?_
   obtain ⟨t,ht,rfl⟩:=Od.1 hj;rw [hup t ht,Bool.true_and];rcases Wg t.i l.length with h | h
   ·rw [(PJ _ _ ok.topo _ hj _ (Qb h)).2]
    simp [h]
   ·have:L0.getD t.i true=true:=by rw [<- ok.size] at h;simp [Nat.not_lt.2 h]
    rw [this];simp [Nat.not_lt.2 h]
  have hf:=Bo w vs (Mv B X own w) I.eff (fun s hs Sa=>⟨I.facts s hs (hup s hs) fun k hk h=>absurd h (Sa k hk),fun b hb=>⟨hb.1,hb.2.1⟩⟩) (fun j k b Sa h1 h2=>Sa (h1.2.2.symm.trans h2.2.2))
  rw [Nj,hLe,hact];exact oS (fun w2 h2=>M.trans _ _ _ (hR _ I.eff) h2) _ _ _ _ hf
 | succ n ih =>
  intro L vs own a w hn I J;have hex:∃ s∈T,L.getD s.i true=false:=by
   cases h:T.filter (fun s=>!L.getD s.i true) with
   | nil=>rw [h] at hn;cases hn
   | cons s r =>
    have:s∈T.filter (fun s=>!L.getD s.i true):=by rw [h];simp
    obtain ⟨h1,h2⟩:=wm.1 this;exact ⟨s,h1,by simpa using h2⟩
  rw [show n+1+fr=(n+fr)+1 by omega]
  refine ⟨fun h=>?_,fun i hi=>?_⟩
  ·obtain ⟨s,hs,h'⟩:=hex
   obtain ⟨i,-,hi⟩:=I8 I.size I.old ok.size _ _ ok.topo zS ⟨s.i,Od.2 ⟨s,hs,rfl⟩,h'⟩;rw [h] at hi;cases hi
  ·obtain ⟨hLi,o,ho,Gh⟩:=mem_ready.1 hi
   rw [qo] at ho;have SF:i<l.length:=(List.getElem?_eq_some_iff.1 ho).1;have MU:∀ j,pC l i j=true -> L.getD j true=true:=fun j h=>by
    obtain ⟨o',ho',e,he,hb,rfl⟩:=G0 h;rw [ho] at ho';obtain rfl:=Ya ho';have:=Gh e he hb;rcases Wg e.on L.size with h | h
    ·rw [zEK h true false];exact this
    ·simp [Nat.not_lt.2 h]
   have hT:∃ s∈T,s.i=i:=by
    refine oK fun Fq=>?_
    have h0:L0.getD i true=false:=by
     cases h:L0.getD i true
     ·rfl
     ·have:=I.old i h;rw [hLi] at this;cases this
    rcases ok.tail i SF h0 (fun t ht e=>Fq ⟨t,ht,e⟩) with h | ⟨j,hj,h1,h2,h3⟩
    ·obtain ⟨s,hs,h'⟩:=hex
     rcases h s hs with h | h
     ·rw [<- I.size] at h
      simp [Nat.not_lt.2 h] at h'
     ·rw [MU _ h] at h';cases h'
    ·have h4:=MU _ h3
     rcases I.new j h4 with h | ⟨t,ht,e⟩
     ·rw [h1] at h;cases h
     ·exact h2 t ht e
   obtain ⟨s,hs,rfl⟩:=hT;have hd:∀ j∈s.deps,L.getD j true=true:=fun j hj=>by
    rcases (ok.deps s hs j hj).2 with h | h
    ·rw [<- I.size] at h;simp [Nat.not_lt.2 h]
    ·exact MU _ h
   have hg:=(PJ _ _ ok.topo s.i (Od.2 ⟨s,hs,rfl⟩) o ho).1;unfold wpOp;rw [qo,ho];simp only [Region.wanted,hg,if_true];refine .inl (zDH ?_);rw [zGA ok bg I hs ho hd];refine ZZ ?_ (pN s hs o ho w vs (Mv B X own w) I.eff (fun j hj=>⟨?_,fun b hb=>⟨hb.1,hb.2.1⟩⟩) fun j k b Sa h1 h2=>Sa (h1.2.2.symm.trans h2.2.2))
   ·rintro v w' ⟨he,hk,hp⟩
    obtain ⟨I',J'⟩:=zGH ok I J hB kd hs ho hLi hd he hk hp;refine ⟨hR _ I'.eff,ih _ _ _ _ _ ?_ I' J'⟩;have e1:(T.filter fun t=>!(L.setIfInBounds s.i true).getD t.i true)=(T.filter fun t=>!L.getD t.i true).filter fun t=>t.i != s.i:=by
     rw [List.filter_filter];refine List.filter_congr fun t ht=>?_
     rw [Bool.eq_iff_iff];simp only [Gl,Vb,ef,ne_eq];constructor
     ·intro h
      refine ⟨fun e=>?_,zA4 h⟩
      rw [gu.2 (.inr e)] at h;cases h
     ·rintro ⟨h1,h2⟩
      cases h:(L.setIfInBounds s.i true).getD t.i true
      ·rfl
      ·rcases gu.1 h with h | h
       ·rw [h2] at h;cases h
       ·exact absurd h h1
    rw [e1];have:=z8 (T.filter fun t=>!L.getD t.i true) s.i ((List.Sublist.map _ List.filter_sublist).nodup ok.nodup) ⟨s,wm.2 ⟨hs,by rw [hLi];rfl⟩,rfl⟩
    omega
   ·obtain ⟨⟨t,ht,rfl⟩,-⟩:=ok.deps s hs j hj
    refine I.facts t ht (hd _ hj) fun k hk h=>?_
    by_cases e:k.i=s.i
    ·rw [e];exact hLi
    ·exact absurd hj ((ok.eat k hk _ h).2 s hs fun e'=>e e'.symm)
where
 z8:∀ (T:List so) (i:Nat),(T.map (·.i)).Nodup -> (∃ s∈T,s.i=i) -> (T.filter fun t=>t.i != i).length+1=T.length
  | [],_,_,⟨_,h,_⟩=>by cases h
  | t :: T,i,hn,⟨s,hs,e⟩=>by
   obtain ⟨h1,h2⟩:=List.nodup_cons.1 hn;by_cases ht:t.i=i
   ·rw [JH (by simp [ht])]
    have:T.filter (fun t=>t.i != i)=T:=List.filter_eq_self.2 fun u hu=>by
     rw [ef];intro e';exact h1 (Od.2 ⟨u,hu,e'.trans ht.symm⟩)
    rw [this];rfl
   ·rw [KH (by simpa using ht)]
    have:=z8 T i h2 (by
     rcases Ah.1 hs with rfl | hs
     ·exact absurd e ht
     ·exact ⟨s,hs,e⟩)
    simp only [Jg];omega
theorem zJY (M:Pd R) (bg:Region.noSelect l.toArray=true) (Xa:dR l T L0=true) (hB:B <= w0.1.size) (hR:∀ w',Sq B X w0 w' -> R w0 w') (vs0:Nat -> vx) (Jk:Nat -> Nat) (bG:∀ b,b<w0.1.size -> l.length <= Jk b)
  (h0:∀ s∈T,l.length <= s.i -> p s.i vs0 (Mv B X Jk w0 s.i) w0) (kd:∀ s∈T,uK p B X w0 s) (pN:∀ s∈T,GO P l p B X w0 a0 s) {fr n:Nat} (hn:(T.filter (fun s=>!L0.getD s.i true)).length+fr=n)
  (Bo:∀ (w:vw) (vs:Nat -> vx) (F:Nat -> Nat -> Prop),Sq B X w0 w -> (∀ s∈T,(∀ k∈T,s.i ∉ k.eat) -> p s.i vs (F s.i) w /\ ∀ b,F s.i b -> b<w.1.size /\ (B <= b \/ X b)) -> (∀ j k b,j≠k -> F j b -> ¬F k b) ->
   Tn P l.toArray Q R fr (Qv T L0) (ug l vs a0 ((T.map (·.i)).filter (·<l.length))) w):Tn P l.toArray Q R n L0 a0 w0:=by
 have ok:=G8 Xa;have PC:∀ j,l.length <= j -> L0.getD j true=true:=fun j h=>by rw [<- ok.size] at h;simp [Nat.not_lt.2 h]
 have hlow:∀ s∈T,L0.getD s.i true=true -> l.length <= s.i:=fun s hs h=>by
  rcases Wg s.i l.length with h1 | h1
  ·rw [(PJ _ _ ok.topo _ (Od.2 ⟨s,hs,rfl⟩) _ (Qb h1)).2] at h;cases h
  ·exact h1
 subst hn;refine zGB M bg ok hB hR kd pN Bo _ L0 vs0 Jk a0 w0 rfl ⟨ok.size,fun _ h=>h,fun _ h=>.inl h,zDU _ _ _,?_,fun s hs h _=>h0 s hs (hlow s hs h)⟩ ⟨fun b hb=>PC _ (bG b hb),fun t ht h j hj=>?_⟩
 ·have:(T.map (·.i)).filter (fun j=>L0.getD j true&&!L0.getD j true)=[]:=List.filter_eq_nil_iff.2 fun j _=>by cases L0.getD j true <;> simp
  rw [this]
  rfl
 ·rcases (ok.deps t ht j hj).2 with h' | h'
  ·exact PC j h'
  ·obtain ⟨o,ho,-⟩:=G0 h'
   have:=hlow t ht h;rw [oo this] at ho;cases ho
end
end Go.Proofs.YteoghgbnielkpaaGreat
