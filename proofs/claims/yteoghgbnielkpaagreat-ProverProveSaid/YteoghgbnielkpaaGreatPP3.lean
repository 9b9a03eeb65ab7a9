/- A part of the proof. No condition. -/
import Derived.Test.YteoghgbnielkpaaGreatPP1
import Derived.Deep.RegionHeld3
import Derived.BigQuiet
import Derived.Deep.QuietTactic

set_option maxRecDepth 100000
set_option maxHeartbeats 8000000
set_option linter.unusedVariables false
set_option linter.unusedSimpArgs false
namespace Go.Proofs.YteoghgbnielkpaaGreat
open Go.RowKit
open Tryz
open Go renaming World->vu, Value->vw, Addr->vx, TypeId->vy, Calls->vA
open Go.Value renaming int->vd, slice->ve
open Go.IntKind renaming i64->vq, u8->vt
open Go.Ending renaming returned->vn
open Go.RowKit renaming Below->vz
open Go.Act renaming put->vF
open Option renaming none->vB, some->vD
structure Ie (R:vu -> vu -> Prop):Prop where
 refl:∀ w,R w w
 trans:∀ a b c,R a b -> R b c -> R a c
theorem zM {R:vu -> vu -> Prop} (M:Ie R) {a b c:vu} (h:R a b) (k:R b c):R a c:=M.trans _ _ _ h k
def Rc (w w':vu):Prop:=vz w.1.size w w'
theorem Da:Ie Rc:=⟨fun w=>Kb _ w,fun _ _ _ h k=>ta h k⟩
def Ji (g:Nat) (w w':vu):Prop:=w.grownBy w' (vD g)
theorem de (g:Nat):Ie (Ji g):=⟨fun w=>mg w _,fun _ _ _ h k=>XE h k fun _ e=>.inl e⟩
section
variable {P:Program} {ops:Array Oper} {Q:Exit -> Act -> vu -> Prop} {R:vu -> vu -> Prop}
theorem VT {S S':vu -> Prop} (hS:∀ w,S' w -> S w):∀ (fuel:Nat) (Ka:Array Bool) (a:Act) (w:vu),wpAnyH P .any ops Q S' fuel Ka a w -> wpAnyH P .any ops Q S fuel Ka a w
 | 0,_,_,_,h=>h
 | fuel+1,_,_,_,h=>⟨h.1,fun i hi=>wpOp_mono (fun a' w' h'=>⟨hS _ h'.1,VT hS fuel _ a' w' h'.2⟩) (h.2 i hi)⟩
def Gp (P:Program) (ops:Array Oper) (Q:Exit -> Act -> vu -> Prop) (R:vu -> vu -> Prop) (fuel:Nat) (Ka:Array Bool) (a:Act) (w:vu):Prop :=
 wpAnyH P .any ops Q (R w) fuel Ka a w
theorem MQ {id:Nat} {a:Act} {w:vu} {l:List Oper} (R:vu -> vu -> Prop) (hm:P.follows .mixedOrders=true) (h:Gp P l.toArray Q R l.length (List.replicate l.length false).toArray a w.drew):(Code.region id l.toArray true).wp P Q a w:=by
 refine wp_region_held (S:=R w.drew) hm ?_;have e:Array.replicate l.toArray.size false=(List.replicate l.length false).toArray:=by simp
 rw [e]
 simpa [Gp] using h
theorem JY {fuel:Nat} {Ka:Array Bool} {a:Act} {w:vu} (hr:Region.ready .any ops Ka=[]) (h:Q .normal a w):Gp P ops Q R fuel Ka a w:=wpAnyH_done hr h fuel
end
section
variable {P:Program} {l:List Oper} {Q:Exit -> Act -> vu -> Prop} {R:vu -> vu -> Prop}
theorem so (i:Nat) {v:vw} {fuel:Nat} {Ka:Array Bool} {a:Act} {w:vu} (M:Ie R) (ya:i<l.length)
  (hs:Region.noSelect l.toArray=true) (hf:Region.free .any l.toArray Ka i=true) (hr:(Region.ready .any l.toArray Ka).contains i=true)
  (hQ:∀ c a w,Q (.panic c) (a.put l[i].dst v) w -> Q (.panic c) a w)
  (hy:(Region.wanted l[i] (yielded l.toArray a.tmps)=true /\ ∀ w',R w w' -> (execOp a.eval l[i]).run P w'= .ok (.value v) w') \/ (Region.wanted l[i] (yielded l.toArray a.tmps)=false /\ v=undef))
  (h:Gp P l.toArray Q R fuel (Ka.setIfInBounds i true) (a.put l[i].dst v) w):Gp P l.toArray Q R (fuel+1) Ka a w :=
 wpAnyH_take (i:=i) (oi:=l[i]) (by simp [ya]) hs hf hr hQ hy (M.refl w) h
theorem zBA (i:Nat) {fuel:Nat} {Ka:Array Bool} {a:Act} {w:vu} (M:Ie R) (ya:i<l.length) (hr:Region.ready .any l.toArray Ka=[i])
  (hw:Region.wanted l[i] (yielded l.toArray a.tmps)=true)
  (h:l[i].wp P a w (fun a' w'=>R w w' /\ Gp P l.toArray Q R fuel (Ka.setIfInBounds i true) a' w') Q):Gp P l.toArray Q R (fuel+1) Ka a w:=by
 refine ⟨fun h0=>absurd (hr ▸ h0) zS,fun j hj=>?_⟩
 rw [hr,Ay] at hj;subst hj;unfold wpOp;have hi:l.toArray[j]?=vD l[j]:=by simp [ya]
 simp only [hi,hw,if_true];exact .inl (Oper.wp_mono (fun a' w' h'=>⟨h'.1,VT (fun w2 h2=>M.trans _ _ _ h'.1 h2) _ _ _ _ h'.2⟩) h)
theorem zBz (i:Nat) {f:FuncId} {vals:Array vw} {fuel:Nat} {Ka:Array Bool} {a:Act} {w:vu} (M:Ie R) (ya:i<l.length) (hr:Region.ready .any l.toArray Ka=[i])
  (hw:Region.wanted l[i] (yielded l.toArray a.tmps)=true)
  (h:vA P f vals w fun e w'=>∃ v,e=vn v /\ R w w' /\ Gp P l.toArray Q R fuel (Ka.setIfInBounds i true) (a.put l[i].dst v) w')
  (Ld:∀ w,(execOp a.eval l[i]).run P w= .ok (.enter f vals) w):Gp P l.toArray Q R (fuel+1) Ka a w:=by
 refine zBA i M ya hr hw ?_;unfold Oper.wp;rw [Ld w];refine Calls.mono h ?_;rintro e w' ⟨v,rfl,h1,h2⟩;exact ⟨h1,h2⟩
end
section
variable {P:Program} {l:List Oper} {Q:Exit -> Act -> vu -> Prop} {R:vu -> vu -> Prop}
def wpS (P:Program) (l:List Oper) (Q:Exit -> Act -> vu -> Prop) (R:vu -> vu -> Prop) (i:Nat) (fuel:Nat) (Ka:Array Bool) (a:Act) (w:vu):Prop :=
 ∃ (h:i<l.length),Region.wanted l[i] (yielded l.toArray a.tmps)=true /\ l[i].wp P a w (fun a' w'=>R w w' /\ Gp P l.toArray Q R fuel (Ka.setIfInBounds i true) a' w') Q
theorem wpS_op {i fuel:Nat} {Ka:Array Bool} {a:Act} {w:vu} (M:Ie R) (h:wpS P l Q R i fuel Ka a w):wpOp P l.toArray Q i (fun a' w'=>R w w' /\ wpAnyH P .any l.toArray Q (R w) fuel (Ka.setIfInBounds i true) a' w') a w:=by
 obtain ⟨ya,hw,h⟩:=h;unfold wpOp;have hi:l.toArray[i]?=vD l[i]:=by simp [ya]
 simp only [hi,hw,if_true];exact .inl (Oper.wp_mono (fun a' w' h'=>⟨h'.1,VT (fun w2 h2=>M.trans _ _ _ h'.1 h2) _ _ _ _ h'.2⟩) h)
theorem zIB {i:Nat} {f:FuncId} {vals:Array vw} {fuel:Nat} {Ka:Array Bool} {a:Act} {w:vu} (ya:i<l.length) (hw:Region.wanted l[i] (yielded l.toArray a.tmps)=true)
  (h:vA P f vals w fun e w'=>∃ v,e=vn v /\ R w w' /\ Gp P l.toArray Q R fuel (Ka.setIfInBounds i true) (a.put l[i].dst v) w')
  (Ld:∀ w,(execOp a.eval l[i]).run P w= .ok (.enter f vals) w):wpS P l Q R i fuel Ka a w:=by
 refine ⟨ya,hw,?_⟩;unfold Oper.wp;rw [Ld w];refine Calls.mono h ?_;rintro e w' ⟨v,rfl,h1,h2⟩;exact ⟨h1,h2⟩
end
theorem aw {P:Program} {o:Oper} {ops:Array Oper} {a:Act} {v:vw} {R:vu -> vu -> Prop} {w:vu} (hw:Region.wanted o (yielded ops a.tmps)=true) (h:∀ w',R w w' -> (execOp a.eval o).run P w'= .ok (.value v) w') :
  (Region.wanted o (yielded ops a.tmps)=true /\ ∀ w',R w w' -> (execOp a.eval o).run P w'= .ok (.value v) w') \/ (Region.wanted o (yielded ops a.tmps)=false /\ v=undef):=.inl ⟨hw,h⟩
theorem zAC {P:Program} {w:vu} {t e:vy} {size bytes:Nat} {z:vw} (E:Ds P t e size bytes z) (A:Option vx) (n c h:Nat) (hc:h <= c) :
  (Instr.slice t (ve A n c) vB (vD (vd vq h)) vB).run P w= .ok (ve A h c) w:=by
 obtain ⟨ht,⟨i,hi,hz,hs,jF⟩,vL,Db⟩:=E;have he:P.elem t=e:=by simp [Program.elem,ht]
 rw [run_slice_h (P:=P) w t A n c (by rw [he];exact ht) vq (h:Int) zO zO,he]
 cases A <;> simp [sizeOf,typeInfo,hi,sliced,Result.andThen,Addr.add]
def ZF (l:List Oper) (hs:List Nat):List Nat -> Array Bool -> Bool
 | [],Ka=>(Region.ready .any l.toArray Ka).isEmpty
 | i :: rest,Ka=>decide (i<l.length)&&Region.free .any l.toArray Ka i&&(Region.ready .any l.toArray Ka).contains i &&
   (!hs.contains i||Region.ready .any l.toArray Ka == [i])&&ZF l hs rest (Ka.setIfInBounds i true)
def Iq (P:Program) (l:List Oper) (hs:List Nat) (Q:Exit -> Act -> vu -> Prop) (R:vu -> vu -> Prop) (order:List Nat) (Ka:Array Bool) (a:Act) (w:vu):Prop :=
 Region.noSelect l.toArray=true -> ZF l hs order Ka=true -> Gp P l.toArray Q R order.length Ka a w
section
variable {P:Program} {l:List Oper} {hs:List Nat} {Q:Exit -> Act -> vu -> Prop} {R:vu -> vu -> Prop} {rest:List Nat} {i:Nat} {o:Oper} {Ka:Array Bool} {a:Act} {w:vu}
theorem Pd {id:Nat} (R:vu -> vu -> Prop) (hs order:List Nat) (hm:P.follows .mixedOrders=true) (Fb:(Region.noSelect l.toArray&&order.length == l.length&&ZF l hs order (List.replicate l.length false).toArray)=true)
  (h:Iq P l hs Q R order (List.replicate l.length false).toArray a w.drew):(Code.region id l.toArray true).wp P Q a w:=by
 simp only [pe,Qo] at Fb;refine MQ R hm ?_;rw [<- Fb.1.2];have:=h Fb.1.1 Fb.2
 rwa [Fb.1.2] at this |-
theorem rM (M:Ie R) {order:List Nat} (h:∀ W,R w W -> Iq P l hs Q R order Ka a W):Iq P l hs Q R order Ka a w:=h w (M.refl w)
theorem Vc (h:Q .normal a w):Iq P l hs Q R [] Ka a w:=fun _ Fb=>JY (by simpa [ZF] using Fb) h
theorem tX (h:ZF l hs (i :: rest) Ka=true):i<l.length /\ Region.free .any l.toArray Ka i=true /\ (Region.ready .any l.toArray Ka).contains i=true /\
  (hs.contains i=true -> Region.ready .any l.toArray Ka=[i]) /\ ZF l hs rest (Ka.setIfInBounds i true)=true:=by
 unfold ZF at h;simp only [pe,Bool.or_eq_true,Mm,My,Qo] at h;obtain ⟨⟨⟨⟨h1,h2⟩,h3⟩,h4⟩,h5⟩:=h;refine ⟨h1,h2,h3,fun h6=>?_,h5⟩
 rcases h4 with h4 | h4
 ·rw [h6] at h4;cases h4
 ·exact h4
theorem UA {h:i<l.length} (ho:l[i]?=vD o):l[i]=o:=by
 rw [Ec h] at ho
 injection ho
theorem pM {v:vw} (M:Ie R) (ho:l[i]?=vD o) (hw:Region.wanted o (yielded l.toArray a.tmps)=true) (hQ:∀ c a w,Q (.panic c) (a.put o.dst v) w -> Q (.panic c) a w)
  (Ld:∀ w',R w w' -> (execOp a.eval o).run P w'= .ok (.value v) w') (h:Iq P l hs Q R rest (Ka.setIfInBounds i true) (a.put o.dst v) w):Iq P l hs Q R (i :: rest) Ka a w:=by
 intro hn Fb;obtain ⟨h1,h2,h3,-,h5⟩:=tX Fb;have e:=UA (h:=h1) ho;subst e;exact so i M h1 hn h2 h3 hQ (.inl ⟨hw,Ld⟩) (h hn h5)
theorem qM (M:Ie R) (ho:l[i]?=vD o) (hw:Region.wanted o (yielded l.toArray a.tmps)=false) (hQ:∀ c a w,Q (.panic c) (a.put o.dst undef) w -> Q (.panic c) a w)
  (h:Iq P l hs Q R rest (Ka.setIfInBounds i true) (a.put o.dst undef) w):Iq P l hs Q R (i :: rest) Ka a w:=by
 intro hn Fb;obtain ⟨h1,h2,h3,-,h5⟩:=tX Fb;have e:=UA (h:=h1) ho;subst e;exact so i M h1 hn h2 h3 hQ (.inr ⟨hw,rfl⟩) (h hn h5)
theorem ke (M:Ie R) (hh:hs.contains i=true) (ho:l[i]?=vD o) (hw:Region.wanted o (yielded l.toArray a.tmps)=true)
  (h:o.wp P a w (fun a' w'=>R w w' /\ Iq P l hs Q R rest (Ka.setIfInBounds i true) a' w') Q):Iq P l hs Q R (i :: rest) Ka a w:=by
 intro hn Fb;obtain ⟨h1,-,-,h4,h5⟩:=tX Fb;have e:=UA (h:=h1) ho;subst e;exact zBA i M h1 (h4 hh) hw (Oper.wp_mono (fun a' w' h'=>⟨h'.1,h'.2 hn h5⟩) h)
theorem oM {f:FuncId} {vals:Array vw} (M:Ie R) (hh:hs.contains i=true) (ho:l[i]?=vD o) (hw:Region.wanted o (yielded l.toArray a.tmps)=true)
  (Ld:∀ w,(execOp a.eval o).run P w= .ok (.enter f vals) w)
  (h:vA P f vals w fun e w'=>∃ v,e=vn v /\ R w w' /\ Iq P l hs Q R rest (Ka.setIfInBounds i true) (a.put o.dst v) w'):Iq P l hs Q R (i :: rest) Ka a w:=by
 refine ke M hh ho hw ?_;unfold Oper.wp;rw [Ld w];refine Calls.mono h ?_;rintro e w' ⟨v,rfl,h1,h2⟩;exact ⟨h1,h2⟩
theorem ud {f:FuncId} {vals:Array vw} (M:Ie R) (hh:hs.contains i=true) (ho:l[i]?=vD o) (hw:Region.wanted o (yielded l.toArray a.tmps)=true) (h:vA P f vals w fun e w'=>∃ v,e=vn v /\ R w w' /\ Iq P l hs Q R rest (Ka.setIfInBounds i true) (a.put o.dst v) w') (Ld:∀ w,(execOp a.eval o).run P w= .ok (.enter f vals) w:=by (intro _;go_simp <;> rfl)):Iq P l hs Q R (i :: rest) Ka a w :=
 oM M hh ho hw Ld h
end
theorem YP {w w':vu} (h:Rc w.drew w'):∀ b o,b<w.1.size -> w'.cell? ⟨b,o,vB⟩=w.cell? ⟨b,o,vB⟩:=fun b o hb=>Below.cell h (p:=⟨b,o,vB⟩) hb
theorem E8 {g:Nat} {w w':vu} (h:Ji g w w'):∀ b o,b<w.1.size -> b≠g -> w'.cell? ⟨b,o,vB⟩=w.cell? ⟨b,o,vB⟩:=fun b o hb db=>by
 have:=h.block b hb (fun e=>db (by injection e))
 simp only [World.cell?,this]
theorem zFr {g:Nat} {w w':vu} (h:Ji g w.drew w'):∀ b o,b<w.1.size -> b≠g -> w'.cell? ⟨b,o,vB⟩=w.cell? ⟨b,o,vB⟩:=fun b o hb db=>E8 h b o hb db
def qO (g i:Nat) (w w':vu):Prop:=w.grownBy w' (vD g) /\ ∀ t cs,Blk w g t cs -> ∃ v,Blk w' g t (cs.setIfInBounds i v)
theorem Au (g i:Nat):Ie (qO g i):=by
 refine ⟨fun w=>⟨mg w _,fun t cs h=>⟨cs.getD i undef,?_⟩⟩,fun a b c h k=>⟨XE h.1 k.1 fun _ e=>.inl e,fun t cs hb=>?_⟩⟩
 ·have e:cs.setIfInBounds i (cs.getD i undef)=cs:=by
   apply Array.ext
   ·simp
   ·intro j h1 h2
    rw [Array.getElem_setIfInBounds]
    ·split
     ·subst_vars
      simp [h2]
     ·rfl
  rw [e];exact h
 ·obtain ⟨v,hv⟩:=h.2 t cs hb
  obtain ⟨u,hu⟩:=k.2 t _ hv;exact ⟨u,by simpa using hu⟩
theorem D8 {g i:Nat} (w:vu) (v:vw):qO g i w (w.setCell ⟨g,i,vB⟩ v):=⟨Li (p:=⟨g,i,vB⟩) (mg w _) (.inl rfl) v,fun _ _ hb=>⟨v,hb.set_ i v⟩⟩
theorem B8 {g i:Nat} {w w':vu} (h:qO g i w.drew w'):∀ b o,b<w.1.size -> b≠g -> w'.cell? ⟨b,o,vB⟩=w.cell? ⟨b,o,vB⟩:=fun b o hb db=>E8 (w:=w.drew) h.1 b o hb db
theorem C8 {g i:Nat} {w w':vu} {t:vy} {cs:Array vw} (h:qO g i w.drew w') (k:Blk w g t cs):∀ j,j≠i -> w'.cell? ⟨g,j,vB⟩=cs[j]?:=fun j hj=>by
 obtain ⟨v,hv⟩:=h.2 t cs k;rw [hv.cell j,Array.getElem?_setIfInBounds,Gb (fun e=>hj e.symm)]
theorem Uf {w c:vu} (h:Hid (c=w.drew)):vz w.1.size w c:=by rw [h.out];exact (Kb _ _).drew
def Imp (a b:Prop):Prop:=a -> b
theorem Imp.via {a b c:Prop} (f:b -> c) (h:Imp a b):Imp a c:=fun x=>f (h x)
theorem Imp.rfl' {a:Prop}:Imp a a:=id
theorem zPU {a b:Prop} (h:a) (s:Imp a b:=by
 (try simp only [vF,zLa,zLb,zLc])
 exact Imp.rfl'):b:=s h
theorem Hk {a b:Prop} (h:a) (s:Imp a b:=by
 (repeat ((first | (apply Imp.via (qM (de _) rfl rfl (fun _ _ _ h=>h))) | (apply Imp.via (pM (v:=?_) (de _) rfl rfl (fun _ _ _ h=>h) ?hr);case hr=>(intro w' hR;(first | have Us:=zFr ((de _).trans _ _ _ ja hR) | skip);go_simp;try with_reducible rfl)));simp only [vF,zLa,zLb,zLc]))
 exact Imp.rfl'):b:=s h
theorem Mc {a b:Prop} (h:a) (s:Imp a b:=by
 (repeat ((first | (apply Imp.via (qM (Da) rfl rfl (fun _ _ _ h=>h))) | (apply Imp.via (pM (v:=?_) (Da) rfl rfl (fun _ _ _ h=>h) ?hr);case hr=>(intro w' hR;(first | have Us:=YP ((Da).trans _ _ _ ja hR) | skip);go_simp;try with_reducible rfl)));simp only [vF,zLa,zLb,zLc]))
 exact Imp.rfl'):b:=s h
def ue (bars:List Nat) (Ka:Array Bool):Bool:=bars.any fun b=>Ka.getD b true
theorem GI {bars:List Nat} {Ka:Array Bool} {j:Nat} (h:j ∉ bars):ue bars (Ka.setIfInBounds j true)=ue bars Ka:=by
 unfold ue
 induction bars with
 | nil=>rfl
 | cons b r ih =>
  simp only [Kk,not_or] at h;simp only [List.any_cons];rw [getD_set_ne true h.1,ih h.2]
section
variable {P:Program} {ops:Array Oper} {Q:Exit -> Act -> vu -> Prop} {bars:List Nat} {S:vu -> Prop}
def mG (P:Program) (ops:Array Oper) (Q:Exit -> Act -> vu -> Prop) (bars:List Nat) (S:vu -> Prop):Nat -> Array Bool -> Act -> vu -> Prop
 | 0,Ka,a,w=>Region.ready .any ops Ka=[] /\ Q .normal a w
 | fuel+1,Ka,a,w =>
  (Region.ready .any ops Ka=[] -> Q .normal a w) /\
  ∀ i∈Region.ready .any ops Ka,wpOp P ops Q i (fun a' w'=>(ue bars (Ka.setIfInBounds i true)=false -> S w') /\ mG P ops Q bars S fuel (Ka.setIfInBounds i true) a' w') a w
theorem GY:∀ (fuel:Nat) (Ka:Array Bool) (a:Act) (w:vu),mG P ops Q bars S fuel Ka a w -> wpAny P .any ops Q fuel Ka a w
 | 0,_,_,_,h=>h
 | fuel+1,_,_,_,h=>⟨h.1,fun i hi=>wpOp_mono (fun a' w' h'=>GY fuel _ a' w' h'.2) (h.2 i hi)⟩
theorem FY {S':vu -> Prop} (hS:∀ w,S' w -> S w):∀ (fuel:Nat) (Ka:Array Bool) (a:Act) (w:vu),mG P ops Q bars S' fuel Ka a w -> mG P ops Q bars S fuel Ka a w
 | 0,_,_,_,h=>h
 | fuel+1,_,_,_,h=>⟨h.1,fun i hi=>wpOp_mono (fun a' w' h'=>⟨fun hp=>hS _ (h'.1 hp),FY hS fuel _ a' w' h'.2⟩) (h.2 i hi)⟩
theorem mQ {Ka:Array Bool} {i:Nat} (h:ue bars Ka=true):ue bars (Ka.setIfInBounds i true)=true:=by
 unfold ue at *;rw [List.any_eq_true] at *;obtain ⟨b,hb,h1⟩:=h;refine ⟨b,hb,?_⟩;by_cases e:i=b
 ·subst e
  rcases Zj i Ka.size with h2 | h2
  ·simp [h2]
  ·simp [Nat.not_lt.2 h2]
 ·rw [getD_set_ne true e];exact h1
theorem EY {S':vu -> Prop}:∀ (fuel:Nat) (Ka:Array Bool) (a:Act) (w:vu),ue bars Ka=true -> mG P ops Q bars S' fuel Ka a w -> mG P ops Q bars S fuel Ka a w
 | 0,_,_,_,_,h=>h
 | fuel+1,_,_,_,hp,h=>⟨h.1,fun i hi=>wpOp_mono (fun a' w' h'=>⟨fun rB=>(by rw [mQ hp] at rB;cases rB),EY fuel _ a' w' (mQ hp) h'.2⟩) (h.2 i hi)⟩
theorem mM {T:vu -> Prop} {i:Nat} {oi:Oper} {v:vw} (hi:ops[i]?=vD oi) (Ve:∀ (j:Nat) (o:Oper) cs b,ops[j]?=vD o -> o.op≠.select cs b)
  (hQ:∀ c a w,Q (.panic c) (a.put oi.dst v) w -> Q (.panic c) a w) (yx:i ∉ bars)
  (hT:(∀ w,T w) \/ ((∀ w,S w -> T w) /\ ∀ b∈bars,∀ ob,ops[b]?=vD ob -> ∃ e∈ob.after,Region.binds .any e=true /\ e.on=i)) :
  ∀ (fuel:Nat) (Ka:Array Bool) (a:Act) (w:vu),((∀ w,T w) \/ ue bars Ka=false) ->
   (∀ j oj,ops[j]?=vD oj -> j≠i -> Ka.getD j true=false -> (∀ e∈oj.after,Region.binds .any e=true -> e.on≠i) -> oi.apart ops oj=true) ->
   i∈Region.ready .any ops Ka -> YieldsIf P ops T oi v a -> T w -> (ue bars Ka=false -> S w) ->
   mG P ops Q bars S fuel (Ka.setIfInBounds i true) (a.put oi.dst v) w -> mG P ops Q bars S (fuel+1) Ka a w:=by
 intro fuel
 induction fuel with
 | zero =>
  intro Ka a w Yi _ hr hy hTw hS H;refine ⟨fun h=>(by rw [h] at hr;cases hr),fun j hj=>?_⟩
  by_cases Rj:j=i
  ·subst Rj;exact hy.wpOp hi hTw ⟨fun hp=>hS (by rwa [GI yx] at hp),H⟩
  ·have:=ready_mono hj Rj
   rw [H.1] at this;cases this
 | succ fuel ih =>
  intro Ka a w Yi PH hr hy hTw hS H;refine ⟨fun h=>(by rw [h] at hr;cases hr),fun j hj=>?_⟩
  by_cases Rj:j=i
  ·subst Rj;exact hy.wpOp hi hTw ⟨fun hp=>hS (by rwa [GI yx] at hp),H⟩
  ·have h1:=H.2 j (ready_mono hj Rj)
   obtain ⟨aI,oj,Sj,uh⟩:=mem_ready.1 hj;have YK:∀ e∈oj.after,Region.binds .any e=true -> e.on≠i:=fun e he hb heq=>by
    have h1:=uh e he hb;have h0:=(mem_ready.1 hr).1;rw [heq] at h1;rcases Zj i Ka.size with h' | h'
    ·simp [h'] at h0 h1;rw [h0] at h1;cases h1
    ·simp [Array.getElem?_eq_none h'] at h1
   have h2:=wpOp_putIf Sj (PH j oj Sj Rj aI YK) (fun cs b=>Ve i oi cs b hi) (fun cs b=>Ve j oj cs b Sj) hQ hy h1
   have tP:∀ k ok,ops[k]?=vD ok -> k≠i -> (Ka.setIfInBounds j true).getD k true=false ->
     (∀ e∈ok.after,Region.binds .any e=true -> e.on≠i) -> oi.apart ops ok=true:=fun k ok hk yF rI Ex=>by
    refine PH k ok hk yF ?_ Ex;by_cases ZH:j=k
    ·subst ZH;exact aI
    ·rw [getD_set_ne true ZH] at rI;exact rI
   have ku:ue bars ((Ka.setIfInBounds i true).setIfInBounds j true)=ue bars (Ka.setIfInBounds j true):=by
    rw [Array.setIfInBounds_comm _ _ (Ne.symm Rj),GI yx]
   refine wpOp_mono (fun a' w' h3=>?_) h2
   have Py:ue bars (Ka.setIfInBounds j true)=false -> S w':=fun hp=>h3.2.1 (by rw [ku];exact hp)
   have L4:((∀ w,T w) \/ ue bars (Ka.setIfInBounds j true)=false) /\ T w':=by
    rcases hT with hT | ⟨hST,TV⟩
    ·exact ⟨.inl hT,hT w'⟩
    ·rcases Yi with Yi | Yi
     ·exact ⟨.inl Yi,Yi w'⟩
     ·have hjb:j ∉ bars:=fun hb=>by
       obtain ⟨e,he,te,hei⟩:=TV j hb oj Sj;exact YK e he te hei
      have rB:ue bars (Ka.setIfInBounds j true)=false:=by rw [GI hjb];exact Yi
      exact ⟨.inr rB,hST _ (Py rB)⟩
   refine ⟨Py,ih (Ka.setIfInBounds j true) a' w' L4.1 tP (ready_mono hr (Ne.symm Rj)) h3.1 L4.2 Py ?_⟩;rw [Array.setIfInBounds_comm _ _ Rj];exact h3.2.2
end
def wpB (P:Program) (ops:Array Oper) (Q:Exit -> Act -> vu -> Prop) (bars:List Nat) (R:vu -> vu -> Prop) (fuel:Nat) (Ka:Array Bool) (a:Act) (w:vu):Prop :=
 mG P ops Q bars (R w) fuel Ka a w
def XN (l:List Oper) (b i:Nat):Bool:=match l[b]? with | some o=>o.after.any fun e=>Region.binds .any e&&e.on == i | none=>true
def IB (l:List Oper) (hs bars:List Nat):List Nat -> Array Bool -> Bool
 | [],Ka=>(Region.ready .any l.toArray Ka).isEmpty
 | i :: rest,Ka=>decide (i<l.length)&&(Region.ready .any l.toArray Ka).contains i &&
   (if hs.contains i then Region.ready .any l.toArray Ka == [i] else Region.free .any l.toArray Ka i&&!bars.contains i&&(ue bars Ka||bars.all fun b=>XN l b i))&&IB l hs bars rest (Ka.setIfInBounds i true)
def Iz (P:Program) (l:List Oper) (hs bars:List Nat) (Q:Exit -> Act -> vu -> Prop) (R:vu -> vu -> Prop) (order:List Nat) (Ka:Array Bool) (a:Act) (w:vu):Prop :=
 Region.noSelect l.toArray=true -> IB l hs bars order Ka=true -> wpB P l.toArray Q bars R order.length Ka a w
section
variable {P:Program} {l:List Oper} {hs bars:List Nat} {Q:Exit -> Act -> vu -> Prop} {R:vu -> vu -> Prop} {rest:List Nat} {i:Nat} {o:Oper} {Ka:Array Bool} {a:Act} {w:vu}
theorem Jz {id:Nat} (R:vu -> vu -> Prop) (hs bars order:List Nat) (hm:P.follows .mixedOrders=true) (Fb:(Region.noSelect l.toArray&&order.length == l.length&&IB l hs bars order (List.replicate l.length false).toArray)=true)
  (h:Iz P l hs bars Q R order (List.replicate l.length false).toArray a w.drew):(Code.region id l.toArray true).wp P Q a w:=by
 simp only [pe,Qo] at Fb;refine wp_region_any hm (GY (bars:=bars) (S:=R w.drew) _ _ _ _ ?_);have h2:=h Fb.1.1 Fb.2;have e:Array.replicate l.toArray.size false=(List.replicate l.length false).toArray:=by simp
 rw [Fb.1.2] at h2;rw [e]
 simpa [wpB] using h2
theorem Lz (M:Ie R) {order:List Nat} (h:∀ W,Hid (W=w) -> R w W -> Iz P l hs bars Q R order Ka a W):Iz P l hs bars Q R order Ka a w:=h w rfl (M.refl w)
theorem Kz (h:Q .normal a w):Iz P l hs bars Q R [] Ka a w:=fun _ Fb=>⟨by simpa [IB] using Fb,h⟩
theorem AN (h:IB l hs bars (i :: rest) Ka=true):i<l.length /\ (Region.ready .any l.toArray Ka).contains i=true /\
  (hs.contains i=true -> Region.ready .any l.toArray Ka=[i]) /\
  (hs.contains i=false -> Region.free .any l.toArray Ka i=true /\ i ∉ bars /\ (ue bars Ka=true \/ ∀ b∈bars,XN l b i=true)) /\ IB l hs bars rest (Ka.setIfInBounds i true)=true:=by
 unfold IB at h;simp only [pe,My] at h;obtain ⟨⟨⟨h1,h2⟩,h3⟩,h4⟩:=h;refine ⟨h1,h2,fun h6=>?_,fun h6=>?_,h4⟩
 ·rw [Lb h6] at h3
  simpa using h3
 ·rw [Gb (by rw [h6];exact Bool.noConfusion)] at h3
  simp only [pe,Mm,Bool.or_eq_true,oh] at h3;refine ⟨h3.1.1,fun hm=>?_,h3.2⟩
  have:=h3.1.2;simp [hm] at this
theorem CY {b:Nat} {ob:Oper} (hb:l.toArray[b]?=vD ob) (h:XN l b i=true):∃ e∈ob.after,Region.binds .any e=true /\ e.on=i:=by
 unfold XN at h;rw [Hn] at hb;rw [hb] at h;simp only [Array.any_eq_true] at h;obtain ⟨k,hk,he⟩:=h;simp only [pe,Qo] at he;exact ⟨ob.after[k],Array.getElem_mem hk,he.1,he.2⟩
theorem LY {v:vw} (M:Ie R) (hh:hs.contains i=false) (ho:l[i]?=vD o) (hw:Region.wanted o (yielded l.toArray a.tmps)=true) (hQ:∀ c a w,Q (.panic c) (a.put o.dst v) w -> Q (.panic c) a w)
  (Ld:∀ w',(ue bars Ka=false -> R w w') -> (execOp a.eval o).run P w'= .ok (.value v) w') (h:Iz P l hs bars Q R rest (Ka.setIfInBounds i true) (a.put o.dst v) w):Iz P l hs bars Q R (i :: rest) Ka a w:=by
 intro hn Fb;obtain ⟨h1,h2,-,h4,h5⟩:=AN Fb;obtain ⟨f1,f2,f3⟩:=h4 hh;have ql:l.toArray[i]?=vD o:=by rw [Hn];exact ho
 cases hp:ue bars Ka
 ·refine mM (T:=R w) ql (Zu hn) hQ f2 (.inr ⟨fun _ h=>h,fun b hb ob hob=>CY hob ?_⟩) _ _ _ _ (.inr hp) (Region.free_spec ql f1) (by simpa using h2) (.inl ⟨hw,fun w' hR=>Ld w' fun _=>hR⟩) (M.refl w) (fun _=>M.refl w) (h hn h5)
  rcases f3 with f3 | f3
  ·rw [hp] at f3;cases f3
  ·exact f3 b hb
 ·exact mM (T:=fun _=>True) ql (Zu hn) hQ f2 (.inl fun _=>trivial) _ _ _ _ (.inl fun _=>trivial) (Region.free_spec ql f1) (by simpa using h2) (.inl ⟨hw,fun w' _=>Ld w' fun h=>by rw [hp] at h;cases h⟩) trivial (fun _=>M.refl w) (h hn h5)
theorem MY (M:Ie R) (hh:hs.contains i=false) (ho:l[i]?=vD o) (hw:Region.wanted o (yielded l.toArray a.tmps)=false) (hQ:∀ c a w,Q (.panic c) (a.put o.dst undef) w -> Q (.panic c) a w)
  (h:Iz P l hs bars Q R rest (Ka.setIfInBounds i true) (a.put o.dst undef) w):Iz P l hs bars Q R (i :: rest) Ka a w:=by
 intro hn Fb;obtain ⟨h1,h2,-,h4,h5⟩:=AN Fb;obtain ⟨f1,f2,f3⟩:=h4 hh;have ql:l.toArray[i]?=vD o:=by rw [Hn];exact ho
 exact mM (T:=fun _=>True) ql (Zu hn) hQ f2 (.inl fun _=>trivial) _ _ _ _ (.inl fun _=>trivial) (Region.free_spec ql f1) (by simpa using h2) (.inr ⟨hw,rfl⟩) trivial (fun _=>M.refl w) (h hn h5)
theorem Jq {a b:Prop} (h:a) (s:Imp a b:=by
 (repeat ((first | (apply Imp.via (MY (Da) rfl rfl rfl (fun _ _ _ h=>h))) | (apply Imp.via (LY (v:=?_) (Da) rfl rfl rfl (fun _ _ _ h=>h) ?hr);case hr=>(intro w' hR;(first | have Us:=YP ((Da).trans _ _ _ ja (hR rfl)) | skip);clear hR;go_simp;try with_reducible rfl)));simp only [vF,zLa,zLb,zLc]))
 exact Imp.rfl'):b:=s h
theorem fh (M:Ie R) (hh:hs.contains i=true) (ho:l[i]?=vD o) (hw:Region.wanted o (yielded l.toArray a.tmps)=true)
  (h:o.wp P a w (fun a' w'=>(ue bars (Ka.setIfInBounds i true)=false -> R w w') /\ Iz P l hs bars Q R rest (Ka.setIfInBounds i true) a' w') Q):Iz P l hs bars Q R (i :: rest) Ka a w:=by
 intro hn Fb;obtain ⟨h1,h2,h3,-,h5⟩:=AN Fb;have hr:=h3 hh;refine ⟨fun h0=>absurd (hr ▸ h0) zS,fun j hj=>?_⟩
 rw [hr,Ay] at hj;subst hj;unfold wpOp;have hi:l.toArray[j]?=vD o:=by rw [Hn];exact ho
 simp only [hi,hw,if_true];refine .inl (Oper.wp_mono (fun a' w' h'=>⟨h'.1,?_⟩) h)
 have hk:=h'.2 hn h5;cases hp:ue bars (Ka.setIfInBounds j true)
 ·exact FY (fun w2 h2=>M.trans _ _ _ (h'.1 hp) h2) _ _ _ _ hk
 ·exact EY _ _ _ _ hp hk
theorem tn {f:FuncId} {vals:Array vw} (M:Ie R) (hh:hs.contains i=true) (ho:l[i]?=vD o) (hw:Region.wanted o (yielded l.toArray a.tmps)=true)
  (Ld:∀ w,(execOp a.eval o).run P w= .ok (.enter f vals) w)
  (h:vA P f vals w fun e w'=>∃ v,e=vn v /\ (ue bars (Ka.setIfInBounds i true)=false -> R w w') /\ Iz P l hs bars Q R rest (Ka.setIfInBounds i true) (a.put o.dst v) w'):Iz P l hs bars Q R (i :: rest) Ka a w:=by
 refine fh M hh ho hw ?_;unfold Oper.wp;rw [Ld w];refine Calls.mono h ?_;rintro e w' ⟨v,rfl,h1,h2⟩;exact ⟨h1,h2⟩
end
def Ik (g N:Nat) (w w':vu):Prop:=w'.os=w.os /\ w'.tape=w.tape /\ w'.output=w.output /\ w.1.size <= w'.1.size /\ ∀ b,b<N -> b≠g -> w'.1[b]?=w.1[b]?
theorem yb (g N:Nat):Ie (Ik g N):=⟨fun _=>⟨rfl,rfl,rfl,zR,fun _ _ _=>rfl⟩,fun _ _ _ h k=>⟨k.1.trans h.1,k.2.1.trans h.2.1,k.2.2.1.trans h.2.2.1,jb h.2.2.2.1 k.2.2.2.1,fun b h1 h2=>(k.2.2.2.2 b h1 h2).trans (h.2.2.2.2 b h1 h2)⟩⟩
theorem Q3 {g N:Nat} {w w':vu} (h:Ik g N w.drew w'):∀ b o,b<N -> b≠g -> w'.cell? ⟨b,o,vB⟩=w.cell? ⟨b,o,vB⟩:=fun b o hb db=>by
 have:=h.2.2.2.2 b hb db;simp only [World.cell?,this]
 rfl
theorem Lu {a b:Prop} (h:a) (s:Imp a b:=by
 (repeat ((first | (apply Imp.via (qM (yb _ _) rfl rfl (fun _ _ _ h=>h))) | (apply Imp.via (pM (v:=?_) (yb _ _) rfl rfl (fun _ _ _ h=>h) ?hr);case hr=>(intro w' hR;(first | have Us:=Q3 ((yb _ _).trans _ _ _ ja hR) | skip);go_simp;try with_reducible rfl)));simp only [vF,zLa,zLb,zLc]))
 exact Imp.rfl'):b:=s h
theorem ig {a b:Prop} (h:a) (s:Imp a b:=by
 (repeat ((first | (apply Imp.via (MY (yb _ _) rfl rfl rfl (fun _ _ _ h=>h))) | (apply Imp.via (LY (v:=?_) (yb _ _) rfl rfl rfl (fun _ _ _ h=>h) ?hr);case hr=>(intro w' hR;(first | have Us:=Q3 ((yb _ _).trans _ _ _ ja (hR rfl)) | skip);clear hR;go_simp;try with_reducible rfl)));simp only [vF,zLa,zLb,zLc]))
 exact Imp.rfl'):b:=s h
theorem Td {g N B:Nat} {w w':vu} (h:vz B w w') (hN:N <= B):Ik g N w w':=⟨h.os,h.tape,h.output,h.size,fun b hb _=>h.block b zO⟩
theorem XC {g N:Nat} {w w':vu} (h:w.grownBy w' (vD g)) (hN:N <= w.1.size):Ik g N w w':=⟨h.os,h.tape,h.output,h.size,fun b hb db=>h.block b zO (fun e=>db (Nb e))⟩
theorem Sn {g N:Nat} {w w':vu} {row:Option Nat} (h:w.grownBy w' row) (hN:N <= w.1.size) (hr:∀ k,row=vD k -> N <= k):Ik g N w w':=⟨h.os,h.tape,h.output,h.size,fun b hb _=>h.block b zO (fun e=>by have:=hr b e.symm;omega)⟩
theorem Nk {B:Nat} {w0 w1 w2:vu} (h1:vz B w0 w1) (h2:vz w1.1.size w1 w2) (hB:B <= w1.1.size:=by omega):vz B w0 w2:=h1.trans (h2.mono hB)
theorem F8 {g:Nat} {w w':vu} (h:vz w.1.size w w'):Ji g w w':=Gr (mg w _) h zR
theorem yZ {w w':vu} {p:vx} {v:vw} (h:vz w.drew.1.size w.drew w') (hc:w.cell? p=vD v):w'.cell? p=vD v:=(Below.cell h (Bg _ _ hc)).trans hc
theorem Xf (w:vu) (t1 t2:vy) (Qc Zc:Array vw) :
  Blk ((w.alloc (.cells Qc t1)).alloc (.cells Zc t2)) w.1.size t1 Qc /\ Blk ((w.alloc (.cells Qc t1)).alloc (.cells Zc t2)) (w.1.size+1) t2 Zc /\ vz w.1.size w ((w.alloc (.cells Qc t1)).alloc (.cells Zc t2)) /\ ((w.alloc (.cells Qc t1)).alloc (.cells Zc t2)).1.size=w.1.size+2:=by
 refine ⟨(Blk.new w t1 Qc).alloc _,?_,((Kb _ w).alloc zR _).alloc zS _,zS⟩;have:=Blk.new (w.alloc (.cells Qc t1)) t2 Zc
 simpa using this
theorem Sw (w:vu) (t1 t2 t3:vy) (Qc Zc Zd:Array vw) :
  Blk (((w.alloc (.cells Qc t1)).alloc (.cells Zc t2)).alloc (.cells Zd t3)) w.1.size t1 Qc /\ Blk (((w.alloc (.cells Qc t1)).alloc (.cells Zc t2)).alloc (.cells Zd t3)) (w.1.size+1) t2 Zc /\ Blk (((w.alloc (.cells Qc t1)).alloc (.cells Zc t2)).alloc (.cells Zd t3)) (w.1.size+1+1) t3 Zd /\
   vz w.1.size w (((w.alloc (.cells Qc t1)).alloc (.cells Zc t2)).alloc (.cells Zd t3)) /\ (((w.alloc (.cells Qc t1)).alloc (.cells Zc t2)).alloc (.cells Zd t3)).1.size=w.1.size+3:=by
 obtain ⟨h1,h2,h3,h4⟩:=Xf w t1 t2 Qc Zc;refine ⟨h1.alloc _,h2.alloc _,?_,h3.alloc h3.size _,zS⟩;have:=Blk.new ((w.alloc (.cells Qc t1)).alloc (.cells Zc t2)) t3 Zd
 rwa [h4] at this
theorem Dp {w:vu} {g:Nat} {t:vy} {y0 y1 y2:vw} (k:Blk w g t #[y0,y1,y2]) (x0 x1 x2:vw):Blk (((w.setCell ⟨g,0,vB⟩ x0).setCell ⟨g,1,vB⟩ x1).setCell ⟨g,2,vB⟩ x2) g t #[x0,x1,x2]:=by
 have h:=(((k.set_ 0 x0).set_ 1 x1).set_ 2 x2)
 simpa using h
theorem Ep {w:vu} {g:Nat} (x0 x1 x2:vw):w.grownBy (((w.setCell ⟨g,0,vB⟩ x0).setCell ⟨g,1,vB⟩ x1).setCell ⟨g,2,vB⟩ x2) (vD g):=by
 iterate 3 refine Li ?_ (.inl rfl) _
 exact mg w _
theorem om {g B:Nat} {a w:vu} (h:a.grownBy w (vD g)) (hB:B <= a.1.size) (hg:B <= g):vz B a w:=dH h B hB fun _ e=>by have:=Nb e;omega
theorem Ee {g:Nat} {a b c:vu} (h:vz a.1.size a b) (k:b.grownBy c (vD g)) (e:a.1.size <= g:=by omega):vz a.1.size a c:=h.trans (om k h.size e)
section
variable {P:Program} {ops:Array Oper} {Q:Exit -> Act -> vu -> Prop} {R:vu -> vu -> Prop}
def PureRun (P:Program) (R:vu -> vu -> Prop) (W:vu) (ρ:Operand -> vw) (o:Oper) (v:vw):Prop :=
 (∀ w,R W w -> (execOp ρ o).run P w= .ok (.value v) w) \/ ∃ f vals,(∀ w,(execOp ρ o).run P w= .ok (.enter f vals) w) /\ ∀ w,R W w -> vA P f vals w fun e w'=>e=vn v /\ R w w'
def PureAt (P:Program) (ops:Array Oper) (R:vu -> vu -> Prop) (W:vu) (o:Oper) (v:vw) (a:Act):Prop :=
 (Region.wanted o (yielded ops a.tmps)=true /\ PureRun P R W a.eval o v) \/ (Region.wanted o (yielded ops a.tmps)=false /\ v=undef)
theorem PureRun.later (M:Ie R) {W W':vu} {ρ:Operand -> vw} {o:Oper} {v:vw} (h:PureRun P R W ρ o v) (hR:R W W'):PureRun P R W' ρ o v:=by
 rcases h with h | ⟨f,vals,h1,h2⟩
 ·exact .inl fun w hw=>h w (M.trans _ _ _ hR hw)
 ·exact .inr ⟨f,vals,h1,fun w hw=>h2 w (M.trans _ _ _ hR hw)⟩
theorem PureAt.later (M:Ie R) {W W':vu} {o:Oper} {v:vw} {a:Act} (h:PureAt P ops R W o v a) (hR:R W W'):PureAt P ops R W' o v a :=
 h.imp (fun h=>⟨h.1,h.2.later M hR⟩) id
theorem PureAt.same {W:vu} {o:Oper} {v:vw} {a a':Act} (h:PureAt P ops R W o v a) (he:execOp a'.eval o=execOp a.eval o) (hw:Region.wanted o (yielded ops a'.tmps)=Region.wanted o (yielded ops a.tmps)):PureAt P ops R W o v a':=by
 unfold PureAt PureRun at *;rw [he,hw];exact h
theorem PureAt.op {W w:vu} {i:Nat} {o:Oper} {v:vw} {a:Act} {K:Act -> vu -> Prop} (M:Ie R) (hi:ops[i]?=vD o) (h:PureAt P ops R W o v a) (hR:R W w) (hK:∀ w',R w w' -> K (a.put o.dst v) w'):wpOp P ops Q i K a w:=by
 unfold wpOp;simp only [hi];rcases h with ⟨hw,h | ⟨f,vals,h1,h2⟩⟩ | ⟨hw,rfl⟩
 ·simp only [hw,if_true,Oper.wp,h w hR,Oper.upon]
  exact .inl (hK w (M.refl w))
 ·simp only [hw,if_true,Oper.wp,h1 w,Oper.upon]
  refine .inl (Calls.mono (h2 w hR) ?_);rintro e w' ⟨rfl,h3⟩;exact hK w' h3
 ·simp only [hw,Bool.false_eq_true,if_false]
  exact hK w (M.refl w)
theorem zIz {Pi:Act -> Prop} {j:Nat} {oi oj:Oper} {v:vw} (hj:ops[j]?=vD oj) (Xt:oi.apart ops oj=true)
  (DF:∀ cs b,oi.op≠.select cs b) (pI:∀ cs b,oj.op≠.select cs b)
  (hPi:∀ a a',Pi a -> execOp a'.eval oi=execOp a.eval oi -> Region.wanted oi (yielded ops a'.tmps)=Region.wanted oi (yielded ops a.tmps) -> Pi a')
  (hQ:∀ c a w,Q (.panic c) (a.put oi.dst v) w -> Q (.panic c) a w) {K:Act -> vu -> Prop} {a:Act} {w:vu}
  (hy:Pi a) (h:wpOp P ops Q j K (a.put oi.dst v) w):wpOp P ops Q j (fun a' w'=>Pi a' /\ K (a'.put oi.dst v) w') a w:=by
 obtain ⟨h1,h2,h3⟩:=Oper.apart_spec Xt;have keep:∀ u,Pi (a.put oj.dst u):=fun u=>hPi a _ hy (execOp_put oi DF a oj.dst u h3) (wanted_put oi a oj.dst u h3)
 unfold wpOp at *;simp only [hj] at *;rw [wanted_put oj a oi.dst v h1] at h;split
 ·rename_i hw
  simp only [hw,if_true] at h;rcases h with h | ⟨K4,hlets⟩
  case inr=>exact .inr ⟨by unfold Oper.asks at *;rw [execOp_put oj pI a oi.dst v h1] at K4;exact K4,hlets⟩
  refine .inl ?_;unfold Oper.wp at *;rw [execOp_put oj pI a oi.dst v h1] at h;generalize (execOp a.eval oj).run P w=r at *;rcases r with ⟨n,w'⟩ | ⟨x,w'⟩
  ·cases n <;> simp only [Oper.upon] at h |-
   case value u=>exact ⟨keep u,by rw [<- Act.put_comm a v u h2];exact h⟩
   case skip=>exact ⟨keep _,by rw [<- Act.put_comm a v undef h2];exact h⟩
   case defer d =>
    refine ⟨hPi _ _ (hPi a { a with defers:=d :: a.defers } hy rfl rfl) (execOp_put oi DF _ oj.dst _ h3) (wanted_put oi _ oj.dst _ h3),?_⟩
    rw [<- Act.put_comm _ v undef h2,<- Act.put_defers];exact h
   case enter f args =>
    refine Calls.mono h fun e Vk he=>?_
    rcases e with u | c | _
    ·exact ⟨keep u,by rw [<- Act.put_comm a v u h2];exact he⟩
    ·exact hQ _ _ _ he
    ·exact he
   case row row args=>exact Rows.mono h fun u Vk he=>⟨keep u,by rw [<- Act.put_comm a v u h2];exact he⟩
  ·cases x <;> simp only [Oper.upon] at h |-
   case panic u=>exact hQ _ _ _ h
 ·rename_i hw
  simp only [hw] at h;exact ⟨keep _,by rw [<- Act.put_comm a v undef h2];exact h⟩
def May (bars:List Nat) (R:vu -> vu -> Prop) (Ka:Array Bool) (w w1:vu):Prop:=if ue bars Ka=true then w1=w else R w w1
theorem May.refl (M:Ie R) (bars:List Nat) (Ka:Array Bool) (w:vu):May bars R Ka w w:=by
 unfold May;split
 ·rfl
 ·exact M.refl w
theorem May.of {bars:List Nat} {Ka:Array Bool} {w w1:vu} (hp:ue bars Ka=false) (h:R w w1):May bars R Ka w w1:=by
 unfold May;rw [Gb (by rw [hp];exact Bool.noConfusion)]
 exact h
theorem May.out {bars:List Nat} {Ka:Array Bool} {w w1:vu} (hp:ue bars Ka=false) (h:May bars R Ka w w1):R w w1:=by
 unfold May at h
 rwa [Gb (by rw [hp];exact Bool.noConfusion)] at h
theorem May.eq {bars:List Nat} {Ka:Array Bool} {w w1:vu} (hp:ue bars Ka=true) (h:May bars R Ka w w1):w1=w:=by
 unfold May at h
 rwa [Lb hp] at h
def nG (P:Program) (ops:Array Oper) (Q:Exit -> Act -> vu -> Prop) (bars:List Nat) (R:vu -> vu -> Prop):Nat -> Array Bool -> Act -> vu -> Prop
 | 0,Ka,a,w=>Region.ready .any ops Ka=[] /\ ∀ w1,May bars R Ka w w1 -> Q .normal a w1
 | fuel+1,Ka,a,w=>∀ w1,May bars R Ka w w1 -> (Region.ready .any ops Ka=[] -> Q .normal a w1) /\
   ∀ i∈Region.ready .any ops Ka,wpOp P ops Q i (fun a' w'=>(ue bars (Ka.setIfInBounds i true)=false -> R w1 w') /\ nG P ops Q bars R fuel (Ka.setIfInBounds i true) a' w') a w1
theorem zBx (M:Ie R) {bars:List Nat}:∀ (fuel:Nat) (Ka:Array Bool) (a:Act) (w w2:vu),ue bars Ka=false -> R w w2 -> nG P ops Q bars R fuel Ka a w -> nG P ops Q bars R fuel Ka a w2
 | 0,_,_,_,_,hp,hR,h=>⟨h.1,fun w1 h1=>h.2 w1 (.of hp (M.trans _ _ _ hR (h1.out hp)))⟩
 | _+1,_,_,_,_,hp,hR,h=>fun w1 h1=>h w1 (.of hp (M.trans _ _ _ hR (h1.out hp)))
theorem zBu (M:Ie R) {bars:List Nat}:∀ (fuel:Nat) (Ka:Array Bool) (a:Act) (w:vu),nG P ops Q bars R fuel Ka a w -> wpAny P .any ops Q fuel Ka a w
 | 0,_,_,w,h=>⟨h.1,h.2 w (.refl M _ _ w)⟩
 | fuel+1,_,_,w,h=>⟨(h w (.refl M _ _ w)).1,fun i hi=>wpOp_mono (fun a' w' h'=>zBu M fuel _ a' w' h'.2) ((h w (.refl M _ _ w)).2 i hi)⟩
theorem zIs (M:Ie R) {bars:List Nat} {i:Nat} {oi:Oper} {v:vw} (hi:ops[i]?=vD oi) (Ve:∀ (j:Nat) (o:Oper) cs b,ops[j]?=vD o -> o.op≠.select cs b)
  (hQ:∀ c a w,Q (.panic c) (a.put oi.dst v) w -> Q (.panic c) a w) (yx:i ∉ bars) (TV:∀ b∈bars,∀ ob,ops[b]?=vD ob -> ∃ e∈ob.after,Region.binds .any e=true /\ e.on=i) :
  ∀ (fuel:Nat) (Ka:Array Bool) (a:Act) (w:vu),ue bars Ka=false ->
   (∀ j oj,ops[j]?=vD oj -> j≠i -> Ka.getD j true=false -> (∀ e∈oj.after,Region.binds .any e=true -> e.on≠i) -> oi.apart ops oj=true) ->
   i∈Region.ready .any ops Ka -> PureAt P ops R w oi v a -> nG P ops Q bars R fuel (Ka.setIfInBounds i true) (a.put oi.dst v) w -> nG P ops Q bars R (fuel+1) Ka a w:=by
 intro fuel
 induction fuel with
 | zero =>
  intro Ka a w hp _ hr hy H w1 xl;have rB:ue bars (Ka.setIfInBounds i true)=false:=by rw [GI yx];exact hp
  have rK:=xl.out hp;refine ⟨fun h=>(by rw [h] at hr;cases hr),fun j hj=>?_⟩
  by_cases Rj:j=i
  ·subst Rj
   exact hy.op M hi rK fun w' h'=>⟨fun _=>h',zBx M _ _ _ _ _ rB (M.trans _ _ _ rK h') H⟩
  ·have:=ready_mono hj Rj
   rw [H.1] at this;cases this
 | succ fuel ih =>
  intro Ka a w hp PH hr hy H w1 xl;have rB:ue bars (Ka.setIfInBounds i true)=false:=by rw [GI yx];exact hp
  have rK:=xl.out hp;refine ⟨fun h=>(by rw [h] at hr;cases hr),fun j hj=>?_⟩
  by_cases Rj:j=i
  ·subst Rj
   exact hy.op M hi rK fun w' h'=>⟨fun _=>h',zBx M _ _ _ _ _ rB (M.trans _ _ _ rK h') H⟩
  ·have h1:=(H w1 (.of rB rK)).2 j (ready_mono hj Rj)
   obtain ⟨aI,oj,Sj,uh⟩:=mem_ready.1 hj;have YK:∀ e∈oj.after,Region.binds .any e=true -> e.on≠i:=fun e he hb heq=>by
    have h1:=uh e he hb;have h0:=(mem_ready.1 hr).1;rw [heq] at h1;rcases Zj i Ka.size with h' | h'
    ·simp [h'] at h0 h1;rw [h0] at h1;cases h1
    ·simp [Array.getElem?_eq_none h'] at h1
   have hjb:j ∉ bars:=fun hb=>by
    obtain ⟨e,he,te,hei⟩:=TV j hb oj Sj;exact YK e he te hei
   have hpj:ue bars (Ka.setIfInBounds j true)=false:=by rw [GI hjb];exact hp
   have hpij:ue bars ((Ka.setIfInBounds i true).setIfInBounds j true)=false:=by rw [GI hjb];exact rB
   have h2:=zIz (Pi:=PureAt P ops R w1 oi v) Sj (PH j oj Sj Rj aI YK) (fun cs b=>Ve i oi cs b hi) (fun cs b=>Ve j oj cs b Sj) (fun _ _ h he hw=>h.same he hw) hQ (hy.later M rK) h1
   have tP:∀ k ok,ops[k]?=vD ok -> k≠i -> (Ka.setIfInBounds j true).getD k true=false ->
     (∀ e∈ok.after,Region.binds .any e=true -> e.on≠i) -> oi.apart ops ok=true:=fun k ok hk yF rI Ex=>by
    refine PH k ok hk yF ?_ Ex;by_cases ZH:j=k
    ·subst ZH;exact aI
    ·rw [getD_set_ne true ZH] at rI;exact rI
   refine wpOp_mono (fun a' w' h3=>?_) h2
   have aD:=h3.2.1 hpij;refine ⟨fun _=>aD,ih (Ka.setIfInBounds j true) a' w' hpj tP (ready_mono hr (Ne.symm Rj)) (h3.1.later M aD) ?_⟩
   rw [Array.setIfInBounds_comm _ _ Rj];exact h3.2.2
theorem zIt {bars:List Nat} {i:Nat} {oi:Oper} {v:vw} (hi:ops[i]?=vD oi) (Ve:∀ (j:Nat) (o:Oper) cs b,ops[j]?=vD o -> o.op≠.select cs b)
  (hQ:∀ c a w,Q (.panic c) (a.put oi.dst v) w -> Q (.panic c) a w) :
  ∀ (fuel:Nat) (Ka:Array Bool) (a:Act) (w:vu),ue bars Ka=true ->
   (∀ j oj,ops[j]?=vD oj -> j≠i -> Ka.getD j true=false -> (∀ e∈oj.after,Region.binds .any e=true -> e.on≠i) -> oi.apart ops oj=true) ->
   i∈Region.ready .any ops Ka -> YieldsIf P ops (fun _=>True) oi v a -> nG P ops Q bars R fuel (Ka.setIfInBounds i true) (a.put oi.dst v) w -> nG P ops Q bars R (fuel+1) Ka a w:=by
 intro fuel;have Ex:∀ {Ka:Array Bool} {j:Nat} {w w':vu},ue bars Ka=true -> ue bars (Ka.setIfInBounds j true)=false -> R w w':=fun h h'=>by
  rw [mQ h] at h';cases h'
 induction fuel with
 | zero =>
  intro Ka a w hp _ hr hy H w1 xl;obtain rfl:=xl.eq hp;refine ⟨fun h=>(by rw [h] at hr;cases hr),fun j hj=>?_⟩
  by_cases Rj:j=i
  ·subst Rj
   exact hy.wpOp hi trivial ⟨Ex hp,H⟩
  ·have:=ready_mono hj Rj
   rw [H.1] at this;cases this
 | succ fuel ih =>
  intro Ka a w hp PH hr hy H w1 xl;obtain rfl:=xl.eq hp;refine ⟨fun h=>(by rw [h] at hr;cases hr),fun j hj=>?_⟩
  by_cases Rj:j=i
  ·subst Rj
   exact hy.wpOp hi trivial ⟨Ex hp,H⟩
  ·have h1:=(H w1 (by unfold May;rw [Lb (mQ hp)])).2 j (ready_mono hj Rj)
   obtain ⟨aI,oj,Sj,uh⟩:=mem_ready.1 hj;have YK:∀ e∈oj.after,Region.binds .any e=true -> e.on≠i:=fun e he hb heq=>by
    have h1:=uh e he hb;have h0:=(mem_ready.1 hr).1;rw [heq] at h1;rcases Zj i Ka.size with h' | h'
    ·simp [h'] at h0 h1;rw [h0] at h1;cases h1
    ·simp [Array.getElem?_eq_none h'] at h1
   have h2:=wpOp_putIf Sj (PH j oj Sj Rj aI YK) (fun cs b=>Ve i oi cs b hi) (fun cs b=>Ve j oj cs b Sj) hQ hy h1
   have tP:∀ k ok,ops[k]?=vD ok -> k≠i -> (Ka.setIfInBounds j true).getD k true=false ->
     (∀ e∈ok.after,Region.binds .any e=true -> e.on≠i) -> oi.apart ops ok=true:=fun k ok hk yF rI Ex=>by
    refine PH k ok hk yF ?_ Ex;by_cases ZH:j=k
    ·subst ZH;exact aI
    ·rw [getD_set_ne true ZH] at rI;exact rI
   refine wpOp_mono (fun a' w' h3=>⟨Ex hp,ih (Ka.setIfInBounds j true) a' w' (mQ hp) tP (ready_mono hr (Ne.symm Rj)) h3.1 ?_⟩) h2
   rw [Array.setIfInBounds_comm _ _ Rj];exact h3.2.2
end
def Fp (P:Program) (l:List Oper) (hs bars:List Nat) (Q:Exit -> Act -> vu -> Prop) (R:vu -> vu -> Prop) (order:List Nat) (Ka:Array Bool) (a:Act) (w:vu):Prop :=
 Region.noSelect l.toArray=true -> IB l hs bars order Ka=true -> nG P l.toArray Q bars R order.length Ka a w
section
variable {P:Program} {l:List Oper} {hs bars:List Nat} {Q:Exit -> Act -> vu -> Prop} {R:vu -> vu -> Prop} {rest:List Nat} {i:Nat} {o:Oper} {Ka:Array Bool} {a:Act} {w:vu}
theorem tg {id:Nat} (R:vu -> vu -> Prop) (M:Ie R) (hs bars order:List Nat) (hm:P.follows .mixedOrders=true) (Fb:(Region.noSelect l.toArray&&order.length == l.length&&IB l hs bars order (List.replicate l.length false).toArray)=true)
  (h:Fp P l hs bars Q R order (List.replicate l.length false).toArray a w.drew):(Code.region id l.toArray true).wp P Q a w:=by
 simp only [pe,Qo] at Fb;refine wp_region_any hm (zBu (R:=R) (bars:=bars) M _ _ _ _ ?_);have h2:=h Fb.1.1 Fb.2;have e:Array.replicate l.toArray.size false=(List.replicate l.length false).toArray:=by simp
 rw [Fb.1.2] at h2;rw [e]
 simpa using h2
theorem ug (M:Ie R) {order:List Nat} (h:∀ W,R w W -> Fp P l hs bars Q R order Ka a W):Fp P l hs bars Q R order Ka a w:=h w (M.refl w)
theorem dw (hp:ue bars Ka=false) (h:∀ w1,R w w1 -> Q .normal a w1):Fp P l hs bars Q R [] Ka a w:=fun _ Fb=>⟨by simpa [IB] using Fb,fun w1 h1=>h w1 (h1.out hp)⟩
theorem Fk (hp:ue bars Ka=true) (h:Q .normal a w):Fp P l hs bars Q R [] Ka a w:=fun _ Fb=>⟨by simpa [IB] using Fb,fun w1 h1=>by rw [h1.eq hp];exact h⟩
theorem IY {v:vw} (M:Ie R) (hh:hs.contains i=false) (hp:ue bars Ka=false) (ho:l[i]?=vD o) (hQ:∀ c a w,Q (.panic c) (a.put o.dst v) w -> Q (.panic c) a w)
  (hpu:PureAt P l.toArray R w o v a) (h:Fp P l hs bars Q R rest (Ka.setIfInBounds i true) (a.put o.dst v) w):Fp P l hs bars Q R (i :: rest) Ka a w:=by
 intro hn Fb;obtain ⟨h1,h2,-,h4,h5⟩:=AN Fb;obtain ⟨f1,f2,f3⟩:=h4 hh;have ql:l.toArray[i]?=vD o:=by rw [Hn];exact ho
 refine zIs M ql (Zu hn) hQ f2 (fun b hb ob hob=>CY hob ?_) _ _ _ _ hp (Region.free_spec ql f1) (by simpa using h2) hpu (h hn h5)
 rcases f3 with f3 | f3
 ·rw [hp] at f3;cases f3
 ·exact f3 b hb
theorem zBv {v:vw} (M:Ie R) (hh:hs.contains i=false) (hp:ue bars Ka=false) (ho:l[i]?=vD o) (hw:Region.wanted o (yielded l.toArray a.tmps)=true) (hQ:∀ c a w,Q (.panic c) (a.put o.dst v) w -> Q (.panic c) a w)
  (Ld:∀ w',R w w' -> (execOp a.eval o).run P w'= .ok (.value v) w') (h:Fp P l hs bars Q R rest (Ka.setIfInBounds i true) (a.put o.dst v) w):Fp P l hs bars Q R (i :: rest) Ka a w :=
 IY M hh hp ho hQ (.inl ⟨hw, .inl Ld⟩) h
theorem zBw (M:Ie R) (hh:hs.contains i=false) (hp:ue bars Ka=false) (ho:l[i]?=vD o) (hw:Region.wanted o (yielded l.toArray a.tmps)=false) (hQ:∀ c a w,Q (.panic c) (a.put o.dst undef) w -> Q (.panic c) a w)
  (h:Fp P l hs bars Q R rest (Ka.setIfInBounds i true) (a.put o.dst undef) w):Fp P l hs bars Q R (i :: rest) Ka a w :=
 IY M hh hp ho hQ (.inr ⟨hw,rfl⟩) h
theorem Cf {a b:Prop} (h:a) (s:Imp a b:=by
 (repeat ((first | (apply Imp.via (zBw (Da) rfl rfl rfl rfl (fun _ _ _ h=>h))) | (apply Imp.via (zBv (v:=?_) (Da) rfl rfl rfl rfl (fun _ _ _ h=>h) ?hr);case hr=>(intro w' hR;(first | have Us:=YP ((Da).trans _ _ _ ja hR) | skip);go_simp;try with_reducible rfl)));simp only [vF,zLa,zLb,zLc]))
 exact Imp.rfl'):b:=s h
theorem zIq {v:vw} {f:FuncId} {vals:Array vw} (M:Ie R) (hh:hs.contains i=false) (hp:ue bars Ka=false) (ho:l[i]?=vD o) (hw:Region.wanted o (yielded l.toArray a.tmps)=true) (hQ:∀ c a w,Q (.panic c) (a.put o.dst v) w -> Q (.panic c) a w)
  (Ld:∀ w,(execOp a.eval o).run P w= .ok (.enter f vals) w) (hc:∀ w',R w w' -> vA P f vals w' fun e Vk=>e=vn v /\ R w' Vk)
  (h:Fp P l hs bars Q R rest (Ka.setIfInBounds i true) (a.put o.dst v) w):Fp P l hs bars Q R (i :: rest) Ka a w :=
 IY M hh hp ho hQ (.inl ⟨hw, .inr ⟨f,vals,Ld,hc⟩⟩) h
theorem yd {v:vw} {f:FuncId} {vals:Array vw} (M:Ie R) (hh:hs.contains i=false) (hp:ue bars Ka=false) (ho:l[i]?=vD o) (hw:Region.wanted o (yielded l.toArray a.tmps)=true) (hc:∀ w',R w w' -> vA P f vals w' fun e Vk=>e=vn v /\ R w' Vk) (h:Fp P l hs bars Q R rest (Ka.setIfInBounds i true) (a.put o.dst v) w) (hQ:∀ c a w,Q (.panic c) (a.put o.dst v) w -> Q (.panic c) a w:=by exact fun _ _ _ h=>h) (Ld:∀ w,(execOp a.eval o).run P w= .ok (.enter f vals) w:=by (intro _;go_simp <;> rfl)):Fp P l hs bars Q R (i :: rest) Ka a w :=
 zIq M hh hp ho hw hQ Ld hc h
theorem zIr {v:vw} (hh:hs.contains i=false) (hp:ue bars Ka=true) (ho:l[i]?=vD o) (hw:Region.wanted o (yielded l.toArray a.tmps)=true) (hQ:∀ c a w,Q (.panic c) (a.put o.dst v) w -> Q (.panic c) a w)
  (Ld:∀ w',(execOp a.eval o).run P w'= .ok (.value v) w') (h:Fp P l hs bars Q R rest (Ka.setIfInBounds i true) (a.put o.dst v) w):Fp P l hs bars Q R (i :: rest) Ka a w:=by
 intro hn Fb;obtain ⟨h1,h2,-,h4,h5⟩:=AN Fb;have ql:l.toArray[i]?=vD o:=by rw [Hn];exact ho
 exact zIt ql (Zu hn) hQ _ _ _ _ hp (Region.free_spec ql (h4 hh).1) (by simpa using h2) (.inl ⟨hw,fun w' _=>Ld w'⟩) (h hn h5)
theorem Cd {a b:Prop} (h:a) (s:Imp a b:=by
 (repeat ((first | (apply Imp.via (zBw (Da) rfl rfl rfl rfl (fun _ _ _ h=>h))) | (apply Imp.via (zBv (v:=?_) (Da) rfl rfl rfl rfl (fun _ _ _ h=>h) ?hr);case hr=>(intro w' hR;(first | have Us:=YP ((Da).trans _ _ _ ja hR) | skip);go_simp;try with_reducible rfl)) | (apply Imp.via (zIr (v:=?_) rfl rfl rfl rfl (fun _ _ _ h=>h) ?hr);case hr=>(intro w';go_simp;try with_reducible rfl)));simp only [vF,zLa,zLb,zLc]))
 exact Imp.rfl'):b:=s h
theorem Xj (hh:hs.contains i=true) (hp:ue bars Ka=false) (ho:l[i]?=vD o) (hw:Region.wanted o (yielded l.toArray a.tmps)=true)
  (h:∀ w1,R w w1 -> o.wp P a w1 (fun a' w'=>(ue bars (Ka.setIfInBounds i true)=false -> R w1 w') /\ Fp P l hs bars Q R rest (Ka.setIfInBounds i true) a' w') Q):Fp P l hs bars Q R (i :: rest) Ka a w:=by
 intro hn Fb;obtain ⟨h1,-,h3,-,h5⟩:=AN Fb;have hr:=h3 hh;intro w1 xl;refine ⟨fun h0=>absurd (hr ▸ h0) zS,fun j hj=>?_⟩
 rw [hr,Ay] at hj;subst hj;unfold wpOp;have hi:l.toArray[j]?=vD o:=by rw [Hn];exact ho
 simp only [hi,hw,if_true];exact .inl (Oper.wp_mono (fun a' w' h'=>⟨h'.1,h'.2 hn h5⟩) (h w1 (xl.out hp)))
end
theorem oe {P:Program} {l:List Oper} {hs:List Nat} {Q:Exit -> Act -> vu -> Prop} {R:vu -> vu -> Prop} {Ka:Array Bool} {a:Act} {w:vu} (M:Ie R) {order:List Nat} (h:∀ W,Hid (W=w) -> R w W -> Iq P l hs Q R order Ka a W):Iq P l hs Q R order Ka a w:=h w rfl (M.refl w)
theorem VS {g:Nat} {w w':vu} (h:vz w.1.size w w'):Ji g w w':=Gr (mg w _) h zR
abbrev Qz:=(Nat -> vw) -> (Nat -> Prop) -> vu -> Prop
structure Up where
 i:Nat
 deps:List Nat
 eat:List Nat
def Se (l:List Oper) (j:Nat):Option Tmp:=(l[j]?).bind (·.dst)
def dh (l:List Oper) (vs:Nat -> vw) (a:Act) (js:List Nat):Act:=js.foldl (fun a j=>a.put (Se l j) (vs j)) a
def VL:List (Nat × Qz) -> Nat -> Qz
 | [],_=>fun _ _ _=>True
 | (k,p) :: r,j=>if Nat.beq k j then p else VL r j
theorem DX (l:List Oper) (vs:Nat -> vw) (d:Option Tmp) (v:vw):∀ (js:List Nat) (a:Act),(∀ j∈js,∀ t,d=vD t -> Se l j≠vD t) -> dh l vs (a.put d v) js=(dh l vs a js).put d v
 | [],_,_=>rfl
 | j :: js,a,h=>by
  show dh l vs ((a.put d v).put (Se l j) (vs j)) js=_
  rw [Act.put_comm a v (vs j) (h j zS)];exact DX l vs d v js _ fun k hk=>h k (by simp [hk])
theorem E9 (l:List Oper) {vs us:Nat -> vw}:∀ (js:List Nat) (a:Act),(∀ j∈js,vs j=us j) -> dh l vs a js=dh l us a js
 | [],_,_=>rfl
 | j :: js,a,h=>by
  show dh l vs (a.put (Se l j) (vs j)) js=dh l us (a.put (Se l j) (us j)) js
  rw [h j zS];exact E9 l js _ fun k hk=>h k (by simp [hk])
def Hq (vs:Nat -> vw) (i:Nat) (v:vw):Nat -> vw:=fun j=>if j=i then v else vs j
theorem zBo (vs:Nat -> vw) (i:Nat) (v:vw):Hq vs i v i=v:=Lb rfl
theorem AY {vs:Nat -> vw} {i j:Nat} {v:vw} (h:j≠i):Hq vs i v j=vs j:=Gb h
theorem FX (l:List Oper) (vs:Nat -> vw) (i:Nat) (v:vw) (f f':Nat -> Bool):∀ (js:List Nat) (a:Act),js.Nodup -> i∈js -> f i=false -> f' i=true -> (∀ j∈js,j≠i -> f' j=f j) ->
  (∀ j∈js,j≠i -> ∀ t,Se l i=vD t -> Se l j≠vD t) -> dh l (Hq vs i v) a (js.filter f')=(dh l vs a (js.filter f)).put (Se l i) v
 | [],_,_,h,_,_,_,_=>by cases h
 | j :: js,a,hn,hi,h0,h1,h2,h3=>by
  obtain ⟨hj,WK⟩:=List.nodup_cons.1 hn;by_cases e:j=i
  ·subst e
   have hf:js.filter f'=js.filter f:=List.filter_congr fun k hk=>h2 k (by simp [hk]) (by rintro rfl;exact hj hk)
   rw [IJ h1,GJ (by rw [h0];exact zt),hf]
   show dh l (Hq vs j v) (a.put (Se l j) (Hq vs j v j)) _=_
   rw [zBo,DX _ _ _ _ _ _ (fun k hk=>h3 k (by simp [(Hl.1 hk).1]) (by rintro rfl;exact hj (Hl.1 hk).1))]
   rw [E9 l _ a fun k hk=>AY (by rintro rfl;exact hj (Hl.1 hk).1)]
  ·have pB:i∈js:=by
    rcases Kk.1 hi with h | h
    ·exact absurd h.symm e
    ·exact h
   have key:=fun a=>FX l vs i v f f' js a WK pB h0 h1 (fun k hk=>h2 k (by simp [hk])) fun k hk=>h3 k (by simp [hk])
   have e2:=h2 j zS e;cases hfj:f j
   ·rw [GJ (by rw [e2,hfj];exact zt),GJ (by rw [hfj];exact zt)]
    exact key a
   ·rw [IJ (by rw [e2,hfj]),IJ hfj]
    show dh l (Hq vs i v) (a.put (Se l j) (Hq vs i v j)) _=(dh l vs (a.put (Se l j) (vs j)) _).put _ _
    rw [AY e];exact key _
theorem oT (l:List Oper) (vs:Nat -> vw) (t:Tmp):∀ (js:List Nat) (a:Act),(∀ j∈js,Se l j≠vD t) -> (dh l vs a js).eval (.tmp t)=a.eval (.tmp t)
 | [],_,_=>rfl
 | j :: js,a,h=>by
  show (dh l vs (a.put (Se l j) (vs j)) js).eval _=_
  rw [oT l vs t js _ fun k hk=>h k (by simp [hk])]
  exact Act.eval_put fun d hd he=>h j zS (by rw [hd];injection he with he;rw [he])
theorem EX (l:List Oper) (vs:Nat -> vw) (t:Tmp) (j:Nat) (hd:Se l j=vD t):∀ (js:List Nat) (a:Act),j∈js -> (∀ k∈js,k≠j -> Se l k≠vD t) -> (dh l vs a js).eval (.tmp t)=if t<a.tmps.size then vs j else undef
 | [],_,h,_=>by cases h
 | k :: js,a,h,db=>by
  show (dh l vs (a.put (Se l k) (vs k)) js).eval _=_
  by_cases hj:j∈js
  ·rw [EX l vs t j hd js _ hj fun m hm=>db m (by simp [hm])]
   have e:(a.put (Se l k) (vs k)).tmps.size=a.tmps.size:=by cases h:Se l k <;> simp [vF]
   rw [e]
  ·obtain rfl:j=k:=by
    rcases Kk.1 h with h | h
    ·exact h
    ·exact absurd h hj
   rw [oT l vs t js _ fun m hm=>db m (by simp [hm]) fun e=>hj (e ▸ hm),hd]
   by_cases ht:t<a.tmps.size <;> simp [Act.eval,vF,ht]
def Ct (B:Nat) (X:Nat -> Prop) (w w':vu):Prop:=w'.os=w.os /\ w'.tape=w.tape /\ w'.output=w.output /\ w.1.size <= w'.1.size /\ ∀ b,b<B -> ¬X b -> w'.1[b]?=w.1[b]?
theorem zCQ {B:Nat} {X:Nat -> Prop} {a b c:vu} (h:Ct B X a b) (k:Ct B X b c):Ct B X a c :=
 ⟨k.1.trans h.1,k.2.1.trans h.2.1,k.2.2.1.trans h.2.2.1,jb h.2.2.2.1 k.2.2.2.1,fun g h1 h2=>(k.2.2.2.2 g h1 h2).trans (h.2.2.2.2 g h1 h2)⟩
theorem zCP (B:Nat) (X:Nat -> Prop) (w:vu):Ct B X w w:=⟨rfl,rfl,rfl,zR,fun _ _ _=>rfl⟩
def Dy (B:Nat) (X:Nat -> Prop) (own:Nat -> Nat) (w:vu) (i:Nat):Nat -> Prop:=fun b=>b<w.1.size /\ (B <= b \/ X b) /\ own b=i
def Oz (P:Program) (x:Sem Next) (w:vu) (K:vw -> vu -> Prop):Prop :=
 (∃ v w',x.run P w= .ok (.value v) w' /\ K v w') \/ (∃ w',x.run P w= .ok .skip w' /\ K undef w') \/ (∃ f vals,x.run P w= .ok (.enter f vals) w /\ vA P f vals w fun e w'=>∃ v,e=vn v /\ K v w')
theorem zCH {P:Program} {o:Oper} {a:Act} {w:vu} {K:Act -> vu -> Prop} {Q:Exit -> Act -> vu -> Prop} (h:Oz P (execOp a.eval o) w fun v w'=>K (a.put o.dst v) w'):o.wp P a w K Q:=by
 unfold Oper.wp;rcases h with ⟨v,w',h1,h2⟩ | ⟨w',h1,h2⟩ | ⟨f,vals,h1,h2⟩
 ·rw [h1];exact h2
 ·rw [h1];exact h2
 ·rw [h1]
  refine Calls.mono h2 ?_;rintro e w' ⟨v,rfl,h3⟩;exact h3
theorem fV {P:Program} {x:Sem Next} {w w':vu} {K:vw -> vu -> Prop} {v:vw} (h:x.run P w= .ok (.value v) w') (hK:K v w'):Oz P x w K:=.inl ⟨v,w',h,hK⟩
def QE (l:List Oper) (i j:Nat):Bool:=match l[i]? with | some o=>(o.after.any fun e=>Region.binds .any e&&e.on == j) | none=>false
def XS (l:List Oper) (i:Nat):List Tmp:=match l[i]? with | some o=>(o.op.operands.toList.filterMap fun | .tmp t=>vD t | _=>vB) | none=>[]
def QL (l:List Oper) (L0:Array Bool):List Nat -> List Nat -> Bool
 | _,[]=>true
 | pre,i :: rest=>(match l[i]? with | some o=>o.guard.isNone&&!L0.getD i true&&o.after.all (fun e=>!Region.binds .any e||L0.getD e.on false||(pre.contains e.on&&decide (e.on<l.length))) | none=>true)&&QL l L0 (i :: pre) rest
def TS (l:List Oper) (T:List Up) (L0:Array Bool):Bool :=
 L0.size == l.length&&(T.map (·.i)).Nodup&&QL l L0 [] (T.map (·.i)) &&
 (T.all fun s=>T.all fun t=>s.i == t.i||(Se l s.i).isNone||Se l s.i != Se l t.i) &&
 (T.all fun s=>(XS l s.i).all fun x=>T.all fun t=>Se l t.i != vD x||s.deps.contains t.i) &&
 (T.all fun s=>s.deps.all fun j=>(T.any fun t=>t.i == j)&&(decide (l.length <= j)||QE l s.i j)) &&
 (T.all fun s=>s.eat.all fun j=>s.deps.contains j&&T.all fun t=>t.i == s.i||!t.deps.contains j) &&
 ((List.range l.length).all fun i=>L0.getD i true||(T.any fun t=>t.i == i)||((T.all fun t=>decide (l.length <= t.i)||QE l i t.i)||(List.range l.length).any fun j=>!L0.getD j true&&!(T.any fun t=>t.i == j)&&QE l i j))
def oR (P:Program) (l:List Oper) (p:Nat -> Qz) (B:Nat) (X:Nat -> Prop) (w0:vu) (a0:Act) (s:Up):Prop :=
 ∀ (o:Oper),l[s.i]?=vD o -> ∀ (w:vu) (vs:Nat -> vw) (F:Nat -> Nat -> Prop),Ct B X w0 w -> (∀ j∈s.deps,p j vs (F j) w /\ ∀ b,F j b -> b<w.1.size /\ (B <= b \/ X b)) -> (∀ j k b,j≠k -> F j b -> ¬F k b) ->
  Oz P (execOp (dh l vs a0 (s.deps.filter (·<l.length))).eval o) w fun v w'=>Ct B X w w' /\ (∀ b,b<w.1.size -> (∀ j∈s.eat,¬F j b) -> w'.1[b]?=w.1[b]?) /\ p s.i (Hq vs s.i v) (fun b=>(w.1.size <= b /\ b<w'.1.size) \/ ∃ j∈s.eat,F j b) w'
def NM (p:Nat -> Qz) (B:Nat) (X:Nat -> Prop) (w0:vu) (s:Up):Prop :=
 ∀ (vs us:Nat -> vw) (F:Nat -> Prop) (w w':vu),Ct B X w0 w -> Ct B X w w' -> (∀ m∈s.i :: s.deps,us m=vs m) -> (∀ b,F b -> b<w.1.size) -> (∀ b,F b -> w'.1[b]?=w.1[b]?) -> p s.i vs F w -> p s.i us F w'
section
variable {P:Program} {l:List Oper} {Q:Exit -> Act -> vu -> Prop} {R:vu -> vu -> Prop} {T:List Up} {p:Nat -> Qz} {B:Nat} {X:Nat -> Prop} {w0:vu} {a0:Act} {L0:Array Bool}
structure lR (l:List Oper) (T:List Up) (p:Nat -> Qz) (B:Nat) (X:Nat -> Prop) (w0:vu) (a0:Act) (L0 L:Array Bool) (vs:Nat -> vw) (own:Nat -> Nat) (a:Act) (w:vu):Prop where
 size:L.size=l.length
 old:∀ i:Nat,L0.getD i true=true -> L.getD i true=true
 new:∀ i:Nat,L.getD i true=true -> L0.getD i true=true \/ ∃ t∈T,t.i=i
 eff:Ct B X w0 w
 act:a=dh l vs a0 ((T.map (·.i)).filter fun j=>L.getD j true&&!L0.getD j true)
 facts:∀ s∈T,L.getD s.i true=true -> (∀ k∈T,s.i∈k.eat -> L.getD k.i true=false) -> p s.i vs (Dy B X own w s.i) w
theorem F0 {i j:Nat} (h:QE l i j=true):∃ o,l[i]?=vD o /\ ∃ e∈o.after,Region.binds .any e=true /\ e.on=j:=by
 unfold QE at h;split at h
 ·rename_i o ho
  simp only [Array.any_eq_true] at h;obtain ⟨k,hk,he⟩:=h;simp only [pe,Qo] at he;exact ⟨o,ho,o.after[k],Array.getElem_mem hk,he.1,he.2⟩
 ·cases h
theorem RL:∀ (js pre:List Nat),QL l L0 pre js=true -> ∀ i∈js,∀ o,l[i]?=vD o -> o.guard=vB /\ L0.getD i true=false
 | [],_,_,i,hi,_,_=>by cases hi
 | j :: js,pre,h,i,hi,o,ho=>by
  unfold QL at h;rw [pe] at h;rcases Kk.1 hi with rfl | hi
  ·have h1:=h.1
   rw [ho] at h1;simp only [pe,Mm,Option.isNone_iff_eq_none] at h1;exact ⟨h1.1.1,h1.1.2⟩
  ·exact RL js _ h.2 i hi o ho
theorem s8 {L:Array Bool} (hs:L.size=l.length) (h0:∀ i:Nat,L0.getD i true=true -> L.getD i true=true) (Db:L0.size=l.length):∀ (js pre:List Nat),QL l L0 pre js=true -> (∀ i∈pre,L.getD i true=true) -> (∃ i∈js,L.getD i true=false) -> ∃ i∈js,i∈Region.ready .any l.toArray L
 | [],_,_,_,⟨i,hi,_⟩=>by cases hi
 | j :: js,pre,h,hp,hx=>by
  unfold QL at h;rw [pe] at h;cases hj:L.getD j true
  ·refine ⟨j,zS,?_⟩
   have ya:j<l.length:=by
    rcases Zj j l.length with h | h
    ·exact h
    ·rw [<- hs] at h
     simp [Nat.not_lt.2 h] at hj
   have ho:l[j]?=vD l[j]:=Ec ya;have h1:=h.1;rw [ho] at h1;simp only [pe] at h1;have h2:=h1.2;rw [Array.all_eq_true] at h2;refine mem_ready.2 ⟨hj,l[j],by rw [Hn];exact ho,fun e he hb=>?_⟩
   obtain ⟨k,hk,rfl⟩:=Array.getElem_of_mem he;have h3:=h2 k hk;rw [hb] at h3;simp only [Bool.not_true,Bool.false_or,Bool.or_eq_true] at h3;have key:∀ n:Nat,n<l.length -> L.getD n true=true -> L.getD n false=true:=fun n hn h=>by
    rw [<- hs] at hn
    simpa [hn] using h
   rcases h3 with h3 | h3
   ·have hn:l.toArray[j].after[k].on<l.length:=by
     rcases Zj (l[j].after[k].on) l.length with h | h
     ·exact h
     ·rw [<- Db] at h
      have bK:L0.getD (l[j].after[k].on) false=true:=h3;simp [Nat.not_lt.2 h] at bK
    refine key _ hn (h0 _ ?_);rw [<- Db] at hn;have bK:L0.getD (l[j].after[k].on) false=true:=h3;have WK:l[j].after[k].on<L0.size:=hn;simp [WK] at bK |-
    exact bK
   ·rw [pe,My,xE] at h3
    exact key _ h3.2 (hp _ h3.1)
  ·obtain ⟨i,hi,h'⟩:=hx
   have db:i∈js:=by
    rcases Kk.1 hi with rfl | hi
    ·rw [hj] at h';cases h'
    ·exact hi
   obtain ⟨k,hk,hr⟩:=s8 hs h0 Db js (j :: pre) h.2 (by intro i hi;rcases Kk.1 hi with rfl | hi;exact hj;exact hp i hi) ⟨i,db,h'⟩
   exact ⟨k,by simp [hk],hr⟩
theorem WZ {P:Program} {x:Sem Next} {w:vu} {K K':vw -> vu -> Prop} (h:∀ v w',K v w' -> K' v w') (hd:Oz P x w K):Oz P x w K':=by
 rcases hd with ⟨v,w',h1,h2⟩ | ⟨w',h1,h2⟩ | ⟨f,vals,h1,h2⟩
 ·exact .inl ⟨v,w',h1,h _ _ h2⟩
 ·exact .inr (.inl ⟨w',h1,h _ _ h2⟩)
 ·exact .inr (.inr ⟨f,vals,h1,h2.mono fun e w' ⟨v,he,hk⟩=>⟨v,he,h _ _ hk⟩⟩)
structure jR (l:List Oper) (T:List Up) (L0:Array Bool):Prop where
 size:L0.size=l.length
 nodup:(T.map (·.i)).Nodup
 topo:QL l L0 [] (T.map (·.i))=true
 dst:∀ s∈T,∀ t∈T,s.i≠t.i -> ∀ x,Se l s.i=vD x -> Se l t.i≠vD x
 opers:∀ s∈T,∀ x∈XS l s.i,∀ t∈T,Se l t.i=vD x -> t.i∈s.deps
 deps:∀ s∈T,∀ j∈s.deps,(∃ t∈T,t.i=j) /\ (l.length <= j \/ QE l s.i j=true)
 eat:∀ s∈T,∀ j∈s.eat,j∈s.deps /\ ∀ t∈T,t.i≠s.i -> j ∉ t.deps
 tail:∀ i,i<l.length -> L0.getD i true=false -> (∀ t∈T,t.i≠i) -> (∀ t∈T,l.length <= t.i \/ QE l i t.i=true) \/ ∃ j,j<l.length /\ L0.getD j true=false /\ (∀ t∈T,t.i≠j) /\ QE l i j=true
theorem r8 (h:TS l T L0=true):jR l T L0:=by
 unfold TS at h;simp only [pe,oh,List.any_eq_true,Bool.or_eq_true,Qo,My,xE,dk,ne_eq,Mm,Option.isNone_iff_eq_none] at h;obtain ⟨⟨⟨⟨⟨⟨⟨h1,h2⟩,h3⟩,h4⟩,h5⟩,h6⟩,h7⟩,h8⟩:=h;refine ⟨h1,h2,h3,?_,?_,?_,?_,?_⟩
 ·intro s hs t ht db x hx
  rcases h4 s hs t ht with (e | e) | e
  ·exact absurd e db
  ·rw [e] at hx;cases hx
  ·rw [hx] at e;exact fun e'=>e e'.symm
 ·intro s hs x hx t ht e
  rcases h5 s hs x hx t ht with h | h
  ·exact absurd e h
  ·exact h
 ·intro s hs j hj
  exact h6 s hs j hj
 ·intro s hs j hj
  obtain ⟨h,h'⟩:=h7 s hs j hj;refine ⟨h,fun t ht db hd=>?_⟩
  rcases h' t ht with e | e
  ·exact db e
  ·rw [<- Bool.not_eq_true,xE] at e
   exact e hd
 ·intro i hi h0 hT
  rcases h8 i (Mj.2 hi) with (h | ⟨t,ht,e⟩) | h | ⟨j,hj,h⟩
  ·rw [h0] at h;cases h
  ·exact absurd e (hT t ht)
  ·exact .inl h
  ·refine .inr ⟨j,Mj.1 hj,h.1.1,fun t ht e=>?_,h.2⟩
   have:=h.1.2;rw [<- Bool.not_eq_true,List.any_eq_true] at this;exact this ⟨t,ht,by rw [Qo];exact e⟩
theorem zDI {L:Array Bool} {i:Nat} (h:i<L.size) (a b:Bool):L.getD i a=L.getD i b:=by simp [h]
theorem Yv {L:Array Bool} {i j:Nat}:(L.setIfInBounds i true).getD j true=true↔L.getD j true=true \/ j=i:=by
 by_cases e:i=j
 ·subst e
  by_cases h:i<L.size <;> simp [h]
 ·rw [getD_set_ne true e]
  exact ⟨.inl,fun h=>h.resolve_right fun h=>e h.symm⟩
theorem zAL {L:Array Bool} {i j:Nat} (h:(L.setIfInBounds i true).getD j true=false):L.getD j true=false:=by
 cases hj:L.getD j true
 ·rfl
 ·have:=Yv (i:=i).2 (.inl hj)
  rw [h] at this;cases this
def UL (own:Nat -> Nat) (w:vu) (s:Up):Nat -> Nat:=fun b=>if b<w.1.size /\ own b ∉ s.eat then own b else s.i
structure IU (l:List Oper) (T:List Up) (L:Array Bool) (own:Nat -> Nat) (w:vu):Prop where
 own:∀ b,b<w.1.size -> L.getD (own b) true=true
 deps:∀ t∈T,L.getD t.i true=true -> ∀ j∈t.deps,L.getD j true=true
theorem zFz (ok:jR l T L0) {L:Array Bool} {vs:Nat -> vw} {own:Nat -> Nat} {a:Act} {w:vu} (Ve:Region.noSelect l.toArray=true) (I:lR l T p B X w0 a0 L0 L vs own a w) {s:Up} (hs:s∈T) {o:Oper} (ho:l[s.i]?=vD o) (hd:∀ j∈s.deps,L.getD j true=true) :
  execOp a.eval o=execOp (dh l vs a0 (s.deps.filter (·<l.length))).eval o:=by
 refine execOp_congr o (fun cs b=>Zu Ve s.i o cs b (by rw [Hn];exact ho)) fun x hx=>?_
 cases x with
 | tmp t =>
  have ht:t∈XS l s.i:=by
   unfold XS;rw [ho];exact List.mem_filterMap.2 ⟨.tmp t,by simpa using hx,rfl⟩
  have hTs:∀ j∈T.map (·.i),Se l j=vD t -> j∈s.deps:=fun j hj e=>by
   obtain ⟨u,hu,rfl⟩:=ee.1 hj;exact ok.opers s hs t ht u hu e
  have EK:∀ j∈s.deps,j∈T.map (·.i):=fun j hj=>by
   obtain ⟨⟨u,hu,e⟩,-⟩:=ok.deps s hs j hj;exact ee.2 ⟨u,hu,e⟩
  have huni:∀ j∈T.map (·.i),∀ k∈T.map (·.i),k≠j -> Se l j=vD t -> Se l k≠vD t:=fun j hj k hk db e=>by
   obtain ⟨u,hu,rfl⟩:=ee.1 hj;obtain ⟨v,hv,rfl⟩:=ee.1 hk;exact ok.dst u hu v hv (fun e=>db e.symm) t e
  have hlen:∀ j,Se l j=vD t -> j<l.length:=fun j e=>by
   rcases Zj j l.length with h | h
   ·exact h
   ·unfold Se at e;rw [It h] at e;cases e
  rw [I.act];by_cases hex:∃ j∈s.deps,Se l j=vD t
  ·obtain ⟨j,hj,e⟩:=hex
   have hjT:=EK j hj;have h0:L0.getD j true=false:=by
    obtain ⟨u,hu,rfl⟩:=ee.1 hjT;exact (RL _ _ ok.topo _ hjT _ (Ec (hlen _ e))).2
   rw [EX l vs t j e _ _ (Hl.2 ⟨hjT,by rw [hd j hj,h0];rfl⟩) fun k hk db=>huni j hjT k (Hl.1 hk).1 db e,
    EX l vs t j e _ _ (Hl.2 ⟨hj,by simpa using hlen j e⟩) fun k hk db=>huni j hjT k (EK k (Hl.1 hk).1) db e]
  ·rw [oT l vs t _ _ fun j hj e=>hex ⟨j,hTs j (Hl.1 hj).1 e,e⟩,oT l vs t _ _ fun j hj e=>hex ⟨j,(Hl.1 hj).1,e⟩]
 | _=>rfl
theorem zFJ (ok:jR l T L0) {L:Array Bool} {vs:Nat -> vw} {own:Nat -> Nat} {a:Act} {w:vu} (I:lR l T p B X w0 a0 L0 L vs own a w) (J:IU l T L own w) (hB:B <= w0.1.size)
  (bg:∀ s∈T,NM p B X w0 s) {s:Up} (hs:s∈T) {o:Oper} (ho:l[s.i]?=vD o) (hL:L.getD s.i true=false) (hd:∀ j∈s.deps,L.getD j true=true) {v:vw} {w':vu}
  (he:Ct B X w w') (hk:∀ b,b<w.1.size -> (∀ j∈s.eat,¬Dy B X own w j b) -> w'.1[b]?=w.1[b]?)
  (hp:p s.i (Hq vs s.i v) (fun b=>(w.1.size <= b /\ b<w'.1.size) \/ ∃ j∈s.eat,Dy B X own w j b) w') :
  lR l T p B X w0 a0 L0 (L.setIfInBounds s.i true) (Hq vs s.i v) (UL own w s) (a.put o.dst v) w' /\ IU l T (L.setIfInBounds s.i true) (UL own w s) w':=by
 have DF:s.i<l.length:=(List.getElem?_eq_some_iff.1 ho).1;have hoi:Se l s.i=o.dst:=by simp [Se,ho]
 have hsT:s.i∈T.map (·.i):=ee.2 ⟨s,hs,rfl⟩
 have hL0:L0.getD s.i true=false:=(RL _ _ ok.topo _ hsT _ ho).2;have db:∀ b,b<w.1.size -> own b≠s.i:=fun b hb e=>by
  have:=J.own b hb;rw [e,hL] at this;cases this
 have C5:∀ t∈T,t.i=s.i -> t=s:=fun t ht e=>by
  have hn:=ok.nodup;obtain ⟨i,hi,rfl⟩:=Vq ht;obtain ⟨j,hj,rfl⟩:=Vq hs;have:=(List.getElem_inj (h₀:=by simpa using hi) (h₁:=by simpa using hj) hn).1 (by simpa using e)
  subst this
  rfl
 refine ⟨⟨by simp [I.size],fun i h=>Yv.2 (.inl (I.old i h)),fun i h=>?_,zCQ I.eff he,?_,?_⟩,⟨fun b hb=>?_,fun t ht h j hj=>?_⟩⟩
 ·rcases Yv.1 h with h | rfl
  ·exact I.new i h
  ·exact .inr ⟨s,hs,rfl⟩
 ·rw [I.act,<- hoi]
  refine (FX l vs s.i v _ _ _ a0 ok.nodup hsT (by rw [hL];rfl) (by rw [Yv.2 (.inr rfl),hL0];rfl) (fun j _ db=>?_) (fun j hj db t e=>?_)).symm
  ·have:(L.setIfInBounds s.i true).getD j true=L.getD j true:=getD_set_ne true fun e=>db e.symm
   rw [this]
  ·obtain ⟨u,hu,rfl⟩:=ee.1 hj
   exact ok.dst s hs u hu (fun e=>db e.symm) t e
 ·intro t ht hLt hea
  by_cases e:t.i=s.i
  ·obtain rfl:=C5 t ht e
   have e2:Dy B X (UL own w t) w' t.i=(fun b=>(w.1.size <= b /\ b<w'.1.size) \/ ∃ j∈t.eat,Dy B X own w j b):=by
    funext b
    apply propext
    unfold Dy UL;constructor
    ·rintro ⟨h1,h2,h3⟩
     rcases Zj b w.1.size with h | h
     ·by_cases hm:own b∈t.eat
      ·exact .inr ⟨own b,hm,h,h2,rfl⟩
      ·rw [Lb ⟨h,hm⟩] at h3
       exact absurd h3 (db b h)
     ·exact .inl ⟨h,h1⟩
    ·rintro (⟨h1,h2⟩ | ⟨j,hj,h1,h2,rfl⟩)
     ·exact ⟨h2, .inl (jb hB (jb I.eff.2.2.2.1 h1)),Gb fun h=>zO⟩
     ·exact ⟨We h1 he.2.2.2.1,h2,Gb fun h=>h.2 hj⟩
   rw [e2];exact hp
  ·have hLt':L.getD t.i true=true:=(Yv.1 hLt).resolve_right e
   have hte:t.i ∉ s.eat:=fun h=>by
    have:=hea s hs h;rw [Yv.2 (.inr rfl)] at this;cases this
   have hf:=I.facts t ht hLt' fun k hk h=>zAL (hea k hk h)
   have e2:Dy B X (UL own w s) w' t.i=Dy B X own w t.i:=by
    funext b
    apply propext
    unfold Dy UL;constructor
    ·rintro ⟨h1,h2,h3⟩
     by_cases hm:b<w.1.size /\ own b ∉ s.eat
     ·rw [Lb hm] at h3
      exact ⟨hm.1,h2,h3⟩
     ·rw [Gb hm] at h3
      exact absurd h3.symm e
    ·rintro ⟨h1,h2,h3⟩
     rw [<- h3] at hte;exact ⟨We h1 he.2.2.2.1,h2,by rw [Lb ⟨h1,hte⟩];exact h3⟩
   rw [e2];refine bg t ht vs _ _ w w' I.eff he (fun m hm=>AY fun e=>?_) (fun b hb=>hb.1) (fun b hb=>?_) hf
   ·subst e
    rcases Kk.1 hm with h | h
    ·exact ‹¬t.i=s.i› h.symm
    ·have:=J.deps t ht hLt' _ h
     rw [hL] at this;cases this
   ·refine hk b hb.1 fun j hj hO=>?_
    have:=hO.2.2;rw [hb.2.2] at this;exact hte (this ▸ hj)
 ·unfold UL
  split
  ·rename_i h
   exact Yv.2 (.inl (J.own b h.1))
  ·exact Yv.2 (.inr rfl)
 ·rcases Yv.1 h with h | h
  ·exact Yv.2 (.inl (J.deps t ht h j hj))
  ·obtain rfl:=C5 t ht h
   exact Yv.2 (.inl (hd j hj))
def Gy (T:List Up) (L0:Array Bool):Array Bool:=T.foldl (fun L s=>L.setIfInBounds s.i true) L0
theorem jZ:∀ (T:List Up) (L0:Array Bool) (j:Nat),(Gy T L0).getD j true=true↔L0.getD j true=true \/ ∃ t∈T,t.i=j
 | [],L0,j=>by simp [Gy]
 | s :: T,L0,j=>by
  show (Gy T (L0.setIfInBounds s.i true)).getD j true=true↔_
  rw [jZ T,Yv];constructor
  ·rintro ((h | rfl) | ⟨t,ht,e⟩)
   ·exact .inl h
   ·exact .inr ⟨s,zS,rfl⟩
   ·exact .inr ⟨t,by simp [ht],e⟩
  ·rintro (h | ⟨t,ht,e⟩)
   ·exact .inl (.inl h)
   ·rcases Kk.1 ht with rfl | ht
    ·exact .inl (.inr e.symm)
    ·exact .inr ⟨t,ht,e⟩
theorem kZ:∀ (T:List Up) (L0:Array Bool),(Gy T L0).size=L0.size
 | [],_=>rfl
 | s :: T,L0=>by
  show (Gy T (L0.setIfInBounds s.i true)).size=_
  rw [kZ T];simp
theorem zFA (M:Ie R) (Ve:Region.noSelect l.toArray=true) (ok:jR l T L0) (hB:B <= w0.1.size) (hR:∀ w',Ct B X w0 w' -> R w0 w') (bg:∀ s∈T,NM p B X w0 s) (QP:∀ s∈T,oR P l p B X w0 a0 s) {fr:Nat}
  (Xs:∀ (w:vu) (vs:Nat -> vw) (F:Nat -> Nat -> Prop),Ct B X w0 w -> (∀ s∈T,(∀ k∈T,s.i ∉ k.eat) -> p s.i vs (F s.i) w /\ ∀ b,F s.i b -> b<w.1.size /\ (B <= b \/ X b)) -> (∀ j k b,j≠k -> F j b -> ¬F k b) ->
   Gp P l.toArray Q R fr (Gy T L0) (dh l vs a0 ((T.map (·.i)).filter (·<l.length))) w) :
  ∀ (n:Nat) (L:Array Bool) (vs:Nat -> vw) (own:Nat -> Nat) (a:Act) (w:vu),(T.filter fun s=>!L.getD s.i true).length=n -> lR l T p B X w0 a0 L0 L vs own a w -> IU l T L own w -> wpAnyH P .any l.toArray Q (R w0) (n+fr) L a w:=by
 intro n
 induction n with
 | zero =>
  intro L vs own a w hn I J;have hup:∀ t∈T,L.getD t.i true=true:=fun t ht=>by
   have:=IM hn;rw [List.filter_eq_nil_iff] at this
   simpa using this t ht
  have hLe:L=Gy T L0:=by
   apply Array.ext
   ·rw [kZ,I.size,ok.size]
   ·intro i h1 h2
    have e1:L.getD i true=L[i]:=by simp [h1]
    have e2:(Gy T L0).getD i true=(Gy T L0)[i]:=by simp [h2]
    rw [<- e1,<- e2,Bool.eq_iff_iff,jZ];constructor
    ·exact I.new i
    ·rintro (h | ⟨t,ht,rfl⟩)
     ·exact I.old i h
     ·exact hup t ht
  have hact:a=dh l vs a0 ((T.map (·.i)).filter (·<l.length)):=by
   rw [I.act]
   congr 1
   refine List.filter_congr fun j hj=>?_
   obtain ⟨t,ht,rfl⟩:=ee.1 hj;rw [hup t ht,Bool.true_and];rcases Zj t.i l.length with h | h
   ·rw [(RL _ _ ok.topo _ hj _ (Ec h)).2]
    simp [h]
   ·have:L0.getD t.i true=true:=by rw [<- ok.size] at h;simp [Nat.not_lt.2 h]
    rw [this];simp [Nat.not_lt.2 h]
  have hf:=Xs w vs (Dy B X own w) I.eff (fun s hs db=>⟨I.facts s hs (hup s hs) fun k hk h=>absurd h (db k hk),fun b hb=>⟨hb.1,hb.2.1⟩⟩) (fun j k b db h1 h2=>db (h1.2.2.symm.trans h2.2.2))
  rw [Re,hLe,hact];exact VT (fun w2 h2=>M.trans _ _ _ (hR _ I.eff) h2) _ _ _ _ hf
 | succ n ih =>
  intro L vs own a w hn I J;have hex:∃ s∈T,L.getD s.i true=false:=by
   cases h:T.filter (fun s=>!L.getD s.i true) with
   | nil=>rw [h] at hn;cases hn
   | cons s r =>
    have:s∈T.filter (fun s=>!L.getD s.i true):=by rw [h];simp
    obtain ⟨h1,h2⟩:=Hl.1 this;exact ⟨s,h1,by simpa using h2⟩
  rw [show n+1+fr=(n+fr)+1 by omega]
  refine ⟨fun h=>?_,fun i hi=>?_⟩
  ·obtain ⟨s,hs,h'⟩:=hex
   obtain ⟨i,-,hi⟩:=s8 I.size I.old ok.size _ _ ok.topo zS ⟨s.i,ee.2 ⟨s,hs,rfl⟩,h'⟩;rw [h] at hi;cases hi
  ·obtain ⟨hLi,o,ho,uh⟩:=mem_ready.1 hi
   rw [Hn] at ho;have WH:i<l.length:=(List.getElem?_eq_some_iff.1 ho).1;have cW:∀ j,QE l i j=true -> L.getD j true=true:=fun j h=>by
    obtain ⟨o',iI,e,he,hb,rfl⟩:=F0 h;rw [ho] at iI;obtain rfl:=Nb iI;have:=uh e he hb;rcases Zj e.on L.size with h | h
    ·rw [zDI h true false];exact this
    ·simp [Nat.not_lt.2 h]
   have hT:∃ s∈T,s.i=i:=by
    refine wM fun Ex=>?_
    have h0:L0.getD i true=false:=by
     cases h:L0.getD i true
     ·rfl
     ·have:=I.old i h;rw [hLi] at this;cases this
    rcases ok.tail i WH h0 (fun t ht e=>Ex ⟨t,ht,e⟩) with h | ⟨j,hj,h1,h2,h3⟩
    ·obtain ⟨s,hs,h'⟩:=hex
     rcases h s hs with h | h
     ·rw [<- I.size] at h
      simp [Nat.not_lt.2 h] at h'
     ·rw [cW _ h] at h';cases h'
    ·have h4:=cW _ h3
     rcases I.new j h4 with h | ⟨t,ht,e⟩
     ·rw [h1] at h;cases h
     ·exact h2 t ht e
   obtain ⟨s,hs,rfl⟩:=hT;have hd:∀ j∈s.deps,L.getD j true=true:=fun j hj=>by
    rcases (ok.deps s hs j hj).2 with h | h
    ·rw [<- I.size] at h;simp [Nat.not_lt.2 h]
    ·exact cW _ h
   have hg:=(RL _ _ ok.topo s.i (ee.2 ⟨s,hs,rfl⟩) o ho).1;unfold wpOp;rw [Hn,ho];simp only [Region.wanted,hg,if_true];refine .inl (zCH ?_);rw [zFz ok Ve I hs ho hd];refine WZ ?_ (QP s hs o ho w vs (Dy B X own w) I.eff (fun j hj=>⟨?_,fun b hb=>⟨hb.1,hb.2.1⟩⟩) fun j k b db h1 h2=>db (h1.2.2.symm.trans h2.2.2))
   ·rintro v w' ⟨he,hk,hp⟩
    obtain ⟨I',J'⟩:=zFJ ok I J hB bg hs ho hLi hd he hk hp;refine ⟨hR _ I'.eff,ih _ _ _ _ _ ?_ I' J'⟩;have e1:(T.filter fun t=>!(L.setIfInBounds s.i true).getD t.i true)=(T.filter fun t=>!L.getD t.i true).filter fun t=>t.i != s.i:=by
     rw [List.filter_filter];refine List.filter_congr fun t ht=>?_
     rw [Bool.eq_iff_iff];simp only [Mm,pe,dk,ne_eq];constructor
     ·intro h
      refine ⟨fun e=>?_,zAL h⟩
      rw [Yv.2 (.inr e)] at h;cases h
     ·rintro ⟨h1,h2⟩
      cases h:(L.setIfInBounds s.i true).getD t.i true
      ·rfl
      ·rcases Yv.1 h with h | h
       ·rw [h2] at h;cases h
       ·exact absurd h h1
    rw [e1];have:=W7 (T.filter fun t=>!L.getD t.i true) s.i ((List.Sublist.map _ List.filter_sublist).nodup ok.nodup) ⟨s,Hl.2 ⟨hs,by rw [hLi];rfl⟩,rfl⟩
    omega
   ·obtain ⟨⟨t,ht,rfl⟩,-⟩:=ok.deps s hs j hj
    refine I.facts t ht (hd _ hj) fun k hk h=>?_
    by_cases e:k.i=s.i
    ·rw [e];exact hLi
    ·exact absurd hj ((ok.eat k hk _ h).2 s hs fun e'=>e e'.symm)
where
 W7:∀ (T:List Up) (i:Nat),(T.map (·.i)).Nodup -> (∃ s∈T,s.i=i) -> (T.filter fun t=>t.i != i).length+1=T.length
  | [],_,_,⟨_,h,_⟩=>by cases h
  | t :: T,i,hn,⟨s,hs,e⟩=>by
   obtain ⟨h1,h2⟩:=List.nodup_cons.1 hn;by_cases ht:t.i=i
   ·rw [GJ (by simp [ht])]
    have:T.filter (fun t=>t.i != i)=T:=List.filter_eq_self.2 fun u hu=>by
     rw [dk];intro e';exact h1 (ee.2 ⟨u,hu,e'.trans ht.symm⟩)
    rw [this];rfl
   ·rw [IJ (by simpa using ht)]
    have:=W7 T i h2 (by
     rcases Kk.1 hs with rfl | hs
     ·exact absurd e ht
     ·exact ⟨s,hs,e⟩)
    simp only [Yh];omega
theorem zIA (M:Ie R) (Ve:Region.noSelect l.toArray=true) (Fb:TS l T L0=true) (hB:B <= w0.1.size) (hR:∀ w',Ct B X w0 w' -> R w0 w') (vs0:Nat -> vw) (Tf:Nat -> Nat) (qB:∀ b,b<w0.1.size -> l.length <= Tf b)
  (h0:∀ s∈T,l.length <= s.i -> p s.i vs0 (Dy B X Tf w0 s.i) w0) (bg:∀ s∈T,NM p B X w0 s) (QP:∀ s∈T,oR P l p B X w0 a0 s) {fr n:Nat} (hn:(T.filter (fun s=>!L0.getD s.i true)).length+fr=n)
  (Xs:∀ (w:vu) (vs:Nat -> vw) (F:Nat -> Nat -> Prop),Ct B X w0 w -> (∀ s∈T,(∀ k∈T,s.i ∉ k.eat) -> p s.i vs (F s.i) w /\ ∀ b,F s.i b -> b<w.1.size /\ (B <= b \/ X b)) -> (∀ j k b,j≠k -> F j b -> ¬F k b) ->
   Gp P l.toArray Q R fr (Gy T L0) (dh l vs a0 ((T.map (·.i)).filter (·<l.length))) w):Gp P l.toArray Q R n L0 a0 w0:=by
 have ok:=r8 Fb;have TH:∀ j,l.length <= j -> L0.getD j true=true:=fun j h=>by rw [<- ok.size] at h;simp [Nat.not_lt.2 h]
 have hlow:∀ s∈T,L0.getD s.i true=true -> l.length <= s.i:=fun s hs h=>by
  rcases Zj s.i l.length with h1 | h1
  ·rw [(RL _ _ ok.topo _ (ee.2 ⟨s,hs,rfl⟩) _ (Ec h1)).2] at h;cases h
  ·exact h1
 subst hn;refine zFA M Ve ok hB hR bg QP Xs _ L0 vs0 Tf a0 w0 rfl ⟨ok.size,fun _ h=>h,fun _ h=>.inl h,zCP _ _ _,?_,fun s hs h _=>h0 s hs (hlow s hs h)⟩ ⟨fun b hb=>TH _ (qB b hb),fun t ht h j hj=>?_⟩
 ·have:(T.map (·.i)).filter (fun j=>L0.getD j true&&!L0.getD j true)=[]:=List.filter_eq_nil_iff.2 fun j _=>by cases L0.getD j true <;> simp
  rw [this]
  rfl
 ·rcases (ok.deps t ht j hj).2 with h' | h'
  ·exact TH j h'
  ·obtain ⟨o,ho,-⟩:=F0 h'
   have:=hlow t ht h;rw [It this] at ho;cases ho
end
def S (l:List Nat):ByteArray:=⟨(l.map fun n=>UInt8.ofNat n).toArray⟩
theorem S_size (l:List Nat):(S l).size=l.length:=by simp [S,ByteArray.size]
theorem zHA {P:Program} {w:vu} {src e dst:vy} {A:Option vx} {n c:Nat} {l:List Nat} (hs:P.underlying src=vD (.slice e)) (he:P.underlying e=vD (.int vt)) (hd:P.underlying dst=vD .string)
  (h:Rd w 1 A n (U8 l)):(convert src dst (ve A n c)).run P w= .ok (.string (S l)) w:=by
 have hl:l.length=n:=by have:=h.len1;rwa [G6] at this
 rcases Jn n with h0 | h0
 ·subst h0
  obtain rfl:l=[]:=IM hl;rcases A with _ | ad
  ·rw [run_convert_bytes_nil w src e hs he _ _ dst hd]
   rfl
  ·rw [run_convert_bytes_string w src dst e _ 0 c hs he hd,run_bytesToString w ad 0 c [] (by simpa using run_loadCells_list (P:=P) w ad [] (fun j v hj=>by simp at hj))]
   rfl
 ·obtain ⟨ad,rfl,hc⟩:=h.2 h0
  have hlc:=run_loadCells_list (P:=P) w ad (U8 l) hc;rw [G6,hl] at hlc;rw [run_convert_bytes_string w src dst e _ n c hs he hd,run_bytesToString w ad n c (l.map fun x:Nat=>(x:Int)) (by rw [hlc];simp [U8,Function.comp_def]),foldl_push_bytes]
  simp [S,ByteArray.empty,ByteArray.emptyWithCapacity,Function.comp_def]
  rfl
end Go.Proofs.YteoghgbnielkpaaGreat
