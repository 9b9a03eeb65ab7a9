/- A part of the proof. No condition. -/
import Derived.Test.YteoghgbnielkpaaGreatTH1
import Derived.Deep.RegionHeld3
import Derived.BigQuiet
import Derived.Deep.QuietTactic

set_option maxRecDepth 100000
set_option maxHeartbeats 8000000
set_option linter.unusedVariables false
set_option linter.unusedSimpArgs false
namespace Go.Proofs.YteoghgbnielkpaaGreat
open Go.RowKit
open Tryz
open Go renaming World->vw, Value->vx, Addr->vy, TypeId->vz, Calls->vB
open Go.Value renaming int->vd, slice->ve
open Go.IntKind renaming i64->vq, u8->vu
open Go.Ending renaming returned->vl
open Go.RowKit renaming Below->vA
open Go.Act renaming put->vG
open Option renaming none->vD, some->vE
structure ie (R:vw -> vw -> Prop):Prop where
 refl:∀ w,R w w
 trans:∀ a b c,R a b -> R b c -> R a c
def Tb (w w':vw):Prop:=vA w.1.size w w'
theorem pa:ie Tb:=⟨fun w=>za _ w,fun _ _ _ h k=>ma h k⟩
def om (g:Nat) (w w':vw):Prop:=w.grownBy w' (vE g)
theorem Je (g:Nat):ie (om g):=⟨fun w=>Vd w _,fun _ _ _ h k=>Iq h k fun _ e=>.inl e⟩
section
variable {P:Program} {ops:Array Oper} {Q:Exit -> Act -> vw -> Prop} {R:vw -> vw -> Prop}
theorem eQ {S S':vw -> Prop} (hS:∀ w,S' w -> S w):∀ (fuel:Nat) (ya:Array Bool) (a:Act) (w:vw),wpAnyH P .any ops Q S' fuel ya a w -> wpAnyH P .any ops Q S fuel ya a w
 | 0,_,_,_,h=>h
 | fuel+1,_,_,_,h=>⟨h.1,fun i hi=>wpOp_mono (fun a' w' h'=>⟨hS _ h'.1,eQ hS fuel _ a' w' h'.2⟩) (h.2 i hi)⟩
def Sm (P:Program) (ops:Array Oper) (Q:Exit -> Act -> vw -> Prop) (R:vw -> vw -> Prop) (fuel:Nat) (ya:Array Bool) (a:Act) (w:vw):Prop :=
 wpAnyH P .any ops Q (R w) fuel ya a w
theorem EM {id:Nat} {a:Act} {w:vw} {l:List Oper} (R:vw -> vw -> Prop) (hm:P.follows .mixedOrders=true) (h:Sm P l.toArray Q R l.length (List.replicate l.length false).toArray a w.drew):(Code.region id l.toArray true).wp P Q a w:=by
 refine wp_region_held (S:=R w.drew) hm ?_;have e:Array.replicate l.toArray.size false=(List.replicate l.length false).toArray:=by simp
 rw [e]
 simpa [Sm] using h
theorem wV {fuel:Nat} {ya:Array Bool} {a:Act} {w:vw} (hr:Region.ready .any ops ya=[]) (h:Q .normal a w):Sm P ops Q R fuel ya a w:=wpAnyH_done hr h fuel
end
section
variable {P:Program} {l:List Oper} {Q:Exit -> Act -> vw -> Prop} {R:vw -> vw -> Prop}
theorem Ul (i:Nat) {v:vx} {fuel:Nat} {ya:Array Bool} {a:Act} {w:vw} (M:ie R) (ra:i<l.length)
  (hs:Region.noSelect l.toArray=true) (hf:Region.free .any l.toArray ya i=true) (hr:(Region.ready .any l.toArray ya).contains i=true)
  (hQ:∀ c a w,Q (.panic c) (a.put l[i].dst v) w -> Q (.panic c) a w)
  (hy:(Region.wanted l[i] (yielded l.toArray a.tmps)=true /\ ∀ w',R w w' -> (execOp a.eval l[i]).run P w'= .ok (.value v) w') \/ (Region.wanted l[i] (yielded l.toArray a.tmps)=false /\ v=undef))
  (h:Sm P l.toArray Q R fuel (ya.setIfInBounds i true) (a.put l[i].dst v) w):Sm P l.toArray Q R (fuel+1) ya a w :=
 wpAnyH_take (i:=i) (oi:=l[i]) (by simp [ra]) hs hf hr hQ hy (M.refl w) h
theorem P8 (i:Nat) {fuel:Nat} {ya:Array Bool} {a:Act} {w:vw} (M:ie R) (ra:i<l.length) (hr:Region.ready .any l.toArray ya=[i])
  (hw:Region.wanted l[i] (yielded l.toArray a.tmps)=true)
  (h:l[i].wp P a w (fun a' w'=>R w w' /\ Sm P l.toArray Q R fuel (ya.setIfInBounds i true) a' w') Q):Sm P l.toArray Q R (fuel+1) ya a w:=by
 refine ⟨fun h0=>absurd (hr ▸ h0) (by simp),fun j hj=>?_⟩
 rw [hr,zp] at hj;subst hj;unfold wpOp;have hi:l.toArray[j]?=vE l[j]:=by simp [ra]
 simp only [hi,hw,if_true];exact .inl (Oper.wp_mono (fun a' w' h'=>⟨h'.1,eQ (fun w2 h2=>M.trans _ _ _ h'.1 h2) _ _ _ _ h'.2⟩) h)
theorem O8 (i:Nat) {f:FuncId} {vals:Array vx} {fuel:Nat} {ya:Array Bool} {a:Act} {w:vw} (M:ie R) (ra:i<l.length) (hr:Region.ready .any l.toArray ya=[i])
  (hw:Region.wanted l[i] (yielded l.toArray a.tmps)=true)
  (h:vB P f vals w fun e w'=>∃ v,e=vl v /\ R w w' /\ Sm P l.toArray Q R fuel (ya.setIfInBounds i true) (a.put l[i].dst v) w')
  (td:∀ w,(execOp a.eval l[i]).run P w= .ok (.enter f vals) w):Sm P l.toArray Q R (fuel+1) ya a w:=by
 refine P8 i M ra hr hw ?_;unfold Oper.wp;rw [td w];refine Calls.mono h ?_;rintro e w' ⟨v,rfl,h1,h2⟩;exact ⟨h1,h2⟩
end
section
variable {P:Program} {l:List Oper} {Q:Exit -> Act -> vw -> Prop} {R:vw -> vw -> Prop}
def wpS (P:Program) (l:List Oper) (Q:Exit -> Act -> vw -> Prop) (R:vw -> vw -> Prop) (i:Nat) (fuel:Nat) (ya:Array Bool) (a:Act) (w:vw):Prop :=
 ∃ (h:i<l.length),Region.wanted l[i] (yielded l.toArray a.tmps)=true /\ l[i].wp P a w (fun a' w'=>R w w' /\ Sm P l.toArray Q R fuel (ya.setIfInBounds i true) a' w') Q
theorem wpS_op {i fuel:Nat} {ya:Array Bool} {a:Act} {w:vw} (M:ie R) (h:wpS P l Q R i fuel ya a w):wpOp P l.toArray Q i (fun a' w'=>R w w' /\ wpAnyH P .any l.toArray Q (R w) fuel (ya.setIfInBounds i true) a' w') a w:=by
 obtain ⟨ra,hw,h⟩:=h;unfold wpOp;have hi:l.toArray[i]?=vE l[i]:=by simp [ra]
 simp only [hi,hw,if_true];exact .inl (Oper.wp_mono (fun a' w' h'=>⟨h'.1,eQ (fun w2 h2=>M.trans _ _ _ h'.1 h2) _ _ _ _ h'.2⟩) h)
theorem zGH {i:Nat} {f:FuncId} {vals:Array vx} {fuel:Nat} {ya:Array Bool} {a:Act} {w:vw} (ra:i<l.length) (hw:Region.wanted l[i] (yielded l.toArray a.tmps)=true)
  (h:vB P f vals w fun e w'=>∃ v,e=vl v /\ R w w' /\ Sm P l.toArray Q R fuel (ya.setIfInBounds i true) (a.put l[i].dst v) w')
  (td:∀ w,(execOp a.eval l[i]).run P w= .ok (.enter f vals) w):wpS P l Q R i fuel ya a w:=by
 refine ⟨ra,hw,?_⟩;unfold Oper.wp;rw [td w];refine Calls.mono h ?_;rintro e w' ⟨v,rfl,h1,h2⟩;exact ⟨h1,h2⟩
end
theorem Ft {P:Program} {o:Oper} {ops:Array Oper} {a:Act} {v:vx} {R:vw -> vw -> Prop} {w:vw} (hw:Region.wanted o (yielded ops a.tmps)=true) (h:∀ w',R w w' -> (execOp a.eval o).run P w'= .ok (.value v) w') :
  (Region.wanted o (yielded ops a.tmps)=true /\ ∀ w',R w w' -> (execOp a.eval o).run P w'= .ok (.value v) w') \/ (Region.wanted o (yielded ops a.tmps)=false /\ v=undef):=.inl ⟨hw,h⟩
theorem K6 {P:Program} {w:vw} {t e:vz} {size bytes:Nat} {z:vx} (E:Jt P t e size bytes z) (A:Option vy) (n c h:Nat) (hc:h <= c) :
  (Instr.slice t (ve A n c) vD (vE (vd vq h)) vD).run P w= .ok (ve A h c) w:=by
 obtain ⟨ht,⟨i,hi,hz,hs,Ps⟩,hzs,tb⟩:=E;have he:P.elem t=e:=by simp [Program.elem,ht]
 rw [run_slice_h (P:=P) w t A n c (by rw [he];exact ht) vq (h:Int) (by omega) (by omega),he]
 cases A <;> simp [sizeOf,typeInfo,hi,sliced,Result.andThen,Addr.add]
def XC (l:List Oper) (hs:List Nat):List Nat -> Array Bool -> Bool
 | [],ya=>(Region.ready .any l.toArray ya).isEmpty
 | i :: rest,ya=>decide (i<l.length)&&Region.free .any l.toArray ya i&&(Region.ready .any l.toArray ya).contains i &&
   (!hs.contains i||Region.ready .any l.toArray ya == [i])&&XC l hs rest (ya.setIfInBounds i true)
def jq (P:Program) (l:List Oper) (hs:List Nat) (Q:Exit -> Act -> vw -> Prop) (R:vw -> vw -> Prop) (order:List Nat) (ya:Array Bool) (a:Act) (w:vw):Prop :=
 Region.noSelect l.toArray=true -> XC l hs order ya=true -> Sm P l.toArray Q R order.length ya a w
section
variable {P:Program} {l:List Oper} {hs:List Nat} {Q:Exit -> Act -> vw -> Prop} {R:vw -> vw -> Prop} {rest:List Nat} {i:Nat} {o:Oper} {ya:Array Bool} {a:Act} {w:vw}
theorem Cd {id:Nat} (R:vw -> vw -> Prop) (hs order:List Nat) (hm:P.follows .mixedOrders=true) (ib:(Region.noSelect l.toArray&&order.length == l.length&&XC l hs order (List.replicate l.length false).toArray)=true)
  (h:jq P l hs Q R order (List.replicate l.length false).toArray a w.drew):(Code.region id l.toArray true).wp P Q a w:=by
 simp only [Cc,Hh] at ib;refine EM R hm ?_;rw [<- ib.1.2];have:=h ib.1.1 ib.2
 rwa [ib.1.2] at this |-
theorem Cw (M:ie R) {order:List Nat} (h:∀ W,R w W -> jq P l hs Q R order ya a W):jq P l hs Q R order ya a w:=h w (M.refl w)
theorem Qc (h:Q .normal a w):jq P l hs Q R [] ya a w:=fun _ ib=>wV (by simpa [XC] using ib) h
theorem ZT (h:XC l hs (i :: rest) ya=true):i<l.length /\ Region.free .any l.toArray ya i=true /\ (Region.ready .any l.toArray ya).contains i=true /\
  (hs.contains i=true -> Region.ready .any l.toArray ya=[i]) /\ XC l hs rest (ya.setIfInBounds i true)=true:=by
 unfold XC at h;simp only [Cc,Bool.or_eq_true,il,Bo,Hh] at h;obtain ⟨⟨⟨⟨h1,h2⟩,h3⟩,h4⟩,h5⟩:=h;refine ⟨h1,h2,h3,fun h6=>?_,h5⟩
 rcases h4 with h4 | h4
 ·rw [h6] at h4;cases h4
 ·exact h4
theorem GB {h:i<l.length} (ho:l[i]?=vE o):l[i]=o:=by
 rw [oc h] at ho
 injection ho
theorem aG {v:vx} (M:ie R) (ho:l[i]?=vE o) (hw:Region.wanted o (yielded l.toArray a.tmps)=true) (hQ:∀ c a w,Q (.panic c) (a.put o.dst v) w -> Q (.panic c) a w)
  (td:∀ w',R w w' -> (execOp a.eval o).run P w'= .ok (.value v) w') (h:jq P l hs Q R rest (ya.setIfInBounds i true) (a.put o.dst v) w):jq P l hs Q R (i :: rest) ya a w:=by
 intro hn ib;obtain ⟨h1,h2,h3,-,h5⟩:=ZT ib;have e:=GB (h:=h1) ho;subst e;exact Ul i M h1 hn h2 h3 hQ (.inl ⟨hw,td⟩) (h hn h5)
theorem bG (M:ie R) (ho:l[i]?=vE o) (hw:Region.wanted o (yielded l.toArray a.tmps)=false) (hQ:∀ c a w,Q (.panic c) (a.put o.dst undef) w -> Q (.panic c) a w)
  (h:jq P l hs Q R rest (ya.setIfInBounds i true) (a.put o.dst undef) w):jq P l hs Q R (i :: rest) ya a w:=by
 intro hn ib;obtain ⟨h1,h2,h3,-,h5⟩:=ZT ib;have e:=GB (h:=h1) ho;subst e;exact Ul i M h1 hn h2 h3 hQ (.inr ⟨hw,rfl⟩) (h hn h5)
theorem Ye (M:ie R) (hh:hs.contains i=true) (ho:l[i]?=vE o) (hw:Region.wanted o (yielded l.toArray a.tmps)=true)
  (h:o.wp P a w (fun a' w'=>R w w' /\ jq P l hs Q R rest (ya.setIfInBounds i true) a' w') Q):jq P l hs Q R (i :: rest) ya a w:=by
 intro hn ib;obtain ⟨h1,-,-,h4,h5⟩:=ZT ib;have e:=GB (h:=h1) ho;subst e;exact P8 i M h1 (h4 hh) hw (Oper.wp_mono (fun a' w' h'=>⟨h'.1,h'.2 hn h5⟩) h)
theorem Gc {f:FuncId} {vals:Array vx} (M:ie R) (hh:hs.contains i=true) (ho:l[i]?=vE o) (hw:Region.wanted o (yielded l.toArray a.tmps)=true)
  (td:∀ w,(execOp a.eval o).run P w= .ok (.enter f vals) w)
  (h:vB P f vals w fun e w'=>∃ v,e=vl v /\ R w w' /\ jq P l hs Q R rest (ya.setIfInBounds i true) (a.put o.dst v) w'):jq P l hs Q R (i :: rest) ya a w:=by
 refine Ye M hh ho hw ?_;unfold Oper.wp;rw [td w];refine Calls.mono h ?_;rintro e w' ⟨v,rfl,h1,h2⟩;exact ⟨h1,h2⟩
end
theorem EJ {w w':vw} (h:Tb w.drew w'):∀ b o,b<w.1.size -> w'.cell? ⟨b,o,vD⟩=w.cell? ⟨b,o,vD⟩:=fun b o hb=>Below.cell h (p:=⟨b,o,vD⟩) hb
theorem W0 {g:Nat} {w w':vw} (h:om g w w'):∀ b o,b<w.1.size -> b≠g -> w'.cell? ⟨b,o,vD⟩=w.cell? ⟨b,o,vD⟩:=fun b o hb Ta=>by
 have:=h.block b hb (fun e=>Ta (by injection e))
 simp only [World.cell?,this]
theorem zDq {g:Nat} {w w':vw} (h:om g w.drew w'):∀ b o,b<w.1.size -> b≠g -> w'.cell? ⟨b,o,vD⟩=w.cell? ⟨b,o,vD⟩:=fun b o hb Ta=>W0 h b o hb Ta
def NK (g i:Nat) (w w':vw):Prop:=w.grownBy w' (vE g) /\ ∀ t cs,Blk w g t cs -> ∃ v,Blk w' g t (cs.setIfInBounds i v)
theorem Zq (g i:Nat):ie (NK g i):=by
 refine ⟨fun w=>⟨Vd w _,fun t cs h=>⟨cs.getD i undef,?_⟩⟩,fun a b c h k=>⟨Iq h.1 k.1 fun _ e=>.inl e,fun t cs hb=>?_⟩⟩
 ·have e:cs.setIfInBounds i (cs.getD i undef)=cs:=by
   apply Array.ext
   ·simp
   ·intro j h1 h2
    rw [Array.getElem_setIfInBounds]
    ·split
     ·subst_vars
      simp [h2]
     ·rfl
  rw [e];exact h
 ·obtain ⟨v,hv⟩:=h.2 t cs hb
  obtain ⟨u,hu⟩:=k.2 t _ hv;exact ⟨u,by simpa using hu⟩
theorem U0 {g i:Nat} (w:vw) (v:vx):NK g i w (w.setCell ⟨g,i,vD⟩ v):=⟨Mf (p:=⟨g,i,vD⟩) (Vd w _) (.inl rfl) v,fun _ _ hb=>⟨v,hb.set_ i v⟩⟩
theorem S0 {g i:Nat} {w w':vw} (h:NK g i w.drew w'):∀ b o,b<w.1.size -> b≠g -> w'.cell? ⟨b,o,vD⟩=w.cell? ⟨b,o,vD⟩:=fun b o hb Ta=>W0 (w:=w.drew) h.1 b o hb Ta
theorem T0 {g i:Nat} {w w':vw} {t:vz} {cs:Array vx} (h:NK g i w.drew w') (k:Blk w g t cs):∀ j,j≠i -> w'.cell? ⟨g,j,vD⟩=cs[j]?:=fun j hj=>by
 obtain ⟨v,hv⟩:=h.2 t cs k;rw [hv.cell j,Array.getElem?_setIfInBounds,La (fun e=>hj e.symm)]
theorem Tf {w c:vw} (h:Hid (c=w.drew)):vA w.1.size w c:=by rw [h.out];exact (za _ _).drew
def Imp (a b:Prop):Prop:=a -> b
theorem Imp.via {a b c:Prop} (f:b -> c) (h:Imp a b):Imp a c:=fun x=>f (h x)
theorem Imp.rfl' {a:Prop}:Imp a a:=id
theorem zPU {a b:Prop} (h:a) (s:Imp a b:=by
 (try simp only [vG,zLa,zLb,zLc])
 exact Imp.rfl'):b:=s h
theorem Zn {a b:Prop} (h:a) (s:Imp a b:=by
 (repeat ((first | (apply Imp.via (bG (Je _) rfl rfl (fun _ _ _ h=>h))) | (apply Imp.via (aG (v:=?_) (Je _) rfl rfl (fun _ _ _ h=>h) ?hr);case hr=>(intro w' hR;(first | have Bn:=zDq ((Je _).trans _ _ _ ea hR) | skip);go_simp;try with_reducible rfl)));simp only [vG,zLa,zLb,zLc]))
 exact Imp.rfl'):b:=s h
theorem Ob {a b:Prop} (h:a) (s:Imp a b:=by
 (repeat ((first | (apply Imp.via (bG (pa) rfl rfl (fun _ _ _ h=>h))) | (apply Imp.via (aG (v:=?_) (pa) rfl rfl (fun _ _ _ h=>h) ?hr);case hr=>(intro w' hR;(first | have Bn:=EJ ((pa).trans _ _ _ ea hR) | skip);go_simp;try with_reducible rfl)));simp only [vG,zLa,zLb,zLc]))
 exact Imp.rfl'):b:=s h
def Qd (bars:List Nat) (ya:Array Bool):Bool:=bars.any fun b=>ya.getD b true
theorem CF {bars:List Nat} {ya:Array Bool} {j:Nat} (h:j ∉ bars):Qd bars (ya.setIfInBounds j true)=Qd bars ya:=by
 unfold Qd
 induction bars with
 | nil=>rfl
 | cons b r ih =>
  simp only [Xg,not_or] at h;simp only [List.any_cons];rw [getD_set_ne true h.1,ih h.2]
section
variable {P:Program} {ops:Array Oper} {Q:Exit -> Act -> vw -> Prop} {bars:List Nat} {S:vw -> Prop}
def sD (P:Program) (ops:Array Oper) (Q:Exit -> Act -> vw -> Prop) (bars:List Nat) (S:vw -> Prop):Nat -> Array Bool -> Act -> vw -> Prop
 | 0,ya,a,w=>Region.ready .any ops ya=[] /\ Q .normal a w
 | fuel+1,ya,a,w =>
  (Region.ready .any ops ya=[] -> Q .normal a w) /\
  ∀ i∈Region.ready .any ops ya,wpOp P ops Q i (fun a' w'=>(Qd bars (ya.setIfInBounds i true)=false -> S w') /\ sD P ops Q bars S fuel (ya.setIfInBounds i true) a' w') a w
theorem uV:∀ (fuel:Nat) (ya:Array Bool) (a:Act) (w:vw),sD P ops Q bars S fuel ya a w -> wpAny P .any ops Q fuel ya a w
 | 0,_,_,_,h=>h
 | fuel+1,_,_,_,h=>⟨h.1,fun i hi=>wpOp_mono (fun a' w' h'=>uV fuel _ a' w' h'.2) (h.2 i hi)⟩
theorem tV {S':vw -> Prop} (hS:∀ w,S' w -> S w):∀ (fuel:Nat) (ya:Array Bool) (a:Act) (w:vw),sD P ops Q bars S' fuel ya a w -> sD P ops Q bars S fuel ya a w
 | 0,_,_,_,h=>h
 | fuel+1,_,_,_,h=>⟨h.1,fun i hi=>wpOp_mono (fun a' w' h'=>⟨fun hp=>hS _ (h'.1 hp),tV hS fuel _ a' w' h'.2⟩) (h.2 i hi)⟩
theorem YL {ya:Array Bool} {i:Nat} (h:Qd bars ya=true):Qd bars (ya.setIfInBounds i true)=true:=by
 unfold Qd at *;rw [List.any_eq_true] at *;obtain ⟨b,hb,h1⟩:=h;refine ⟨b,hb,?_⟩;by_cases e:i=b
 ·subst e
  rcases Hg i ya.size with h2 | h2
  ·simp [h2]
  ·simp [Nat.not_lt.2 h2]
 ·rw [getD_set_ne true e];exact h1
theorem sV {S':vw -> Prop}:∀ (fuel:Nat) (ya:Array Bool) (a:Act) (w:vw),Qd bars ya=true -> sD P ops Q bars S' fuel ya a w -> sD P ops Q bars S fuel ya a w
 | 0,_,_,_,_,h=>h
 | fuel+1,_,_,_,hp,h=>⟨h.1,fun i hi=>wpOp_mono (fun a' w' h'=>⟨fun cy=>(by rw [YL hp] at cy;cases cy),sV fuel _ a' w' (YL hp) h'.2⟩) (h.2 i hi)⟩
theorem QI {T:vw -> Prop} {i:Nat} {oi:Oper} {v:vx} (hi:ops[i]?=vE oi) (If:∀ (j:Nat) (o:Oper) cs b,ops[j]?=vE o -> o.op≠.select cs b)
  (hQ:∀ c a w,Q (.panic c) (a.put oi.dst v) w -> Q (.panic c) a w) (hib:i ∉ bars)
  (hT:(∀ w,T w) \/ ((∀ w,S w -> T w) /\ ∀ b∈bars,∀ ob,ops[b]?=vE ob -> ∃ e∈ob.after,Region.binds .any e=true /\ e.on=i)) :
  ∀ (fuel:Nat) (ya:Array Bool) (a:Act) (w:vw),((∀ w,T w) \/ Qd bars ya=false) ->
   (∀ j oj,ops[j]?=vE oj -> j≠i -> ya.getD j true=false -> (∀ e∈oj.after,Region.binds .any e=true -> e.on≠i) -> oi.apart ops oj=true) ->
   i∈Region.ready .any ops ya -> YieldsIf P ops T oi v a -> T w -> (Qd bars ya=false -> S w) ->
   sD P ops Q bars S fuel (ya.setIfInBounds i true) (a.put oi.dst v) w -> sD P ops Q bars S (fuel+1) ya a w:=by
 intro fuel
 induction fuel with
 | zero =>
  intro ya a w Pe _ hr hy hTw hS H;refine ⟨fun h=>(by rw [h] at hr;cases hr),fun j hj=>?_⟩
  by_cases Qh:j=i
  ·subst Qh;exact hy.wpOp hi hTw ⟨fun hp=>hS (by rwa [CF hib] at hp),H⟩
  ·have:=ready_mono hj Qh
   rw [H.1] at this;cases this
 | succ fuel ih =>
  intro ya a w Pe DE hr hy hTw hS H;refine ⟨fun h=>(by rw [h] at hr;cases hr),fun j hj=>?_⟩
  by_cases Qh:j=i
  ·subst Qh;exact hy.wpOp hi hTw ⟨fun hp=>hS (by rwa [CF hib] at hp),H⟩
  ·have h1:=H.2 j (ready_mono hj Qh)
   obtain ⟨OE,oj,Rh,ai⟩:=mem_ready.1 hj;have NH:∀ e∈oj.after,Region.binds .any e=true -> e.on≠i:=fun e he hb heq=>by
    have h1:=ai e he hb;have h0:=(mem_ready.1 hr).1;rw [heq] at h1;rcases Hg i ya.size with h' | h'
    ·simp [h'] at h0 h1;rw [h0] at h1;cases h1
    ·simp [Array.getElem?_eq_none h'] at h1
   have h2:=wpOp_putIf Rh (DE j oj Rh Qh OE NH) (fun cs b=>If i oi cs b hi) (fun cs b=>If j oj cs b Rh) hQ hy h1
   have xL:∀ k ok,ops[k]?=vE ok -> k≠i -> (ya.setIfInBounds j true).getD k true=false ->
     (∀ e∈ok.after,Region.binds .any e=true -> e.on≠i) -> oi.apart ops ok=true:=fun k ok hk hki dF zu=>by
    refine DE k ok hk hki ?_ zu;by_cases ME:j=k
    ·subst ME;exact OE
    ·rw [getD_set_ne true ME] at dF;exact dF
   have Sp:Qd bars ((ya.setIfInBounds i true).setIfInBounds j true)=Qd bars (ya.setIfInBounds j true):=by
    rw [Array.setIfInBounds_comm _ _ (Ne.symm Qh),CF hib]
   refine wpOp_mono (fun a' w' h3=>?_) h2
   have tE:Qd bars (ya.setIfInBounds j true)=false -> S w':=fun hp=>h3.2.1 (by rw [Sp];exact hp)
   have nY:((∀ w,T w) \/ Qd bars (ya.setIfInBounds j true)=false) /\ T w':=by
    rcases hT with hT | ⟨hST,pS⟩
    ·exact ⟨.inl hT,hT w'⟩
    ·rcases Pe with Pe | Pe
     ·exact ⟨.inl Pe,Pe w'⟩
     ·have hjb:j ∉ bars:=fun hb=>by
       obtain ⟨e,he,uE,hei⟩:=pS j hb oj Rh;exact NH e he uE hei
      have cy:Qd bars (ya.setIfInBounds j true)=false:=by rw [CF hjb];exact Pe
      exact ⟨.inr cy,hST _ (tE cy)⟩
   refine ⟨tE,ih (ya.setIfInBounds j true) a' w' nY.1 xL (ready_mono hr (Ne.symm Qh)) h3.1 nY.2 tE ?_⟩;rw [Array.setIfInBounds_comm _ _ Qh];exact h3.2.2
end
def wpB (P:Program) (ops:Array Oper) (Q:Exit -> Act -> vw -> Prop) (bars:List Nat) (R:vw -> vw -> Prop) (fuel:Nat) (ya:Array Bool) (a:Act) (w:vw):Prop :=
 sD P ops Q bars (R w) fuel ya a w
def rK (l:List Oper) (b i:Nat):Bool:=match l[b]? with | some o=>o.after.any fun e=>Region.binds .any e&&e.on == i | none=>true
def xy (l:List Oper) (hs bars:List Nat):List Nat -> Array Bool -> Bool
 | [],ya=>(Region.ready .any l.toArray ya).isEmpty
 | i :: rest,ya=>decide (i<l.length)&&(Region.ready .any l.toArray ya).contains i &&
   (if hs.contains i then Region.ready .any l.toArray ya == [i] else Region.free .any l.toArray ya i&&!bars.contains i&&(Qd bars ya||bars.all fun b=>rK l b i))&&xy l hs bars rest (ya.setIfInBounds i true)
def Dw (P:Program) (l:List Oper) (hs bars:List Nat) (Q:Exit -> Act -> vw -> Prop) (R:vw -> vw -> Prop) (order:List Nat) (ya:Array Bool) (a:Act) (w:vw):Prop :=
 Region.noSelect l.toArray=true -> xy l hs bars order ya=true -> wpB P l.toArray Q bars R order.length ya a w
section
variable {P:Program} {l:List Oper} {hs bars:List Nat} {Q:Exit -> Act -> vw -> Prop} {R:vw -> vw -> Prop} {rest:List Nat} {i:Nat} {o:Oper} {ya:Array Bool} {a:Act} {w:vw}
theorem JA {id:Nat} (R:vw -> vw -> Prop) (hs bars order:List Nat) (hm:P.follows .mixedOrders=true) (ib:(Region.noSelect l.toArray&&order.length == l.length&&xy l hs bars order (List.replicate l.length false).toArray)=true)
  (h:Dw P l hs bars Q R order (List.replicate l.length false).toArray a w.drew):(Code.region id l.toArray true).wp P Q a w:=by
 simp only [Cc,Hh] at ib;refine wp_region_any hm (uV (bars:=bars) (S:=R w.drew) _ _ _ _ ?_);have h2:=h ib.1.1 ib.2;have e:Array.replicate l.toArray.size false=(List.replicate l.length false).toArray:=by simp
 rw [ib.1.2] at h2;rw [e]
 simpa [wpB] using h2
theorem LA (M:ie R) {order:List Nat} (h:∀ W,Hid (W=w) -> R w W -> Dw P l hs bars Q R order ya a W):Dw P l hs bars Q R order ya a w:=h w rfl (M.refl w)
theorem KA (h:Q .normal a w):Dw P l hs bars Q R [] ya a w:=fun _ ib=>⟨by simpa [xy] using ib,h⟩
theorem PJ (h:xy l hs bars (i :: rest) ya=true):i<l.length /\ (Region.ready .any l.toArray ya).contains i=true /\
  (hs.contains i=true -> Region.ready .any l.toArray ya=[i]) /\
  (hs.contains i=false -> Region.free .any l.toArray ya i=true /\ i ∉ bars /\ (Qd bars ya=true \/ ∀ b∈bars,rK l b i=true)) /\ xy l hs bars rest (ya.setIfInBounds i true)=true:=by
 unfold xy at h;simp only [Cc,Bo] at h;obtain ⟨⟨⟨h1,h2⟩,h3⟩,h4⟩:=h;refine ⟨h1,h2,fun h6=>?_,fun h6=>?_,h4⟩
 ·rw [Qa h6] at h3
  simpa using h3
 ·rw [La (by rw [h6];exact Bool.noConfusion)] at h3
  simp only [Cc,il,Bool.or_eq_true,Xd] at h3;refine ⟨h3.1.1,fun hm=>?_,h3.2⟩
  have:=h3.1.2;simp [hm] at this
theorem rV {b:Nat} {ob:Oper} (hb:l.toArray[b]?=vE ob) (h:rK l b i=true):∃ e∈ob.after,Region.binds .any e=true /\ e.on=i:=by
 unfold rK at h;rw [dn] at hb;rw [hb] at h;simp only [Array.any_eq_true] at h;obtain ⟨k,hk,he⟩:=h;simp only [Cc,Hh] at he;exact ⟨ob.after[k],Array.getElem_mem hk,he.1,he.2⟩
theorem xV {v:vx} (M:ie R) (hh:hs.contains i=false) (ho:l[i]?=vE o) (hw:Region.wanted o (yielded l.toArray a.tmps)=true) (hQ:∀ c a w,Q (.panic c) (a.put o.dst v) w -> Q (.panic c) a w)
  (td:∀ w',(Qd bars ya=false -> R w w') -> (execOp a.eval o).run P w'= .ok (.value v) w') (h:Dw P l hs bars Q R rest (ya.setIfInBounds i true) (a.put o.dst v) w):Dw P l hs bars Q R (i :: rest) ya a w:=by
 intro hn ib;obtain ⟨h1,h2,-,h4,h5⟩:=PJ ib;obtain ⟨f1,f2,f3⟩:=h4 hh;have jj:l.toArray[i]?=vE o:=by rw [dn];exact ho
 cases hp:Qd bars ya
 ·refine QI (T:=R w) jj (Wu hn) hQ f2 (.inr ⟨fun _ h=>h,fun b hb ob hob=>rV hob ?_⟩) _ _ _ _ (.inr hp) (Region.free_spec jj f1) (by simpa using h2) (.inl ⟨hw,fun w' hR=>td w' fun _=>hR⟩) (M.refl w) (fun _=>M.refl w) (h hn h5)
  rcases f3 with f3 | f3
  ·rw [hp] at f3;cases f3
  ·exact f3 b hb
 ·exact QI (T:=fun _=>True) jj (Wu hn) hQ f2 (.inl fun _=>trivial) _ _ _ _ (.inl fun _=>trivial) (Region.free_spec jj f1) (by simpa using h2) (.inl ⟨hw,fun w' _=>td w' fun h=>by rw [hp] at h;cases h⟩) trivial (fun _=>M.refl w) (h hn h5)
theorem yV (M:ie R) (hh:hs.contains i=false) (ho:l[i]?=vE o) (hw:Region.wanted o (yielded l.toArray a.tmps)=false) (hQ:∀ c a w,Q (.panic c) (a.put o.dst undef) w -> Q (.panic c) a w)
  (h:Dw P l hs bars Q R rest (ya.setIfInBounds i true) (a.put o.dst undef) w):Dw P l hs bars Q R (i :: rest) ya a w:=by
 intro hn ib;obtain ⟨h1,h2,-,h4,h5⟩:=PJ ib;obtain ⟨f1,f2,f3⟩:=h4 hh;have jj:l.toArray[i]?=vE o:=by rw [dn];exact ho
 exact QI (T:=fun _=>True) jj (Wu hn) hQ f2 (.inl fun _=>trivial) _ _ _ _ (.inl fun _=>trivial) (Region.free_spec jj f1) (by simpa using h2) (.inr ⟨hw,rfl⟩) trivial (fun _=>M.refl w) (h hn h5)
theorem ao {a b:Prop} (h:a) (s:Imp a b:=by
 (repeat ((first | (apply Imp.via (yV (pa) rfl rfl rfl (fun _ _ _ h=>h))) | (apply Imp.via (xV (v:=?_) (pa) rfl rfl rfl (fun _ _ _ h=>h) ?hr);case hr=>(intro w' hR;(first | have Bn:=EJ ((pa).trans _ _ _ ea (hR rfl)) | skip);clear hR;go_simp;try with_reducible rfl)));simp only [vG,zLa,zLb,zLc]))
 exact Imp.rfl'):b:=s h
theorem Ui (M:ie R) (hh:hs.contains i=true) (ho:l[i]?=vE o) (hw:Region.wanted o (yielded l.toArray a.tmps)=true)
  (h:o.wp P a w (fun a' w'=>(Qd bars (ya.setIfInBounds i true)=false -> R w w') /\ Dw P l hs bars Q R rest (ya.setIfInBounds i true) a' w') Q):Dw P l hs bars Q R (i :: rest) ya a w:=by
 intro hn ib;obtain ⟨h1,h2,h3,-,h5⟩:=PJ ib;have hr:=h3 hh;refine ⟨fun h0=>absurd (hr ▸ h0) (by simp),fun j hj=>?_⟩
 rw [hr,zp] at hj;subst hj;unfold wpOp;have hi:l.toArray[j]?=vE o:=by rw [dn];exact ho
 simp only [hi,hw,if_true];refine .inl (Oper.wp_mono (fun a' w' h'=>⟨h'.1,?_⟩) h)
 have hk:=h'.2 hn h5;cases hp:Qd bars (ya.setIfInBounds j true)
 ·exact tV (fun w2 h2=>M.trans _ _ _ (h'.1 hp) h2) _ _ _ _ hk
 ·exact sV _ _ _ _ hp hk
theorem Gt {f:FuncId} {vals:Array vx} (M:ie R) (hh:hs.contains i=true) (ho:l[i]?=vE o) (hw:Region.wanted o (yielded l.toArray a.tmps)=true)
  (td:∀ w,(execOp a.eval o).run P w= .ok (.enter f vals) w)
  (h:vB P f vals w fun e w'=>∃ v,e=vl v /\ (Qd bars (ya.setIfInBounds i true)=false -> R w w') /\ Dw P l hs bars Q R rest (ya.setIfInBounds i true) (a.put o.dst v) w'):Dw P l hs bars Q R (i :: rest) ya a w:=by
 refine Ui M hh ho hw ?_;unfold Oper.wp;rw [td w];refine Calls.mono h ?_;rintro e w' ⟨v,rfl,h1,h2⟩;exact ⟨h1,h2⟩
end
def fo (g N:Nat) (w w':vw):Prop:=w'.os=w.os /\ w'.tape=w.tape /\ w'.output=w.output /\ w.1.size <= w'.1.size /\ ∀ b,b<N -> b≠g -> w'.1[b]?=w.1[b]?
theorem Yb (g N:Nat):ie (fo g N):=⟨fun _=>⟨rfl,rfl,rfl,zR,fun _ _ _=>rfl⟩,fun _ _ _ h k=>⟨k.1.trans h.1,k.2.1.trans h.2.1,k.2.2.1.trans h.2.2.1,jb h.2.2.2.1 k.2.2.2.1,fun b h1 h2=>(k.2.2.2.2 b h1 h2).trans (h.2.2.2.2 b h1 h2)⟩⟩
theorem dY {g N:Nat} {w w':vw} (h:fo g N w.drew w'):∀ b o,b<N -> b≠g -> w'.cell? ⟨b,o,vD⟩=w.cell? ⟨b,o,vD⟩:=fun b o hb Ta=>by
 have:=h.2.2.2.2 b hb Ta;simp only [World.cell?,this]
 rfl
theorem FV {a b:Prop} (h:a) (s:Imp a b:=by
 (repeat ((first | (apply Imp.via (bG (Yb _ _) rfl rfl (fun _ _ _ h=>h))) | (apply Imp.via (aG (v:=?_) (Yb _ _) rfl rfl (fun _ _ _ h=>h) ?hr);case hr=>(intro w' hR;(first | have Bn:=dY ((Yb _ _).trans _ _ _ ea hR) | skip);go_simp;try with_reducible rfl)));simp only [vG,zLa,zLb,zLc]))
 exact Imp.rfl'):b:=s h
theorem Fk {a b:Prop} (h:a) (s:Imp a b:=by
 (repeat ((first | (apply Imp.via (yV (Yb _ _) rfl rfl rfl (fun _ _ _ h=>h))) | (apply Imp.via (xV (v:=?_) (Yb _ _) rfl rfl rfl (fun _ _ _ h=>h) ?hr);case hr=>(intro w' hR;(first | have Bn:=dY ((Yb _ _).trans _ _ _ ea (hR rfl)) | skip);clear hR;go_simp;try with_reducible rfl)));simp only [vG,zLa,zLb,zLc]))
 exact Imp.rfl'):b:=s h
theorem Ii {g N B:Nat} {w w':vw} (h:vA B w w') (hN:N <= B):fo g N w w':=⟨h.os,h.tape,h.output,h.size,fun b hb _=>h.block b (by omega)⟩
theorem gH {g N:Nat} {w w':vw} (h:w.grownBy w' (vE g)) (hN:N <= w.1.size):fo g N w w':=⟨h.os,h.tape,h.output,h.size,fun b hb Ta=>h.block b (by omega) (fun e=>Ta (db e))⟩
theorem Hx {g N:Nat} {w w':vw} {row:Option Nat} (h:w.grownBy w' row) (hN:N <= w.1.size) (hr:∀ k,row=vE k -> N <= k):fo g N w w':=⟨h.os,h.tape,h.output,h.size,fun b hb _=>h.block b (by omega) (fun e=>by have:=hr b e.symm;omega)⟩
theorem zx {B:Nat} {w0 w1 w2:vw} (h1:vA B w0 w1) (h2:vA w1.1.size w1 w2) (hB:B <= w1.1.size:=by omega):vA B w0 w2:=h1.trans (h2.mono hB)
theorem X0 {g:Nat} {w w':vw} (h:vA w.1.size w w'):om g w w':=Lf (Vd w _) h zR
theorem RW {w w':vw} {p:vy} {v:vx} (h:vA w.drew.1.size w.drew w') (hc:w.cell? p=vE v):w'.cell? p=vE v:=(Below.cell h (mf _ _ hc)).trans hc
theorem Ih (w:vw) (t1 t2:vz) (je Ef:Array vx) :
  Blk ((w.alloc (.cells je t1)).alloc (.cells Ef t2)) w.1.size t1 je /\ Blk ((w.alloc (.cells je t1)).alloc (.cells Ef t2)) (w.1.size+1) t2 Ef /\ vA w.1.size w ((w.alloc (.cells je t1)).alloc (.cells Ef t2)) /\ ((w.alloc (.cells je t1)).alloc (.cells Ef t2)).1.size=w.1.size+2:=by
 refine ⟨(Blk.new w t1 je).alloc _,?_,((za _ w).alloc zR _).alloc (by simp) _,by simp⟩
 have:=Blk.new (w.alloc (.cells je t1)) t2 Ef
 simpa using this
theorem rn (w:vw) (t1 t2 t3:vz) (je Ef Ij:Array vx) :
  Blk (((w.alloc (.cells je t1)).alloc (.cells Ef t2)).alloc (.cells Ij t3)) w.1.size t1 je /\ Blk (((w.alloc (.cells je t1)).alloc (.cells Ef t2)).alloc (.cells Ij t3)) (w.1.size+1) t2 Ef /\ Blk (((w.alloc (.cells je t1)).alloc (.cells Ef t2)).alloc (.cells Ij t3)) (w.1.size+1+1) t3 Ij /\
   vA w.1.size w (((w.alloc (.cells je t1)).alloc (.cells Ef t2)).alloc (.cells Ij t3)) /\ (((w.alloc (.cells je t1)).alloc (.cells Ef t2)).alloc (.cells Ij t3)).1.size=w.1.size+3:=by
 obtain ⟨h1,h2,h3,h4⟩:=Ih w t1 t2 je Ef;refine ⟨h1.alloc _,h2.alloc _,?_,h3.alloc h3.size _,by simp⟩
 have:=Blk.new ((w.alloc (.cells je t1)).alloc (.cells Ef t2)) t3 Ij
 rwa [h4] at this
theorem Wo {w:vw} {g:Nat} {t:vz} {y0 y1 y2:vx} (k:Blk w g t #[y0,y1,y2]) (x0 x1 x2:vx):Blk (((w.setCell ⟨g,0,vD⟩ x0).setCell ⟨g,1,vD⟩ x1).setCell ⟨g,2,vD⟩ x2) g t #[x0,x1,x2]:=by
 have h:=(((k.set_ 0 x0).set_ 1 x1).set_ 2 x2)
 simpa using h
theorem Xo {w:vw} {g:Nat} (x0 x1 x2:vx):w.grownBy (((w.setCell ⟨g,0,vD⟩ x0).setCell ⟨g,1,vD⟩ x1).setCell ⟨g,2,vD⟩ x2) (vE g):=by
 iterate 3 refine Mf ?_ (.inl rfl) _
 exact Vd w _
theorem Ok {g B:Nat} {a w:vw} (h:a.grownBy w (vE g)) (hB:B <= a.1.size) (hg:B <= g):vA B a w:=qz h B hB fun _ e=>by have:=db e;omega
theorem Dd {g:Nat} {a b c:vw} (h:vA a.1.size a b) (k:b.grownBy c (vE g)) (e:a.1.size <= g:=by omega):vA a.1.size a c:=h.trans (Ok k h.size e)
section
variable {P:Program} {ops:Array Oper} {Q:Exit -> Act -> vw -> Prop} {R:vw -> vw -> Prop}
def PureRun (P:Program) (R:vw -> vw -> Prop) (W:vw) (ρ:Operand -> vx) (o:Oper) (v:vx):Prop :=
 (∀ w,R W w -> (execOp ρ o).run P w= .ok (.value v) w) \/ ∃ f vals,(∀ w,(execOp ρ o).run P w= .ok (.enter f vals) w) /\ ∀ w,R W w -> vB P f vals w fun e w'=>e=vl v /\ R w w'
def PureAt (P:Program) (ops:Array Oper) (R:vw -> vw -> Prop) (W:vw) (o:Oper) (v:vx) (a:Act):Prop :=
 (Region.wanted o (yielded ops a.tmps)=true /\ PureRun P R W a.eval o v) \/ (Region.wanted o (yielded ops a.tmps)=false /\ v=undef)
theorem PureRun.later (M:ie R) {W W':vw} {ρ:Operand -> vx} {o:Oper} {v:vx} (h:PureRun P R W ρ o v) (hR:R W W'):PureRun P R W' ρ o v:=by
 rcases h with h | ⟨f,vals,h1,h2⟩
 ·exact .inl fun w hw=>h w (M.trans _ _ _ hR hw)
 ·exact .inr ⟨f,vals,h1,fun w hw=>h2 w (M.trans _ _ _ hR hw)⟩
theorem PureAt.later (M:ie R) {W W':vw} {o:Oper} {v:vx} {a:Act} (h:PureAt P ops R W o v a) (hR:R W W'):PureAt P ops R W' o v a :=
 h.imp (fun h=>⟨h.1,h.2.later M hR⟩) id
theorem PureAt.same {W:vw} {o:Oper} {v:vx} {a a':Act} (h:PureAt P ops R W o v a) (he:execOp a'.eval o=execOp a.eval o) (hw:Region.wanted o (yielded ops a'.tmps)=Region.wanted o (yielded ops a.tmps)):PureAt P ops R W o v a':=by
 unfold PureAt PureRun at *;rw [he,hw];exact h
theorem PureAt.op {W w:vw} {i:Nat} {o:Oper} {v:vx} {a:Act} {K:Act -> vw -> Prop} (M:ie R) (hi:ops[i]?=vE o) (h:PureAt P ops R W o v a) (hR:R W w) (hK:∀ w',R w w' -> K (a.put o.dst v) w'):wpOp P ops Q i K a w:=by
 unfold wpOp;simp only [hi];rcases h with ⟨hw,h | ⟨f,vals,h1,h2⟩⟩ | ⟨hw,rfl⟩
 ·simp only [hw,if_true,Oper.wp,h w hR,Oper.upon]
  exact .inl (hK w (M.refl w))
 ·simp only [hw,if_true,Oper.wp,h1 w,Oper.upon]
  refine .inl (Calls.mono (h2 w hR) ?_);rintro e w' ⟨rfl,h3⟩;exact hK w' h3
 ·simp only [hw,Bool.false_eq_true,if_false]
  exact hK w (M.refl w)
theorem zGF {Pi:Act -> Prop} {j:Nat} {oi oj:Oper} {v:vx} (hj:ops[j]?=vE oj) (OB:oi.apart ops oj=true)
  (hsi:∀ cs b,oi.op≠.select cs b) (hsj:∀ cs b,oj.op≠.select cs b)
  (hPi:∀ a a',Pi a -> execOp a'.eval oi=execOp a.eval oi -> Region.wanted oi (yielded ops a'.tmps)=Region.wanted oi (yielded ops a.tmps) -> Pi a')
  (hQ:∀ c a w,Q (.panic c) (a.put oi.dst v) w -> Q (.panic c) a w) {K:Act -> vw -> Prop} {a:Act} {w:vw}
  (hy:Pi a) (h:wpOp P ops Q j K (a.put oi.dst v) w):wpOp P ops Q j (fun a' w'=>Pi a' /\ K (a'.put oi.dst v) w') a w:=by
 obtain ⟨h1,h2,h3⟩:=Oper.apart_spec OB;have keep:∀ u,Pi (a.put oj.dst u):=fun u=>hPi a _ hy (execOp_put oi hsi a oj.dst u h3) (wanted_put oi a oj.dst u h3)
 unfold wpOp at *;simp only [hj] at *;rw [wanted_put oj a oi.dst v h1] at h;split
 ·rename_i hw
  simp only [hw,if_true] at h;rcases h with h | ⟨mY,hlets⟩
  case inr=>exact .inr ⟨by unfold Oper.asks at *;rw [execOp_put oj hsj a oi.dst v h1] at mY;exact mY,hlets⟩
  refine .inl ?_;unfold Oper.wp at *;rw [execOp_put oj hsj a oi.dst v h1] at h;generalize (execOp a.eval oj).run P w=r at *;rcases r with ⟨n,w'⟩ | ⟨x,w'⟩
  ·cases n <;> simp only [Oper.upon] at h |-
   case value u=>exact ⟨keep u,by rw [<- Act.put_comm a v u h2];exact h⟩
   case skip=>exact ⟨keep _,by rw [<- Act.put_comm a v undef h2];exact h⟩
   case defer d =>
    refine ⟨hPi _ _ (hPi a { a with defers:=d :: a.defers } hy rfl rfl) (execOp_put oi hsi _ oj.dst _ h3) (wanted_put oi _ oj.dst _ h3),?_⟩
    rw [<- Act.put_comm _ v undef h2,<- Act.put_defers];exact h
   case enter f args =>
    refine Calls.mono h fun e fl he=>?_
    rcases e with u | c | _
    ·exact ⟨keep u,by rw [<- Act.put_comm a v u h2];exact he⟩
    ·exact hQ _ _ _ he
    ·exact he
   case row row args=>exact Rows.mono h fun u fl he=>⟨keep u,by rw [<- Act.put_comm a v u h2];exact he⟩
  ·cases x <;> simp only [Oper.upon] at h |-
   case panic u=>exact hQ _ _ _ h
 ·rename_i hw
  simp only [hw] at h;exact ⟨keep _,by rw [<- Act.put_comm a v undef h2];exact h⟩
def May (bars:List Nat) (R:vw -> vw -> Prop) (ya:Array Bool) (w w1:vw):Prop:=if Qd bars ya=true then w1=w else R w w1
theorem May.refl (M:ie R) (bars:List Nat) (ya:Array Bool) (w:vw):May bars R ya w w:=by
 unfold May;split
 ·rfl
 ·exact M.refl w
theorem May.of {bars:List Nat} {ya:Array Bool} {w w1:vw} (hp:Qd bars ya=false) (h:R w w1):May bars R ya w w1:=by
 unfold May;rw [La (by rw [hp];exact Bool.noConfusion)]
 exact h
theorem May.out {bars:List Nat} {ya:Array Bool} {w w1:vw} (hp:Qd bars ya=false) (h:May bars R ya w w1):R w w1:=by
 unfold May at h
 rwa [La (by rw [hp];exact Bool.noConfusion)] at h
theorem May.eq {bars:List Nat} {ya:Array Bool} {w w1:vw} (hp:Qd bars ya=true) (h:May bars R ya w w1):w1=w:=by
 unfold May at h
 rwa [Qa hp] at h
def tD (P:Program) (ops:Array Oper) (Q:Exit -> Act -> vw -> Prop) (bars:List Nat) (R:vw -> vw -> Prop):Nat -> Array Bool -> Act -> vw -> Prop
 | 0,ya,a,w=>Region.ready .any ops ya=[] /\ ∀ w1,May bars R ya w w1 -> Q .normal a w1
 | fuel+1,ya,a,w=>∀ w1,May bars R ya w w1 -> (Region.ready .any ops ya=[] -> Q .normal a w1) /\
   ∀ i∈Region.ready .any ops ya,wpOp P ops Q i (fun a' w'=>(Qd bars (ya.setIfInBounds i true)=false -> R w1 w') /\ tD P ops Q bars R fuel (ya.setIfInBounds i true) a' w') a w1
theorem F8 (M:ie R) {bars:List Nat}:∀ (fuel:Nat) (ya:Array Bool) (a:Act) (w w2:vw),Qd bars ya=false -> R w w2 -> tD P ops Q bars R fuel ya a w -> tD P ops Q bars R fuel ya a w2
 | 0,_,_,_,_,hp,hR,h=>⟨h.1,fun w1 h1=>h.2 w1 (.of hp (M.trans _ _ _ hR (h1.out hp)))⟩
 | _+1,_,_,_,_,hp,hR,h=>fun w1 h1=>h w1 (.of hp (M.trans _ _ _ hR (h1.out hp)))
theorem C8 (M:ie R) {bars:List Nat}:∀ (fuel:Nat) (ya:Array Bool) (a:Act) (w:vw),tD P ops Q bars R fuel ya a w -> wpAny P .any ops Q fuel ya a w
 | 0,_,_,w,h=>⟨h.1,h.2 w (.refl M _ _ w)⟩
 | fuel+1,_,_,w,h=>⟨(h w (.refl M _ _ w)).1,fun i hi=>wpOp_mono (fun a' w' h'=>C8 M fuel _ a' w' h'.2) ((h w (.refl M _ _ w)).2 i hi)⟩
theorem zGD (M:ie R) {bars:List Nat} {i:Nat} {oi:Oper} {v:vx} (hi:ops[i]?=vE oi) (If:∀ (j:Nat) (o:Oper) cs b,ops[j]?=vE o -> o.op≠.select cs b)
  (hQ:∀ c a w,Q (.panic c) (a.put oi.dst v) w -> Q (.panic c) a w) (hib:i ∉ bars) (pS:∀ b∈bars,∀ ob,ops[b]?=vE ob -> ∃ e∈ob.after,Region.binds .any e=true /\ e.on=i) :
  ∀ (fuel:Nat) (ya:Array Bool) (a:Act) (w:vw),Qd bars ya=false ->
   (∀ j oj,ops[j]?=vE oj -> j≠i -> ya.getD j true=false -> (∀ e∈oj.after,Region.binds .any e=true -> e.on≠i) -> oi.apart ops oj=true) ->
   i∈Region.ready .any ops ya -> PureAt P ops R w oi v a -> tD P ops Q bars R fuel (ya.setIfInBounds i true) (a.put oi.dst v) w -> tD P ops Q bars R (fuel+1) ya a w:=by
 intro fuel
 induction fuel with
 | zero =>
  intro ya a w hp _ hr hy H w1 Vk;have cy:Qd bars (ya.setIfInBounds i true)=false:=by rw [CF hib];exact hp
  have oH:=Vk.out hp;refine ⟨fun h=>(by rw [h] at hr;cases hr),fun j hj=>?_⟩
  by_cases Qh:j=i
  ·subst Qh
   exact hy.op M hi oH fun w' h'=>⟨fun _=>h',F8 M _ _ _ _ _ cy (M.trans _ _ _ oH h') H⟩
  ·have:=ready_mono hj Qh
   rw [H.1] at this;cases this
 | succ fuel ih =>
  intro ya a w hp DE hr hy H w1 Vk;have cy:Qd bars (ya.setIfInBounds i true)=false:=by rw [CF hib];exact hp
  have oH:=Vk.out hp;refine ⟨fun h=>(by rw [h] at hr;cases hr),fun j hj=>?_⟩
  by_cases Qh:j=i
  ·subst Qh
   exact hy.op M hi oH fun w' h'=>⟨fun _=>h',F8 M _ _ _ _ _ cy (M.trans _ _ _ oH h') H⟩
  ·have h1:=(H w1 (.of cy oH)).2 j (ready_mono hj Qh)
   obtain ⟨OE,oj,Rh,ai⟩:=mem_ready.1 hj;have NH:∀ e∈oj.after,Region.binds .any e=true -> e.on≠i:=fun e he hb heq=>by
    have h1:=ai e he hb;have h0:=(mem_ready.1 hr).1;rw [heq] at h1;rcases Hg i ya.size with h' | h'
    ·simp [h'] at h0 h1;rw [h0] at h1;cases h1
    ·simp [Array.getElem?_eq_none h'] at h1
   have hjb:j ∉ bars:=fun hb=>by
    obtain ⟨e,he,uE,hei⟩:=pS j hb oj Rh;exact NH e he uE hei
   have hpj:Qd bars (ya.setIfInBounds j true)=false:=by rw [CF hjb];exact hp
   have hpij:Qd bars ((ya.setIfInBounds i true).setIfInBounds j true)=false:=by rw [CF hjb];exact cy
   have h2:=zGF (Pi:=PureAt P ops R w1 oi v) Rh (DE j oj Rh Qh OE NH) (fun cs b=>If i oi cs b hi) (fun cs b=>If j oj cs b Rh) (fun _ _ h he hw=>h.same he hw) hQ (hy.later M oH) h1
   have xL:∀ k ok,ops[k]?=vE ok -> k≠i -> (ya.setIfInBounds j true).getD k true=false ->
     (∀ e∈ok.after,Region.binds .any e=true -> e.on≠i) -> oi.apart ops ok=true:=fun k ok hk hki dF zu=>by
    refine DE k ok hk hki ?_ zu;by_cases ME:j=k
    ·subst ME;exact OE
    ·rw [getD_set_ne true ME] at dF;exact dF
   refine wpOp_mono (fun a' w' h3=>?_) h2
   have Ez:=h3.2.1 hpij;refine ⟨fun _=>Ez,ih (ya.setIfInBounds j true) a' w' hpj xL (ready_mono hr (Ne.symm Qh)) (h3.1.later M Ez) ?_⟩
   rw [Array.setIfInBounds_comm _ _ Qh];exact h3.2.2
theorem zGE {bars:List Nat} {i:Nat} {oi:Oper} {v:vx} (hi:ops[i]?=vE oi) (If:∀ (j:Nat) (o:Oper) cs b,ops[j]?=vE o -> o.op≠.select cs b)
  (hQ:∀ c a w,Q (.panic c) (a.put oi.dst v) w -> Q (.panic c) a w) :
  ∀ (fuel:Nat) (ya:Array Bool) (a:Act) (w:vw),Qd bars ya=true ->
   (∀ j oj,ops[j]?=vE oj -> j≠i -> ya.getD j true=false -> (∀ e∈oj.after,Region.binds .any e=true -> e.on≠i) -> oi.apart ops oj=true) ->
   i∈Region.ready .any ops ya -> YieldsIf P ops (fun _=>True) oi v a -> tD P ops Q bars R fuel (ya.setIfInBounds i true) (a.put oi.dst v) w -> tD P ops Q bars R (fuel+1) ya a w:=by
 intro fuel;have zu:∀ {ya:Array Bool} {j:Nat} {w w':vw},Qd bars ya=true -> Qd bars (ya.setIfInBounds j true)=false -> R w w':=fun h h'=>by
  rw [YL h] at h';cases h'
 induction fuel with
 | zero =>
  intro ya a w hp _ hr hy H w1 Vk;obtain rfl:=Vk.eq hp;refine ⟨fun h=>(by rw [h] at hr;cases hr),fun j hj=>?_⟩
  by_cases Qh:j=i
  ·subst Qh
   exact hy.wpOp hi trivial ⟨zu hp,H⟩
  ·have:=ready_mono hj Qh
   rw [H.1] at this;cases this
 | succ fuel ih =>
  intro ya a w hp DE hr hy H w1 Vk;obtain rfl:=Vk.eq hp;refine ⟨fun h=>(by rw [h] at hr;cases hr),fun j hj=>?_⟩
  by_cases Qh:j=i
  ·subst Qh
   exact hy.wpOp hi trivial ⟨zu hp,H⟩
  ·have h1:=(H w1 (by unfold May;rw [Qa (YL hp)])).2 j (ready_mono hj Qh)
   obtain ⟨OE,oj,Rh,ai⟩:=mem_ready.1 hj;have NH:∀ e∈oj.after,Region.binds .any e=true -> e.on≠i:=fun e he hb heq=>by
    have h1:=ai e he hb;have h0:=(mem_ready.1 hr).1;rw [heq] at h1;rcases Hg i ya.size with h' | h'
    ·simp [h'] at h0 h1;rw [h0] at h1;cases h1
    ·simp [Array.getElem?_eq_none h'] at h1
   have h2:=wpOp_putIf Rh (DE j oj Rh Qh OE NH) (fun cs b=>If i oi cs b hi) (fun cs b=>If j oj cs b Rh) hQ hy h1
   have xL:∀ k ok,ops[k]?=vE ok -> k≠i -> (ya.setIfInBounds j true).getD k true=false ->
     (∀ e∈ok.after,Region.binds .any e=true -> e.on≠i) -> oi.apart ops ok=true:=fun k ok hk hki dF zu=>by
    refine DE k ok hk hki ?_ zu;by_cases ME:j=k
    ·subst ME;exact OE
    ·rw [getD_set_ne true ME] at dF;exact dF
   refine wpOp_mono (fun a' w' h3=>⟨zu hp,ih (ya.setIfInBounds j true) a' w' (YL hp) xL (ready_mono hr (Ne.symm Qh)) h3.1 ?_⟩) h2
   rw [Array.setIfInBounds_comm _ _ Qh];exact h3.2.2
end
def Zo (P:Program) (l:List Oper) (hs bars:List Nat) (Q:Exit -> Act -> vw -> Prop) (R:vw -> vw -> Prop) (order:List Nat) (ya:Array Bool) (a:Act) (w:vw):Prop :=
 Region.noSelect l.toArray=true -> xy l hs bars order ya=true -> tD P l.toArray Q bars R order.length ya a w
section
variable {P:Program} {l:List Oper} {hs bars:List Nat} {Q:Exit -> Act -> vw -> Prop} {R:vw -> vw -> Prop} {rest:List Nat} {i:Nat} {o:Oper} {ya:Array Bool} {a:Act} {w:vw}
theorem Ve {id:Nat} (R:vw -> vw -> Prop) (M:ie R) (hs bars order:List Nat) (hm:P.follows .mixedOrders=true) (ib:(Region.noSelect l.toArray&&order.length == l.length&&xy l hs bars order (List.replicate l.length false).toArray)=true)
  (h:Zo P l hs bars Q R order (List.replicate l.length false).toArray a w.drew):(Code.region id l.toArray true).wp P Q a w:=by
 simp only [Cc,Hh] at ib;refine wp_region_any hm (C8 (R:=R) (bars:=bars) M _ _ _ _ ?_);have h2:=h ib.1.1 ib.2;have e:Array.replicate l.toArray.size false=(List.replicate l.length false).toArray:=by simp
 rw [ib.1.2] at h2;rw [e]
 simpa using h2
theorem Xe (M:ie R) {order:List Nat} (h:∀ W,R w W -> Zo P l hs bars Q R order ya a W):Zo P l hs bars Q R order ya a w:=h w (M.refl w)
theorem Hr (hp:Qd bars ya=false) (h:∀ w1,R w w1 -> Q .normal a w1):Zo P l hs bars Q R [] ya a w:=fun _ ib=>⟨by simpa [xy] using ib,fun w1 h1=>h w1 (h1.out hp)⟩
theorem Dj (hp:Qd bars ya=true) (h:Q .normal a w):Zo P l hs bars Q R [] ya a w:=fun _ ib=>⟨by simpa [xy] using ib,fun w1 h1=>by rw [h1.eq hp];exact h⟩
theorem vV {v:vx} (M:ie R) (hh:hs.contains i=false) (hp:Qd bars ya=false) (ho:l[i]?=vE o) (hQ:∀ c a w,Q (.panic c) (a.put o.dst v) w -> Q (.panic c) a w)
  (hpu:PureAt P l.toArray R w o v a) (h:Zo P l hs bars Q R rest (ya.setIfInBounds i true) (a.put o.dst v) w):Zo P l hs bars Q R (i :: rest) ya a w:=by
 intro hn ib;obtain ⟨h1,h2,-,h4,h5⟩:=PJ ib;obtain ⟨f1,f2,f3⟩:=h4 hh;have jj:l.toArray[i]?=vE o:=by rw [dn];exact ho
 refine zGD M jj (Wu hn) hQ f2 (fun b hb ob hob=>rV hob ?_) _ _ _ _ hp (Region.free_spec jj f1) (by simpa using h2) hpu (h hn h5)
 rcases f3 with f3 | f3
 ·rw [hp] at f3;cases f3
 ·exact f3 b hb
theorem D8 {v:vx} (M:ie R) (hh:hs.contains i=false) (hp:Qd bars ya=false) (ho:l[i]?=vE o) (hw:Region.wanted o (yielded l.toArray a.tmps)=true) (hQ:∀ c a w,Q (.panic c) (a.put o.dst v) w -> Q (.panic c) a w)
  (td:∀ w',R w w' -> (execOp a.eval o).run P w'= .ok (.value v) w') (h:Zo P l hs bars Q R rest (ya.setIfInBounds i true) (a.put o.dst v) w):Zo P l hs bars Q R (i :: rest) ya a w :=
 vV M hh hp ho hQ (.inl ⟨hw, .inl td⟩) h
theorem E8 (M:ie R) (hh:hs.contains i=false) (hp:Qd bars ya=false) (ho:l[i]?=vE o) (hw:Region.wanted o (yielded l.toArray a.tmps)=false) (hQ:∀ c a w,Q (.panic c) (a.put o.dst undef) w -> Q (.panic c) a w)
  (h:Zo P l hs bars Q R rest (ya.setIfInBounds i true) (a.put o.dst undef) w):Zo P l hs bars Q R (i :: rest) ya a w :=
 vV M hh hp ho hQ (.inr ⟨hw,rfl⟩) h
theorem Ee {a b:Prop} (h:a) (s:Imp a b:=by
 (repeat ((first | (apply Imp.via (E8 (pa) rfl rfl rfl rfl (fun _ _ _ h=>h))) | (apply Imp.via (D8 (v:=?_) (pa) rfl rfl rfl rfl (fun _ _ _ h=>h) ?hr);case hr=>(intro w' hR;(first | have Bn:=EJ ((pa).trans _ _ _ ea hR) | skip);go_simp;try with_reducible rfl)));simp only [vG,zLa,zLb,zLc]))
 exact Imp.rfl'):b:=s h
theorem Uc {v:vx} {f:FuncId} {vals:Array vx} (M:ie R) (hh:hs.contains i=false) (hp:Qd bars ya=false) (ho:l[i]?=vE o) (hw:Region.wanted o (yielded l.toArray a.tmps)=true) (hQ:∀ c a w,Q (.panic c) (a.put o.dst v) w -> Q (.panic c) a w)
  (td:∀ w,(execOp a.eval o).run P w= .ok (.enter f vals) w) (hc:∀ w',R w w' -> vB P f vals w' fun e fl=>e=vl v /\ R w' fl)
  (h:Zo P l hs bars Q R rest (ya.setIfInBounds i true) (a.put o.dst v) w):Zo P l hs bars Q R (i :: rest) ya a w :=
 vV M hh hp ho hQ (.inl ⟨hw, .inr ⟨f,vals,td,hc⟩⟩) h
theorem zGC {v:vx} (hh:hs.contains i=false) (hp:Qd bars ya=true) (ho:l[i]?=vE o) (hw:Region.wanted o (yielded l.toArray a.tmps)=true) (hQ:∀ c a w,Q (.panic c) (a.put o.dst v) w -> Q (.panic c) a w)
  (td:∀ w',(execOp a.eval o).run P w'= .ok (.value v) w') (h:Zo P l hs bars Q R rest (ya.setIfInBounds i true) (a.put o.dst v) w):Zo P l hs bars Q R (i :: rest) ya a w:=by
 intro hn ib;obtain ⟨h1,h2,-,h4,h5⟩:=PJ ib;have jj:l.toArray[i]?=vE o:=by rw [dn];exact ho
 exact zGE jj (Wu hn) hQ _ _ _ _ hp (Region.free_spec jj (h4 hh).1) (by simpa using h2) (.inl ⟨hw,fun w' _=>td w'⟩) (h hn h5)
theorem kd {a b:Prop} (h:a) (s:Imp a b:=by
 (repeat ((first | (apply Imp.via (E8 (pa) rfl rfl rfl rfl (fun _ _ _ h=>h))) | (apply Imp.via (D8 (v:=?_) (pa) rfl rfl rfl rfl (fun _ _ _ h=>h) ?hr);case hr=>(intro w' hR;(first | have Bn:=EJ ((pa).trans _ _ _ ea hR) | skip);go_simp;try with_reducible rfl)) | (apply Imp.via (zGC (v:=?_) rfl rfl rfl rfl (fun _ _ _ h=>h) ?hr);case hr=>(intro w';go_simp;try with_reducible rfl)));simp only [vG,zLa,zLb,zLc]))
 exact Imp.rfl'):b:=s h
theorem Ti (hh:hs.contains i=true) (hp:Qd bars ya=false) (ho:l[i]?=vE o) (hw:Region.wanted o (yielded l.toArray a.tmps)=true)
  (h:∀ w1,R w w1 -> o.wp P a w1 (fun a' w'=>(Qd bars (ya.setIfInBounds i true)=false -> R w1 w') /\ Zo P l hs bars Q R rest (ya.setIfInBounds i true) a' w') Q):Zo P l hs bars Q R (i :: rest) ya a w:=by
 intro hn ib;obtain ⟨h1,-,h3,-,h5⟩:=PJ ib;have hr:=h3 hh;intro w1 Vk;refine ⟨fun h0=>absurd (hr ▸ h0) (by simp),fun j hj=>?_⟩
 rw [hr,zp] at hj;subst hj;unfold wpOp;have hi:l.toArray[j]?=vE o:=by rw [dn];exact ho
 simp only [hi,hw,if_true];exact .inl (Oper.wp_mono (fun a' w' h'=>⟨h'.1,h'.2 hn h5⟩) (h w1 (Vk.out hp)))
end
def S (l:List Nat):ByteArray:=⟨(l.map fun n=>UInt8.ofNat n).toArray⟩
theorem Y8 (l:List Nat):(S l).size=l.length:=by simp [S,ByteArray.size]
theorem zFs {P:Program} {w:vw} {src e dst:vz} {A:Option vy} {n c:Nat} {l:List Nat} (hs:P.underlying src=vE (.slice e)) (he:P.underlying e=vE (.int vu)) (hd:P.underlying dst=vE .string)
  (h:Rd w 1 A n (U8 l)):(convert src dst (ve A n c)).run P w= .ok (.string (S l)) w:=by
 have hl:l.length=n:=by have:=h.len1;rwa [bZ] at this
 rcases xo n with h0 | h0
 ·subst h0
  obtain rfl:l=[]:=WI hl;rcases A with _ | ad
  ·rw [run_convert_bytes_nil w src e hs he _ _ dst hd]
   rfl
  ·rw [run_convert_bytes_string w src dst e _ 0 c hs he hd,run_bytesToString w ad 0 c [] (by simpa using run_loadCells_list (P:=P) w ad [] (fun j v hj=>by simp at hj))]
   rfl
 ·obtain ⟨ad,rfl,hc⟩:=h.2 h0
  have hlc:=run_loadCells_list (P:=P) w ad (U8 l) hc;rw [bZ,hl] at hlc;rw [run_convert_bytes_string w src dst e _ n c hs he hd,run_bytesToString w ad n c (l.map fun x:Nat=>(x:Int)) (by rw [hlc];simp [U8,Function.comp_def]),foldl_push_bytes]
  simp [S,ByteArray.empty,ByteArray.emptyWithCapacity,Function.comp_def]
  rfl
theorem De {P:Program} {l:List Oper} {hs:List Nat} {Q:Exit -> Act -> vw -> Prop} {R:vw -> vw -> Prop} {ya:Array Bool} {a:Act} {w:vw} (M:ie R) {order:List Nat} (h:∀ W,Hid (W=w) -> R w W -> jq P l hs Q R order ya a W):jq P l hs Q R order ya a w:=h w rfl (M.refl w)
theorem jw {g:Nat} {w w':vw} (h:vA w.1.size w w'):om g w w':=Lf (Vd w _) h zR
abbrev Iw:=(Nat -> vx) -> (Nat -> Prop) -> vw -> Prop
structure jn where
 i:Nat
 deps:List Nat
 eat:List Nat
def Yd (l:List Oper) (j:Nat):Option Tmp:=(l[j]?).bind (·.dst)
def Sf (l:List Oper) (vs:Nat -> vx) (a:Act) (js:List Nat):Act:=js.foldl (fun a j=>a.put (Yd l j) (vs j)) a
def BI:List (Nat × Iw) -> Nat -> Iw
 | [],_=>fun _ _ _=>True
 | (k,p) :: r,j=>if Nat.beq k j then p else BI r j
theorem pU (l:List Oper) (vs:Nat -> vx) (d:Option Tmp) (v:vx):∀ (js:List Nat) (a:Act),(∀ j∈js,∀ t,d=vE t -> Yd l j≠vE t) -> Sf l vs (a.put d v) js=(Sf l vs a js).put d v
 | [],_,_=>rfl
 | j :: js,a,h=>by
  show Sf l vs ((a.put d v).put (Yd l j) (vs j)) js=_
  rw [Act.put_comm a v (vs j) (h j (by simp))]
  exact pU l vs d v js _ fun k hk=>h k (by simp [hk])
theorem B5 (l:List Oper) {vs us:Nat -> vx}:∀ (js:List Nat) (a:Act),(∀ j∈js,vs j=us j) -> Sf l vs a js=Sf l us a js
 | [],_,_=>rfl
 | j :: js,a,h=>by
  show Sf l vs (a.put (Yd l j) (vs j)) js=Sf l us (a.put (Yd l j) (us j)) js
  rw [h j (by simp)]
  exact B5 l js _ fun k hk=>h k (by simp [hk])
def Lg (vs:Nat -> vx) (i:Nat) (v:vx):Nat -> vx:=fun j=>if j=i then v else vs j
theorem b8 (vs:Nat -> vx) (i:Nat) (v:vx):Lg vs i v i=v:=Qa rfl
theorem mV {vs:Nat -> vx} {i j:Nat} {v:vx} (h:j≠i):Lg vs i v j=vs j:=La h
theorem rU (l:List Oper) (vs:Nat -> vx) (i:Nat) (v:vx) (f f':Nat -> Bool):∀ (js:List Nat) (a:Act),js.Nodup -> i∈js -> f i=false -> f' i=true -> (∀ j∈js,j≠i -> f' j=f j) ->
  (∀ j∈js,j≠i -> ∀ t,Yd l i=vE t -> Yd l j≠vE t) -> Sf l (Lg vs i v) a (js.filter f')=(Sf l vs a (js.filter f)).put (Yd l i) v
 | [],_,_,h,_,_,_,_=>by cases h
 | j :: js,a,hn,hi,h0,h1,h2,h3=>by
  obtain ⟨hj,LH⟩:=List.nodup_cons.1 hn;by_cases e:j=i
  ·subst e
   have hf:js.filter f'=js.filter f:=List.filter_congr fun k hk=>h2 k (by simp [hk]) (by rintro rfl;exact hj hk)
   rw [CG h1,BG (by rw [h0];exact NA),hf]
   show Sf l (Lg vs j v) (a.put (Yd l j) (Lg vs j v j)) _=_
   rw [b8,pU _ _ _ _ _ _ (fun k hk=>h3 k (by simp [(Bl.1 hk).1]) (by rintro rfl;exact hj (Bl.1 hk).1))]
   rw [B5 l _ a fun k hk=>mV (by rintro rfl;exact hj (Bl.1 hk).1)]
  ·have FE:i∈js:=by
    rcases Xg.1 hi with h | h
    ·exact absurd h.symm e
    ·exact h
   have key:=fun a=>rU l vs i v f f' js a LH FE h0 h1 (fun k hk=>h2 k (by simp [hk])) fun k hk=>h3 k (by simp [hk])
   have e2:=h2 j (by simp) e
   cases hfj:f j
   ·rw [BG (by rw [e2,hfj];exact NA),BG (by rw [hfj];exact NA)]
    exact key a
   ·rw [CG (by rw [e2,hfj]),CG hfj]
    show Sf l (Lg vs i v) (a.put (Yd l j) (Lg vs i v j)) _=(Sf l vs (a.put (Yd l j) (vs j)) _).put _ _
    rw [mV e];exact key _
theorem tP (l:List Oper) (vs:Nat -> vx) (t:Tmp):∀ (js:List Nat) (a:Act),(∀ j∈js,Yd l j≠vE t) -> (Sf l vs a js).eval (.tmp t)=a.eval (.tmp t)
 | [],_,_=>rfl
 | j :: js,a,h=>by
  show (Sf l vs (a.put (Yd l j) (vs j)) js).eval _=_
  rw [tP l vs t js _ fun k hk=>h k (by simp [hk])]
  exact Act.eval_put fun d hd he=>h j (by simp) (by rw [hd];injection he with he;rw [he])
theorem qU (l:List Oper) (vs:Nat -> vx) (t:Tmp) (j:Nat) (hd:Yd l j=vE t):∀ (js:List Nat) (a:Act),j∈js -> (∀ k∈js,k≠j -> Yd l k≠vE t) -> (Sf l vs a js).eval (.tmp t)=if t<a.tmps.size then vs j else undef
 | [],_,h,_=>by cases h
 | k :: js,a,h,Ta=>by
  show (Sf l vs (a.put (Yd l k) (vs k)) js).eval _=_
  by_cases hj:j∈js
  ·rw [qU l vs t j hd js _ hj fun m hm=>Ta m (by simp [hm])]
   have e:(a.put (Yd l k) (vs k)).tmps.size=a.tmps.size:=by cases h:Yd l k <;> simp [vG]
   rw [e]
  ·obtain rfl:j=k:=by
    rcases Xg.1 h with h | h
    ·exact h
    ·exact absurd h hj
   rw [tP l vs t js _ fun m hm=>Ta m (by simp [hm]) fun e=>hj (e ▸ hm),hd]
   by_cases ht:t<a.tmps.size <;> simp [Act.eval,vG,ht]
def mq (B:Nat) (X:Nat -> Prop) (w w':vw):Prop:=w'.os=w.os /\ w'.tape=w.tape /\ w'.output=w.output /\ w.1.size <= w'.1.size /\ ∀ b,b<B -> ¬X b -> w'.1[b]?=w.1[b]?
theorem zA3 {B:Nat} {X:Nat -> Prop} {a b c:vw} (h:mq B X a b) (k:mq B X b c):mq B X a c :=
 ⟨k.1.trans h.1,k.2.1.trans h.2.1,k.2.2.1.trans h.2.2.1,jb h.2.2.2.1 k.2.2.2.1,fun g h1 h2=>(k.2.2.2.2 g h1 h2).trans (h.2.2.2.2 g h1 h2)⟩
theorem zA2 (B:Nat) (X:Nat -> Prop) (w:vw):mq B X w w:=⟨rfl,rfl,rfl,zR,fun _ _ _=>rfl⟩
def Vu (B:Nat) (X:Nat -> Prop) (own:Nat -> Nat) (w:vw) (i:Nat):Nat -> Prop:=fun b=>b<w.1.size /\ (B <= b \/ X b) /\ own b=i
def yi (P:Program) (x:Sem Next) (w:vw) (K:vx -> vw -> Prop):Prop :=
 (∃ v w',x.run P w= .ok (.value v) w' /\ K v w') \/ (∃ w',x.run P w= .ok .skip w' /\ K undef w') \/ (∃ f vals,x.run P w= .ok (.enter f vals) w /\ vB P f vals w fun e w'=>∃ v,e=vl v /\ K v w')
theorem zAT {P:Program} {o:Oper} {a:Act} {w:vw} {K:Act -> vw -> Prop} {Q:Exit -> Act -> vw -> Prop} (h:yi P (execOp a.eval o) w fun v w'=>K (a.put o.dst v) w'):o.wp P a w K Q:=by
 unfold Oper.wp;rcases h with ⟨v,w',h1,h2⟩ | ⟨w',h1,h2⟩ | ⟨f,vals,h1,h2⟩
 ·rw [h1];exact h2
 ·rw [h1];exact h2
 ·rw [h1]
  refine Calls.mono h2 ?_;rintro e w' ⟨v,rfl,h3⟩;exact h3
theorem Cx {P:Program} {x:Sem Next} {w w':vw} {K:vx -> vw -> Prop} {v:vx} (h:x.run P w= .ok (.value v) w') (hK:K v w'):yi P x w K:=.inl ⟨v,w',h,hK⟩
theorem bL {P:Program} {x:Sem Next} {w:vw} {K:vx -> vw -> Prop} {f:FuncId} {vals:Array vx} {post:Ending -> vw -> Prop} (h:x.run P w= .ok (.enter f vals) w) (hc:vB P f vals w post) (hK:∀ e w',post e w' -> ∃ v,e=vl v /\ K v w'):yi P x w K:=.inr (.inr ⟨f,vals,h,hc.mono hK⟩)
def BB (l:List Oper) (i j:Nat):Bool:=match l[i]? with | some o=>(o.after.any fun e=>Region.binds .any e&&e.on == j) | none=>false
def ZO (l:List Oper) (i:Nat):List Tmp:=match l[i]? with | some o=>(o.op.operands.toList.filterMap fun | .tmp t=>vE t | _=>vD) | none=>[]
def vI (l:List Oper) (L0:Array Bool):List Nat -> List Nat -> Bool
 | _,[]=>true
 | pre,i :: rest=>(match l[i]? with | some o=>o.guard.isNone&&!L0.getD i true&&o.after.all (fun e=>!Region.binds .any e||L0.getD e.on false||(pre.contains e.on&&decide (e.on<l.length))) | none=>true)&&vI l L0 (i :: pre) rest
def YO (l:List Oper) (T:List jn) (L0:Array Bool):Bool :=
 L0.size == l.length&&(T.map (·.i)).Nodup&&vI l L0 [] (T.map (·.i)) &&
 (T.all fun s=>T.all fun t=>s.i == t.i||(Yd l s.i).isNone||Yd l s.i != Yd l t.i) &&
 (T.all fun s=>(ZO l s.i).all fun x=>T.all fun t=>Yd l t.i != vE x||s.deps.contains t.i) &&
 (T.all fun s=>s.deps.all fun j=>(T.any fun t=>t.i == j)&&(decide (l.length <= j)||BB l s.i j)) &&
 (T.all fun s=>s.eat.all fun j=>s.deps.contains j&&T.all fun t=>t.i == s.i||!t.deps.contains j) &&
 ((List.range l.length).all fun i=>L0.getD i true||(T.any fun t=>t.i == i)||((T.all fun t=>decide (l.length <= t.i)||BB l i t.i)||(List.range l.length).any fun j=>!L0.getD j true&&!(T.any fun t=>t.i == j)&&BB l i j))
def XM (P:Program) (l:List Oper) (p:Nat -> Iw) (B:Nat) (X:Nat -> Prop) (w0:vw) (a0:Act) (s:jn):Prop :=
 ∀ (o:Oper),l[s.i]?=vE o -> ∀ (w:vw) (vs:Nat -> vx) (F:Nat -> Nat -> Prop),mq B X w0 w -> (∀ j∈s.deps,p j vs (F j) w /\ ∀ b,F j b -> b<w.1.size /\ (B <= b \/ X b)) -> (∀ j k b,j≠k -> F j b -> ¬F k b) ->
  yi P (execOp (Sf l vs a0 (s.deps.filter (·<l.length))).eval o) w fun v w'=>mq B X w w' /\ (∀ b,b<w.1.size -> (∀ j∈s.eat,¬F j b) -> w'.1[b]?=w.1[b]?) /\ p s.i (Lg vs s.i v) (fun b=>(w.1.size <= b /\ b<w'.1.size) \/ ∃ j∈s.eat,F j b) w'
def ZI (p:Nat -> Iw) (B:Nat) (X:Nat -> Prop) (w0:vw) (s:jn):Prop :=
 ∀ (vs us:Nat -> vx) (F:Nat -> Prop) (w w':vw),mq B X w0 w -> mq B X w w' -> (∀ m∈s.i :: s.deps,us m=vs m) -> (∀ b,F b -> b<w.1.size) -> (∀ b,F b -> w'.1[b]?=w.1[b]?) -> p s.i vs F w -> p s.i us F w'
section
variable {P:Program} {l:List Oper} {Q:Exit -> Act -> vw -> Prop} {R:vw -> vw -> Prop} {T:List jn} {p:Nat -> Iw} {B:Nat} {X:Nat -> Prop} {w0:vw} {a0:Act} {L0:Array Bool}
structure VM (l:List Oper) (T:List jn) (p:Nat -> Iw) (B:Nat) (X:Nat -> Prop) (w0:vw) (a0:Act) (L0 L:Array Bool) (vs:Nat -> vx) (own:Nat -> Nat) (a:Act) (w:vw):Prop where
 size:L.size=l.length
 old:∀ i:Nat,L0.getD i true=true -> L.getD i true=true
 new:∀ i:Nat,L.getD i true=true -> L0.getD i true=true \/ ∃ t∈T,t.i=i
 eff:mq B X w0 w
 act:a=Sf l vs a0 ((T.map (·.i)).filter fun j=>L.getD j true&&!L0.getD j true)
 facts:∀ s∈T,L.getD s.i true=true -> (∀ k∈T,s.i∈k.eat -> L.getD k.i true=false) -> p s.i vs (Vu B X own w s.i) w
theorem wX {i j:Nat} (h:BB l i j=true):∃ o,l[i]?=vE o /\ ∃ e∈o.after,Region.binds .any e=true /\ e.on=j:=by
 unfold BB at h;split at h
 ·rename_i o ho
  simp only [Array.any_eq_true] at h;obtain ⟨k,hk,he⟩:=h;simp only [Cc,Hh] at he;exact ⟨o,ho,o.after[k],Array.getElem_mem hk,he.1,he.2⟩
 ·cases h
theorem xI:∀ (js pre:List Nat),vI l L0 pre js=true -> ∀ i∈js,∀ o,l[i]?=vE o -> o.guard=vD /\ L0.getD i true=false
 | [],_,_,i,hi,_,_=>by cases hi
 | j :: js,pre,h,i,hi,o,ho=>by
  unfold vI at h;rw [Cc] at h;rcases Xg.1 hi with rfl | hi
  ·have h1:=h.1
   rw [ho] at h1;simp only [Cc,il,Option.isNone_iff_eq_none] at h1;exact ⟨h1.1.1,h1.1.2⟩
  ·exact xI js _ h.2 i hi o ho
theorem R0 {L:Array Bool} (hs:L.size=l.length) (h0:∀ i:Nat,L0.getD i true=true -> L.getD i true=true) (tb:L0.size=l.length):∀ (js pre:List Nat),vI l L0 pre js=true -> (∀ i∈pre,L.getD i true=true) -> (∃ i∈js,L.getD i true=false) -> ∃ i∈js,i∈Region.ready .any l.toArray L
 | [],_,_,_,⟨i,hi,_⟩=>by cases hi
 | j :: js,pre,h,hp,hx=>by
  unfold vI at h;rw [Cc] at h;cases hj:L.getD j true
  ·refine ⟨j,by simp,?_⟩
   have ra:j<l.length:=by
    rcases Hg j l.length with h | h
    ·exact h
    ·rw [<- hs] at h
     simp [Nat.not_lt.2 h] at hj
   have ho:l[j]?=vE l[j]:=oc ra;have h1:=h.1;rw [ho] at h1;simp only [Cc] at h1;have h2:=h1.2;rw [Array.all_eq_true] at h2;refine mem_ready.2 ⟨hj,l[j],by rw [dn];exact ho,fun e he hb=>?_⟩
   obtain ⟨k,hk,rfl⟩:=Array.getElem_of_mem he;have h3:=h2 k hk;rw [hb] at h3;simp only [Bool.not_true,Bool.false_or,Bool.or_eq_true] at h3;have key:∀ n:Nat,n<l.length -> L.getD n true=true -> L.getD n false=true:=fun n hn h=>by
    rw [<- hs] at hn
    simpa [hn] using h
   rcases h3 with h3 | h3
   ·have hn:l.toArray[j].after[k].on<l.length:=by
     rcases Hg (l[j].after[k].on) l.length with h | h
     ·exact h
     ·rw [<- tb] at h
      have h3':L0.getD (l[j].after[k].on) false=true:=h3;simp [Nat.not_lt.2 h] at h3'
    refine key _ hn (h0 _ ?_);rw [<- tb] at hn;have h3':L0.getD (l[j].after[k].on) false=true:=h3;have LH:l[j].after[k].on<L0.size:=hn;simp [LH] at h3' |-
    exact h3'
   ·rw [Cc,Bo,ND] at h3
    exact key _ h3.2 (hp _ h3.1)
  ·obtain ⟨i,hi,h'⟩:=hx
   have Ta:i∈js:=by
    rcases Xg.1 hi with rfl | hi
    ·rw [hj] at h';cases h'
    ·exact hi
   obtain ⟨k,hk,hr⟩:=R0 hs h0 tb js (j :: pre) h.2 (by intro i hi;rcases Xg.1 hi with rfl | hi;exact hj;exact hp i hi) ⟨i,Ta,h'⟩
   exact ⟨k,by simp [hk],hr⟩
theorem tX {P:Program} {x:Sem Next} {w:vw} {K K':vx -> vw -> Prop} (h:∀ v w',K v w' -> K' v w') (hd:yi P x w K):yi P x w K':=by
 rcases hd with ⟨v,w',h1,h2⟩ | ⟨w',h1,h2⟩ | ⟨f,vals,h1,h2⟩
 ·exact .inl ⟨v,w',h1,h _ _ h2⟩
 ·exact .inr (.inl ⟨w',h1,h _ _ h2⟩)
 ·exact .inr (.inr ⟨f,vals,h1,h2.mono fun e w' ⟨v,he,hk⟩=>⟨v,he,h _ _ hk⟩⟩)
structure UM (l:List Oper) (T:List jn) (L0:Array Bool):Prop where
 size:L0.size=l.length
 nodup:(T.map (·.i)).Nodup
 topo:vI l L0 [] (T.map (·.i))=true
 dst:∀ s∈T,∀ t∈T,s.i≠t.i -> ∀ x,Yd l s.i=vE x -> Yd l t.i≠vE x
 opers:∀ s∈T,∀ x∈ZO l s.i,∀ t∈T,Yd l t.i=vE x -> t.i∈s.deps
 deps:∀ s∈T,∀ j∈s.deps,(∃ t∈T,t.i=j) /\ (l.length <= j \/ BB l s.i j=true)
 eat:∀ s∈T,∀ j∈s.eat,j∈s.deps /\ ∀ t∈T,t.i≠s.i -> j ∉ t.deps
 tail:∀ i,i<l.length -> L0.getD i true=false -> (∀ t∈T,t.i≠i) -> (∀ t∈T,l.length <= t.i \/ BB l i t.i=true) \/ ∃ j,j<l.length /\ L0.getD j true=false /\ (∀ t∈T,t.i≠j) /\ BB l i j=true
theorem N0 (h:YO l T L0=true):UM l T L0:=by
 unfold YO at h;simp only [Cc,Xd,List.any_eq_true,Bool.or_eq_true,Hh,Bo,ND,Df,ne_eq,il,Option.isNone_iff_eq_none] at h;obtain ⟨⟨⟨⟨⟨⟨⟨h1,h2⟩,h3⟩,h4⟩,h5⟩,h6⟩,h7⟩,h8⟩:=h;refine ⟨h1,h2,h3,?_,?_,?_,?_,?_⟩
 ·intro s hs t ht Ta x hx
  rcases h4 s hs t ht with (e | e) | e
  ·exact absurd e Ta
  ·rw [e] at hx;cases hx
  ·rw [hx] at e;exact fun e'=>e e'.symm
 ·intro s hs x hx t ht e
  rcases h5 s hs x hx t ht with h | h
  ·exact absurd e h
  ·exact h
 ·intro s hs j hj
  exact h6 s hs j hj
 ·intro s hs j hj
  obtain ⟨h,h'⟩:=h7 s hs j hj;refine ⟨h,fun t ht Ta hd=>?_⟩
  rcases h' t ht with e | e
  ·exact Ta e
  ·rw [<- Bool.not_eq_true,ND] at e
   exact e hd
 ·intro i hi h0 hT
  rcases h8 i (Uh.2 hi) with (h | ⟨t,ht,e⟩) | h | ⟨j,hj,h⟩
  ·rw [h0] at h;cases h
  ·exact absurd e (hT t ht)
  ·exact .inl h
  ·refine .inr ⟨j,Uh.1 hj,h.1.1,fun t ht e=>?_,h.2⟩
   have:=h.1.2;rw [<- Bool.not_eq_true,List.any_eq_true] at this;exact this ⟨t,ht,by rw [Hh];exact e⟩
theorem zBQ {L:Array Bool} {i:Nat} (h:i<L.size) (a b:Bool):L.getD i a=L.getD i b:=by simp [h]
theorem Dt {L:Array Bool} {i j:Nat}:(L.setIfInBounds i true).getD j true=true↔L.getD j true=true \/ j=i:=by
 by_cases e:i=j
 ·subst e
  by_cases h:i<L.size <;> simp [h]
 ·rw [getD_set_ne true e]
  exact ⟨.inl,fun h=>h.resolve_right fun h=>e h.symm⟩
theorem V6 {L:Array Bool} {i j:Nat} (h:(L.setIfInBounds i true).getD j true=false):L.getD j true=false:=by
 cases hj:L.getD j true
 ·rfl
 ·have:=Dt (i:=i).2 (.inl hj)
  rw [h] at this;cases this
def zI (own:Nat -> Nat) (w:vw) (s:jn):Nat -> Nat:=fun b=>if b<w.1.size /\ own b ∉ s.eat then own b else s.i
structure CQ (l:List Oper) (T:List jn) (L:Array Bool) (own:Nat -> Nat) (w:vw):Prop where
 own:∀ b,b<w.1.size -> L.getD (own b) true=true
 deps:∀ t∈T,L.getD t.i true=true -> ∀ j∈t.deps,L.getD j true=true
theorem zDz (ok:UM l T L0) {L:Array Bool} {vs:Nat -> vx} {own:Nat -> Nat} {a:Act} {w:vw} (If:Region.noSelect l.toArray=true) (I:VM l T p B X w0 a0 L0 L vs own a w) {s:jn} (hs:s∈T) {o:Oper} (ho:l[s.i]?=vE o) (hd:∀ j∈s.deps,L.getD j true=true) :
  execOp a.eval o=execOp (Sf l vs a0 (s.deps.filter (·<l.length))).eval o:=by
 refine execOp_congr o (fun cs b=>Wu If s.i o cs b (by rw [dn];exact ho)) fun x hx=>?_
 cases x with
 | tmp t =>
  have ht:t∈ZO l s.i:=by
   unfold ZO;rw [ho];exact List.mem_filterMap.2 ⟨.tmp t,by simpa using hx,rfl⟩
  have hTs:∀ j∈T.map (·.i),Yd l j=vE t -> j∈s.deps:=fun j hj e=>by
   obtain ⟨u,hu,rfl⟩:=ld.1 hj;exact ok.opers s hs t ht u hu e
  have xH:∀ j∈s.deps,j∈T.map (·.i):=fun j hj=>by
   obtain ⟨⟨u,hu,e⟩,-⟩:=ok.deps s hs j hj;exact ld.2 ⟨u,hu,e⟩
  have huni:∀ j∈T.map (·.i),∀ k∈T.map (·.i),k≠j -> Yd l j=vE t -> Yd l k≠vE t:=fun j hj k hk Ta e=>by
   obtain ⟨u,hu,rfl⟩:=ld.1 hj;obtain ⟨v,hv,rfl⟩:=ld.1 hk;exact ok.dst u hu v hv (fun e=>Ta e.symm) t e
  have hlen:∀ j,Yd l j=vE t -> j<l.length:=fun j e=>by
   rcases Hg j l.length with h | h
   ·exact h
   ·unfold Yd at e;rw [Xr h] at e;cases e
  rw [I.act];by_cases hex:∃ j∈s.deps,Yd l j=vE t
  ·obtain ⟨j,hj,e⟩:=hex
   have hjT:=xH j hj;have h0:L0.getD j true=false:=by
    obtain ⟨u,hu,rfl⟩:=ld.1 hjT;exact (xI _ _ ok.topo _ hjT _ (oc (hlen _ e))).2
   rw [qU l vs t j e _ _ (Bl.2 ⟨hjT,by rw [hd j hj,h0];rfl⟩) fun k hk Ta=>huni j hjT k (Bl.1 hk).1 Ta e,
    qU l vs t j e _ _ (Bl.2 ⟨hj,by simpa using hlen j e⟩) fun k hk Ta=>huni j hjT k (xH k (Bl.1 hk).1) Ta e]
  ·rw [tP l vs t _ _ fun j hj e=>hex ⟨j,hTs j (Bl.1 hj).1 e,e⟩,tP l vs t _ _ fun j hj e=>hex ⟨j,(Bl.1 hj).1,e⟩]
 | _=>rfl
theorem zDF (ok:UM l T L0) {L:Array Bool} {vs:Nat -> vx} {own:Nat -> Nat} {a:Act} {w:vw} (I:VM l T p B X w0 a0 L0 L vs own a w) (J:CQ l T L own w) (hB:B <= w0.1.size)
  (Gd:∀ s∈T,ZI p B X w0 s) {s:jn} (hs:s∈T) {o:Oper} (ho:l[s.i]?=vE o) (hL:L.getD s.i true=false) (hd:∀ j∈s.deps,L.getD j true=true) {v:vx} {w':vw}
  (he:mq B X w w') (hk:∀ b,b<w.1.size -> (∀ j∈s.eat,¬Vu B X own w j b) -> w'.1[b]?=w.1[b]?)
  (hp:p s.i (Lg vs s.i v) (fun b=>(w.1.size <= b /\ b<w'.1.size) \/ ∃ j∈s.eat,Vu B X own w j b) w') :
  VM l T p B X w0 a0 L0 (L.setIfInBounds s.i true) (Lg vs s.i v) (zI own w s) (a.put o.dst v) w' /\ CQ l T (L.setIfInBounds s.i true) (zI own w s) w':=by
 have hsi:s.i<l.length:=(List.getElem?_eq_some_iff.1 ho).1;have hoi:Yd l s.i=o.dst:=by simp [Yd,ho]
 have hsT:s.i∈T.map (·.i):=ld.2 ⟨s,hs,rfl⟩
 have hL0:L0.getD s.i true=false:=(xI _ _ ok.topo _ hsT _ ho).2;have Ta:∀ b,b<w.1.size -> own b≠s.i:=fun b hb e=>by
  have:=J.own b hb;rw [e,hL] at this;cases this
 have DY:∀ t∈T,t.i=s.i -> t=s:=fun t ht e=>by
  have hn:=ok.nodup;obtain ⟨i,hi,rfl⟩:=uo ht;obtain ⟨j,hj,rfl⟩:=uo hs;have:=(List.getElem_inj (h₀:=by simpa using hi) (h₁:=by simpa using hj) hn).1 (by simpa using e)
  subst this
  rfl
 refine ⟨⟨by simp [I.size],fun i h=>Dt.2 (.inl (I.old i h)),fun i h=>?_,zA3 I.eff he,?_,?_⟩,⟨fun b hb=>?_,fun t ht h j hj=>?_⟩⟩
 ·rcases Dt.1 h with h | rfl
  ·exact I.new i h
  ·exact .inr ⟨s,hs,rfl⟩
 ·rw [I.act,<- hoi]
  refine (rU l vs s.i v _ _ _ a0 ok.nodup hsT (by rw [hL];rfl) (by rw [Dt.2 (.inr rfl),hL0];rfl) (fun j _ Ta=>?_) (fun j hj Ta t e=>?_)).symm
  ·have:(L.setIfInBounds s.i true).getD j true=L.getD j true:=getD_set_ne true fun e=>Ta e.symm
   rw [this]
  ·obtain ⟨u,hu,rfl⟩:=ld.1 hj
   exact ok.dst s hs u hu (fun e=>Ta e.symm) t e
 ·intro t ht hLt hea
  by_cases e:t.i=s.i
  ·obtain rfl:=DY t ht e
   have e2:Vu B X (zI own w t) w' t.i=(fun b=>(w.1.size <= b /\ b<w'.1.size) \/ ∃ j∈t.eat,Vu B X own w j b):=by
    funext b
    apply propext
    unfold Vu zI;constructor
    ·rintro ⟨h1,h2,h3⟩
     rcases Hg b w.1.size with h | h
     ·by_cases hm:own b∈t.eat
      ·exact .inr ⟨own b,hm,h,h2,rfl⟩
      ·rw [Qa ⟨h,hm⟩] at h3
       exact absurd h3 (Ta b h)
     ·exact .inl ⟨h,h1⟩
    ·rintro (⟨h1,h2⟩ | ⟨j,hj,h1,h2,rfl⟩)
     ·exact ⟨h2, .inl (jb hB (jb I.eff.2.2.2.1 h1)),La fun h=>by omega⟩
     ·exact ⟨Sd h1 he.2.2.2.1,h2,La fun h=>h.2 hj⟩
   rw [e2];exact hp
  ·have hLt':L.getD t.i true=true:=(Dt.1 hLt).resolve_right e
   have hte:t.i ∉ s.eat:=fun h=>by
    have:=hea s hs h;rw [Dt.2 (.inr rfl)] at this;cases this
   have hf:=I.facts t ht hLt' fun k hk h=>V6 (hea k hk h)
   have e2:Vu B X (zI own w s) w' t.i=Vu B X own w t.i:=by
    funext b
    apply propext
    unfold Vu zI;constructor
    ·rintro ⟨h1,h2,h3⟩
     by_cases hm:b<w.1.size /\ own b ∉ s.eat
     ·rw [Qa hm] at h3
      exact ⟨hm.1,h2,h3⟩
     ·rw [La hm] at h3
      exact absurd h3.symm e
    ·rintro ⟨h1,h2,h3⟩
     rw [<- h3] at hte;exact ⟨Sd h1 he.2.2.2.1,h2,by rw [Qa ⟨h1,hte⟩];exact h3⟩
   rw [e2];refine Gd t ht vs _ _ w w' I.eff he (fun m hm=>mV fun e=>?_) (fun b hb=>hb.1) (fun b hb=>?_) hf
   ·subst e
    rcases Xg.1 hm with h | h
    ·exact ‹¬t.i=s.i› h.symm
    ·have:=J.deps t ht hLt' _ h
     rw [hL] at this;cases this
   ·refine hk b hb.1 fun j hj hO=>?_
    have:=hO.2.2;rw [hb.2.2] at this;exact hte (this ▸ hj)
 ·unfold zI
  split
  ·rename_i h
   exact Dt.2 (.inl (J.own b h.1))
  ·exact Dt.2 (.inr rfl)
 ·rcases Dt.1 h with h | h
  ·exact Dt.2 (.inl (J.deps t ht h j hj))
  ·obtain rfl:=DY t ht h
   exact Dt.2 (.inl (hd j hj))
def Xu (T:List jn) (L0:Array Bool):Array Bool:=T.foldl (fun L s=>L.setIfInBounds s.i true) L0
theorem fW:∀ (T:List jn) (L0:Array Bool) (j:Nat),(Xu T L0).getD j true=true↔L0.getD j true=true \/ ∃ t∈T,t.i=j
 | [],L0,j=>by simp [Xu]
 | s :: T,L0,j=>by
  show (Xu T (L0.setIfInBounds s.i true)).getD j true=true↔_
  rw [fW T,Dt];constructor
  ·rintro ((h | rfl) | ⟨t,ht,e⟩)
   ·exact .inl h
   ·exact .inr ⟨s,by simp,rfl⟩
   ·exact .inr ⟨t,by simp [ht],e⟩
  ·rintro (h | ⟨t,ht,e⟩)
   ·exact .inl (.inl h)
   ·rcases Xg.1 ht with rfl | ht
    ·exact .inl (.inr e.symm)
    ·exact .inr ⟨t,ht,e⟩
theorem gW:∀ (T:List jn) (L0:Array Bool),(Xu T L0).size=L0.size
 | [],_=>rfl
 | s :: T,L0=>by
  show (Xu T (L0.setIfInBounds s.i true)).size=_
  rw [gW T];simp
theorem zDA (M:ie R) (If:Region.noSelect l.toArray=true) (ok:UM l T L0) (hB:B <= w0.1.size) (hR:∀ w',mq B X w0 w' -> R w0 w') (Gd:∀ s∈T,ZI p B X w0 s) (FL:∀ s∈T,XM P l p B X w0 a0 s) {fr:Nat}
  (Dn:∀ (w:vw) (vs:Nat -> vx) (F:Nat -> Nat -> Prop),mq B X w0 w -> (∀ s∈T,(∀ k∈T,s.i ∉ k.eat) -> p s.i vs (F s.i) w /\ ∀ b,F s.i b -> b<w.1.size /\ (B <= b \/ X b)) -> (∀ j k b,j≠k -> F j b -> ¬F k b) ->
   Sm P l.toArray Q R fr (Xu T L0) (Sf l vs a0 ((T.map (·.i)).filter (·<l.length))) w) :
  ∀ (n:Nat) (L:Array Bool) (vs:Nat -> vx) (own:Nat -> Nat) (a:Act) (w:vw),(T.filter fun s=>!L.getD s.i true).length=n -> VM l T p B X w0 a0 L0 L vs own a w -> CQ l T L own w -> wpAnyH P .any l.toArray Q (R w0) (n+fr) L a w:=by
 intro n
 induction n with
 | zero =>
  intro L vs own a w hn I J;have hup:∀ t∈T,L.getD t.i true=true:=fun t ht=>by
   have:=WI hn;rw [List.filter_eq_nil_iff] at this
   simpa using this t ht
  have hLe:L=Xu T L0:=by
   apply Array.ext
   ·rw [gW,I.size,ok.size]
   ·intro i h1 h2
    have e1:L.getD i true=L[i]:=by simp [h1]
    have e2:(Xu T L0).getD i true=(Xu T L0)[i]:=by simp [h2]
    rw [<- e1,<- e2,Bool.eq_iff_iff,fW];constructor
    ·exact I.new i
    ·rintro (h | ⟨t,ht,rfl⟩)
     ·exact I.old i h
     ·exact hup t ht
  have hact:a=Sf l vs a0 ((T.map (·.i)).filter (·<l.length)):=by
   rw [I.act]
   congr 1
   refine List.filter_congr fun j hj=>?_
   obtain ⟨t,ht,rfl⟩:=ld.1 hj;rw [hup t ht,Bool.true_and];rcases Hg t.i l.length with h | h
   ·rw [(xI _ _ ok.topo _ hj _ (oc h)).2]
    simp [h]
   ·have:L0.getD t.i true=true:=by rw [<- ok.size] at h;simp [Nat.not_lt.2 h]
    rw [this];simp [Nat.not_lt.2 h]
  have hf:=Dn w vs (Vu B X own w) I.eff (fun s hs Ta=>⟨I.facts s hs (hup s hs) fun k hk h=>absurd h (Ta k hk),fun b hb=>⟨hb.1,hb.2.1⟩⟩) (fun j k b Ta h1 h2=>Ta (h1.2.2.symm.trans h2.2.2))
  rw [Mk,hLe,hact];exact eQ (fun w2 h2=>M.trans _ _ _ (hR _ I.eff) h2) _ _ _ _ hf
 | succ n ih =>
  intro L vs own a w hn I J;have hex:∃ s∈T,L.getD s.i true=false:=by
   cases h:T.filter (fun s=>!L.getD s.i true) with
   | nil=>rw [h] at hn;cases hn
   | cons s r =>
    have:s∈T.filter (fun s=>!L.getD s.i true):=by rw [h];simp
    obtain ⟨h1,h2⟩:=Bl.1 this;exact ⟨s,h1,by simpa using h2⟩
  rw [show n+1+fr=(n+fr)+1 by omega]
  refine ⟨fun h=>?_,fun i hi=>?_⟩
  ·obtain ⟨s,hs,h'⟩:=hex
   obtain ⟨i,-,hi⟩:=R0 I.size I.old ok.size _ _ ok.topo (by simp) ⟨s.i,ld.2 ⟨s,hs,rfl⟩,h'⟩
   rw [h] at hi;cases hi
  ·obtain ⟨hLi,o,ho,ai⟩:=mem_ready.1 hi
   rw [dn] at ho;have JE:i<l.length:=(List.getElem?_eq_some_iff.1 ho).1;have uS:∀ j,BB l i j=true -> L.getD j true=true:=fun j h=>by
    obtain ⟨o',ho',e,he,hb,rfl⟩:=wX h;rw [ho] at ho';obtain rfl:=db ho';have:=ai e he hb;rcases Hg e.on L.size with h | h
    ·rw [zBQ h true false];exact this
    ·simp [Nat.not_lt.2 h]
   have hT:∃ s∈T,s.i=i:=by
    refine RI fun zu=>?_
    have h0:L0.getD i true=false:=by
     cases h:L0.getD i true
     ·rfl
     ·have:=I.old i h;rw [hLi] at this;cases this
    rcases ok.tail i JE h0 (fun t ht e=>zu ⟨t,ht,e⟩) with h | ⟨j,hj,h1,h2,h3⟩
    ·obtain ⟨s,hs,h'⟩:=hex
     rcases h s hs with h | h
     ·rw [<- I.size] at h
      simp [Nat.not_lt.2 h] at h'
     ·rw [uS _ h] at h';cases h'
    ·have h4:=uS _ h3
     rcases I.new j h4 with h | ⟨t,ht,e⟩
     ·rw [h1] at h;cases h
     ·exact h2 t ht e
   obtain ⟨s,hs,rfl⟩:=hT;have hd:∀ j∈s.deps,L.getD j true=true:=fun j hj=>by
    rcases (ok.deps s hs j hj).2 with h | h
    ·rw [<- I.size] at h;simp [Nat.not_lt.2 h]
    ·exact uS _ h
   have hg:=(xI _ _ ok.topo s.i (ld.2 ⟨s,hs,rfl⟩) o ho).1;unfold wpOp;rw [dn,ho];simp only [Region.wanted,hg,if_true];refine .inl (zAT ?_);rw [zDz ok If I hs ho hd];refine tX ?_ (FL s hs o ho w vs (Vu B X own w) I.eff (fun j hj=>⟨?_,fun b hb=>⟨hb.1,hb.2.1⟩⟩) fun j k b Ta h1 h2=>Ta (h1.2.2.symm.trans h2.2.2))
   ·rintro v w' ⟨he,hk,hp⟩
    obtain ⟨I',J'⟩:=zDF ok I J hB Gd hs ho hLi hd he hk hp;refine ⟨hR _ I'.eff,ih _ _ _ _ _ ?_ I' J'⟩;have e1:(T.filter fun t=>!(L.setIfInBounds s.i true).getD t.i true)=(T.filter fun t=>!L.getD t.i true).filter fun t=>t.i != s.i:=by
     rw [List.filter_filter];refine List.filter_congr fun t ht=>?_
     rw [Bool.eq_iff_iff];simp only [il,Cc,Df,ne_eq];constructor
     ·intro h
      refine ⟨fun e=>?_,V6 h⟩
      rw [Dt.2 (.inr e)] at h;cases h
     ·rintro ⟨h1,h2⟩
      cases h:(L.setIfInBounds s.i true).getD t.i true
      ·rfl
      ·rcases Dt.1 h with h | h
       ·rw [h2] at h;cases h
       ·exact absurd h h1
    rw [e1];have:=XZ (T.filter fun t=>!L.getD t.i true) s.i ((List.Sublist.map _ List.filter_sublist).nodup ok.nodup) ⟨s,Bl.2 ⟨hs,by rw [hLi];rfl⟩,rfl⟩
    omega
   ·obtain ⟨⟨t,ht,rfl⟩,-⟩:=ok.deps s hs j hj
    refine I.facts t ht (hd _ hj) fun k hk h=>?_
    by_cases e:k.i=s.i
    ·rw [e];exact hLi
    ·exact absurd hj ((ok.eat k hk _ h).2 s hs fun e'=>e e'.symm)
where
 XZ:∀ (T:List jn) (i:Nat),(T.map (·.i)).Nodup -> (∃ s∈T,s.i=i) -> (T.filter fun t=>t.i != i).length+1=T.length
  | [],_,_,⟨_,h,_⟩=>by cases h
  | t :: T,i,hn,⟨s,hs,e⟩=>by
   obtain ⟨h1,h2⟩:=List.nodup_cons.1 hn;by_cases ht:t.i=i
   ·rw [BG (by simp [ht])]
    have:T.filter (fun t=>t.i != i)=T:=List.filter_eq_self.2 fun u hu=>by
     rw [Df];intro e';exact h1 (ld.2 ⟨u,hu,e'.trans ht.symm⟩)
    rw [this];rfl
   ·rw [CG (by simpa using ht)]
    have:=XZ T i h2 (by
     rcases Xg.1 hs with rfl | hs
     ·exact absurd e ht
     ·exact ⟨s,hs,e⟩)
    simp only [jf];omega
theorem zGG (M:ie R) (If:Region.noSelect l.toArray=true) (ib:YO l T L0=true) (hB:B <= w0.1.size) (hR:∀ w',mq B X w0 w' -> R w0 w') (vs0:Nat -> vx) (Uj:Nat -> Nat) (TE:∀ b,b<w0.1.size -> l.length <= Uj b)
  (h0:∀ s∈T,l.length <= s.i -> p s.i vs0 (Vu B X Uj w0 s.i) w0) (Gd:∀ s∈T,ZI p B X w0 s) (FL:∀ s∈T,XM P l p B X w0 a0 s) {fr n:Nat} (hn:(T.filter (fun s=>!L0.getD s.i true)).length+fr=n)
  (Dn:∀ (w:vw) (vs:Nat -> vx) (F:Nat -> Nat -> Prop),mq B X w0 w -> (∀ s∈T,(∀ k∈T,s.i ∉ k.eat) -> p s.i vs (F s.i) w /\ ∀ b,F s.i b -> b<w.1.size /\ (B <= b \/ X b)) -> (∀ j k b,j≠k -> F j b -> ¬F k b) ->
   Sm P l.toArray Q R fr (Xu T L0) (Sf l vs a0 ((T.map (·.i)).filter (·<l.length))) w):Sm P l.toArray Q R n L0 a0 w0:=by
 have ok:=N0 ib;have EE:∀ j,l.length <= j -> L0.getD j true=true:=fun j h=>by rw [<- ok.size] at h;simp [Nat.not_lt.2 h]
 have hlow:∀ s∈T,L0.getD s.i true=true -> l.length <= s.i:=fun s hs h=>by
  rcases Hg s.i l.length with h1 | h1
  ·rw [(xI _ _ ok.topo _ (ld.2 ⟨s,hs,rfl⟩) _ (oc h1)).2] at h;cases h
  ·exact h1
 subst hn;refine zDA M If ok hB hR Gd FL Dn _ L0 vs0 Uj a0 w0 rfl ⟨ok.size,fun _ h=>h,fun _ h=>.inl h,zA2 _ _ _,?_,fun s hs h _=>h0 s hs (hlow s hs h)⟩ ⟨fun b hb=>EE _ (TE b hb),fun t ht h j hj=>?_⟩
 ·have:(T.map (·.i)).filter (fun j=>L0.getD j true&&!L0.getD j true)=[]:=List.filter_eq_nil_iff.2 fun j _=>by cases L0.getD j true <;> simp
  rw [this]
  rfl
 ·rcases (ok.deps t ht j hj).2 with h' | h'
  ·exact EE j h'
  ·obtain ⟨o,ho,-⟩:=wX h'
   have:=hlow t ht h;rw [Xr this] at ho;cases ho
end
end Go.Proofs.YteoghgbnielkpaaGreat
