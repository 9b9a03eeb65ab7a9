/- A part of the proof. No condition. -/
import Derived.Deep.RegionHeld3
import Derived.Test.YtjipleoamlmkfaaGreatProg
import Derived.Test.YtjipleoamlmkfaaGreatPF1

set_option maxRecDepth 100000
set_option maxHeartbeats 8000000
set_option linter.unusedVariables false
set_option linter.unusedSimpArgs false
namespace Go.Proofs.YtjipleoamlmkfaaGreat
open Go.RowKit
structure uc (R:World -> World -> Prop):Prop where
 refl:∀ w,R w w
 trans:∀ a b c,R a b -> R b c -> R a c
def Bb (w w':World):Prop:=Below w.heap.size w w'
theorem pa:uc Bb:=⟨fun w=>Below.refl _ w,fun _ _ _ h k=>ja h k⟩
def tg (g:Nat) (w w':World):Prop:=w.grownBy w' (some g)
theorem tc (g:Nat):uc (tg g):=⟨fun w=>Lc w _,fun _ _ _ h k=>Iq h k fun _ e=>.inl e⟩
section
variable {P:Program} {ops:Array Oper} {Q:Exit -> Act -> World -> Prop} {R:World -> World -> Prop}
theorem jC {S S':World -> Prop} (hS:∀ w,S' w -> S w):∀ (fuel:Nat) (ta:Array Bool) (a:Act) (w:World),wpAnyH P .any ops Q S' fuel ta a w -> wpAnyH P .any ops Q S fuel ta a w
 | 0,_,_,_,h=>h
 | fuel+1,_,_,_,h=>⟨h.1,fun i hi=>wpOp_mono (fun a' w' h'=>⟨hS _ h'.1,jC hS fuel _ a' w' h'.2⟩) (h.2 i hi)⟩
def vh (P:Program) (ops:Array Oper) (Q:Exit -> Act -> World -> Prop) (R:World -> World -> Prop) (fuel:Nat) (ta:Array Bool) (a:Act) (w:World):Prop :=
 wpAnyH P .any ops Q (R w) fuel ta a w
theorem Nz {id:Nat} {a:Act} {w:World} {l:List Oper} (R:World -> World -> Prop) (hm:P.follows .mixedOrders=true) (h:vh P l.toArray Q R l.length (List.replicate l.length false).toArray a w.drew):(Code.region id l.toArray true).wp P Q a w:=by
 refine wp_region_held (S:=R w.drew) hm ?_;have e:Array.replicate l.toArray.size false=(List.replicate l.length false).toArray:=by simp
 rw [e]
 simpa [vh] using h
theorem UF {fuel:Nat} {ta:Array Bool} {a:Act} {w:World} (hr:Region.ready .any ops ta=[]) (h:Q .normal a w):vh P ops Q R fuel ta a w:=wpAnyH_done hr h fuel
end
section
variable {P:Program} {l:List Oper} {Q:Exit -> Act -> World -> Prop} {R:World -> World -> Prop}
theorem Qg (i:Nat) {v:Value} {fuel:Nat} {ta:Array Bool} {a:Act} {w:World} (M:uc R) (oa:i<l.length)
  (hs:Region.noSelect l.toArray=true) (hf:Region.free .any l.toArray ta i=true) (hr:(Region.ready .any l.toArray ta).contains i=true)
  (hQ:∀ c a w,Q (.panic c) (a.put l[i].dst v) w -> Q (.panic c) a w)
  (hy:(Region.wanted l[i] (yielded l.toArray a.tmps)=true /\ ∀ w',R w w' -> (execOp a.eval l[i]).run P w'= .ok (.value v) w') \/ (Region.wanted l[i] (yielded l.toArray a.tmps)=false /\ v=undef))
  (h:vh P l.toArray Q R fuel (ta.setIfInBounds i true) (a.put l[i].dst v) w):vh P l.toArray Q R (fuel+1) ta a w :=
 wpAnyH_take (i:=i) (oi:=l[i]) (by simp [oa]) hs hf hr hQ hy (M.refl w) h
theorem UK (i:Nat) {fuel:Nat} {ta:Array Bool} {a:Act} {w:World} (M:uc R) (oa:i<l.length) (hr:Region.ready .any l.toArray ta=[i])
  (hw:Region.wanted l[i] (yielded l.toArray a.tmps)=true)
  (h:l[i].wp P a w (fun a' w'=>R w w' /\ vh P l.toArray Q R fuel (ta.setIfInBounds i true) a' w') Q):vh P l.toArray Q R (fuel+1) ta a w:=by
 refine ⟨fun h0=>absurd (hr ▸ h0) (by simp),fun j hj=>?_⟩
 rw [hr,List.mem_singleton] at hj;subst hj;unfold wpOp;have hi:l.toArray[j]?=some l[j]:=by simp [oa]
 simp only [hi,hw,if_true];exact .inl (Oper.wp_mono (fun a' w' h'=>⟨h'.1,jC (fun w2 h2=>M.trans _ _ _ h'.1 h2) _ _ _ _ h'.2⟩) h)
theorem TK (i:Nat) {f:FuncId} {vals:Array Value} {fuel:Nat} {ta:Array Bool} {a:Act} {w:World} (M:uc R) (oa:i<l.length) (hr:Region.ready .any l.toArray ta=[i])
  (hw:Region.wanted l[i] (yielded l.toArray a.tmps)=true)
  (h:Calls P f vals w fun e w'=>∃ v,e= .returned v /\ R w w' /\ vh P l.toArray Q R fuel (ta.setIfInBounds i true) (a.put l[i].dst v) w')
  (Xb:∀ w,(execOp a.eval l[i]).run P w= .ok (.enter f vals) w):vh P l.toArray Q R (fuel+1) ta a w:=by
 refine UK i M oa hr hw ?_;unfold Oper.wp;rw [Xb w];refine Calls.mono h ?_;rintro e w' ⟨v,rfl,h1,h2⟩;exact ⟨h1,h2⟩
end
section
variable {P:Program} {l:List Oper} {Q:Exit -> Act -> World -> Prop} {R:World -> World -> Prop}
def wpS (P:Program) (l:List Oper) (Q:Exit -> Act -> World -> Prop) (R:World -> World -> Prop) (i:Nat) (fuel:Nat) (ta:Array Bool) (a:Act) (w:World):Prop :=
 ∃ (h:i<l.length),Region.wanted l[i] (yielded l.toArray a.tmps)=true /\ l[i].wp P a w (fun a' w'=>R w w' /\ vh P l.toArray Q R fuel (ta.setIfInBounds i true) a' w') Q
theorem FT {i fuel:Nat} {ta:Array Bool} {a:Act} {w:World} (M:uc R) (h:wpS P l Q R i fuel ta a w):wpOp P l.toArray Q i (fun a' w'=>R w w' /\ wpAnyH P .any l.toArray Q (R w) fuel (ta.setIfInBounds i true) a' w') a w:=by
 obtain ⟨oa,hw,h⟩:=h;unfold wpOp;have hi:l.toArray[i]?=some l[i]:=by simp [oa]
 simp only [hi,hw,if_true];exact .inl (Oper.wp_mono (fun a' w' h'=>⟨h'.1,jC (fun w2 h2=>M.trans _ _ _ h'.1 h2) _ _ _ _ h'.2⟩) h)
theorem DT {i:Nat} {f:FuncId} {vals:Array Value} {fuel:Nat} {ta:Array Bool} {a:Act} {w:World} (oa:i<l.length) (hw:Region.wanted l[i] (yielded l.toArray a.tmps)=true)
  (h:Calls P f vals w fun e w'=>∃ v,e= .returned v /\ R w w' /\ vh P l.toArray Q R fuel (ta.setIfInBounds i true) (a.put l[i].dst v) w')
  (Xb:∀ w,(execOp a.eval l[i]).run P w= .ok (.enter f vals) w):wpS P l Q R i fuel ta a w:=by
 refine ⟨oa,hw,?_⟩;unfold Oper.wp;rw [Xb w];refine Calls.mono h ?_;rintro e w' ⟨v,rfl,h1,h2⟩;exact ⟨h1,h2⟩
end
theorem pU {P:Program} {o:Oper} {ops:Array Oper} {a:Act} {v:Value} {R:World -> World -> Prop} {w:World} (hw:Region.wanted o (yielded ops a.tmps)=true) (h:∀ w',R w w' -> (execOp a.eval o).run P w'= .ok (.value v) w') :
  (Region.wanted o (yielded ops a.tmps)=true /\ ∀ w',R w w' -> (execOp a.eval o).run P w'= .ok (.value v) w') \/ (Region.wanted o (yielded ops a.tmps)=false /\ v=undef):=.inl ⟨hw,h⟩
theorem iK {P:Program} {w:World} {t e:TypeId} {size bytes:Nat} {z:Value} (E:Gj P t e size bytes z) (A:Option Addr) (n c h:Nat) (hc:h <= c) :
  (Instr.slice t (.slice A n c) none (some (.int .i64 h)) none).run P w= .ok (.slice A h c) w:=by
 obtain ⟨ht,⟨i,hi,hz,hs,Sq⟩,hzs,Ra⟩:=E;have he:P.elem t=e:=by simp [Program.elem,ht]
 rw [run_slice_h (P:=P) w t A n c (by rw [he];exact ht) .i64 (h:Int) (by omega) (by omega),he]
 cases A <;> simp [sizeOf,typeInfo,hi,sliced,Result.andThen,Addr.add]
def Qr (l:List Oper) (hs:List Nat):List Nat -> Array Bool -> Bool
 | [],ta=>(Region.ready .any l.toArray ta).isEmpty
 | i :: rest,ta=>decide (i<l.length)&&Region.free .any l.toArray ta i&&(Region.ready .any l.toArray ta).contains i &&
   (!hs.contains i||Region.ready .any l.toArray ta == [i])&&Qr l hs rest (ta.setIfInBounds i true)
def Mi (P:Program) (l:List Oper) (hs:List Nat) (Q:Exit -> Act -> World -> Prop) (R:World -> World -> Prop) (order:List Nat) (ta:Array Bool) (a:Act) (w:World):Prop :=
 Region.noSelect l.toArray=true -> Qr l hs order ta=true -> vh P l.toArray Q R order.length ta a w
section
variable {P:Program} {l:List Oper} {hs:List Nat} {Q:Exit -> Act -> World -> Prop} {R:World -> World -> Prop} {rest:List Nat} {i:Nat} {o:Oper} {ta:Array Bool} {a:Act} {w:World}
theorem Pc {id:Nat} (R:World -> World -> Prop) (hs order:List Nat) (hm:P.follows .mixedOrders=true) (Ia:(Region.noSelect l.toArray&&order.length == l.length&&Qr l hs order (List.replicate l.length false).toArray)=true)
  (h:Mi P l hs Q R order (List.replicate l.length false).toArray a w.drew):(Code.region id l.toArray true).wp P Q a w:=by
 simp only [Bool.and_eq_true,beq_iff_eq] at Ia;refine Nz R hm ?_;rw [<- Ia.1.2];have:=h Ia.1.1 Ia.2
 rwa [Ia.1.2] at this |-
theorem Xk (M:uc R) {order:List Nat} (h:∀ W,R w W -> Mi P l hs Q R order ta a W):Mi P l hs Q R order ta a w:=h w (M.refl w)
theorem pc (h:Q .normal a w):Mi P l hs Q R [] ta a w:=fun _ Ia=>UF (by simpa [Qr] using Ia) h
theorem ME (h:Qr l hs (i :: rest) ta=true):i<l.length /\ Region.free .any l.toArray ta i=true /\ (Region.ready .any l.toArray ta).contains i=true /\
  (hs.contains i=true -> Region.ready .any l.toArray ta=[i]) /\ Qr l hs rest (ta.setIfInBounds i true)=true:=by
 unfold Qr at h;simp only [Bool.and_eq_true,Bool.or_eq_true,Bool.not_eq_true',decide_eq_true_eq,beq_iff_eq] at h;obtain ⟨⟨⟨⟨h1,h2⟩,h3⟩,h4⟩,h5⟩:=h;refine ⟨h1,h2,h3,fun h6=>?_,h5⟩
 rcases h4 with h4 | h4
 ·rw [h6] at h4;cases h4
 ·exact h4
theorem Hq {h:i<l.length} (ho:l[i]?=some o):l[i]=o:=by
 rw [List.getElem?_eq_getElem h] at ho
 injection ho
theorem Xw {v:Value} (M:uc R) (ho:l[i]?=some o) (hw:Region.wanted o (yielded l.toArray a.tmps)=true) (hQ:∀ c a w,Q (.panic c) (a.put o.dst v) w -> Q (.panic c) a w)
  (Xb:∀ w',R w w' -> (execOp a.eval o).run P w'= .ok (.value v) w') (h:Mi P l hs Q R rest (ta.setIfInBounds i true) (a.put o.dst v) w):Mi P l hs Q R (i :: rest) ta a w:=by
 intro hn Ia;obtain ⟨h1,h2,h3,-,h5⟩:=ME Ia;have e:=Hq (h:=h1) ho;subst e;exact Qg i M h1 hn h2 h3 hQ (.inl ⟨hw,Xb⟩) (h hn h5)
theorem Yw (M:uc R) (ho:l[i]?=some o) (hw:Region.wanted o (yielded l.toArray a.tmps)=false) (hQ:∀ c a w,Q (.panic c) (a.put o.dst undef) w -> Q (.panic c) a w)
  (h:Mi P l hs Q R rest (ta.setIfInBounds i true) (a.put o.dst undef) w):Mi P l hs Q R (i :: rest) ta a w:=by
 intro hn Ia;obtain ⟨h1,h2,h3,-,h5⟩:=ME Ia;have e:=Hq (h:=h1) ho;subst e;exact Qg i M h1 hn h2 h3 hQ (.inr ⟨hw,rfl⟩) (h hn h5)
theorem de (M:uc R) (hh:hs.contains i=true) (ho:l[i]?=some o) (hw:Region.wanted o (yielded l.toArray a.tmps)=true)
  (h:o.wp P a w (fun a' w'=>R w w' /\ Mi P l hs Q R rest (ta.setIfInBounds i true) a' w') Q):Mi P l hs Q R (i :: rest) ta a w:=by
 intro hn Ia;obtain ⟨h1,-,-,h4,h5⟩:=ME Ia;have e:=Hq (h:=h1) ho;subst e;exact UK i M h1 (h4 hh) hw (Oper.wp_mono (fun a' w' h'=>⟨h'.1,h'.2 hn h5⟩) h)
theorem oc {f:FuncId} {vals:Array Value} (M:uc R) (hh:hs.contains i=true) (ho:l[i]?=some o) (hw:Region.wanted o (yielded l.toArray a.tmps)=true)
  (Xb:∀ w,(execOp a.eval o).run P w= .ok (.enter f vals) w)
  (h:Calls P f vals w fun e w'=>∃ v,e= .returned v /\ R w w' /\ Mi P l hs Q R rest (ta.setIfInBounds i true) (a.put o.dst v) w'):Mi P l hs Q R (i :: rest) ta a w:=by
 refine de M hh ho hw ?_;unfold Oper.wp;rw [Xb w];refine Calls.mono h ?_;rintro e w' ⟨v,rfl,h1,h2⟩;exact ⟨h1,h2⟩
end
theorem rz {w w':World} (h:Bb w.drew w'):∀ b o,b<w.heap.size -> w'.cell? ⟨b,o,none⟩=w.cell? ⟨b,o,none⟩:=fun b o hb=>Below.cell h (p:=⟨b,o,none⟩) hb
theorem nJ {g:Nat} {w w':World} (h:tg g w w'):∀ b o,b<w.heap.size -> b≠g -> w'.cell? ⟨b,o,none⟩=w.cell? ⟨b,o,none⟩:=fun b o hb Ka=>by
 have:=h.block b hb (fun e=>Ka (by injection e))
 simp only [World.cell?,this]
theorem zP {g:Nat} {w w':World} (h:tg g w.drew w'):∀ b o,b<w.heap.size -> b≠g -> w'.cell? ⟨b,o,none⟩=w.cell? ⟨b,o,none⟩:=fun b o hb Ka=>nJ h b o hb Ka
def yy (g i:Nat) (w w':World):Prop:=w.grownBy w' (some g) /\ ∀ t cs,Blk w g t cs -> ∃ v,Blk w' g t (cs.setIfInBounds i v)
theorem vj (g i:Nat):uc (yy g i):=by
 refine ⟨fun w=>⟨Lc w _,fun t cs h=>⟨cs.getD i undef,?_⟩⟩,fun a b c h k=>⟨Iq h.1 k.1 fun _ e=>.inl e,fun t cs hb=>?_⟩⟩
 ·have e:cs.setIfInBounds i (cs.getD i undef)=cs:=by
   apply Array.ext
   ·simp
   ·intro j h1 h2
    rw [Array.getElem_setIfInBounds]
    ·split
     ·subst_vars
      simp [h2]
     ·rfl
  rw [e];exact h
 ·obtain ⟨v,hv⟩:=h.2 t cs hb
  obtain ⟨u,hu⟩:=k.2 t _ hv;exact ⟨u,by simpa using hu⟩
theorem mJ {g i:Nat} (w:World) (v:Value):yy g i w (w.setCell ⟨g,i,none⟩ v):=⟨Yd (p:=⟨g,i,none⟩) (Lc w _) (.inl rfl) v,fun _ _ hb=>⟨v,hb.set_ i v⟩⟩
theorem kJ {g i:Nat} {w w':World} (h:yy g i w.drew w'):∀ b o,b<w.heap.size -> b≠g -> w'.cell? ⟨b,o,none⟩=w.cell? ⟨b,o,none⟩:=fun b o hb Ka=>nJ (w:=w.drew) h.1 b o hb Ka
theorem lJ {g i:Nat} {w w':World} {t:TypeId} {cs:Array Value} (h:yy g i w.drew w') (k:Blk w g t cs):∀ j,j≠i -> w'.cell? ⟨g,j,none⟩=cs[j]?:=fun j hj=>by
 obtain ⟨v,hv⟩:=h.2 t cs k;rw [hv.cell j,Array.getElem?_setIfInBounds,if_neg (fun e=>hj e.symm)]
theorem Sg {w c:World} (h:Hid (c=w.drew)):Below w.heap.size w c:=by rw [h.out];exact (Below.refl _ _).drew
def Imp (a b:Prop):Prop:=a -> b
theorem Imp.via {a b c:Prop} (f:b -> c) (h:Imp a b):Imp a c:=fun x=>f (h x)
theorem Imp.rfl' {a:Prop}:Imp a a:=id
theorem Pp {a b:Prop} (h:a) (s:Imp a b:=by
 (repeat ((first | (apply Imp.via (Yw (tc _) rfl rfl (fun _ _ _ h=>h))) | (apply Imp.via (Xw (v:=?_) (tc _) rfl rfl (fun _ _ _ h=>h) ?hr);case hr=>(intro w' hR;(first | have yi:=zP ((tc _).trans _ _ _ da hR) | skip);go_simp;try with_reducible rfl)));simp only [Act.put,zLa,zLb,zLc]))
 exact Imp.rfl'):b:=s h
theorem Kb {a b:Prop} (h:a) (s:Imp a b:=by
 (repeat ((first | (apply Imp.via (Yw (pa) rfl rfl (fun _ _ _ h=>h))) | (apply Imp.via (Xw (v:=?_) (pa) rfl rfl (fun _ _ _ h=>h) ?hr);case hr=>(intro w' hR;(first | have yi:=rz ((pa).trans _ _ _ da hR) | skip);go_simp;try with_reducible rfl)));simp only [Act.put,zLa,zLb,zLc]))
 exact Imp.rfl'):b:=s h
def Yb (bars:List Nat) (ta:Array Bool):Bool:=bars.any fun b=>ta.getD b true
theorem ou {bars:List Nat} {ta:Array Bool} {j:Nat} (h:j ∉ bars):Yb bars (ta.setIfInBounds j true)=Yb bars ta:=by
 unfold Yb
 induction bars with
 | nil=>rfl
 | cons b r ih =>
  simp only [List.mem_cons,not_or] at h;simp only [List.any_cons];rw [getD_set_ne true h.1,ih h.2]
section
variable {P:Program} {ops:Array Oper} {Q:Exit -> Act -> World -> Prop} {bars:List Nat} {S:World -> Prop}
def Cs (P:Program) (ops:Array Oper) (Q:Exit -> Act -> World -> Prop) (bars:List Nat) (S:World -> Prop):Nat -> Array Bool -> Act -> World -> Prop
 | 0,ta,a,w=>Region.ready .any ops ta=[] /\ Q .normal a w
 | fuel+1,ta,a,w =>
  (Region.ready .any ops ta=[] -> Q .normal a w) /\
  ∀ i∈Region.ready .any ops ta,wpOp P ops Q i (fun a' w'=>(Yb bars (ta.setIfInBounds i true)=false -> S w') /\ Cs P ops Q bars S fuel (ta.setIfInBounds i true) a' w') a w
theorem SF:∀ (fuel:Nat) (ta:Array Bool) (a:Act) (w:World),Cs P ops Q bars S fuel ta a w -> wpAny P .any ops Q fuel ta a w
 | 0,_,_,_,h=>h
 | fuel+1,_,_,_,h=>⟨h.1,fun i hi=>wpOp_mono (fun a' w' h'=>SF fuel _ a' w' h'.2) (h.2 i hi)⟩
theorem RF {S':World -> Prop} (hS:∀ w,S' w -> S w):∀ (fuel:Nat) (ta:Array Bool) (a:Act) (w:World),Cs P ops Q bars S' fuel ta a w -> Cs P ops Q bars S fuel ta a w
 | 0,_,_,_,h=>h
 | fuel+1,_,_,_,h=>⟨h.1,fun i hi=>wpOp_mono (fun a' w' h'=>⟨fun hp=>hS _ (h'.1 hp),RF hS fuel _ a' w' h'.2⟩) (h.2 i hi)⟩
theorem Cz {ta:Array Bool} {i:Nat} (h:Yb bars ta=true):Yb bars (ta.setIfInBounds i true)=true:=by
 unfold Yb at *;rw [List.any_eq_true] at *;obtain ⟨b,hb,h1⟩:=h;refine ⟨b,hb,?_⟩;by_cases e:i=b
 ·subst e
  rcases Nat.lt_or_ge i ta.size with h2 | h2
  ·simp [h2]
  ·simp [Nat.not_lt.2 h2]
 ·rw [getD_set_ne true e];exact h1
theorem QF {S':World -> Prop}:∀ (fuel:Nat) (ta:Array Bool) (a:Act) (w:World),Yb bars ta=true -> Cs P ops Q bars S' fuel ta a w -> Cs P ops Q bars S fuel ta a w
 | 0,_,_,_,_,h=>h
 | fuel+1,_,_,_,hp,h=>⟨h.1,fun i hi=>wpOp_mono (fun a' w' h'=>⟨fun qn=>(by rw [Cz hp] at qn;cases qn),QF fuel _ a' w' (Cz hp) h'.2⟩) (h.2 i hi)⟩
theorem Ww {T:World -> Prop} {i:Nat} {oi:Oper} {v:Value} (hi:ops[i]?=some oi) (Kd:∀ (j:Nat) (o:Oper) cs b,ops[j]?=some o -> o.op≠.select cs b)
  (hQ:∀ c a w,Q (.panic c) (a.put oi.dst v) w -> Q (.panic c) a w) (ZV:i ∉ bars)
  (hT:(∀ w,T w) \/ ((∀ w,S w -> T w) /\ ∀ b∈bars,∀ ob,ops[b]?=some ob -> ∃ e∈ob.after,Region.binds .any e=true /\ e.on=i)) :
  ∀ (fuel:Nat) (ta:Array Bool) (a:Act) (w:World),((∀ w,T w) \/ Yb bars ta=false) ->
   (∀ j oj,ops[j]?=some oj -> j≠i -> ta.getD j true=false -> (∀ e∈oj.after,Region.binds .any e=true -> e.on≠i) -> oi.apart ops oj=true) ->
   i∈Region.ready .any ops ta -> YieldsIf P ops T oi v a -> T w -> (Yb bars ta=false -> S w) ->
   Cs P ops Q bars S fuel (ta.setIfInBounds i true) (a.put oi.dst v) w -> Cs P ops Q bars S (fuel+1) ta a w:=by
 intro fuel
 induction fuel with
 | zero =>
  intro ta a w Wh _ hr hy hTw hS H;refine ⟨fun h=>(by rw [h] at hr;cases hr),fun j hj=>?_⟩
  by_cases He:j=i
  ·subst He;exact hy.wpOp hi hTw ⟨fun hp=>hS (by rwa [ou ZV] at hp),H⟩
  ·have:=ready_mono hj He
   rw [H.1] at this;cases this
 | succ fuel ih =>
  intro ta a w Wh Gt hr hy hTw hS H;refine ⟨fun h=>(by rw [h] at hr;cases hr),fun j hj=>?_⟩
  by_cases He:j=i
  ·subst He;exact hy.wpOp hi hTw ⟨fun hp=>hS (by rwa [ou ZV] at hp),H⟩
  ·have h1:=H.2 j (ready_mono hj He)
   obtain ⟨Nt,oj,Ie,Te⟩:=mem_ready.1 hj;have DY:∀ e∈oj.after,Region.binds .any e=true -> e.on≠i:=fun e he hb heq=>by
    have h1:=Te e he hb;have h0:=(mem_ready.1 hr).1;rw [heq] at h1;rcases Nat.lt_or_ge i ta.size with h' | h'
    ·simp [h'] at h0 h1;rw [h0] at h1;cases h1
    ·simp [Array.getElem?_eq_none h'] at h1
   have h2:=wpOp_putIf Ie (Gt j oj Ie He Nt DY) (fun cs b=>Kd i oi cs b hi) (fun cs b=>Kd j oj cs b Ie) hQ hy h1
   have Zy:∀ k ok,ops[k]?=some ok -> k≠i -> (ta.setIfInBounds j true).getD k true=false ->
     (∀ e∈ok.after,Region.binds .any e=true -> e.on≠i) -> oi.apart ops ok=true:=fun k ok hk Xq Yt pn=>by
    refine Gt k ok hk Xq ?_ pn;by_cases Mt:j=k
    ·subst Mt;exact Nt
    ·rw [getD_set_ne true Mt] at Yt;exact Yt
   have fp:Yb bars ((ta.setIfInBounds i true).setIfInBounds j true)=Yb bars (ta.setIfInBounds j true):=by
    rw [Array.setIfInBounds_comm _ _ (Ne.symm He),ou ZV]
   refine wpOp_mono (fun a' w' h3=>?_) h2
   have yt:Yb bars (ta.setIfInBounds j true)=false -> S w':=fun hp=>h3.2.1 (by rw [fp];exact hp)
   have LH:((∀ w,T w) \/ Yb bars (ta.setIfInBounds j true)=false) /\ T w':=by
    rcases hT with hT | ⟨hST,JD⟩
    ·exact ⟨.inl hT,hT w'⟩
    ·rcases Wh with Wh | Wh
     ·exact ⟨.inl Wh,Wh w'⟩
     ·have hjb:j ∉ bars:=fun hb=>by
       obtain ⟨e,he,Ct,hei⟩:=JD j hb oj Ie;exact DY e he Ct hei
      have qn:Yb bars (ta.setIfInBounds j true)=false:=by rw [ou hjb];exact Wh
      exact ⟨.inr qn,hST _ (yt qn)⟩
   refine ⟨yt,ih (ta.setIfInBounds j true) a' w' LH.1 Zy (ready_mono hr (Ne.symm He)) h3.1 LH.2 yt ?_⟩;rw [Array.setIfInBounds_comm _ _ He];exact h3.2.2
end
def wpB (P:Program) (ops:Array Oper) (Q:Exit -> Act -> World -> Prop) (bars:List Nat) (R:World -> World -> Prop) (fuel:Nat) (ta:Array Bool) (a:Act) (w:World):Prop :=
 Cs P ops Q bars (R w) fuel ta a w
def iy (l:List Oper) (b i:Nat):Bool:=match l[b]? with | some o=>o.after.any fun e=>Region.binds .any e&&e.on == i | none=>true
def On (l:List Oper) (hs bars:List Nat):List Nat -> Array Bool -> Bool
 | [],ta=>(Region.ready .any l.toArray ta).isEmpty
 | i :: rest,ta=>decide (i<l.length)&&(Region.ready .any l.toArray ta).contains i &&
   (if hs.contains i then Region.ready .any l.toArray ta == [i] else Region.free .any l.toArray ta i&&!bars.contains i&&(Yb bars ta||bars.all fun b=>iy l b i))&&On l hs bars rest (ta.setIfInBounds i true)
def jm (P:Program) (l:List Oper) (hs bars:List Nat) (Q:Exit -> Act -> World -> Prop) (R:World -> World -> Prop) (order:List Nat) (ta:Array Bool) (a:Act) (w:World):Prop :=
 Region.noSelect l.toArray=true -> On l hs bars order ta=true -> wpB P l.toArray Q bars R order.length ta a w
section
variable {P:Program} {l:List Oper} {hs bars:List Nat} {Q:Exit -> Act -> World -> Prop} {R:World -> World -> Prop} {rest:List Nat} {i:Nat} {o:Oper} {ta:Array Bool} {a:Act} {w:World}
theorem Zw {id:Nat} (R:World -> World -> Prop) (hs bars order:List Nat) (hm:P.follows .mixedOrders=true) (Ia:(Region.noSelect l.toArray&&order.length == l.length&&On l hs bars order (List.replicate l.length false).toArray)=true)
  (h:jm P l hs bars Q R order (List.replicate l.length false).toArray a w.drew):(Code.region id l.toArray true).wp P Q a w:=by
 simp only [Bool.and_eq_true,beq_iff_eq] at Ia;refine wp_region_any hm (SF (bars:=bars) (S:=R w.drew) _ _ _ _ ?_);have h2:=h Ia.1.1 Ia.2;have e:Array.replicate l.toArray.size false=(List.replicate l.length false).toArray:=by simp
 rw [Ia.1.2] at h2;rw [e]
 simpa [wpB] using h2
theorem bx (M:uc R) {order:List Nat} (h:∀ W,Hid (W=w) -> R w W -> jm P l hs bars Q R order ta a W):jm P l hs bars Q R order ta a w:=h w rfl (M.refl w)
theorem ax (h:Q .normal a w):jm P l hs bars Q R [] ta a w:=fun _ Ia=>⟨by simpa [On] using Ia,h⟩
theorem Nx (h:On l hs bars (i :: rest) ta=true):i<l.length /\ (Region.ready .any l.toArray ta).contains i=true /\
  (hs.contains i=true -> Region.ready .any l.toArray ta=[i]) /\
  (hs.contains i=false -> Region.free .any l.toArray ta i=true /\ i ∉ bars /\ (Yb bars ta=true \/ ∀ b∈bars,iy l b i=true)) /\ On l hs bars rest (ta.setIfInBounds i true)=true:=by
 unfold On at h;simp only [Bool.and_eq_true,decide_eq_true_eq] at h;obtain ⟨⟨⟨h1,h2⟩,h3⟩,h4⟩:=h;refine ⟨h1,h2,fun h6=>?_,fun h6=>?_,h4⟩
 ·rw [if_pos h6] at h3
  simpa using h3
 ·rw [if_neg (by rw [h6];exact Bool.noConfusion)] at h3
  simp only [Bool.and_eq_true,Bool.not_eq_true',Bool.or_eq_true,List.all_eq_true] at h3;refine ⟨h3.1.1,fun hm=>?_,h3.2⟩
  have:=h3.1.2;simp [hm] at this
theorem LF {b:Nat} {ob:Oper} (hb:l.toArray[b]?=some ob) (h:iy l b i=true):∃ e∈ob.after,Region.binds .any e=true /\ e.on=i:=by
 unfold iy at h;rw [List.getElem?_toArray] at hb;rw [hb] at h;simp only [Array.any_eq_true] at h;obtain ⟨k,hk,he⟩:=h;simp only [Bool.and_eq_true,beq_iff_eq] at he;exact ⟨ob.after[k],Array.getElem_mem hk,he.1,he.2⟩
theorem XF {v:Value} (M:uc R) (hh:hs.contains i=false) (ho:l[i]?=some o) (hw:Region.wanted o (yielded l.toArray a.tmps)=true) (hQ:∀ c a w,Q (.panic c) (a.put o.dst v) w -> Q (.panic c) a w)
  (Xb:∀ w',(Yb bars ta=false -> R w w') -> (execOp a.eval o).run P w'= .ok (.value v) w') (h:jm P l hs bars Q R rest (ta.setIfInBounds i true) (a.put o.dst v) w):jm P l hs bars Q R (i :: rest) ta a w:=by
 intro hn Ia;obtain ⟨h1,h2,-,h4,h5⟩:=Nx Ia;obtain ⟨f1,f2,f3⟩:=h4 hh;have Cf:l.toArray[i]?=some o:=by rw [List.getElem?_toArray];exact ho
 cases hp:Yb bars ta
 ·refine Ww (T:=R w) Cf (Region.noSelect_spec hn) hQ f2 (.inr ⟨fun _ h=>h,fun b hb ob hob=>LF hob ?_⟩) _ _ _ _ (.inr hp) (Region.free_spec Cf f1) (by simpa using h2) (.inl ⟨hw,fun w' hR=>Xb w' fun _=>hR⟩) (M.refl w) (fun _=>M.refl w) (h hn h5)
  rcases f3 with f3 | f3
  ·rw [hp] at f3;cases f3
  ·exact f3 b hb
 ·exact Ww (T:=fun _=>True) Cf (Region.noSelect_spec hn) hQ f2 (.inl fun _=>trivial) _ _ _ _ (.inl fun _=>trivial) (Region.free_spec Cf f1) (by simpa using h2) (.inl ⟨hw,fun w' _=>Xb w' fun h=>by rw [hp] at h;cases h⟩) trivial (fun _=>M.refl w) (h hn h5)
theorem YF (M:uc R) (hh:hs.contains i=false) (ho:l[i]?=some o) (hw:Region.wanted o (yielded l.toArray a.tmps)=false) (hQ:∀ c a w,Q (.panic c) (a.put o.dst undef) w -> Q (.panic c) a w)
  (h:jm P l hs bars Q R rest (ta.setIfInBounds i true) (a.put o.dst undef) w):jm P l hs bars Q R (i :: rest) ta a w:=by
 intro hn Ia;obtain ⟨h1,h2,-,h4,h5⟩:=Nx Ia;obtain ⟨f1,f2,f3⟩:=h4 hh;have Cf:l.toArray[i]?=some o:=by rw [List.getElem?_toArray];exact ho
 exact Ww (T:=fun _=>True) Cf (Region.noSelect_spec hn) hQ f2 (.inl fun _=>trivial) _ _ _ _ (.inl fun _=>trivial) (Region.free_spec Cf f1) (by simpa using h2) (.inr ⟨hw,rfl⟩) trivial (fun _=>M.refl w) (h hn h5)
theorem bG {a b:Prop} (h:a) (s:Imp a b:=by
 (repeat ((first | (apply Imp.via (YF (pa) rfl rfl rfl (fun _ _ _ h=>h))) | (apply Imp.via (XF (v:=?_) (pa) rfl rfl rfl (fun _ _ _ h=>h) ?hr);case hr=>(intro w' hR;(first | have yi:=rz ((pa).trans _ _ _ da (hR rfl)) | skip);clear hR;go_simp;try with_reducible rfl)));simp only [Act.put,zLa,zLb,zLc]))
 exact Imp.rfl'):b:=s h
theorem og (M:uc R) (hh:hs.contains i=true) (ho:l[i]?=some o) (hw:Region.wanted o (yielded l.toArray a.tmps)=true)
  (h:o.wp P a w (fun a' w'=>(Yb bars (ta.setIfInBounds i true)=false -> R w w') /\ jm P l hs bars Q R rest (ta.setIfInBounds i true) a' w') Q):jm P l hs bars Q R (i :: rest) ta a w:=by
 intro hn Ia;obtain ⟨h1,h2,h3,-,h5⟩:=Nx Ia;have hr:=h3 hh;refine ⟨fun h0=>absurd (hr ▸ h0) (by simp),fun j hj=>?_⟩
 rw [hr,List.mem_singleton] at hj;subst hj;unfold wpOp;have hi:l.toArray[j]?=some o:=by rw [List.getElem?_toArray];exact ho
 simp only [hi,hw,if_true];refine .inl (Oper.wp_mono (fun a' w' h'=>⟨h'.1,?_⟩) h)
 have hk:=h'.2 hn h5;cases hp:Yb bars (ta.setIfInBounds j true)
 ·exact RF (fun w2 h2=>M.trans _ _ _ (h'.1 hp) h2) _ _ _ _ hk
 ·exact QF _ _ _ _ hp hk
theorem Oz {f:FuncId} {vals:Array Value} (M:uc R) (hh:hs.contains i=true) (ho:l[i]?=some o) (hw:Region.wanted o (yielded l.toArray a.tmps)=true)
  (Xb:∀ w,(execOp a.eval o).run P w= .ok (.enter f vals) w)
  (h:Calls P f vals w fun e w'=>∃ v,e= .returned v /\ (Yb bars (ta.setIfInBounds i true)=false -> R w w') /\ jm P l hs bars Q R rest (ta.setIfInBounds i true) (a.put o.dst v) w'):jm P l hs bars Q R (i :: rest) ta a w:=by
 refine og M hh ho hw ?_;unfold Oper.wp;rw [Xb w];refine Calls.mono h ?_;rintro e w' ⟨v,rfl,h1,h2⟩;exact ⟨h1,h2⟩
end
def mi (g N:Nat) (w w':World):Prop:=w'.os=w.os /\ w'.tape=w.tape /\ w'.output=w.output /\ w.heap.size <= w'.heap.size /\ ∀ b,b<N -> b≠g -> w'.heap[b]?=w.heap[b]?
theorem sb (g N:Nat):uc (mi g N):=⟨fun _=>⟨rfl,rfl,rfl,zR,fun _ _ _=>rfl⟩,fun _ _ _ h k=>⟨k.1.trans h.1,k.2.1.trans h.2.1,k.2.2.1.trans h.2.2.1,Nat.le_trans h.2.2.2.1 k.2.2.2.1,fun b h1 h2=>(k.2.2.2.2 b h1 h2).trans (h.2.2.2.2 b h1 h2)⟩⟩
theorem EH {g N:Nat} {w w':World} (h:mi g N w.drew w'):∀ b o,b<N -> b≠g -> w'.cell? ⟨b,o,none⟩=w.cell? ⟨b,o,none⟩:=fun b o hb Ka=>by
 have:=h.2.2.2.2 b hb Ka;simp only [World.cell?,this]
 rfl
theorem Zn {a b:Prop} (h:a) (s:Imp a b:=by
 (repeat ((first | (apply Imp.via (Yw (sb _ _) rfl rfl (fun _ _ _ h=>h))) | (apply Imp.via (Xw (v:=?_) (sb _ _) rfl rfl (fun _ _ _ h=>h) ?hr);case hr=>(intro w' hR;(first | have yi:=EH ((sb _ _).trans _ _ _ da hR) | skip);go_simp;try with_reducible rfl)));simp only [Act.put,zLa,zLb,zLc]))
 exact Imp.rfl'):b:=s h
theorem Tg {a b:Prop} (h:a) (s:Imp a b:=by
 (repeat ((first | (apply Imp.via (YF (sb _ _) rfl rfl rfl (fun _ _ _ h=>h))) | (apply Imp.via (XF (v:=?_) (sb _ _) rfl rfl rfl (fun _ _ _ h=>h) ?hr);case hr=>(intro w' hR;(first | have yi:=EH ((sb _ _).trans _ _ _ da (hR rfl)) | skip);clear hR;go_simp;try with_reducible rfl)));simp only [Act.put,zLa,zLb,zLc]))
 exact Imp.rfl'):b:=s h
theorem yf {g N B:Nat} {w w':World} (h:Below B w w') (hN:N <= B):mi g N w w':=⟨h.os,h.tape,h.output,h.size,fun b hb _=>h.block b (by omega)⟩
theorem zx {g N:Nat} {w w':World} (h:w.grownBy w' (some g)) (hN:N <= w.heap.size):mi g N w w':=⟨h.os,h.tape,h.output,h.size,fun b hb Ka=>h.block b (by omega) (fun e=>Ka (Option.some.inj e))⟩
theorem Gq {g N:Nat} {w w':World} {row:Option Nat} (h:w.grownBy w' row) (hN:N <= w.heap.size) (hr:∀ k,row=some k -> N <= k):mi g N w w':=⟨h.os,h.tape,h.output,h.size,fun b hb _=>h.block b (by omega) (fun e=>by have:=hr b e.symm;omega)⟩
theorem Om {B:Nat} {w0 w1 w2:World} (h1:Below B w0 w1) (h2:Below w1.heap.size w1 w2) (hB:B <= w1.heap.size:=by omega):Below B w0 w2:=h1.trans (h2.mono hB)
theorem oJ {g:Nat} {w w':World} (h:Below w.heap.size w w'):tg g w w':=Uh (Lc w _) h zR
theorem PG {w w':World} {p:Addr} {v:Value} (h:Below w.drew.heap.size w.drew w') (hc:w.cell? p=some v):w'.cell? p=some v:=(Below.cell h (World.block_lt_of_cell? _ _ hc)).trans hc
theorem ah (w:World) (t1 t2:TypeId) (Bc ed:Array Value) :
  Blk ((w.alloc (.cells Bc t1)).alloc (.cells ed t2)) w.heap.size t1 Bc /\ Blk ((w.alloc (.cells Bc t1)).alloc (.cells ed t2)) (w.heap.size+1) t2 ed /\ Below w.heap.size w ((w.alloc (.cells Bc t1)).alloc (.cells ed t2)) /\ ((w.alloc (.cells Bc t1)).alloc (.cells ed t2)).heap.size=w.heap.size+2:=by
 refine ⟨(Blk.new w t1 Bc).alloc _,?_,((Below.refl _ w).alloc zR _).alloc (by simp) _,by simp⟩
 have:=Blk.new (w.alloc (.cells Bc t1)) t2 ed
 simpa using this
theorem Bl (w:World) (t1 t2 t3:TypeId) (Bc ed Mf:Array Value) :
  Blk (((w.alloc (.cells Bc t1)).alloc (.cells ed t2)).alloc (.cells Mf t3)) w.heap.size t1 Bc /\ Blk (((w.alloc (.cells Bc t1)).alloc (.cells ed t2)).alloc (.cells Mf t3)) (w.heap.size+1) t2 ed /\ Blk (((w.alloc (.cells Bc t1)).alloc (.cells ed t2)).alloc (.cells Mf t3)) (w.heap.size+1+1) t3 Mf /\
   Below w.heap.size w (((w.alloc (.cells Bc t1)).alloc (.cells ed t2)).alloc (.cells Mf t3)) /\ (((w.alloc (.cells Bc t1)).alloc (.cells ed t2)).alloc (.cells Mf t3)).heap.size=w.heap.size+3:=by
 obtain ⟨h1,h2,h3,h4⟩:=ah w t1 t2 Bc ed;refine ⟨h1.alloc _,h2.alloc _,?_,h3.alloc h3.size _,by simp⟩
 have:=Blk.new ((w.alloc (.cells Bc t1)).alloc (.cells ed t2)) t3 Mf
 rwa [h4] at this
theorem Ji {w:World} {g:Nat} {t:TypeId} {y0 y1 y2:Value} (k:Blk w g t #[y0,y1,y2]) (x0 x1 x2:Value):Blk (((w.setCell ⟨g,0,none⟩ x0).setCell ⟨g,1,none⟩ x1).setCell ⟨g,2,none⟩ x2) g t #[x0,x1,x2]:=by
 have h:=(((k.set_ 0 x0).set_ 1 x1).set_ 2 x2)
 simpa using h
theorem Ki {w:World} {g:Nat} (x0 x1 x2:Value):w.grownBy (((w.setCell ⟨g,0,none⟩ x0).setCell ⟨g,1,none⟩ x1).setCell ⟨g,2,none⟩ x2) (some g):=by
 iterate 3 refine Yd ?_ (.inl rfl) _
 exact Lc w _
theorem Nh {g B:Nat} {a w:World} (h:a.grownBy w (some g)) (hB:B <= a.heap.size) (hg:B <= g):Below B a w:=Fo h B hB fun _ e=>by have:=Option.some.inj e;omega
theorem yc {g:Nat} {a b c:World} (h:Below a.heap.size a b) (k:b.grownBy c (some g)) (e:a.heap.size <= g:=by omega):Below a.heap.size a c:=h.trans (Nh k h.size e)
section
variable {P:Program} {ops:Array Oper} {Q:Exit -> Act -> World -> Prop} {R:World -> World -> Prop}
def PureRun (P:Program) (R:World -> World -> Prop) (W:World) (ρ:Operand -> Value) (o:Oper) (v:Value):Prop :=
 (∀ w,R W w -> (execOp ρ o).run P w= .ok (.value v) w) \/ ∃ f vals,(∀ w,(execOp ρ o).run P w= .ok (.enter f vals) w) /\ ∀ w,R W w -> Calls P f vals w fun e w'=>e= .returned v /\ R w w'
def PureAt (P:Program) (ops:Array Oper) (R:World -> World -> Prop) (W:World) (o:Oper) (v:Value) (a:Act):Prop :=
 (Region.wanted o (yielded ops a.tmps)=true /\ PureRun P R W a.eval o v) \/ (Region.wanted o (yielded ops a.tmps)=false /\ v=undef)
theorem PureRun.later (M:uc R) {W W':World} {ρ:Operand -> Value} {o:Oper} {v:Value} (h:PureRun P R W ρ o v) (hR:R W W'):PureRun P R W' ρ o v:=by
 rcases h with h | ⟨f,vals,h1,h2⟩
 ·exact .inl fun w hw=>h w (M.trans _ _ _ hR hw)
 ·exact .inr ⟨f,vals,h1,fun w hw=>h2 w (M.trans _ _ _ hR hw)⟩
theorem PureAt.later (M:uc R) {W W':World} {o:Oper} {v:Value} {a:Act} (h:PureAt P ops R W o v a) (hR:R W W'):PureAt P ops R W' o v a :=
 h.imp (fun h=>⟨h.1,h.2.later M hR⟩) id
theorem PureAt.same {W:World} {o:Oper} {v:Value} {a a':Act} (h:PureAt P ops R W o v a) (he:execOp a'.eval o=execOp a.eval o) (hw:Region.wanted o (yielded ops a'.tmps)=Region.wanted o (yielded ops a.tmps)):PureAt P ops R W o v a':=by
 unfold PureAt PureRun at *;rw [he,hw];exact h
theorem PureAt.op {W w:World} {i:Nat} {o:Oper} {v:Value} {a:Act} {K:Act -> World -> Prop} (M:uc R) (hi:ops[i]?=some o) (h:PureAt P ops R W o v a) (hR:R W w) (hK:∀ w',R w w' -> K (a.put o.dst v) w'):wpOp P ops Q i K a w:=by
 unfold wpOp;simp only [hi];rcases h with ⟨hw,h | ⟨f,vals,h1,h2⟩⟩ | ⟨hw,rfl⟩
 ·simp only [hw,if_true,Oper.wp,h w hR,Oper.upon]
  exact .inl (hK w (M.refl w))
 ·simp only [hw,if_true,Oper.wp,h1 w,Oper.upon]
  refine .inl (Calls.mono (h2 w hR) ?_);rintro e w' ⟨rfl,h3⟩;exact hK w' h3
 ·simp only [hw,Bool.false_eq_true,if_false]
  exact hK w (M.refl w)
theorem BT {Pi:Act -> Prop} {j:Nat} {oi oj:Oper} {v:Value} (hj:ops[j]?=some oj) (Oq:oi.apart ops oj=true)
  (dX:∀ cs b,oi.op≠.select cs b) (hsj:∀ cs b,oj.op≠.select cs b)
  (hPi:∀ a a',Pi a -> execOp a'.eval oi=execOp a.eval oi -> Region.wanted oi (yielded ops a'.tmps)=Region.wanted oi (yielded ops a.tmps) -> Pi a')
  (hQ:∀ c a w,Q (.panic c) (a.put oi.dst v) w -> Q (.panic c) a w) {K:Act -> World -> Prop} {a:Act} {w:World}
  (hy:Pi a) (h:wpOp P ops Q j K (a.put oi.dst v) w):wpOp P ops Q j (fun a' w'=>Pi a' /\ K (a'.put oi.dst v) w') a w:=by
 obtain ⟨h1,h2,h3⟩:=Oper.apart_spec Oq;have keep:∀ u,Pi (a.put oj.dst u):=fun u=>hPi a _ hy (execOp_put oi dX a oj.dst u h3) (wanted_put oi a oj.dst u h3)
 unfold wpOp at *;simp only [hj] at *;rw [wanted_put oj a oi.dst v h1] at h;split
 ·rename_i hw
  simp only [hw,if_true] at h;rcases h with h | ⟨KH,hlets⟩
  case inr=>exact .inr ⟨by unfold Oper.asks at *;rw [execOp_put oj hsj a oi.dst v h1] at KH;exact KH,hlets⟩
  refine .inl ?_;unfold Oper.wp at *;rw [execOp_put oj hsj a oi.dst v h1] at h;generalize (execOp a.eval oj).run P w=r at *;rcases r with ⟨n,w'⟩ | ⟨x,w'⟩
  ·cases n <;> simp only [Oper.upon] at h |-
   case value u=>exact ⟨keep u,by rw [<- Act.put_comm a v u h2];exact h⟩
   case skip=>exact ⟨keep _,by rw [<- Act.put_comm a v undef h2];exact h⟩
   case defer d =>
    refine ⟨hPi _ _ (hPi a { a with defers:=d :: a.defers } hy rfl rfl) (execOp_put oi dX _ oj.dst _ h3) (wanted_put oi _ oj.dst _ h3),?_⟩
    rw [<- Act.put_comm _ v undef h2,<- Act.put_defers];exact h
   case enter f args =>
    refine Calls.mono h fun e Ej he=>?_
    rcases e with u | c | _
    ·exact ⟨keep u,by rw [<- Act.put_comm a v u h2];exact he⟩
    ·exact hQ _ _ _ he
    ·exact he
   case row row args=>exact Rows.mono h fun u Ej he=>⟨keep u,by rw [<- Act.put_comm a v u h2];exact he⟩
  ·cases x <;> simp only [Oper.upon] at h |-
   case panic u=>exact hQ _ _ _ h
 ·rename_i hw
  simp only [hw] at h;exact ⟨keep _,by rw [<- Act.put_comm a v undef h2];exact h⟩
def May (bars:List Nat) (R:World -> World -> Prop) (ta:Array Bool) (w w1:World):Prop:=if Yb bars ta=true then w1=w else R w w1
theorem May.refl (M:uc R) (bars:List Nat) (ta:Array Bool) (w:World):May bars R ta w w:=by
 unfold May;split
 ·rfl
 ·exact M.refl w
theorem May.of {bars:List Nat} {ta:Array Bool} {w w1:World} (hp:Yb bars ta=false) (h:R w w1):May bars R ta w w1:=by
 unfold May;rw [if_neg (by rw [hp];exact Bool.noConfusion)]
 exact h
theorem May.out {bars:List Nat} {ta:Array Bool} {w w1:World} (hp:Yb bars ta=false) (h:May bars R ta w w1):R w w1:=by
 unfold May at h
 rwa [if_neg (by rw [hp];exact Bool.noConfusion)] at h
theorem May.eq {bars:List Nat} {ta:Array Bool} {w w1:World} (hp:Yb bars ta=true) (h:May bars R ta w w1):w1=w:=by
 unfold May at h
 rwa [if_pos hp] at h
def Ds (P:Program) (ops:Array Oper) (Q:Exit -> Act -> World -> Prop) (bars:List Nat) (R:World -> World -> Prop):Nat -> Array Bool -> Act -> World -> Prop
 | 0,ta,a,w=>Region.ready .any ops ta=[] /\ ∀ w1,May bars R ta w w1 -> Q .normal a w1
 | fuel+1,ta,a,w=>∀ w1,May bars R ta w w1 -> (Region.ready .any ops ta=[] -> Q .normal a w1) /\
   ∀ i∈Region.ready .any ops ta,wpOp P ops Q i (fun a' w'=>(Yb bars (ta.setIfInBounds i true)=false -> R w1 w') /\ Ds P ops Q bars R fuel (ta.setIfInBounds i true) a' w') a w1
theorem RK (M:uc R) {bars:List Nat}:∀ (fuel:Nat) (ta:Array Bool) (a:Act) (w w2:World),Yb bars ta=false -> R w w2 -> Ds P ops Q bars R fuel ta a w -> Ds P ops Q bars R fuel ta a w2
 | 0,_,_,_,_,hp,hR,h=>⟨h.1,fun w1 h1=>h.2 w1 (.of hp (M.trans _ _ _ hR (h1.out hp)))⟩
 | _+1,_,_,_,_,hp,hR,h=>fun w1 h1=>h w1 (.of hp (M.trans _ _ _ hR (h1.out hp)))
theorem NK (M:uc R) {bars:List Nat}:∀ (fuel:Nat) (ta:Array Bool) (a:Act) (w:World),Ds P ops Q bars R fuel ta a w -> wpAny P .any ops Q fuel ta a w
 | 0,_,_,w,h=>⟨h.1,h.2 w (.refl M _ _ w)⟩
 | fuel+1,_,_,w,h=>⟨(h w (.refl M _ _ w)).1,fun i hi=>wpOp_mono (fun a' w' h'=>NK M fuel _ a' w' h'.2) ((h w (.refl M _ _ w)).2 i hi)⟩
theorem tT (M:uc R) {bars:List Nat} {i:Nat} {oi:Oper} {v:Value} (hi:ops[i]?=some oi) (Kd:∀ (j:Nat) (o:Oper) cs b,ops[j]?=some o -> o.op≠.select cs b)
  (hQ:∀ c a w,Q (.panic c) (a.put oi.dst v) w -> Q (.panic c) a w) (ZV:i ∉ bars) (JD:∀ b∈bars,∀ ob,ops[b]?=some ob -> ∃ e∈ob.after,Region.binds .any e=true /\ e.on=i) :
  ∀ (fuel:Nat) (ta:Array Bool) (a:Act) (w:World),Yb bars ta=false ->
   (∀ j oj,ops[j]?=some oj -> j≠i -> ta.getD j true=false -> (∀ e∈oj.after,Region.binds .any e=true -> e.on≠i) -> oi.apart ops oj=true) ->
   i∈Region.ready .any ops ta -> PureAt P ops R w oi v a -> Ds P ops Q bars R fuel (ta.setIfInBounds i true) (a.put oi.dst v) w -> Ds P ops Q bars R (fuel+1) ta a w:=by
 intro fuel
 induction fuel with
 | zero =>
  intro ta a w hp _ hr hy H w1 yn;have qn:Yb bars (ta.setIfInBounds i true)=false:=by rw [ou ZV];exact hp
  have Kv:=yn.out hp;refine ⟨fun h=>(by rw [h] at hr;cases hr),fun j hj=>?_⟩
  by_cases He:j=i
  ·subst He
   exact hy.op M hi Kv fun w' h'=>⟨fun _=>h',RK M _ _ _ _ _ qn (M.trans _ _ _ Kv h') H⟩
  ·have:=ready_mono hj He
   rw [H.1] at this;cases this
 | succ fuel ih =>
  intro ta a w hp Gt hr hy H w1 yn;have qn:Yb bars (ta.setIfInBounds i true)=false:=by rw [ou ZV];exact hp
  have Kv:=yn.out hp;refine ⟨fun h=>(by rw [h] at hr;cases hr),fun j hj=>?_⟩
  by_cases He:j=i
  ·subst He
   exact hy.op M hi Kv fun w' h'=>⟨fun _=>h',RK M _ _ _ _ _ qn (M.trans _ _ _ Kv h') H⟩
  ·have h1:=(H w1 (.of qn Kv)).2 j (ready_mono hj He)
   obtain ⟨Nt,oj,Ie,Te⟩:=mem_ready.1 hj;have DY:∀ e∈oj.after,Region.binds .any e=true -> e.on≠i:=fun e he hb heq=>by
    have h1:=Te e he hb;have h0:=(mem_ready.1 hr).1;rw [heq] at h1;rcases Nat.lt_or_ge i ta.size with h' | h'
    ·simp [h'] at h0 h1;rw [h0] at h1;cases h1
    ·simp [Array.getElem?_eq_none h'] at h1
   have hjb:j ∉ bars:=fun hb=>by
    obtain ⟨e,he,Ct,hei⟩:=JD j hb oj Ie;exact DY e he Ct hei
   have hpj:Yb bars (ta.setIfInBounds j true)=false:=by rw [ou hjb];exact hp
   have hpij:Yb bars ((ta.setIfInBounds i true).setIfInBounds j true)=false:=by rw [ou hjb];exact qn
   have h2:=BT (Pi:=PureAt P ops R w1 oi v) Ie (Gt j oj Ie He Nt DY) (fun cs b=>Kd i oi cs b hi) (fun cs b=>Kd j oj cs b Ie) (fun _ _ h he hw=>h.same he hw) hQ (hy.later M Kv) h1
   have Zy:∀ k ok,ops[k]?=some ok -> k≠i -> (ta.setIfInBounds j true).getD k true=false ->
     (∀ e∈ok.after,Region.binds .any e=true -> e.on≠i) -> oi.apart ops ok=true:=fun k ok hk Xq Yt pn=>by
    refine Gt k ok hk Xq ?_ pn;by_cases Mt:j=k
    ·subst Mt;exact Nt
    ·rw [getD_set_ne true Mt] at Yt;exact Yt
   refine wpOp_mono (fun a' w' h3=>?_) h2
   have Oo:=h3.2.1 hpij;refine ⟨fun _=>Oo,ih (ta.setIfInBounds j true) a' w' hpj Zy (ready_mono hr (Ne.symm He)) (h3.1.later M Oo) ?_⟩
   rw [Array.setIfInBounds_comm _ _ He];exact h3.2.2
theorem uT {bars:List Nat} {i:Nat} {oi:Oper} {v:Value} (hi:ops[i]?=some oi) (Kd:∀ (j:Nat) (o:Oper) cs b,ops[j]?=some o -> o.op≠.select cs b)
  (hQ:∀ c a w,Q (.panic c) (a.put oi.dst v) w -> Q (.panic c) a w) :
  ∀ (fuel:Nat) (ta:Array Bool) (a:Act) (w:World),Yb bars ta=true ->
   (∀ j oj,ops[j]?=some oj -> j≠i -> ta.getD j true=false -> (∀ e∈oj.after,Region.binds .any e=true -> e.on≠i) -> oi.apart ops oj=true) ->
   i∈Region.ready .any ops ta -> YieldsIf P ops (fun _=>True) oi v a -> Ds P ops Q bars R fuel (ta.setIfInBounds i true) (a.put oi.dst v) w -> Ds P ops Q bars R (fuel+1) ta a w:=by
 intro fuel;have pn:∀ {ta:Array Bool} {j:Nat} {w w':World},Yb bars ta=true -> Yb bars (ta.setIfInBounds j true)=false -> R w w':=fun h h'=>by
  rw [Cz h] at h';cases h'
 induction fuel with
 | zero =>
  intro ta a w hp _ hr hy H w1 yn;obtain rfl:=yn.eq hp;refine ⟨fun h=>(by rw [h] at hr;cases hr),fun j hj=>?_⟩
  by_cases He:j=i
  ·subst He
   exact hy.wpOp hi trivial ⟨pn hp,H⟩
  ·have:=ready_mono hj He
   rw [H.1] at this;cases this
 | succ fuel ih =>
  intro ta a w hp Gt hr hy H w1 yn;obtain rfl:=yn.eq hp;refine ⟨fun h=>(by rw [h] at hr;cases hr),fun j hj=>?_⟩
  by_cases He:j=i
  ·subst He
   exact hy.wpOp hi trivial ⟨pn hp,H⟩
  ·have h1:=(H w1 (by unfold May;rw [if_pos (Cz hp)])).2 j (ready_mono hj He)
   obtain ⟨Nt,oj,Ie,Te⟩:=mem_ready.1 hj;have DY:∀ e∈oj.after,Region.binds .any e=true -> e.on≠i:=fun e he hb heq=>by
    have h1:=Te e he hb;have h0:=(mem_ready.1 hr).1;rw [heq] at h1;rcases Nat.lt_or_ge i ta.size with h' | h'
    ·simp [h'] at h0 h1;rw [h0] at h1;cases h1
    ·simp [Array.getElem?_eq_none h'] at h1
   have h2:=wpOp_putIf Ie (Gt j oj Ie He Nt DY) (fun cs b=>Kd i oi cs b hi) (fun cs b=>Kd j oj cs b Ie) hQ hy h1
   have Zy:∀ k ok,ops[k]?=some ok -> k≠i -> (ta.setIfInBounds j true).getD k true=false ->
     (∀ e∈ok.after,Region.binds .any e=true -> e.on≠i) -> oi.apart ops ok=true:=fun k ok hk Xq Yt pn=>by
    refine Gt k ok hk Xq ?_ pn;by_cases Mt:j=k
    ·subst Mt;exact Nt
    ·rw [getD_set_ne true Mt] at Yt;exact Yt
   refine wpOp_mono (fun a' w' h3=>⟨pn hp,ih (ta.setIfInBounds j true) a' w' (Cz hp) Zy (ready_mono hr (Ne.symm He)) h3.1 ?_⟩) h2
   rw [Array.setIfInBounds_comm _ _ He];exact h3.2.2
end
def ki (P:Program) (l:List Oper) (hs bars:List Nat) (Q:Exit -> Act -> World -> Prop) (R:World -> World -> Prop) (order:List Nat) (ta:Array Bool) (a:Act) (w:World):Prop :=
 Region.noSelect l.toArray=true -> On l hs bars order ta=true -> Ds P l.toArray Q bars R order.length ta a w
section
variable {P:Program} {l:List Oper} {hs bars:List Nat} {Q:Exit -> Act -> World -> Prop} {R:World -> World -> Prop} {rest:List Nat} {i:Nat} {o:Oper} {ta:Array Bool} {a:Act} {w:World}
theorem xd {id:Nat} (R:World -> World -> Prop) (M:uc R) (hs bars order:List Nat) (hm:P.follows .mixedOrders=true) (Ia:(Region.noSelect l.toArray&&order.length == l.length&&On l hs bars order (List.replicate l.length false).toArray)=true)
  (h:ki P l hs bars Q R order (List.replicate l.length false).toArray a w.drew):(Code.region id l.toArray true).wp P Q a w:=by
 simp only [Bool.and_eq_true,beq_iff_eq] at Ia;refine wp_region_any hm (NK (R:=R) (bars:=bars) M _ _ _ _ ?_);have h2:=h Ia.1.1 Ia.2;have e:Array.replicate l.toArray.size false=(List.replicate l.length false).toArray:=by simp
 rw [Ia.1.2] at h2;rw [e]
 simpa using h2
theorem yd (M:uc R) {order:List Nat} (h:∀ W,R w W -> ki P l hs bars Q R order ta a W):ki P l hs bars Q R order ta a w:=h w (M.refl w)
theorem im (hp:Yb bars ta=false) (h:∀ w1,R w w1 -> Q .normal a w1):ki P l hs bars Q R [] ta a w:=fun _ Ia=>⟨by simpa [On] using Ia,fun w1 h1=>h w1 (h1.out hp)⟩
theorem Uf (hp:Yb bars ta=true) (h:Q .normal a w):ki P l hs bars Q R [] ta a w:=fun _ Ia=>⟨by simpa [On] using Ia,fun w1 h1=>by rw [h1.eq hp];exact h⟩
theorem TF {v:Value} (M:uc R) (hh:hs.contains i=false) (hp:Yb bars ta=false) (ho:l[i]?=some o) (hQ:∀ c a w,Q (.panic c) (a.put o.dst v) w -> Q (.panic c) a w)
  (hpu:PureAt P l.toArray R w o v a) (h:ki P l hs bars Q R rest (ta.setIfInBounds i true) (a.put o.dst v) w):ki P l hs bars Q R (i :: rest) ta a w:=by
 intro hn Ia;obtain ⟨h1,h2,-,h4,h5⟩:=Nx Ia;obtain ⟨f1,f2,f3⟩:=h4 hh;have Cf:l.toArray[i]?=some o:=by rw [List.getElem?_toArray];exact ho
 refine tT M Cf (Region.noSelect_spec hn) hQ f2 (fun b hb ob hob=>LF hob ?_) _ _ _ _ hp (Region.free_spec Cf f1) (by simpa using h2) hpu (h hn h5)
 rcases f3 with f3 | f3
 ·rw [hp] at f3;cases f3
 ·exact f3 b hb
theorem PK {v:Value} (M:uc R) (hh:hs.contains i=false) (hp:Yb bars ta=false) (ho:l[i]?=some o) (hw:Region.wanted o (yielded l.toArray a.tmps)=true) (hQ:∀ c a w,Q (.panic c) (a.put o.dst v) w -> Q (.panic c) a w)
  (Xb:∀ w',R w w' -> (execOp a.eval o).run P w'= .ok (.value v) w') (h:ki P l hs bars Q R rest (ta.setIfInBounds i true) (a.put o.dst v) w):ki P l hs bars Q R (i :: rest) ta a w :=
 TF M hh hp ho hQ (.inl ⟨hw, .inl Xb⟩) h
theorem QK (M:uc R) (hh:hs.contains i=false) (hp:Yb bars ta=false) (ho:l[i]?=some o) (hw:Region.wanted o (yielded l.toArray a.tmps)=false) (hQ:∀ c a w,Q (.panic c) (a.put o.dst undef) w -> Q (.panic c) a w)
  (h:ki P l hs bars Q R rest (ta.setIfInBounds i true) (a.put o.dst undef) w):ki P l hs bars Q R (i :: rest) ta a w :=
 TF M hh hp ho hQ (.inr ⟨hw,rfl⟩) h
theorem Uc {a b:Prop} (h:a) (s:Imp a b:=by
 (repeat ((first | (apply Imp.via (QK (pa) rfl rfl rfl rfl (fun _ _ _ h=>h))) | (apply Imp.via (PK (v:=?_) (pa) rfl rfl rfl rfl (fun _ _ _ h=>h) ?hr);case hr=>(intro w' hR;(first | have yi:=rz ((pa).trans _ _ _ da hR) | skip);go_simp;try with_reducible rfl)));simp only [Act.put,zLa,zLb,zLc]))
 exact Imp.rfl'):b:=s h
theorem Jb {v:Value} {f:FuncId} {vals:Array Value} (M:uc R) (hh:hs.contains i=false) (hp:Yb bars ta=false) (ho:l[i]?=some o) (hw:Region.wanted o (yielded l.toArray a.tmps)=true) (hQ:∀ c a w,Q (.panic c) (a.put o.dst v) w -> Q (.panic c) a w)
  (Xb:∀ w,(execOp a.eval o).run P w= .ok (.enter f vals) w) (hc:∀ w',R w w' -> Calls P f vals w' fun e Ej=>e= .returned v /\ R w' Ej)
  (h:ki P l hs bars Q R rest (ta.setIfInBounds i true) (a.put o.dst v) w):ki P l hs bars Q R (i :: rest) ta a w :=
 TF M hh hp ho hQ (.inl ⟨hw, .inr ⟨f,vals,Xb,hc⟩⟩) h
theorem sT {v:Value} (hh:hs.contains i=false) (hp:Yb bars ta=true) (ho:l[i]?=some o) (hw:Region.wanted o (yielded l.toArray a.tmps)=true) (hQ:∀ c a w,Q (.panic c) (a.put o.dst v) w -> Q (.panic c) a w)
  (Xb:∀ w',(execOp a.eval o).run P w'= .ok (.value v) w') (h:ki P l hs bars Q R rest (ta.setIfInBounds i true) (a.put o.dst v) w):ki P l hs bars Q R (i :: rest) ta a w:=by
 intro hn Ia;obtain ⟨h1,h2,-,h4,h5⟩:=Nx Ia;have Cf:l.toArray[i]?=some o:=by rw [List.getElem?_toArray];exact ho
 exact uT Cf (Region.noSelect_spec hn) hQ _ _ _ _ hp (Region.free_spec Cf (h4 hh).1) (by simpa using h2) (.inl ⟨hw,fun w' _=>Xb w'⟩) (h hn h5)
theorem Qb {a b:Prop} (h:a) (s:Imp a b:=by
 (repeat ((first | (apply Imp.via (QK (pa) rfl rfl rfl rfl (fun _ _ _ h=>h))) | (apply Imp.via (PK (v:=?_) (pa) rfl rfl rfl rfl (fun _ _ _ h=>h) ?hr);case hr=>(intro w' hR;(first | have yi:=rz ((pa).trans _ _ _ da hR) | skip);go_simp;try with_reducible rfl)) | (apply Imp.via (sT (v:=?_) rfl rfl rfl rfl (fun _ _ _ h=>h) ?hr);case hr=>(intro w';go_simp;try with_reducible rfl)));simp only [Act.put,zLa,zLb,zLc]))
 exact Imp.rfl'):b:=s h
theorem Hf (hh:hs.contains i=true) (hp:Yb bars ta=false) (ho:l[i]?=some o) (hw:Region.wanted o (yielded l.toArray a.tmps)=true)
  (h:∀ w1,R w w1 -> o.wp P a w1 (fun a' w'=>(Yb bars (ta.setIfInBounds i true)=false -> R w1 w') /\ ki P l hs bars Q R rest (ta.setIfInBounds i true) a' w') Q):ki P l hs bars Q R (i :: rest) ta a w:=by
 intro hn Ia;obtain ⟨h1,-,h3,-,h5⟩:=Nx Ia;have hr:=h3 hh;intro w1 yn;refine ⟨fun h0=>absurd (hr ▸ h0) (by simp),fun j hj=>?_⟩
 rw [hr,List.mem_singleton] at hj;subst hj;unfold wpOp;have hi:l.toArray[j]?=some o:=by rw [List.getElem?_toArray];exact ho
 simp only [hi,hw,if_true];exact .inl (Oper.wp_mono (fun a' w' h'=>⟨h'.1,h'.2 hn h5⟩) (h w1 (yn.out hp)))
end
end Go.Proofs.YtjipleoamlmkfaaGreat
