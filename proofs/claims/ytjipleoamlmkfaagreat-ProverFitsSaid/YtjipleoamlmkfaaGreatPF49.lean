/- A part of the proof. No condition. -/
import Derived.Test.YtjipleoamlmkfaaGreatProg
import Derived.Test.YtjipleoamlmkfaaGreatPF48
import Derived.Test.YtjipleoamlmkfaaGreatPF47

set_option maxRecDepth 100000
set_option maxHeartbeats 8000000
set_option linter.unusedVariables false
set_option linter.unusedSimpArgs false
namespace Go.Proofs.YtjipleoamlmkfaaGreat
open Go.RowKit Go.Maps
theorem Q6 {V V':Nat -> Prop} {w w':World} (m:Moved V V' w w'):Moved V (kZ V' w w') w w':=VO m fun _ hb=>hb.elim .inl fun e=>.inr e.1
theorem D9 {V':Nat -> Prop} {w w':World} (h:∀ b,V' b -> b<w'.heap.size):∀ b,kZ V' w w' b -> b<w'.heap.size:=fun b hb=>hb.elim (h b) fun e=>e.2
theorem E5 {w:World} {v:Value} {l:List Nat} (h:RWd w [v] l):slc v:=by
 obtain ⟨A,n,c,e,-⟩:=h;simp at e
 exact ⟨A,n,c,e⟩
theorem zB6 {K:Nat -> Prop} {w:World} {A:Option Addr} {n c:Nat} {l:List Nat} (h:Hd K w fun u=>RWd u [.slice A n c] l) {i:Nat} (hi:i<l.length):n=l.length /\ ∃ b q,A=some ⟨b,q,none⟩ /\ K b /\ b<w.heap.size /\ w.cell? ⟨b,q+i,none⟩=some (.int .u64 ((l.getD i 0:Nat):Int)):=by
 obtain ⟨hn,-,-,-,hr⟩:=zb (dj h);rw [hn] at hr;obtain ⟨b,q,rfl,hb,hc⟩:=Ye hr hi;refine ⟨hn,b,q,rfl,Classical.byContradiction fun hK=>?_,hb,hc⟩
 obtain ⟨CY,-,-,-,Xh⟩:=zb (h (Tw w b) (pG hK));rw [CY] at Xh;obtain ⟨b',q',e,-,Jk⟩:=Ye Xh hi
 injection e with e
 injection e with e1 e2
 subst e1 e2;rw [sK hb] at Jk;cases Jk
theorem K0 (L:Va) (j pu:Nat) (vars:Int) (rows:List Ya) (ws:List Nat) (coin:Nat) (hL:Vc L) (hn:L.n=2^j):(Ur L j pu vars rows ws coin).Good:=by
 have Kk:=UG L coin (by have:=nc hL.p;omega)
 obtain ⟨Qv,So,Nc,jf,vi⟩:=BA Kk;exact ⟨hL,hn,XE hn hL.n2,⟨XI _ _ _ _,Qv.trans (XI _ _ _ _).symm,fun _ h=>ZO h,fun r h=>(So r h).1⟩,Nc,jf,vi,TG Kk⟩
theorem zCn {L:Va} {rows:List Ya} {ws:List Nat} {pu:Nat} (hp:0<L.p) (hw:∀ x∈ws,x<L.p):∀ x∈Ew L rows ws pu,∀ y∈x,y<L.p:=fun x hx y hy=>by
 obtain ⟨j,hj,rfl⟩:=List.getElem_of_mem hy;have:=zCo hp hw hx j
 rwa [List.getD_eq_getElem?_getD,List.getElem?_eq_getElem hj] at this
theorem zDo {p:Nat} {rows:List Ya} {ws:List Nat} (h:Un p rows ws=true):∀ r∈rows,ud p r.a ws*ud p r.b ws%p=ud p r.c ws:=fun r hr=>of_decide_eq_true (List.all_eq_true.1 h r hr)
section
variable {L:Va} {j pu coin:Nat} {vars:Int} {rows:List Ya} {ws:List Nat} {bl bw qs:Int} {O:La} {k:Nat}
theorem zBz (hL:Vc L) (hn:L.n=2^j) (hO:jG O k):Bj L j ((Ur L j pu vars rows ws coin).pr O)=true :=
 PvIn.valid O (K0 L j pu vars rows ws coin hL hn) (zA2 hO _ _ _).o.ans
theorem zBt:tk (ef ((Ur L j pu vars rows ws coin).oF O) L (pd L.p (pu:Int) vars rows) ((ws.drop 1).take pu)) L.p ((Ur L j pu vars rows ws coin).pr O).root=(Ur L j pu vars rows ws coin).ch O :=
 PvIn.again_ch (x:=Ur L j pu vars rows ws coin) O fun _ _ _ h=>h
theorem zBv:Li (ve (ef ((Ur L j pu vars rows ws coin).oF O) L (pd L.p (pu:Int) vars rows) ((ws.drop 1).take pu)) ((Ur L j pu vars rows ws coin).pr O).root) (((Ur L j pu vars rows ws coin).pr O).code++((Ur L j pu vars rows ws coin).pr O).linear++((Ur L j pu vars rows ws coin).pr O).quad) L.queries=(Ur L j pu vars rows ws coin).oF O :=
 PvIn.again_o (x:=Ur L j pu vars rows ws coin) O fun _ _ _ h=>h
theorem zBx:Zr (ve (ef ((Ur L j pu vars rows ws coin).oF O) L (pd L.p (pu:Int) vars rows) ((ws.drop 1).take pu)) ((Ur L j pu vars rows ws coin).pr O).root) (((Ur L j pu vars rows ws coin).pr O).code++((Ur L j pu vars rows ws coin).pr O).linear++((Ur L j pu vars rows ws coin).pr O).quad) L.n L.queries=(Ur L j pu vars rows ws coin).pos O :=
 PvIn.again_pos (x:=Ur L j pu vars rows ws coin) O fun _ _ _ h=>h
theorem zBy (hL:Vc L) (hn:L.n=2^j) (fj:Lm L ⟨L.p,(pu:Int),vars,rows.length,bl,bw,qs⟩) (hT:kG L.p (pu:Int) vars rows ws true) (al rh be:Nat) :
  BZ L (JV L.p rows.length rh (1 :: (ws.drop 1).take pu) rows 3) ((Ur L j pu vars rows ws coin).code al) ((Ur L j pu vars rows ws coin).lin rh) ((Ur L j pu vars rows ws coin).quad be)=true:=by
 obtain ⟨Cr,rj,xH⟩:=CG hT.asg;have mx:0<L.p:=by have:=nc hL.p;omega
 have hw:∀ y∈ws,y<L.p:=fun y hy=>of_decide_eq_true (List.all_eq_true.1 xH y hy)
 have hv:(pu:Int)<vars:=fj.vars;have dW:ws.take (1+pu)=1 :: (ws.drop 1).take pu:=by
  cases ws with
  | nil=>simp at Cr;omega
  | cons a r =>
   have e:a=1:=rj;subst e;rw [Nat.add_comm,List.take_succ_cons]
   rfl
 refine (PvIn.tests (K0 L j pu vars rows ws coin hL hn) (zCn mx hw) al rh be _).trans ?_;exact zDm hL (YS hT.tab fj) (qT hT.tab) Cr dW (zDo hT.sat) be
theorem zBu (hL:Vc L) (hn:L.n=2^j) (al rh be:Nat) {z:Nat} (hz:z<L.n) :
  LW L (Uu L pu rh rows) al be ((Ur L j pu vars rows ws coin).code al) ((Ur L j pu vars rows ws coin).lin rh) ((Ur L j pu vars rows ws coin).quad be) (z:Int) ((Ur L j pu vars rows ws coin).cols.getD z [])=true :=
 PvIn.fits (K0 L j pu vars rows ws coin hL hn) al rh be hz
theorem zBw (hL:Vc L) (hn:L.n=2^j) (hO:jG O k) {Z:La} (hZ:ug ((Ur L j pu vars rows ws coin).oF O) Z) {z:Nat} (hz:z<L.n) :
  vX Z ((Ur L j pu vars rows ws coin).root O) L.n z ((Ur L j pu vars rows ws coin).l4.getD z 0) ((Ur L j pu vars rows ws coin).cols.getD z []) (yj ((Ur L j pu vars rows ws coin).tree O) z)=true /\ uX Z ((Ur L j pu vars rows ws coin).root O) L.n z ((Ur L j pu vars rows ws coin).l4.getD z 0) ((Ur L j pu vars rows ws coin).cols.getD z []) (yj ((Ur L j pu vars rows ws coin).tree O) z)=Z :=
 PvIn.opens O (K0 L j pu vars rows ws coin hL hn) (zA2 hO _ _ _).o.ans hZ hz
end
end Go.Proofs.YtjipleoamlmkfaaGreat
