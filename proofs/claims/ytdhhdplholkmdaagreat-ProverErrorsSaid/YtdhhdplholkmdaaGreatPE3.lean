/- A part of the proof. No condition. -/
import Derived.Test.YtdhhdplholkmdaaGreatProg
import Derived.Test.YtdhhdplholkmdaaGreatPE2

namespace Go.Proofs.YtdhhdplholkmdaaGreat
open Go.RowKit
def RdL {α:Type} (w:World) (sz:Nat) (R:World→List Value→α→Prop) (A:Option Addr) (l:List α):Prop :=
 ∀ (i:Nat) (hi:i<l.length),∃ a cs,A=some a∧cs.length=sz∧(∀ j,j<sz→w.cell? (a.add (i*sz+j))=cs[j]?)∧R w cs l[i]
def Vw {α:Type} (R:World→List Value→α→Prop):Prop:=∀ (w w':World) (cs:List Value) (x:α),Below w.heap.size w w'→R w cs x→R w' cs x
def RSl {α:Type} (sz:Nat) (R:World→List Value→α→Prop) (w:World) (cs:List Value) (l:List α):Prop :=
 ∃ A n c,cs=[.slice A n c]∧l.length=n∧n≤c∧c≤maxLen∧RdL w sz R A l
def RWd (w:World) (cs:List Value) (l:List Nat):Prop :=
 ∃ A n c,cs=[.slice A n c]∧n≤c∧c≤maxLen∧Rd w 1 A n (U64 l)∧∀ x∈l,x<18446744073709551616
section
variable {α:Type} {R:World→List Value→α→Prop} {sz:Nat} {w w':World} {A:Option Addr} {l:List α}
theorem RdL.below (h:RdL w sz R A l) (hR:Vw R) (hb:Below w.heap.size w w'):RdL w' sz R A l:=fun i hi=>by
 obtain ⟨a,cs,e,hl,hc,hr⟩:=h i hi
 refine ⟨a,cs,e,hl,fun j hj=>?_,hR _ _ _ _ hb hr⟩
 have hcj:=hc j hj
 rw [List.getElem?_eq_getElem (by omega)] at hcj ⊢
 exact (hb.cell (World.block_lt_of_cell? _ _ hcj)).trans hcj
theorem Zn (hR:Vw R):Vw (RSl sz R):=fun w w' cs l hb h=>by
 obtain ⟨A,n,c,e,h1,h2,h3,h4⟩:=h
 exact ⟨A,n,c,e,h1,h2,h3,h4.below hR hb⟩
theorem Zd:Vw RWd:=fun w w' cs l hb h=>by
 obtain ⟨A,n,c,e,h1,h2,h3,h4⟩:=h
 exact ⟨A,n,c,e,h1,h2,h3.below hb,h4⟩
theorem RdL.at_ (h:RdL w sz R A l) (hsz:0<sz) {i:Nat} (hi:i<l.length) :
  ∃ a b q cs,A=some a∧a.add (i*sz)=⟨b,q,none⟩∧cs.length=sz∧(∀ j,j<sz→w.cell? ⟨b,q+j,none⟩=cs[j]?)∧R w cs l[i]:=by
 obtain ⟨a,cs,e,hl,hc,hr⟩:=h i hi
 have h0:=hc 0 hsz
 rw [Nat.add_zero,List.getElem?_eq_getElem (by omega)] at h0
 obtain ⟨b,q,hq⟩:∃ b q,a.add (i*sz)=⟨b,q,none⟩:=by
  have hs:=World.cell?_spot h0
  generalize a.add (i*sz)=x at hs
  obtain ⟨b,q,s⟩:=x
  simp at hs
  subst hs
  exact ⟨b,q,rfl⟩
 refine ⟨a,b,q,cs,e,hq,hl,fun j hj=>?_,hr⟩
 have:=hc j hj
 rw [←VM,hq] at this
 rw [←this]
 unfold Addr.add
 split <;> simp_all
end
section
variable {P:Program} {w:World} {t e:TypeId} {cs:List Value}
theorem Xg {α:Type} {p:Nat→α→Prop}:∀ n,(∀ i,i<n→∃ u,p i u)→∃ l:List α,l.length=n∧∀ i (h:i<l.length),p i l[i]
 | 0,_=>⟨[],rfl,fun i h=>by simp at h⟩
 | n+1,h=>by
  obtain ⟨l,hl,hp⟩:=Xg n fun i hi=>h i (by omega)
  obtain ⟨u,hu⟩:=h n (by omega)
  refine ⟨l++[u],by simp [hl],fun i hx=>?_⟩
  simp at hx
  by_cases h1:i<l.length
  ·rw [List.getElem_append_left h1]
   exact hp i h1
  ·rw [List.getElem_append_right (by omega)]
   have:i=n:=by omega
   subst this
   simp [hl]
   exact hu
theorem X1 {α:Type} {R:World→List Value→α→Prop} (sz:Nat) (ht:P.underlying t=some (.slice e)) (hc:P.cellsOf e=sz)
  (ho:∀ cs',cs'.length=sz→Fits P w e cs'→∃ x,R w cs' x) (h:Fits P w t cs):∃ l,RSl sz R w cs l:=by
 obtain ⟨A,n,c,rfl,h1,h2,hi⟩:=XV ht h
 rw [hc] at hi
 have:∀ i,i<n→∃ x,∃ a cs',A=some a∧cs'.length=sz∧(∀ j,j<sz→w.cell? (a.add (i*sz+j))=cs'[j]?)∧R w cs' x:=by
  intro i hin
  obtain ⟨a,cs',e,hl,hcell,hf⟩:=hi i hin
  obtain ⟨x,hx⟩:=ho cs' hl hf
  exact ⟨x,a,cs',e,hl,hcell,hx⟩
 obtain ⟨l,hl,hp⟩:=Xg n this
 exact ⟨l,A,n,c,rfl,hl,h1,h2,fun i hi=>hp i hi⟩
theorem Yw (ht:P.underlying t=some (.slice e)) (he:P.underlying e=some (.int .u64)) (hc:P.cellsOf e=1) (h:Fits P w t cs):∃ l,RWd w cs l:=by
 obtain ⟨A,n,c,l,rfl,h1,h2,h3,h4⟩:=Uq ht he hc h
 exact ⟨l,A,n,c,rfl,h1,h2,h3,h4⟩
theorem Zl {fs:Array Field} {f:Field} {i k n:Nat} (ht:P.underlying t=some (.struct fs)) (hf:fs[i]?=some f) (ho:f.offset=k) (hn:P.cellsOf f.type=n) (h:Fits P w t cs):Fits P w f.type ((cs.drop k).take n):=by
 have:=(YR ht h).2 i f hf
 rw [ho,hn] at this
 exact this
end
def JI (_w:World) (cs:List Value) (x:Int × Nat):Prop:=cs=[.int .i64 x.1, .int .u64 (x.2:Int)]∧(-9223372036854775808≤x.1∧x.1≤9223372036854775807)∧x.2<18446744073709551616
theorem Yx:Vw JI:=fun _ _ _ _ _ h=>h
def RLin:World→List Value→List (Int × Nat)→Prop:=RSl 2 JI
theorem Zp:Vw RLin:=Zn Yx
structure Zv where
 a:List (Int × Nat)
 b:List (Int × Nat)
 c:List (Int × Nat)
def Z9 (w:World) (cs:List Value) (r:Zv):Prop:=∃ x y z,cs=[x,y,z]∧RLin w [x] r.a∧RLin w [y] r.b∧RLin w [z] r.c
theorem Zj:Vw Z9:=fun w w' cs r hb h=>by
 obtain ⟨x,y,z,e,h1,h2,h3⟩:=h
 exact ⟨x,y,z,e,Zp _ _ _ _ hb h1,Zp _ _ _ _ hb h2,Zp _ _ _ _ hb h3⟩
structure TabR where
 p:Nat
 pub:Int
 vars:Int
 rows:List Zv
def RTab (w:World) (cs:List Value) (t:TabR):Prop:=∃ x,cs=[.int .u64 (t.p:Int), .int .i64 t.pub, .int .i64 t.vars,x]∧t.p<18446744073709551616 ∧
 (-9223372036854775808≤t.pub∧t.pub≤9223372036854775807)∧(-9223372036854775808≤t.vars∧t.vars≤9223372036854775807)∧RSl 3 Z9 w [x] t.rows
theorem Zz:Tryz.prog.cellsOf 22=1:=by kernel_rfl
theorem Yf:Tryz.prog.cellsOf 3=1:=by kernel_rfl
theorem Vs:Tryz.prog.cellsOf 4=1:=by kernel_rfl
theorem ZX:Tryz.prog.cellsOf 28=1:=by kernel_rfl
theorem YS:Tryz.prog.cellsOf 166=1:=by kernel_rfl
theorem VF:Tryz.prog.cellsOf 216=2:=by kernel_rfl
theorem VZ:Tryz.prog.cellsOf 168=3:=by kernel_rfl
theorem VD:Tryz.prog.cellsOf 23=1:=by kernel_rfl
theorem VK:Tryz.prog.cellsOf 25=4:=by kernel_rfl
theorem Xy {w:World} {cs:List Value} (h:Fits Tryz.prog w 166 cs):∃ l,RLin w cs l :=
 X1 2 Tryz.underlying166 VF (fun cs' hl hf=>by
  match cs',hl with
  | [x,y],_ =>
   obtain ⟨a,ha,hal⟩:=YF Tryz.underlying3 (Zl (i:=0) Tryz.underlying216 rfl rfl Yf hf)
   obtain ⟨b,hb,hbl⟩:=YU Tryz.underlying22 (Zl (i:=1) Tryz.underlying216 rfl rfl Zz hf)
   simp at ha hb
   exact ⟨(a,b),by rw [ha,hb],hal,hbl⟩) h
theorem Je {w:World} {cs:List Value} (hl:cs.length=3) (h:Fits Tryz.prog w 168 cs):∃ r,Z9 w cs r:=by
 match cs,hl with
 | [x,y,z],_ =>
  obtain ⟨a,ha⟩:=Xy (Zl (i:=0) Tryz.underlying168 rfl rfl YS h)
  obtain ⟨b,hb⟩:=Xy (Zl (i:=1) Tryz.underlying168 rfl rfl YS h)
  obtain ⟨c,hc⟩:=Xy (Zl (i:=2) Tryz.underlying168 rfl rfl YS h)
  exact ⟨⟨a,b,c⟩,x,y,z,rfl,ha,hb,hc⟩
theorem U0 {w:World} {cs:List Value} (hl:cs.length=4) (h:Fits Tryz.prog w 25 cs):∃ t,RTab w cs t:=by
 match cs,hl with
 | [x,y,z,r],_ =>
  obtain ⟨a,ha,hal⟩:=YU Tryz.underlying22 (Zl (i:=0) Tryz.underlying25 rfl rfl Zz h)
  obtain ⟨b,hb,hbl⟩:=YF Tryz.underlying3 (Zl (i:=1) Tryz.underlying25 rfl rfl Yf h)
  obtain ⟨c,hc,hcl⟩:=YF Tryz.underlying3 (Zl (i:=2) Tryz.underlying25 rfl rfl Yf h)
  obtain ⟨rs,hr⟩:=X1 3 (R:=Z9) Tryz.underlying23 VZ (fun cs' hl' hf=>Je hl' hf) (Zl (i:=3) Tryz.underlying25 rfl rfl VD h)
  simp at ha hb hc
  exact ⟨⟨a,b,c,rs⟩,r,by rw [ha,hb,hc],hal,hbl,hcl,hr⟩
end Go.Proofs.YtdhhdplholkmdaaGreat
