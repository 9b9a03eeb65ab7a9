/- A part of the proof. No condition. -/
import Derived.Test.YteoghgbnielkpaaGreatPP1
import Derived.ChangeOld
import Derived.Deep.Slices
import Derived.BigQuiet
import Derived.Deep.QuietTactic
import Derived.Shelf.Bits.Mul64
import Derived.Shelf.Small.Bits
import Derived.Shelf.Strconv.Itoa0
import Derived.Deep.CutBlock
import Derived.Deep.DeepCutAuto
import Derived.Lib.ItoaNum
import Derived.Outline

set_option maxRecDepth 100000
set_option maxHeartbeats 8000000
set_option linter.unusedVariables false
set_option linter.unusedSimpArgs false
namespace Go.Proofs.YteoghgbnielkpaaGreat
open Go.RowKit
open Tryz
open Go renaming World->vu, Value->vw, Addr->vx, TypeId->vy, Calls->vA
open Go.Value renaming int->vd, slice->ve, agg->vf
open Go.IntKind renaming u64->vo, i64->vq
open Go.Ending renaming returned->vn
open Go.RowKit renaming Below->vz
open Option renaming none->vB, some->vD
section
open Go.ChangeShapes Go.WideShapes Go.ChangeAt
def Fits (P:Program) (w:vu) (t:vy) (cs:List vw):Prop :=
 ∃ (H:Type) (enc:vy × vw -> H) (base:Nat) (spare:Nat -> Bool) (held:Bool) (fuel:Nat) (x:DataW H × List MemPlace),DataW.trod enc P w base spare held fuel t cs=vD x
section
variable {P:Program} {w:vu} {t e:vy} {cs:List vw}
theorem Fits.of_trod {H:Type} {enc:vy × vw -> H} {base:Nat} {spare:Nat -> Bool} {held:Bool} {v:vw} {d:DataW H} {ps:List MemPlace} (h:DataW.Trod enc P w base spare held t v d ps):Fits P w t v.cells.toList:=by
 obtain ⟨fuel,hf⟩:=h;exact ⟨H,enc,base,spare,held,fuel,_,hf⟩
theorem Y2 {k:IntKind} (ht:P.underlying t=vD (.int k)) (h:Fits P w t cs):∃ n,cs=[.int k n] /\ (Lit.int k n).wf=true:=by
 obtain ⟨H,enc,base,spare,held,fuel,x,hf⟩:=h;obtain ⟨n,h1,_,h3⟩:=DataW.trod_int ht hf;exact ⟨n,h1,h3⟩
theorem YO (ht:P.underlying t=vD (.int vo)) (h:Fits P w t cs):∃ n:Nat,cs=[vd vo n] /\ n<18446744073709551616:=by
 obtain ⟨n,rfl,hw⟩:=Y2 ht h;have hx:0 <= n /\ n <= 18446744073709551615:=by simpa [Lit.wf,IntKind.min,IntKind.max,IntKind.signed,IntKind.bits] using hw
 obtain ⟨m,rfl⟩:=jm hx.1;exact ⟨m,rfl,zO⟩
theorem YM (ht:P.underlying t=vD (.int vq)) (h:Fits P w t cs):∃ n:Int,cs=[vd vq n] /\ -9223372036854775808 <= n /\ n <= 9223372036854775807:=by
 obtain ⟨n,rfl,hw⟩:=Y2 ht h;have hx:-9223372036854775808 <= n /\ n <= 9223372036854775807:=by simpa [Lit.wf,IntKind.min,IntKind.max,IntKind.signed,IntKind.bits] using hw
 exact ⟨n,rfl,hx⟩
theorem zDs (ht:P.underlying t=vD .bool) (h:Fits P w t cs):∃ b,cs=[.bool b]:=by
 obtain ⟨H,enc,base,spare,held,fuel,x,hf⟩:=h;cases fuel with
 | zero=>simp [DataW.trod] at hf
 | succ n =>
  unfold DataW.trod at hf;rw [ht] at hf;split at hf <;> simp_all
theorem Z2 (ht:P.underlying t=vD (.slice e)) (h:Fits P w t cs):∃ A n c,cs=[ve A n c] /\ n <= c /\ c <= maxLen /\
  ∀ i,i<n -> ∃ a um,A=vD a /\ um.length=P.cellsOf e /\ (∀ j,j<P.cellsOf e -> w.cell? (a.add (i*P.cellsOf e+j))=um[j]?) /\ Fits P w e um:=by
 obtain ⟨H,enc,base,spare,held,fuel,x,hf⟩:=h;rcases Deep.open_slice ht hf with ⟨rfl,_⟩ | ⟨a,len,cap,m,k,D,Pl,rfl,hb,hl,hm,hmm,hx,hi⟩
 ·exact ⟨vB,0,0,rfl,zR,by simp [maxLen],fun i h=>absurd h zO⟩
 ·refine ⟨vD a,len,cap,rfl,hl,hm,fun i Ed=>?_⟩
  have uF:i<m:=by rw [hmm];split <;> omega
  obtain ⟨um,hc,ht'⟩:=hi i uF;obtain ⟨_,Vs,aB⟩:=World.cells?_some hc;exact ⟨a,um,rfl,Vs,fun j hj=>by rw [<- QU];exact aB j hj,H,enc,base,spare,held,k,_,ht'⟩
theorem C3 {fs:Array Field} (ht:P.underlying t=vD (.struct fs)) (h:Fits P w t cs):cs.length=P.cellsOf t /\
  ∀ (i:Nat) (f:Field),fs[i]?=vD f -> Fits P w f.type ((cs.drop f.offset).take (P.cellsOf f.type)):=by
 obtain ⟨H,enc,base,spare,held,fuel,x,hf⟩:=h;obtain ⟨xs,n,_,_,hl,GF,hi⟩:=DataW.trod_struct ht hf;refine ⟨hl,fun i f hif=>?_⟩
 have ya:i<xs.length:=by rw [GF];exact (Yx.1 hif).1
 exact ⟨H,enc,base,spare,held,n,_,(hi i f hif).trans (Ec ya)⟩
theorem DZ {p:Nat -> Nat -> Prop}:∀ n,(∀ i,i<n -> ∃ u,p i u) -> ∃ l:List Nat,l.length=n /\ ∀ i (h:i<l.length),p i l[i]
 | 0,_=>⟨[],rfl,fun i h=>by simp at h⟩
 | n+1,h=>by
  obtain ⟨l,hl,hp⟩:=DZ n fun i hi=>h i zO
  obtain ⟨u,hu⟩:=h n zO;refine ⟨l++[u],by simp [hl],fun i hx=>?_⟩
  simp at hx
  by_cases h1:i<l.length
  ·rw [EA h1]
   exact hp i h1
  ·rw [JJ zO]
   have:i=n:=by omega
   subst this;simp [hl]
   exact hu
theorem zDw (ht:P.underlying t=vD (.slice e)) (he:P.underlying e=vD (.int vo)) (hc:P.cellsOf e=1) (h:Fits P w t cs) :
  ∃ A n c l,cs=[ve A n c] /\ n <= c /\ c <= maxLen /\ Rd w 1 A n (Qa l) /\ ∀ x∈l,x<18446744073709551616:=by
 obtain ⟨A,n,c,rfl,h1,h2,hi⟩:=Z2 ht h;have pB:∀ i,i<n -> ∃ u:Nat,u<18446744073709551616 /\ ∃ a,A=vD a /\ w.cell? (a.add i)=vD (vd vo u):=by
  intro i Ed;obtain ⟨a,um,rfl,hl,Zm,hf⟩:=hi i Ed;obtain ⟨u,rfl,hu⟩:=YO he hf;have:=Zm 0 zO;rw [hc,Ns,Oo] at this;exact ⟨u,hu,a,rfl,by simpa using this⟩
 obtain ⟨l,hl,hp⟩:=DZ n pB;refine ⟨A,n,c,l,rfl,h1,h2,⟨by rw [qt,hl,Ns],fun hn=>?_⟩,fun x hx=>?_⟩
 ·obtain ⟨_,a,ha,_⟩:=hp 0 zO
  refine ⟨a,ha,fun j u hu=>?_⟩
  have hj:j<l.length:=by
   rcases Zj j l.length with h | h
   ·exact h
   ·rw [It (by rw [qt];exact h)] at hu;cases hu
  obtain ⟨_,a',Ry,Un⟩:=hp j hj;rw [ha] at Ry
  injection Ry with Ry
  subst Ry;rw [cH hj] at hu
  injection hu with hu
  rw [Un,hu]
 ·obtain ⟨j,hj,rfl⟩:=Vq hx
  exact (hp j hj).1
end
end
def RdL {α:Type} (w:vu) (sz:Nat) (R:vu -> List vw -> α -> Prop) (A:Option vx) (l:List α):Prop :=
 ∀ (i:Nat) (hi:i<l.length),∃ a cs,A=vD a /\ cs.length=sz /\ (∀ j,j<sz -> w.cell? (a.add (i*sz+j))=cs[j]?) /\ R w cs l[i]
def DA {α:Type} (R:vu -> List vw -> α -> Prop):Prop:=∀ (w w':vu) (cs:List vw) (x:α),vz w.1.size w w' -> R w cs x -> R w' cs x
def RSl {α:Type} (sz:Nat) (R:vu -> List vw -> α -> Prop) (w:vu) (cs:List vw) (l:List α):Prop :=
 ∃ A n c,cs=[ve A n c] /\ l.length=n /\ n <= c /\ c <= maxLen /\ RdL w sz R A l
def RWd (w:vu) (cs:List vw) (l:List Nat):Prop :=
 ∃ A n c,cs=[ve A n c] /\ n <= c /\ c <= maxLen /\ Rd w 1 A n (Qa l) /\ ∀ x∈l,x<18446744073709551616
section
variable {α:Type} {R:vu -> List vw -> α -> Prop} {sz:Nat} {w w':vu} {A:Option vx} {l:List α}
theorem RdL.below (h:RdL w sz R A l) (hR:DA R) (hb:vz w.1.size w w'):RdL w' sz R A l:=fun i hi=>by
 obtain ⟨a,cs,e,hl,hc,hr⟩:=h i hi;refine ⟨a,cs,e,hl,fun j hj=>?_,hR _ _ _ _ hb hr⟩
 have Yt:=hc j hj;rw [Ec zO] at Yt |-;exact (hb.cell (Bg _ _ Yt)).trans Yt
theorem Qg (hR:DA R):DA (RSl sz R):=fun w w' cs l hb h=>by
 obtain ⟨A,n,c,e,h1,h2,h3,h4⟩:=h;exact ⟨A,n,c,e,h1,h2,h3,h4.below hR hb⟩
theorem rD:DA RWd:=fun w w' cs l hb h=>by
 obtain ⟨A,n,c,e,h1,h2,h3,h4⟩:=h;exact ⟨A,n,c,e,h1,h2,h3.below hb,h4⟩
theorem Wa {w w1:vu} {v:List vw} {l:List Nat} (h:vz w.1.size w w1) (r:RWd w v l):RWd w1 v l:=rD _ _ _ _ h r
theorem RdL.at_ (h:RdL w sz R A l) (Db:0<sz) {i:Nat} (hi:i<l.length) :
  ∃ a b q cs,A=vD a /\ a.add (i*sz)=⟨b,q,vB⟩ /\ cs.length=sz /\ (∀ j,j<sz -> w.cell? ⟨b,q+j,vB⟩=cs[j]?) /\ R w cs l[i]:=by
 obtain ⟨a,cs,e,hl,hc,hr⟩:=h i hi;have h0:=hc 0 Db;rw [Oo,Ec zO] at h0;obtain ⟨b,q,hq⟩:∃ b q,a.add (i*sz)=⟨b,q,vB⟩:=by
  have hs:=World.cell?_spot h0;generalize a.add (i*sz)=x at hs;obtain ⟨b,q,s⟩:=x;simp at hs
  subst hs;exact ⟨b,q,rfl⟩
 refine ⟨a,b,q,cs,e,hq,hl,fun j hj=>?_,hr⟩
 have:=hc j hj;rw [<- QU,hq] at this;rw [<- this];unfold Addr.add;split <;> simp_all
end
section
variable {P:Program} {w:vu} {t e:vy} {cs:List vw}
theorem EZ {α:Type} {p:Nat -> α -> Prop}:∀ n,(∀ i,i<n -> ∃ u,p i u) -> ∃ l:List α,l.length=n /\ ∀ i (h:i<l.length),p i l[i]
 | 0,_=>⟨[],rfl,fun i h=>by simp at h⟩
 | n+1,h=>by
  obtain ⟨l,hl,hp⟩:=EZ n fun i hi=>h i zO
  obtain ⟨u,hu⟩:=h n zO;refine ⟨l++[u],by simp [hl],fun i hx=>?_⟩
  simp at hx
  by_cases h1:i<l.length
  ·rw [EA h1]
   exact hp i h1
  ·rw [JJ zO]
   have:i=n:=by omega
   subst this;simp [hl]
   exact hu
theorem Q2 {α:Type} {R:vu -> List vw -> α -> Prop} (sz:Nat) (ht:P.underlying t=vD (.slice e)) (hc:P.cellsOf e=sz)
  (ho:∀ um,um.length=sz -> Fits P w e um -> ∃ x,R w um x) (h:Fits P w t cs):∃ l,RSl sz R w cs l:=by
 obtain ⟨A,n,c,rfl,h1,h2,hi⟩:=Z2 ht h;rw [hc] at hi;have:∀ i,i<n -> ∃ x,∃ a um,A=vD a /\ um.length=sz /\ (∀ j,j<sz -> w.cell? (a.add (i*sz+j))=um[j]?) /\ R w um x:=by
  intro i Ed;obtain ⟨a,um,e,hl,Zm,hf⟩:=hi i Ed;obtain ⟨x,hx⟩:=ho um hl hf;exact ⟨x,a,um,e,hl,Zm,hx⟩
 obtain ⟨l,hl,hp⟩:=EZ n this;exact ⟨l,A,n,c,rfl,hl,h1,h2,fun i hi=>hp i hi⟩
theorem zDq (ht:P.underlying t=vD (.slice e)) (he:P.underlying e=vD (.int vo)) (hc:P.cellsOf e=1) (h:Fits P w t cs):∃ l,RWd w cs l:=by
 obtain ⟨A,n,c,l,rfl,h1,h2,h3,h4⟩:=zDw ht he hc h;exact ⟨l,A,n,c,rfl,h1,h2,h3,h4⟩
theorem To {fs:Array Field} {f:Field} {i k n:Nat} (ht:P.underlying t=vD (.struct fs)) (hf:fs[i]?=vD f) (ho:f.offset=k) (hn:P.cellsOf f.type=n) (h:Fits P w t cs):Fits P w f.type ((cs.drop k).take n):=by
 have:=(C3 ht h).2 i f hf;rw [ho,hn] at this;exact this
end
def JU (_w:vu) (cs:List vw) (x:Int × Nat):Prop:=cs=[vd vq x.1,vd vo x.2] /\ (-9223372036854775808 <= x.1 /\ x.1 <= 9223372036854775807) /\ x.2<18446744073709551616
theorem JF:DA JU:=fun _ _ _ _ _ h=>h
def RLin:vu -> List vw -> List (Int × Nat) -> Prop:=RSl 2 JU
theorem Ph:DA RLin:=Qg JF
structure sc where
 a:List (Int × Nat)
 b:List (Int × Nat)
 c:List (Int × Nat)
def yg (w:vu) (cs:List vw) (r:sc):Prop:=∃ x y z,cs=[x,y,z] /\ RLin w [x] r.a /\ RLin w [y] r.b /\ RLin w [z] r.c
theorem Bh:DA yg:=fun w w' cs r hb h=>by
 obtain ⟨x,y,z,e,h1,h2,h3⟩:=h;exact ⟨x,y,z,e,Ph _ _ _ _ hb h1,Ph _ _ _ _ hb h2,Ph _ _ _ _ hb h3⟩
structure TabR where
 p:Nat
 pub:Int
 vars:Int
 rows:List sc
def RTab (w:vu) (cs:List vw) (t:TabR):Prop:=∃ x,cs=[vd vo t.p,vd vq t.pub,vd vq t.vars,x] /\ t.p<18446744073709551616 /\
 (-9223372036854775808 <= t.pub /\ t.pub <= 9223372036854775807) /\ (-9223372036854775808 <= t.vars /\ t.vars <= 9223372036854775807) /\ RSl 3 yg w [x] t.rows
theorem AO:prog.cellsOf 22=1:=by kernel_rfl
theorem PJ:prog.cellsOf 3=1:=by kernel_rfl
theorem zB8:prog.cellsOf 4=1:=by kernel_rfl
theorem zCg:prog.cellsOf 28=1:=by kernel_rfl
theorem WU:prog.cellsOf 206=1:=by kernel_rfl
theorem zCf:prog.cellsOf 208=2:=by kernel_rfl
theorem zCc:prog.cellsOf 211=3:=by kernel_rfl
theorem zCd:prog.cellsOf 23=1:=by kernel_rfl
theorem zCe:prog.cellsOf 25=4:=by kernel_rfl
theorem CV {w:vu} {cs:List vw} (h:Fits prog w 206 cs):∃ l,RLin w cs l :=
 Q2 2 underlying206 zCf (fun um hl hf=>by
  match um,hl with
  | [x,y],_ =>
   obtain ⟨a,ha,ma⟩:=YM underlying3 (To (i:=0) underlying208 rfl rfl PJ hf);obtain ⟨b,hb,dc⟩:=YO underlying22 (To (i:=1) underlying208 rfl rfl AO hf);simp at ha hb
   exact ⟨(a,b),by rw [ha,hb],ma,dc⟩) h
theorem zDo {w:vu} {cs:List vw} (hl:cs.length=3) (h:Fits prog w 211 cs):∃ r,yg w cs r:=by
 match cs,hl with
 | [x,y,z],_ =>
  obtain ⟨a,ha⟩:=CV (To (i:=0) underlying211 rfl rfl WU h);obtain ⟨b,hb⟩:=CV (To (i:=1) underlying211 rfl rfl WU h);obtain ⟨c,hc⟩:=CV (To (i:=2) underlying211 rfl rfl WU h);exact ⟨⟨a,b,c⟩,x,y,z,rfl,ha,hb,hc⟩
theorem zDp {w:vu} {cs:List vw} (hl:cs.length=4) (h:Fits prog w 25 cs):∃ t,RTab w cs t:=by
 match cs,hl with
 | [x,y,z,r],_ =>
  obtain ⟨a,ha,ma⟩:=YO underlying22 (To (i:=0) underlying25 rfl rfl AO h);obtain ⟨b,hb,dc⟩:=YM underlying3 (To (i:=1) underlying25 rfl rfl PJ h);obtain ⟨c,hc,Vs⟩:=YM underlying3 (To (i:=2) underlying25 rfl rfl PJ h);obtain ⟨rs,hr⟩:=Q2 3 (R:=yg) underlying23 zCc (fun um UK hf=>zDo UK hf) (To (i:=3) underlying25 rfl rfl zCd h)
  simp at ha hb hc
  exact ⟨⟨a,b,c,rs⟩,r,by rw [ha,hb,hc],ma,dc,Vs,hr⟩
def jc (p:Nat):Bool:=p == 17||p == 97||p == 193||p == 257||p == 12289||p == 65537||p == 18446744069414584321
theorem Wv {p:Nat} (h:jc p=true):p=17 \/ p=97 \/ p=193 \/ p=257 \/ p=12289 \/ p=65537 \/ p=18446744069414584321:=by
 simp [jc] at h
 omega
def pc (p:Nat):Nat × Nat × Nat :=
 if p=17 then (3,4,3) else
 if p=97 then (5,5,5) else
 if p=193 then (5,6,5) else
 if p=257 then (3,8,3) else
 if p=12289 then (11,12,5) else
 if p=65537 then (3,16,3) else
 if p=18446744069414584321 then (7,32,7) else
 (0,0,0)
def ON (p:Nat):vw:=vf #[vd vo ((pc p).1:Int),vd vo ((pc p).2.1:Int),vd vo ((pc p).2.2:Int)]
theorem SX (p:Nat) (w:vu) (_hp:p<18446744073709551616) :
  vA prog 233 #[vd vo p] w fun e w'=>e=vn (ON p) /\ vz w.1.size w w':=by
 by_cases h0:p=17
 ·subst h0
  go_enter func233,ntmps233
  go_wp2_with fail
  exact Uc (v:=vf #[vd vo 3,vd vo 4,vd vo 3]) (by simp [results,results233,go_sem]) rfl ⟨rfl,(Kb _ _).alloc zR _⟩
 by_cases h1:p=97
 ·subst h1
  go_enter func233,ntmps233
  go_wp2_with fail
  exact Uc (v:=vf #[vd vo 5,vd vo 5,vd vo 5]) (by simp [results,results233,go_sem]) rfl ⟨rfl,(Kb _ _).alloc zR _⟩
 by_cases h2:p=193
 ·subst h2
  go_enter func233,ntmps233
  go_wp2_with fail
  exact Uc (v:=vf #[vd vo 5,vd vo 6,vd vo 5]) (by simp [results,results233,go_sem]) rfl ⟨rfl,(Kb _ _).alloc zR _⟩
 by_cases h3:p=257
 ·subst h3
  go_enter func233,ntmps233
  go_wp2_with fail
  exact Uc (v:=vf #[vd vo 3,vd vo 8,vd vo 3]) (by simp [results,results233,go_sem]) rfl ⟨rfl,(Kb _ _).alloc zR _⟩
 by_cases h4:p=12289
 ·subst h4
  go_enter func233,ntmps233
  go_wp2_with fail
  exact Uc (v:=vf #[vd vo 11,vd vo 12,vd vo 5]) (by simp [results,results233,go_sem]) rfl ⟨rfl,(Kb _ _).alloc zR _⟩
 by_cases h5:p=65537
 ·subst h5
  go_enter func233,ntmps233
  go_wp2_with fail
  exact Uc (v:=vf #[vd vo 3,vd vo 16,vd vo 3]) (by simp [results,results233,go_sem]) rfl ⟨rfl,(Kb _ _).alloc zR _⟩
 by_cases h6:p=18446744069414584321
 ·subst h6
  go_enter func233,ntmps233
  go_wp2_with fail
  exact Uc (v:=vf #[vd vo 7,vd vo 32,vd vo 7]) (by simp [results,results233,go_sem]) rfl ⟨rfl,(Kb _ _).alloc zR _⟩
 have d0:((p:Int) == 17)=false:=by rw [Ke];omega
 have d1:((p:Int) == 97)=false:=by rw [Ke];omega
 have d2:((p:Int) == 193)=false:=by rw [Ke];omega
 have d3:((p:Int) == 257)=false:=by rw [Ke];omega
 have d4:((p:Int) == 12289)=false:=by rw [Ke];omega
 have d5:((p:Int) == 65537)=false:=by rw [Ke];omega
 have d6:((p:Int) == 18446744069414584321)=false:=by rw [Ke];omega
 have HR:=zH (show ON p=vf #[vd vo 0,vd vo 0,vd vo 0] by simp [ON,pc, *])
 clear h0 h1 h2 h3 h4 h5 h6;go_enter func233,ntmps233
 go_wp2_with fail
 exact Uc (v:=vf #[vd vo 0,vd vo 0,vd vo 0]) (by simp [results,results233,go_sem]) rfl ⟨by rw [HR.out],(Kb _ _).alloc zR _⟩
theorem zHu (p:Nat):decide (0<(pc p).1)=jc p:=by
 by_cases h:jc p=true
 ·rcases Wv h with rfl | rfl | rfl | rfl | rfl | rfl | rfl <;> rfl
 ·have h':=h
  simp [jc] at h'
  simp [pc,h',h]
theorem jv (b q k:Nat):(⟨b,q,vB⟩:vx).add k=⟨b,q+k,vB⟩:=by
 unfold Addr.add;split
 ·subst_vars;rfl
 ·rfl
theorem RdL.base {α:Type} {R:vu -> List vw -> α -> Prop} {sz:Nat} {w:vu} {A:Option vx} {l:List α} (h:RdL w sz R A l) (Db:0<sz) (hl:0<l.length):∃ b q,A=vD ⟨b,q,vB⟩:=by
 obtain ⟨a,b,q,cs,rfl,hq,-⟩:=h.at_ Db hl;refine ⟨b,q,?_⟩;rw [<- hq];simp [Addr.add]
theorem RdL.get {α:Type} {R:vu -> List vw -> α -> Prop} {sz:Nat} {w:vu} {b q:Nat} {l:List α} (h:RdL w sz R (vD ⟨b,q,vB⟩) l) {i:Nat} (hi:i<l.length) :
  ∃ cs,cs.length=sz /\ (∀ j,j<sz -> w.cell? ⟨b,q+i*sz+j,vB⟩=cs[j]?) /\ R w cs l[i]:=by
 obtain ⟨a,cs,e,hl,hc,hr⟩:=h i hi
 injection e with e
 subst e;refine ⟨cs,hl,fun j hj=>?_,hr⟩
 rw [<- hc j hj,jv,Nat.add_assoc]
theorem wQ {P:Program} {w:vu} {t e:vy} {n:Nat} {cs:Array vw} {v:vw} {i:Nat} (h:P.underlying t=vD (.array n e)) (hs:((isAgg e).run P w)= .ok false w) (hz:((sizeOf e).run P w)= .ok 1 w) (hi:i<n) (hv:cs[i]?=vD v) :
  (Instr.index t (vf cs) (vd vq i)).run P w= .ok v w:=by
 have h1:(0:Int)<=i /\ (i:Int)<n:=by omega
 simp [Instr.index,run_underlying h,asIntOf,h1,hi,hz,hs,hv,part,Result.andThen]
theorem RU {w:vu}:((isAgg 22).run prog w)= .ok false w:=by simp [isAgg,run_underlying underlying22]
theorem gY {w:vu}:((sizeOf 22).run prog w)= .ok 1 w:=by
 obtain ⟨i0,hi,Hi,Vd,Pg⟩:=info_parts I5;simp [sizeOf,typeInfo,hi,Vd]
theorem G5 {w:vu} {a b c:vw}:(Instr.index 298 (vf #[a,b,c]) (vd vq 0)).run prog w= .ok a w :=
 wQ (i:=0) underlying298 RU gY zO rfl
theorem Fq (p:Nat) (w:vu) (hp:p<18446744073709551616) :
  vA prog 152 #[vd vo p] w fun e w'=>e=vn (.bool (jc p)) /\ vz w.1.size w w':=by
 have HO:=zH (zHu p);have HR:=zH (SX p w hp);unfold ON at HR;revert HO HR
 generalize (pc p).1=a;generalize (pc p).2.1=b;generalize (pc p).2.2=c;intro HO HR;go_enter func152,ntmps152
 go_wp2_with (go_at_call 233;refine HR.out.mono ?_;rintro e w1 ⟨rfl,hb⟩)
 rw [G5,Result.andThen,Oper.upon_value];go_wp2;go_ret
 exact ⟨by rw [<- HO.out];rfl,hb⟩
def ren264:Go.Shelf.Ren:=⟨fun | 264=>259 | n=>n,fun | 46=>338 | 53=>22 | n=>n,fun n=>n⟩
theorem zEy:Go.Proofs.Lays.n264 prog ren264:={ mixed:=by kernel_rfl,f264:=by kernel_rfl,t46:=by kernel_rfl,a46:=fun _=>zK,z46:=fun _=>zK,v46:=fun _=>zK,t53:=by kernel_rfl,a53:=fun _=>zK,z53:=fun _=>zK,v53:=fun _=>by kernel_rfl }
theorem K7 (x y:Nat) (w:vu) (hx:x<18446744073709551616) (hy:y<18446744073709551616) :
  vA prog 259 #[vd vo x,vd vo y] w fun e w'=>e=vn (.tuple #[vd vo ((x*y / 18446744073709551616:Nat):Int),vd vo ((x*y%18446744073709551616:Nat):Int)]) /\ w'=w :=
 Any.bits_Mul64 zEy x y hx hy w
def ren134:Go.Shelf.Ren:=⟨fun | 129=>298 | 134=>296 | n=>n,fun | 3=>3 | 4=>4 | 5=>5 | 9=>9 | 46=>338 | 53=>22 | n=>n,fun n=>n⟩
theorem zEw:Go.Proofs.Lays.n134 prog ren134:={ mixed:=by kernel_rfl,f129:=by kernel_rfl,f134:=by kernel_rfl,t3:=by kernel_rfl,a3:=fun _=>zK,z3:=fun _=>zK,v3:=fun _=>zK,t4:=by kernel_rfl,a4:=fun _=>zK,z4:=fun _=>zK,v4:=fun _=>zK,t5:=by kernel_rfl,a5:=fun _=>zK,z5:=fun _=>zK,v5:=fun _=>zK,t9:=by kernel_rfl,a9:=fun _=>zK,z9:=fun _=>zK,v9:=fun _=>zK,t46:=by kernel_rfl,a46:=fun _=>zK,z46:=fun _=>zK,v46:=fun _=>zK,t53:=by kernel_rfl,a53:=fun _=>zK,z53:=fun _=>zK,v53:=fun _=>by kernel_rfl }
theorem zEM (x:Int) (w:vu) (h0:0 <= x) (h1:x <= 18446744073709551615) :
  vA prog 296 #[vd vo x] w fun e w'=>e=vn (vd vq (64-(Lib.bitLen x.toNat:Int))) /\ w'=w:=Any.bits_LeadingZeros64 zEw x w h0 h1
def ren125:Go.Shelf.Ren:=⟨fun | 125=>267 | 128=>297 | 129=>298 | n=>n,fun | 3=>3 | 4=>4 | 5=>5 | 9=>9 | 46=>338 | 51=>107 | 53=>22 | n=>n,fun n=>n⟩
theorem zEv:Go.Proofs.Lays.n125 prog ren125:={ mixed:=by kernel_rfl,f125:=by kernel_rfl,f128:=by kernel_rfl,f129:=by kernel_rfl,t3:=by kernel_rfl,a3:=fun _=>zK,z3:=fun _=>zK,v3:=fun _=>zK,t4:=by kernel_rfl,a4:=fun _=>zK,z4:=fun _=>zK,v4:=fun _=>zK,t5:=by kernel_rfl,a5:=fun _=>zK,z5:=fun _=>zK,v5:=fun _=>zK,t9:=by kernel_rfl,a9:=fun _=>zK,z9:=fun _=>zK,v9:=fun _=>zK,t46:=by kernel_rfl,a46:=fun _=>zK,z46:=fun _=>zK,v46:=fun _=>zK,t51:=by kernel_rfl,a51:=fun _=>zK,z51:=fun _=>zK,v51:=fun _=>zK,t53:=by kernel_rfl,a53:=fun _=>zK,z53:=fun _=>zK,v53:=fun _=>by kernel_rfl }
theorem zEA (x:Int) (w:vu) (h0:0 <= x) (h1:x <= 18446744073709551615) :
  vA prog 267 #[vd vo x] w fun e w'=>e=vn (vd vq (Lib.bitLen x.toNat)) /\ w'=w:=Any.bits_Len zEv x w h0 h1
theorem zCB {u v y Bo mw:Nat} (hy:y=Bo*4294967296+mw) (hn:mw<4294967296) (h1:2147483648 <= Bo) (hu:u<y) (hv:v<4294967296) :
  (u*4294967296+v) / y <= u / Bo /\ u / Bo <= 4294967297 /\ (u*4294967296+v) / y<4294967296:=by
 refine ⟨?_,?_,?_⟩
 ·rw [Nat.le_div_iff_mul_le zO]
  have h2:(u*4294967296+v) / y*y <= u*4294967296+v:=Nat.div_mul_le_self _ _;generalize (u*4294967296+v) / y=q at *;have h3:q*y=q*Bo*4294967296+q*mw:=by rw [hy,Nat.mul_add,Nat.mul_assoc]
  omega
 ·have:u<(4294967298)*Bo:=by omega
  have:=(Nat.div_lt_iff_lt_mul (k:=Bo) zO).2 this;omega
 ·rw [Nat.div_lt_iff_lt_mul zO]
  have:u+1 <= y:=hu;have h:=zE 4294967296 this;rw [xg 4294967296 y];omega
theorem NZ {u v y Bo mw c:Nat} (hy:y=Bo*4294967296+mw) (h1:2147483648 <= Bo) (hc:c*Bo <= u) :
  (4294967296*(u-c*Bo)+v<c*mw)↔(u*4294967296+v) / y<c:=by
 rw [Nat.div_lt_iff_lt_mul zO];have h3:c*y=c*Bo*4294967296+c*mw:=by rw [hy,Nat.mul_add,Nat.mul_assoc]
 omega
theorem zCA {u v y Bo mw c:Nat} (hy:y=Bo*4294967296+mw) (hn:mw<4294967296) (h1:2147483648 <= Bo) (hc:c*Bo <= u) (hb:c <= 4294967296) (hr:4294967296 <= u-c*Bo) (hq:(u*4294967296+v) / y<c+1) :
  c=(u*4294967296+v) / y:=by
 have h:=not_congr (NZ (v:=v) hy h1 hc);have h5:c*mw <= 4294967296*mw:=zE _ hb;have h6:¬(4294967296*(u-c*Bo)+v<c*mw):=by
  have:4294967296*mw <= 4294967296*4294967295:=Nat.mul_le_mul_left _ zO;have:4294967296*4294967296 <= 4294967296*(u-c*Bo):=Nat.mul_le_mul_left _ hr;omega
 have:=h.1 h6;omega
theorem zCD {X y0 s y u v1 v0 q1 r1 q0 r0:Nat} (hy:y=y0*2^s) (po:0<y0) (hU:X*2^s=(u*4294967296+v1)*4294967296+v0)
  (e1:q1=(u*4294967296+v1) / y) (f1:r1=(u*4294967296+v1)%y) (e0:q0=(r1*4294967296+v0) / y) (f0:r0=(r1*4294967296+v0)%y) :
  X / y0=q1*4294967296+q0 /\ X%y0=r0 / 2^s:=by
 have hp:0<2^s:=Nat.pow_pos zO;have hyp:0<y:=by rw [hy];exact Nat.mul_pos po hp
 have a1:(u*4294967296+v1)=y*q1+r1:=by rw [e1,f1,FA]
 have a0:(r1*4294967296+v0)=y*q0+r0:=by rw [e0,f0,FA]
 have hr:r0<y:=by rw [f0];exact Sc _ hyp
 have key:X*2^s=y*(q1*4294967296+q0)+r0:=by
  have e1:y*(q1*4294967296+q0)=y*q1*4294967296+y*q0:=by rw [Nat.mul_add y,Nat.mul_assoc]
  omega
 have hdiv:X / y0=q1*4294967296+q0:=by
  rw [<- Nat.mul_div_mul_right X y0 hp,<- hy,key,Nat.mul_add_div hyp,Nat.div_eq_of_lt hr,Oo]
 refine ⟨hdiv,?_⟩;have hm:X*2^s%y=r0:=by rw [key,Nat.mul_add_mod,Lk hr]
 rw [hy,Nat.mul_mod_mul_right] at hm;rw [<- hm,Nat.mul_div_cancel _ hp]
theorem zB5 {y:Nat} (h0:y≠0) (h:y<18446744073709551616):Lib.bitLen y <= 64 /\ 9223372036854775808 <= y*2^(64-Lib.bitLen y) /\ y*2^(64-Lib.bitLen y)<18446744073709551616:=by
 obtain ⟨h1,h2,h3⟩:=Lib.bitLenAux_bounds 64 y h h0;have h4:Lib.bitLenAux 64 y <= 64:=Lib.bitLenAux_le 64 y 64 h;have e:Lib.bitLen y=Lib.bitLenAux 64 y:=rfl;rw [e];generalize Lib.bitLenAux 64 y=k at *;have e1:2^(k-1)*2^(64-k)=2^63:=by rw [<- Nat.pow_add];congr 1;omega
 have e2:2^k*2^(64-k)=2^64:=by rw [<- Nat.pow_add];congr 1;omega
 refine ⟨h4,?_,?_⟩
 ·have:=zE (2^(64-k)) h2
  omega
 ·have:=(Nat.mul_lt_mul_right (a:=2^(64-k)) (Nat.pow_pos zO)).2 h3
  omega
theorem Wk (a:Nat) (h:a<18446744073709551616):vo.wrap (a:Int)=a:=by rw [mh];omega
theorem PY (a:Nat):vo.wrap (a:Int)=((a%18446744073709551616:Nat):Int):=by rw [mh];omega
theorem YT (a b:Nat) (h:a*b<18446744073709551616):vo.wrap ((a:Int)*b)=((a*b:Nat):Int):=by rw [<- Vh,Wk _ h]
theorem zBF (a b:Nat):vo.wrap ((a:Int)*b)=((a*b%18446744073709551616:Nat):Int):=by rw [<- Vh,PY]
theorem XT (a b:Nat) (h:a+b<18446744073709551616):vo.wrap ((a:Int)+b)=((a+b:Nat):Int):=by rw [<- Hw,Wk _ h]
theorem zIH (a b:Nat):vo.wrap ((a:Int)+b)=(((a+b)%18446744073709551616:Nat):Int):=by rw [<- Hw,PY]
theorem Ku (a b:Nat) (h:b <= a) (ha:a<18446744073709551616):vo.wrap ((a:Int)-b)=((a-b:Nat):Int):=by rw [mh];omega
theorem zII {X c Z r:Nat} (h:X+c=Z+r) (hr:r<18446744073709551616):vo.wrap ((((X%18446744073709551616+c)%18446744073709551616:Nat):Int)-((Z%18446744073709551616:Nat):Int))=(r:Int):=by
 rw [mh];omega
theorem zFt (a b s:Nat) (hs:s <= 64) (ha:a*2^s<18446744073709551616) (hb:b<2^s):bits .or vo ((a*2^s:Nat):Int) (b:Int)=((a*2^s+b:Nat):Int):=by
 have h1:b<18446744073709551616:=by
  rcases Jn a with h0 | h0
  ·subst h0
   have:2^s <= 2^64:=Jt zO hs;omega
  ·have:2^s <= a*2^s:=Nat.le_mul_of_pos_left _ h0
   omega
 have h:=bits_or_u64_nat (a*2^s) b ha h1;rw [h,xg a,Nat.two_pow_add_eq_or_of_lt hb]
theorem C7 (a:Nat) (ha:a<18446744073709551616):bits .and vo (a:Int) 4294967295=((a%4294967296:Nat):Int):=by
 have h:=bits_and_u64_nat a 4294967295 ha zO;have e:a &&& 4294967295=a%4294967296:=Nat.and_two_pow_sub_one_eq_mod a 32;rw [e] at h;exact h
theorem PZ {u v Y a b:Nat} (hY:Y=a*4294967296+b) (hb:b<4294967296) (ha:2147483648 <= a) (hu:u<Y) (hv:v<4294967296) (hY2:Y<18446744073709551616) :
  ∃ Q r k0 k0a rh U1 U2 U3:Nat,(Q=(u*4294967296+v) / Y /\ r=(u*4294967296+v)%Y) /\ r<Y /\ Q<4294967296 /\ Q <= k0 /\ k0 <= 4294967297 /\ (k0*a <= u /\ rh=u-k0*a) /\ rh<4294967296 /\
   (u:Int) / (a:Int)=k0 /\ vo.wrap ((k0:Int)*a)=(k0a:Int) /\ vo.wrap ((u:Int)-k0a)=(rh:Int) /\
   vo.wrap ((u:Int)*4294967296)=(U1:Int) /\ vo.wrap ((U1:Int)+v)=(U2:Int) /\ vo.wrap ((Q:Int)*Y)=(U3:Int) /\ vo.wrap ((U2:Int)-U3)=(r:Int):=by
 obtain ⟨t1,t2,t3⟩:=zCB hY hb ha hu hv;have h1:=Nat.div_mul_le_self u a;have h2:=Sc u (show 0<a by omega)
 have h3:=FA u a;have h4:=xg a (u / a);have hr:=Sc (u*4294967296+v) (show 0<Y by omega)
 have h5:=FA (u*4294967296+v) Y;rw [xg Y] at h5;refine ⟨(u*4294967296+v) / Y,(u*4294967296+v)%Y,u / a,u / a*a,u-u / a*a,u*4294967296%18446744073709551616,(u*4294967296%18446744073709551616+v)%18446744073709551616,(u*4294967296+v) / Y*Y%18446744073709551616,
  ⟨rfl,rfl⟩,hr,t3,t1,t2,⟨h1,rfl⟩,zO,rfl,YT _ _ zO,Ku _ _ h1 zO,zBF u 4294967296,zIH _ _,zBF _ _,zII h5.symm zO⟩
theorem zAt {u a k r Q:Nat} (hK:k*a <= u /\ r=u-k*a) (ya:Q<k) (hk:k <= 4294967297) (hr:r<4294967296) (_ha:2147483648 <= a) (haT:a<4294967296) :
  ∃ k1 r1:Nat,vo.wrap ((k:Int)-1)=(k1:Int) /\ vo.wrap ((r:Int)+a)=(r1:Int) /\ k=k1+1 /\ r1=r+a :=
 ⟨k-1,r+a,Ku k 1 zO zO,XT _ _ zO,zO,rfl⟩
theorem RX {u a k r k1 r1 Q:Nat} (hK:k*a <= u /\ r=u-k*a) (h1:k=k1+1) (h2:r1=r+a) (_hlt:Q<k):k1*a <= u /\ r1=u-k1*a:=by
 subst h1;rw [Nat.add_mul k1 1,Nat.one_mul] at hK;omega
theorem zAu {u v Y a b k r k1 r1 Q:Nat} (hY:Y=a*4294967296+b) (hb:b<4294967296) (ha:2147483648 <= a) (hK:k*a <= u /\ r=u-k*a) (hQ:Q=(u*4294967296+v) / Y) (h1:k=k1+1) (h2:r1=r+a) (ya:Q<k) (hk:k <= 4294967297) (hS:4294967296 <= r1):Q=k1:=by
 obtain ⟨g1,g2⟩:=RX hK h1 h2 ya;rw [g2] at hS;have:=zCA (v:=v) hY hb ha g1 zO hS zO;omega
theorem BT {u v Y a b k r Q:Nat} (hY:Y=a*4294967296+b) (hb:b<4294967296) (ha:2147483648 <= a) (hv:v<4294967296) (hK:k*a <= u /\ r=u-k*a) (hr:r<4294967296) (hQ:Q=(u*4294967296+v) / Y) (hB:k<4294967296) :
  ∃ kb r2 r3:Nat,vo.wrap ((k:Int)*b)=(kb:Int) /\ vo.wrap (4294967296*(r:Int))=(r2:Int) /\ vo.wrap ((r2:Int)+v)=(r3:Int) /\ (r3<kb↔Q<k):=by
 have h1:k*b <= 4294967295*b:=zE _ zO;have h2:=NZ (v:=v) hY ha hK.1;rw [<- hK.2,<- hQ] at h2;exact ⟨k*b,4294967296*r,4294967296*r+v,YT _ _ zO,YT 4294967296 r zO,XT _ _ zO,h2⟩
theorem zCE {h l y s Y:Nat} (hh:h<y) (hl:l<18446744073709551616) (hY:Y=y*2^s) (hs:s <= 64) (hy:Y<18446744073709551616) :
  h*2^s<18446744073709551616 /\ l / 2^(64-s)<2^s /\ h*2^s+l / 2^(64-s)<Y /\
  (h*18446744073709551616+l)*2^s=((h*2^s+l / 2^(64-s))*4294967296+(l*2^s%18446744073709551616) / 4294967296)*4294967296+(l*2^s%18446744073709551616)%4294967296:=by
 have hp:0<2^s:=Nat.pow_pos zO;have e64:2^(64-s)*2^s=18446744073709551616:=by rw [<- Nat.pow_add,show 64-s+s=64 by omega]
 have h1:h*2^s<Y:=by rw [hY];exact (Nat.mul_lt_mul_right hp).2 hh
 have h2:l / 2^(64-s)<2^s:=by rw [Nat.div_lt_iff_lt_mul (Nat.pow_pos zO),xg,e64];exact hl
 have h3:l*2^s / 18446744073709551616=l / 2^(64-s):=by rw [<- e64,Nat.mul_div_mul_right _ _ hp]
 have h4:h*2^s+l / 2^(64-s)<Y:=by
  have:(h+1)*2^s <= Y:=by rw [hY];exact zE _ hh
  rw [Nat.add_mul h 1] at this;omega
 refine ⟨zO,h2,h4,?_⟩;rw [<- h3,Nat.add_mul (h*18446744073709551616) l,Nat.mul_right_comm];generalize l*2^s=A;generalize h*2^s=C;omega
theorem TZ (h l y:Nat) (w:vu) (hh:h<y) (hl:l<18446744073709551616) (hy:y<18446744073709551616) :
  vA prog 260 #[vd vo h,vd vo l,vd vo y] w fun e w'=>e=vn (.tuple #[vd vo (((h*18446744073709551616+l) / y:Nat):Int),vd vo (((h*18446744073709551616+l)%y:Nat):Int)]) /\ ∃ k,w'=w.drewN k:=by
 have g1:((y:Int) == 0)=false:=by rw [Ke];omega
 by_cases hz:h=0
 ·subst hz
  have g0:decide (y=0)=false:=Xb zO;have p1:(0:Int)<y:=by omega
  have p2:¬((y:Int)=0):=by omega
  have q1:vo.wrap ((l:Int) / (y:Int))=((l / y:Nat):Int):=by
   rw [<- Int.natCast_ediv,Wk];have:=GA l y;omega
  have HH:=zH hh;clear hh;go_enter func260,ntmps260
  go_wp2_with fail
  go_quiet (fail)
  go_wp2
  go_ret2
  refine ⟨?_,_,rfl⟩;rw [Nat.zero_mul,Re]
  rfl
 ·have g3:((h:Int) == 0)=false:=by rw [Ke];omega
  have g2:¬(y <= h):=by omega
  obtain ⟨b0,b1,b2⟩:=zB5 (y:=y) zO hy;have HL:=zH (fun w=>zEM (y:Int) w zO zO)
  rw [En] at HL;have hs:(64-(Lib.bitLen y:Int))=((64-Lib.bitLen y:Nat):Int):=by omega
  rw [hs] at HL;clear hs;revert HL b1 b2
  generalize hs:64-Lib.bitLen y=s;have hs64:s <= 64:=by omega
  clear hs b0;intro b1 b2 HL;obtain ⟨Y,hY⟩:=zEX (y*2^s);rw [<- hY] at b1 b2;have e1:vo.wrap ((y:Int)*2^s)=(Y:Int):=by
   rw [show ((y:Int)*2^s)=((y*2^s:Nat):Int) by rw [Vh,Xu];rfl,<- hY,Wk _ b2]
  obtain ⟨s1,s2,s3,s4⟩:=zCE hh hl hY hs64 b2;have e4:vo.wrap ((h:Int)*2^s)=((h*2^s:Nat):Int):=by
   rw [show ((h:Int)*2^s)=((h*2^s:Nat):Int) by rw [Vh,Xu];rfl,Wk _ s1]
  have e5:bits .or vo ((h*2^s:Nat):Int) ((l:Int) / 2^(64-s))=((h*2^s+l / 2^(64-s):Nat):Int):=by
   rw [show ((l:Int) / 2^(64-s))=((l / 2^(64-s):Nat):Int) by rw [Int.natCast_ediv,Xu];rfl]
   exact zFt _ _ _ hs64 s1 s2
  have e6:vo.wrap ((l:Int)*2^s)=((l*2^s%18446744073709551616:Nat):Int):=by
   rw [show ((l:Int)*2^s)=((l*2^s:Nat):Int) by rw [Vh,Xu];rfl,PY]
  have HR:Hid (∀ q1 r1 q0 r0,q1=((h*2^s+l / 2^(64-s))*4294967296+(l*2^s%18446744073709551616) / 4294967296) / Y ->
    r1=((h*2^s+l / 2^(64-s))*4294967296+(l*2^s%18446744073709551616) / 4294967296)%Y -> q0=(r1*4294967296+(l*2^s%18446744073709551616)%4294967296) / Y ->
    r0=(r1*4294967296+(l*2^s%18446744073709551616)%4294967296)%Y -> (h*18446744073709551616+l) / y=q1*4294967296+q0 /\ (h*18446744073709551616+l)%y=r0 / 2^s) :=
   fun q1 r1 q0 r0 f1 f2 f3 f4=>zCD hY zO s4 f1 f2 f3 f4
  clear s1 s2 s4;revert HR e4 e5 e6 s3
  generalize h*2^s=H;generalize H+l / 2^(64-s)=u;have hL:l*2^s%18446744073709551616<18446744073709551616:=Sc _ zO;revert hL
  generalize l*2^s%18446744073709551616=L;intro hL s3 e4 e5 e6 HR;have e7:(L:Int) / 4294967296=((L / 4294967296:Nat):Int):=rfl;have e8:=C7 L hL;have hc:L / 4294967296<4294967296:=by omega
  have hd:L%4294967296<4294967296:=by omega
  revert e7 e8 hc hd HR
  generalize L / 4294967296=c;generalize L%4294967296=d;intro HR e7 e8 hc hd;have e2:(Y:Int) / 4294967296=((Y / 4294967296:Nat):Int):=rfl;have e3:=C7 Y b2;have dN:2147483648 <= Y / 4294967296:=by omega
  have hb:Y%4294967296<4294967296:=by omega
  have yA:=zH (show Y=Y / 4294967296*4294967296+Y%4294967296 by omega)
  revert e2 e3 dN hb yA
  generalize Y / 4294967296=a;generalize Y%4294967296=b;intro e2 e3 dN hb yA;have HY:=zH hY;clear hY hL;have p1:(0:Int)<a:=by omega
  have p2:¬((a:Int)=0):=by omega
  have haT:a<4294967296:=by have:=yA.out;omega
  obtain ⟨Q1,v1,k0,k0a,rh0,U1,U2,U3,Nq,xl,hQ1,qi,og,af,xf,x1,x2,x3,x4,x5,x6,x7⟩:=PZ yA.out hb dN s3 hc b2;obtain ⟨Q0,v0,l0,l0a,rh1,V1,V2,V3,Ft,ru,hQ0,sB,bI,SI,hr0,y1,y2,y3,y4,y5,y6,y7⟩:=PZ yA.out hb dN xl hd b2;have HX:=zH (HR.out Q1 v1 Q0 v0 Nq.1 Nq.2 Ft.1 Ft.2);obtain ⟨R,hR⟩:=zEX (v0 / 2^s);obtain ⟨M1,lK⟩:=zEX (Q1*4294967296);obtain ⟨M,hM⟩:=zEX (M1+Q0);have z1:vo.wrap ((Q1:Int)*4294967296)=(M1:Int):=by rw [lK];exact YT Q1 4294967296 zO
  have z2:vo.wrap ((M1:Int)+Q0)=(M:Int):=by rw [hM];exact XT _ _ zO
  have z3:(v0:Int) / 2^s=(R:Int):=by rw [hR,Int.natCast_ediv,Xu];rfl
  rw [<- hR,<- lK,<- hM] at HX;clear hR lK hM;have bh:=zH hc;have oz:=zH hd;have Hb:=zH hb;have RG:=zH dN;have HaT:=zH haT;replace hQ1:=zH hQ1;replace hQ0:=zH hQ0;replace og:=zH og;replace bI:=zH bI;replace xf:=zH xf;replace hr0:=zH hr0;replace b1:=zH b1;replace b2:=zH b2;have xk1:vo.wrap (k0:Int)=k0:=Wk _ (zQ og.out);have xk0:vo.wrap (l0:Int)=l0:=Wk _ (zQ bI.out);clear hc hd hb dN haT;replace Nq:=zH Nq;replace Ft:=zH Ft;replace af:=zH af;replace SI:=zH SI;clear HR hl hy s3;rw [HX.out.1,HX.out.2];go_enter func260,ntmps260
  go_upto_block 0 with (go_at_call 296;refine (HL.out _).mono ?_;rintro e w1 ⟨rfl,rfl⟩)
  go_cut [15] (fun s15 wx=>s15=vd vo Q1 /\ w1=wx)
  case first =>
   go_wp2_with fail
   go_loop [15,16] (fun x z=>∃ k r:Nat,Hid (k*a <= u /\ r=u-k*a) /\ Q1 <= k /\ k <= 4294967297 /\ r<4294967296 /\ x=vd vo k /\ z=vd vo r)
    (fun x _=>(intOf x).toNat)
   case atStart=>exact ⟨_,_,af,qi,og.out,xf.out,rfl,rfl⟩
   case round =>
    obtain ⟨k,r,HK,i1,i2,i3,rfl,rfl⟩:=hrel;have I2:=zH i2;have I3:=zH i3;clear i2 i3;by_cases ya:Q1<k
    ·obtain ⟨k1,r1,m1,m2,og,xf⟩:=zAt (a:=a) HK.out ya I2.out I3.out RG.out HaT.out
     have HN:=zH (RX HK.out og xf ya);have HF:=zH (fun h1=>zAu yA.out Hb.out RG.out HK.out Nq.out.1 og xf ya I2.out h1)
     have qi:Q1 <= k1:=by omega
     have Kv:=zH (show k1 <= 4294967297 by have:=I2.out;omega)
     have hkd:k1<k:=by omega
     clear og xf;by_cases hB:4294967296 <= k
     ·have b1:¬((k:Int)<4294967296):=by omega
      by_cases hS:4294967296 <= r1
      ·have HS:=zH hS
       have RJ:decide ((4294967296:Int)<=r1)=true:=xc zO;have SJ:decide (4294967296 <= r1)=true:=xc zO;clear hS;go_wp2_with fail
       go_meet
       exact ⟨by rw [HF.out HS.out],rfl⟩
      ·have HS:=zH hS
       have RJ:decide ((4294967296:Int)<=r1)=false:=Xb zO;have SJ:decide (4294967296 <= r1)=false:=Xb zO;clear hS;go_wp2_with fail
       go_round
       case rel=>exact ⟨k1,r1,HN.out,qi,Kv.out,Nat.not_le.1 HS.out,rfl,rfl⟩
       case measure=>simp [intOf];omega
     ·have b2:(k:Int)<4294967296:=by omega
      obtain ⟨kb,r2,r3,n1,n2,n3,hT⟩:=BT yA.out Hb.out RG.out bh.out HK.out I3.out Nq.out.1 zO;have tK:r3<kb:=hT.2 ya;clear hT;by_cases hS:4294967296 <= r1
      ·have HS:=zH hS
       have RJ:decide ((4294967296:Int)<=r1)=true:=xc zO;have SJ:decide (4294967296 <= r1)=true:=xc zO;clear hS;go_wp2_with fail
       go_meet
       exact ⟨by rw [HF.out HS.out],rfl⟩
      ·have HS:=zH hS
       have RJ:decide ((4294967296:Int)<=r1)=false:=Xb zO;have SJ:decide (4294967296 <= r1)=false:=Xb zO;clear hS;go_wp2_with fail
       go_round
       case rel=>exact ⟨k1,r1,HN.out,qi,Kv.out,Nat.not_le.1 HS.out,rfl,rfl⟩
       case measure=>simp [intOf];omega
    ·have e:k=Q1:=by omega
     obtain ⟨kb,r2,r3,n1,n2,n3,hT⟩:=BT yA.out Hb.out RG.out bh.out HK.out I3.out Nq.out.1 (zQ hQ1.out);have tK:¬(r3<kb):=fun h=>ya (hT.1 h)
     have HE:=zH e;have hB:(k:Int)<4294967296:=by have:=hQ1.out;omega
     have d1:decide ((4294967296:Int)<=k)=false:=Xb zO;have d2:decide (4294967296 <= k)=false:=Xb zO;have f1:decide ((r3:Int)<kb)=false:=Xb zO;have f2:decide (r3<kb)=false:=Xb tK;clear hT e tK ya;go_wp2_with fail
     go_meet
     exact ⟨by rw [HE.out],rfl⟩
  case rest =>
   obtain ⟨rfl,rfl⟩:=hcut
   go_upto_block 2 with fail
   go_cut [18] (fun s15 wx=>s15=vd vo Q0 /\ w1=wx)
   case first =>
    go_wp2_with fail
    go_loop [18,16] (fun x z=>∃ k r:Nat,Hid (k*a <= v1 /\ r=v1-k*a) /\ Q0 <= k /\ k <= 4294967297 /\ r<4294967296 /\ x=vd vo k /\ z=vd vo r)
     (fun x _=>(intOf x).toNat)
    case atStart=>exact ⟨_,_,SI,sB,bI.out,hr0.out,rfl,rfl⟩
    case round =>
     obtain ⟨k,r,HK,i1,i2,i3,rfl,rfl⟩:=hrel;have I2:=zH i2;have I3:=zH i3;clear i2 i3;by_cases ya:Q0<k
     ·obtain ⟨k1,r1,m1,m2,og,xf⟩:=zAt (a:=a) HK.out ya I2.out I3.out RG.out HaT.out
      have HN:=zH (RX HK.out og xf ya);have HF:=zH (fun h1=>zAu yA.out Hb.out RG.out HK.out Ft.out.1 og xf ya I2.out h1)
      have qi:Q0 <= k1:=by omega
      have Kv:=zH (show k1 <= 4294967297 by have:=I2.out;omega)
      have hkd:k1<k:=by omega
      clear og xf;by_cases hB:4294967296 <= k
      ·have b1:¬((k:Int)<4294967296):=by omega
       by_cases hS:4294967296 <= r1
       ·have HS:=zH hS
        have RJ:decide ((4294967296:Int)<=r1)=true:=xc zO;have SJ:decide (4294967296 <= r1)=true:=xc zO;clear hS;go_wp2_with fail
        go_meet
        exact ⟨by rw [HF.out HS.out],rfl⟩
       ·have HS:=zH hS
        have RJ:decide ((4294967296:Int)<=r1)=false:=Xb zO;have SJ:decide (4294967296 <= r1)=false:=Xb zO;clear hS;go_wp2_with fail
        go_round
        case rel=>exact ⟨k1,r1,HN.out,qi,Kv.out,Nat.not_le.1 HS.out,rfl,rfl⟩
        case measure=>simp [intOf];omega
      ·have b2:(k:Int)<4294967296:=by omega
       obtain ⟨kb,r2,r3,n1,n2,n3,hT⟩:=BT yA.out Hb.out RG.out oz.out HK.out I3.out Ft.out.1 zO;have tK:r3<kb:=hT.2 ya;clear hT;by_cases hS:4294967296 <= r1
       ·have HS:=zH hS
        have RJ:decide ((4294967296:Int)<=r1)=true:=xc zO;have SJ:decide (4294967296 <= r1)=true:=xc zO;clear hS;go_wp2_with fail
        go_meet
        exact ⟨by rw [HF.out HS.out],rfl⟩
       ·have HS:=zH hS
        have RJ:decide ((4294967296:Int)<=r1)=false:=Xb zO;have SJ:decide (4294967296 <= r1)=false:=Xb zO;clear hS;go_wp2_with fail
        go_round
        case rel=>exact ⟨k1,r1,HN.out,qi,Kv.out,Nat.not_le.1 HS.out,rfl,rfl⟩
        case measure=>simp [intOf];omega
     ·have e:k=Q0:=by omega
      obtain ⟨kb,r2,r3,n1,n2,n3,hT⟩:=BT yA.out Hb.out RG.out oz.out HK.out I3.out Ft.out.1 (zQ hQ0.out);have tK:¬(r3<kb):=fun h=>ya (hT.1 h)
      have HE:=zH e;have hB:(k:Int)<4294967296:=by have:=hQ0.out;omega
      have d1:decide ((4294967296:Int)<=k)=false:=Xb zO;have d2:decide (4294967296 <= k)=false:=Xb zO;have f1:decide ((r3:Int)<kb)=false:=Xb zO;have f2:decide (r3<kb)=false:=Xb tK;clear hT e tK ya;go_wp2_with fail
      go_meet
      exact ⟨by rw [HE.out],rfl⟩
   case rest =>
    obtain ⟨rfl,rfl⟩:=hcut;go_wp2_with fail
    go_ret2
    exact ⟨rfl,0,rfl⟩
def xu (p:Nat) (n:Int) (l:List (Int × Nat)) (i:Nat):Bool :=
 decide ((l.getD i (0,0)).1<0)||decide (n <= (l.getD i (0,0)).1)||(decide (0<i)&&decide ((l.getD i (0,0)).1 <= (l.getD (i-1) (0,0)).1))||(l.getD i (0,0)).2 == 0||decide (p <= (l.getD i (0,0)).2)
def Cj (p:Nat) (n:Int) (l:List (Int × Nat)):Bool:=(List.range l.length).all fun i=>!xu p n l i
theorem BB {p:Nat} {n:Int} {l:List (Int × Nat)} {j:Nat} (hj:j<l.length) (h:xu p n l j=true):Cj p n l=false:=by
 unfold Cj;rw [uE];exact ⟨j,by simpa using hj,by simp [h]⟩
theorem P6 {p:Nat} {n:Int} {l:List (Int × Nat)} (h:∀ k<l.length,xu p n l k=false):Cj p n l=true:=by
 unfold Cj;rw [oh];intro k hk;simp [h k (by simpa using hk)]
theorem rV {f:Nat -> Bool} {j:Nat} (h:∀ k<j,f k=false) (hj:f j=false):∀ k<j+1,f k=false:=fun k hk=>by
 rcases Zj k j with h1 | h1
 ·exact h k h1
 ·have e:k=j:=by omega
  rw [e];exact hj
theorem RLin.at_ {w:vu} {b q:Nat} {l:List (Int × Nat)} (h:RdL w 2 JU (vD ⟨b,q,vB⟩) l) {i:Nat} (hi:i<l.length) :
  w.cell? ⟨b,q+i*2,vB⟩=vD (vd vq (l.getD i (0,0)).1) /\ w.cell? ⟨b,q+i*2+1,vB⟩=vD (vd vo ((l.getD i (0,0)).2:Int)):=by
 obtain ⟨cs,hl,hc,rfl,-,-⟩:=h.get hi;have h0:=hc 0 zO;have h1:=hc 1 zO;simp [hi] at h0 h1 |-
 exact ⟨h0,h1⟩
theorem LN (p:Nat) (n:Int) (A:Option vx) (len c:Nat) (l:List (Int × Nat)) (w:vu) (hl:RLin w [ve A len c] l) (_hp:p<18446744073709551616) :
  vA prog 272 #[vd vo p,ve A len c,vd vq n] w fun e w'=>e=vn (.bool (Cj p n l)) /\ vz w.1.size w w':=by
 obtain ⟨A',n',c',he,hlen,Nd,Be,Na⟩:=hl;simp at he
 obtain ⟨rfl,rfl,rfl⟩:=he;subst hlen;go_enter func272,ntmps272
 go_wp2_with fail
 go_loopw [7] (fun i wr=>∃ j:Nat,j <= l.length /\ i=vd vq j /\ vz w.1.size w wr /\ Hid (∀ k<j,xu p n l k=false))
  (fun i _=>l.length-(intOf i).toNat)
 case atStart=>exact ⟨0,Qb _,rfl,Kb _ _,fun k hk=>zO⟩
 case round =>
  obtain ⟨j,hj,rfl,hb,HB⟩:=hrel;by_cases ya:j<l.length
  ·have HL:=zH ya
   obtain ⟨b,q,rfl⟩:=Na.base zO zO;have iz:=Na.below JF hb;obtain ⟨c1,c2⟩:=RLin.at_ iz ya;have g0:(l.length:Int) <= 9223372036854775807:=by
    have h3:=Nd;have h4:=Be;simp [maxLen] at h4
    omega
   have g1:(0:Int)<=j:=by omega
   have g2:(j:Int)<l.length:=by omega
   have HD:Hid (xu p n l j=(decide ((l.getD j (0,0)).1<0)||decide (n <= (l.getD j (0,0)).1)||(decide (0<j)&&decide ((l.getD j (0,0)).1 <= (l.getD (j-1) (0,0)).1))||(l.getD j (0,0)).2 == 0||decide (p <= (l.getD j (0,0)).2))):=rfl
   have HC:=zH (fun (h0:0<j)=>(RLin.at_ iz (show j-1<l.length by omega)).1)
   revert c1 c2 HD HC
   generalize (l.getD j (0,0)).1=x;generalize (l.getD j (0,0)).2=y;generalize (l.getD (j-1) (0,0)).1=z;intro c1 c2 HD HC;clear Na iz;by_cases z1:x<0
   ·have d1:=xc z1
    go_wp2_with fail
    go_quiet (fail)
    go_wp2;go_ret
    exact ⟨by rw [BB HL.out (HD.out.trans (by simp [*]))];rfl,by first | exact mv hb _ | exact hb⟩
   ·have d1:=Xb z1
    by_cases z2:n <= x
    ·have d2:=xc z2
     go_wp2_with fail
     go_quiet (fail)
     go_wp2;go_ret
     exact ⟨by rw [BB HL.out (HD.out.trans (by simp [*]))];rfl,by first | exact mv hb _ | exact hb⟩
    ·have d2:=Xb z2
     rcases Jn j with z3 | z3
     ·subst z3
      simp only [Nat.zero_mul,Oo] at c1 c2;by_cases z4:y=0
      ·subst z4
       go_wp2_with fail
       go_quiet (fail)
       go_wp2;go_ret
       exact ⟨by rw [BB HL.out (HD.out.trans (by simp [*]))];rfl,by first | exact mv hb _ | exact hb⟩
      ·have d4:((y:Int) == 0)=false:=by rw [Ke];omega
       by_cases z5:p <= y
       ·have d5:decide ((p:Int)<=y)=true:=xc zO
        go_wp2_with fail
        go_quiet (fail)
        go_wp2;go_ret
        exact ⟨by rw [BB HL.out (HD.out.trans (by simp [*]))];rfl,by first | exact mv hb _ | exact hb⟩
       ·have d5:decide ((p:Int)<=y)=false:=Xb zO
        go_wp2_with fail
        go_quiet (fail)
        go_wp2
        go_roundw
        case rel=>exact ⟨0+1,zO,by go_num,by first | exact mv hb _ | exact hb,rV HB.out (HD.out.trans (by simp [*]))⟩
        case measure=>simp [intOf];omega
     ·have d3:decide ((0:Int)<j)=true:=xc zO
      have c3:=HC.out z3;have i1:(0:Int)<=j-1:=by omega
      have i2:(j:Int)-1<(l.length:Int):=by omega
      have i3:((j:Int)-1).toNat=j-1:=by omega
      by_cases z6:x <= z
      ·have d6:=xc z6
       go_wp2_with fail
       go_quiet (fail)
       go_wp2;go_ret
       exact ⟨by rw [BB HL.out (HD.out.trans (by simp [*]))];rfl,by first | exact mv hb _ | exact hb⟩
      ·have d6:=Xb z6
       by_cases z4:y=0
       ·subst z4
        go_wp2_with fail
        go_quiet (fail)
        go_wp2;go_ret
        exact ⟨by rw [BB HL.out (HD.out.trans (by simp [*]))];rfl,by first | exact mv hb _ | exact hb⟩
       ·have d4:((y:Int) == 0)=false:=by rw [Ke];omega
        by_cases z5:p <= y
        ·have d5:decide ((p:Int)<=y)=true:=xc zO
         go_wp2_with fail
         go_quiet (fail)
         go_wp2;go_ret
         exact ⟨by rw [BB HL.out (HD.out.trans (by simp [*]))];rfl,by first | exact mv hb _ | exact hb⟩
        ·have d5:decide ((p:Int)<=y)=false:=Xb zO
         go_wp2_with fail
         go_quiet (fail)
         go_wp2
         go_roundw
         case rel=>exact ⟨j+1,zO,by go_num,by first | exact mv hb _ | exact hb,rV HB.out (HD.out.trans (by simp [*]))⟩
         case measure=>simp [intOf];omega
  ·go_wp2
   go_ret
   have e:j=l.length:=by omega
   subst e;exact ⟨by rw [P6 HB.out];rfl,hb⟩
def slc (v:vw):Prop:=∃ A n c,v=ve A n c
theorem RSl.slc {α:Type} {R:vu -> List vw -> α -> Prop} {sz:Nat} {w:vu} {v:vw} {l:List α} (h:RSl sz R w [v] l):slc v:=by
 obtain ⟨A,n,c,e,-⟩:=h;simp at e
 exact ⟨A,n,c,e⟩
def Xc (p:Nat) (pub vars:Int) (rows:vw):vw:=vf #[vd vo p,vd vq pub,vd vq vars,rows]
def Cp (p:Nat) (n:Int) (r:sc):Bool:=Cj p n r.a&&Cj p n r.b&&Cj p n r.c
theorem WN {w w1:vu} {t1 t2:vy} {Qc Zc:Array vw} (hb:vz ((w.alloc (.cells Qc t1)).alloc (.cells Zc t2)).1.size ((w.alloc (.cells Qc t1)).alloc (.cells Zc t2)) w1) :
  Blk w1 w.1.size t1 Qc /\ Blk w1 (w.1.size+1) t2 Zc /\ vz w.1.size w w1:=by
 refine ⟨((Blk.new w t1 Qc).alloc _).below hb zT,?_,ta (((Kb _ w).alloc zR _).alloc zS _) hb⟩;have:=(Blk.new (w.alloc (.cells Qc t1)) t2 Zc).below hb zS
 simpa using this
theorem zAe (p:Nat) (pub vars:Int) (rows:vw) (r:sc) (x y z:vw) (w:vu) (hx:RLin w [x] r.a) (hy:RLin w [y] r.b) (hz:RLin w [z] r.c) (hp:p<18446744073709551616) :
  vA prog 206 #[Xc p pub vars rows,vf #[x,y,z]] w fun e w'=>e=vn (.bool (Cp p vars r)) /\ vz w.1.size w w':=by
 obtain ⟨A1,n1,c1,rfl⟩:=RSl.slc hx;obtain ⟨A2,n2,c2,rfl⟩:=RSl.slc hy;obtain ⟨A3,n3,c3,rfl⟩:=RSl.slc hz;unfold Xc;cases b1:Cj p vars r.a
 ·have E:=zH (show Cp p vars r=false by simp [Cp,b1])
  have B1:=zH b1;clear b1;go_enter func206,ntmps206
  go_wp2_with (first | (go_at_call 272;refine (LN p vars _ _ _ r.a _ (Ph _ _ _ _ (((Kb _ w).alloc zR _).alloc zS _) hx) hp).mono ?_;rintro e w1 ⟨rfl,hb⟩;rw [B1.out];obtain ⟨K1,K2,Oa⟩:=WN hb;have t0:w1.cell? ⟨w.1.size,0,vB⟩=vD (vd vo p):=K1.cell 0;have t2:w1.cell? ⟨w.1.size,2,vB⟩=vD (vd vq vars):=K1.cell 2;have y1:w1.cell? ⟨w.1.size+1,1,vB⟩=vD (ve A2 n2 c2):=K2.cell 1;have y2:w1.cell? ⟨w.1.size+1,2,vB⟩=vD (ve A3 n3 c3):=K2.cell 2;clear hb))
  go_ret
  exact ⟨by rw [E.out];rfl,Oa⟩
 have B1:=zH b1;cases b2:Cj p vars r.b
 ·have E:=zH (show Cp p vars r=false by simp [Cp,b1,b2])
  have B2:=zH b2;clear b1 b2;go_enter func206,ntmps206
  go_wp2_with (first | (go_at_call 272;refine (LN p vars _ _ _ r.b _ (Ph _ _ _ _ Oa hy) hp).mono ?_;rintro e w2 ⟨rfl,Fa⟩;rw [B2.out];clear t0 t2 y1 y2;have t0:w2.cell? ⟨w.1.size,0,vB⟩=vD (vd vo p):=(pa K1 Fa).cell 0;have t2:w2.cell? ⟨w.1.size,2,vB⟩=vD (vd vq vars):=(pa K1 Fa).cell 2;have y2:w2.cell? ⟨w.1.size+1,2,vB⟩=vD (ve A3 n3 c3):=(pa K2 Fa).cell 2) | (go_at_call 272;refine (LN p vars _ _ _ r.a _ (Ph _ _ _ _ (((Kb _ w).alloc zR _).alloc zS _) hx) hp).mono ?_;rintro e w1 ⟨rfl,hb⟩;rw [B1.out];obtain ⟨K1,K2,Oa⟩:=WN hb;have t0:w1.cell? ⟨w.1.size,0,vB⟩=vD (vd vo p):=K1.cell 0;have t2:w1.cell? ⟨w.1.size,2,vB⟩=vD (vd vq vars):=K1.cell 2;have y1:w1.cell? ⟨w.1.size+1,1,vB⟩=vD (ve A2 n2 c2):=K2.cell 1;have y2:w1.cell? ⟨w.1.size+1,2,vB⟩=vD (ve A3 n3 c3):=K2.cell 2;clear hb))
  go_ret
  exact ⟨by rw [E.out];rfl,ta Oa Fa⟩
 have B2:=zH b2;have E:=zH (show Cp p vars r=Cj p vars r.c by simp [Cp,b1,b2])
 clear b1 b2;go_enter func206,ntmps206
 go_wp2_with (first | (go_at_call 272;refine (LN p vars _ _ _ r.c _ (Ph _ _ _ _ (ta Oa Fa) hz) hp).mono ?_;rintro e w3 ⟨rfl,Ra⟩) | (go_at_call 272;refine (LN p vars _ _ _ r.b _ (Ph _ _ _ _ Oa hy) hp).mono ?_;rintro e w2 ⟨rfl,Fa⟩;rw [B2.out];clear t0 t2 y1 y2;have t0:w2.cell? ⟨w.1.size,0,vB⟩=vD (vd vo p):=(pa K1 Fa).cell 0;have t2:w2.cell? ⟨w.1.size,2,vB⟩=vD (vd vq vars):=(pa K1 Fa).cell 2;have y2:w2.cell? ⟨w.1.size+1,2,vB⟩=vD (ve A3 n3 c3):=(pa K2 Fa).cell 2) | (go_at_call 272;refine (LN p vars _ _ _ r.a _ (Ph _ _ _ _ (((Kb _ w).alloc zR _).alloc zS _) hx) hp).mono ?_;rintro e w1 ⟨rfl,hb⟩;rw [B1.out];obtain ⟨K1,K2,Oa⟩:=WN hb;have t0:w1.cell? ⟨w.1.size,0,vB⟩=vD (vd vo p):=K1.cell 0;have t2:w1.cell? ⟨w.1.size,2,vB⟩=vD (vd vq vars):=K1.cell 2;have y1:w1.cell? ⟨w.1.size+1,1,vB⟩=vD (ve A2 n2 c2):=K2.cell 1;have y2:w1.cell? ⟨w.1.size+1,2,vB⟩=vD (ve A3 n3 c3):=K2.cell 2;clear hb))
 go_ret
 exact ⟨by rw [E.out];rfl,ta (ta Oa Fa) Ra⟩
end Go.Proofs.YteoghgbnielkpaaGreat
