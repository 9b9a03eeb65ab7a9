/- A part of the proof. No condition. -/
import Derived.Test.YteoghgbnielkpaaGreatTH1
import Derived.ChangeOld
import Derived.Deep.Slices
import Derived.BigQuiet
import Derived.Deep.QuietTactic
import Derived.Shelf.Bits.Mul64
import Derived.Shelf.Small.Bits
import Derived.Shelf.Strconv.Itoa0
import Derived.Deep.CutBlock
import Derived.Deep.DeepCutAuto
import Derived.Lib.ItoaNum
import Derived.Outline

set_option maxRecDepth 100000
set_option maxHeartbeats 8000000
set_option linter.unusedVariables false
set_option linter.unusedSimpArgs false
namespace Go.Proofs.YteoghgbnielkpaaGreat
open Go.RowKit
open Tryz
open Go renaming World->vw, Value->vx, Addr->vy, TypeId->vz, Calls->vB
open Go.Value renaming int->vd, slice->ve, agg->vf
open Go.IntKind renaming u64->vn, i64->vq
open Go.Ending renaming returned->vl
open Go.RowKit renaming Below->vA
open Option renaming none->vD, some->vE
section
open Go.ChangeShapes Go.WideShapes Go.ChangeAt
def Fits (P:Program) (w:vw) (t:vz) (cs:List vx):Prop :=
 ∃ (H:Type) (enc:vz × vx -> H) (base:Nat) (spare:Nat -> Bool) (held:Bool) (fuel:Nat) (x:DataW H × List MemPlace),DataW.trod enc P w base spare held fuel t cs=vE x
section
variable {P:Program} {w:vw} {t e:vz} {cs:List vx}
theorem Fits.of_trod {H:Type} {enc:vz × vx -> H} {base:Nat} {spare:Nat -> Bool} {held:Bool} {v:vx} {d:DataW H} {ps:List MemPlace} (h:DataW.Trod enc P w base spare held t v d ps):Fits P w t v.cells.toList:=by
 obtain ⟨fuel,hf⟩:=h;exact ⟨H,enc,base,spare,held,fuel,_,hf⟩
theorem VX {k:IntKind} (ht:P.underlying t=vE (.int k)) (h:Fits P w t cs):∃ n,cs=[.int k n] /\ (Lit.int k n).wf=true:=by
 obtain ⟨H,enc,base,spare,held,fuel,x,hf⟩:=h;obtain ⟨n,h1,_,h3⟩:=DataW.trod_int ht hf;exact ⟨n,h1,h3⟩
theorem nL (ht:P.underlying t=vE (.int vn)) (h:Fits P w t cs):∃ n:Nat,cs=[vd vn n] /\ n<18446744073709551616:=by
 obtain ⟨n,rfl,hw⟩:=VX ht h;have hx:0 <= n /\ n <= 18446744073709551615:=by simpa [Lit.wf,IntKind.min,IntKind.max,IntKind.signed,IntKind.bits] using hw
 obtain ⟨m,rfl⟩:=Kk hx.1;exact ⟨m,rfl,by omega⟩
theorem lJ (ht:P.underlying t=vE (.int vq)) (h:Fits P w t cs):∃ n:Int,cs=[vd vq n] /\ -9223372036854775808 <= n /\ n <= 9223372036854775807:=by
 obtain ⟨n,rfl,hw⟩:=VX ht h;have hx:-9223372036854775808 <= n /\ n <= 9223372036854775807:=by simpa [Lit.wf,IntKind.min,IntKind.max,IntKind.signed,IntKind.bits] using hw
 exact ⟨n,rfl,hx⟩
theorem zBx (ht:P.underlying t=vE .bool) (h:Fits P w t cs):∃ b,cs=[.bool b]:=by
 obtain ⟨H,enc,base,spare,held,fuel,x,hf⟩:=h;cases fuel with
 | zero=>simp [DataW.trod] at hf
 | succ n =>
  unfold DataW.trod at hf;rw [ht] at hf;split at hf <;> simp_all
theorem WX (ht:P.underlying t=vE (.slice e)) (h:Fits P w t cs):∃ A n c,cs=[ve A n c] /\ n <= c /\ c <= maxLen /\
  ∀ i,i<n -> ∃ a Hj,A=vE a /\ Hj.length=P.cellsOf e /\ (∀ j,j<P.cellsOf e -> w.cell? (a.add (i*P.cellsOf e+j))=Hj[j]?) /\ Fits P w e Hj:=by
 obtain ⟨H,enc,base,spare,held,fuel,x,hf⟩:=h;rcases Deep.open_slice ht hf with ⟨rfl,_⟩ | ⟨a,len,cap,m,k,D,Pl,rfl,hb,hl,hm,hmm,hx,hi⟩
 ·exact ⟨vD,0,0,rfl,zR,by simp [maxLen],fun i h=>absurd h (by omega)⟩
 ·refine ⟨vE a,len,cap,rfl,hl,hm,fun i Kc=>?_⟩
  have XB:i<m:=by rw [hmm];split <;> omega
  obtain ⟨Hj,hc,ht'⟩:=hi i XB;obtain ⟨_,Mh,zm⟩:=World.cells?_some hc;exact ⟨a,Hj,rfl,Mh,fun j hj=>by rw [<- OQ];exact zm j hj,H,enc,base,spare,held,k,_,ht'⟩
theorem XX {fs:Array Field} (ht:P.underlying t=vE (.struct fs)) (h:Fits P w t cs):cs.length=P.cellsOf t /\
  ∀ (i:Nat) (f:Field),fs[i]?=vE f -> Fits P w f.type ((cs.drop f.offset).take (P.cellsOf f.type)):=by
 obtain ⟨H,enc,base,spare,held,fuel,x,hf⟩:=h;obtain ⟨xs,n,_,_,hl,DC,hi⟩:=DataW.trod_struct ht hf;refine ⟨hl,fun i f hif=>?_⟩
 have ra:i<xs.length:=by rw [DC];exact (Pu.1 hif).1
 exact ⟨H,enc,base,spare,held,n,_,(hi i f hif).trans (oc ra)⟩
theorem SW {p:Nat -> Nat -> Prop}:∀ n,(∀ i,i<n -> ∃ u,p i u) -> ∃ l:List Nat,l.length=n /\ ∀ i (h:i<l.length),p i l[i]
 | 0,_=>⟨[],rfl,fun i h=>by simp at h⟩
 | n+1,h=>by
  obtain ⟨l,hl,hp⟩:=SW n fun i hi=>h i (by omega)
  obtain ⟨u,hu⟩:=h n (by omega)
  refine ⟨l++[u],by simp [hl],fun i hx=>?_⟩
  simp at hx
  by_cases h1:i<l.length
  ·rw [Tu h1]
   exact hp i h1
  ·rw [PD (by omega)]
   have:i=n:=by omega
   subst this;simp [hl]
   exact hu
theorem zBC (ht:P.underlying t=vE (.slice e)) (he:P.underlying e=vE (.int vn)) (hc:P.cellsOf e=1) (h:Fits P w t cs) :
  ∃ A n c l,cs=[ve A n c] /\ n <= c /\ c <= maxLen /\ Rd w 1 A n (Ia l) /\ ∀ x∈l,x<18446744073709551616:=by
 obtain ⟨A,n,c,rfl,h1,h2,hi⟩:=WX ht h;have FE:∀ i,i<n -> ∃ u:Nat,u<18446744073709551616 /\ ∃ a,A=vE a /\ w.cell? (a.add i)=vE (vd vn u):=by
  intro i Kc;obtain ⟨a,Hj,rfl,hl,Qs,hf⟩:=hi i Kc;obtain ⟨u,rfl,hu⟩:=nL he hf;have:=Qs 0 (by omega)
  rw [hc,Yr,Nat.add_zero] at this;exact ⟨u,hu,a,rfl,by simpa using this⟩
 obtain ⟨l,hl,hp⟩:=SW n FE;refine ⟨A,n,c,l,rfl,h1,h2,⟨by rw [So,hl,Yr],fun hn=>?_⟩,fun x hx=>?_⟩
 ·obtain ⟨_,a,ha,_⟩:=hp 0 (by omega)
  refine ⟨a,ha,fun j u hu=>?_⟩
  have hj:j<l.length:=by
   rcases Hg j l.length with h | h
   ·exact h
   ·rw [Xr (by rw [So];exact h)] at hu;cases hu
  obtain ⟨_,a',Ho,zn⟩:=hp j hj;rw [ha] at Ho
  injection Ho with Ho
  subst Ho;rw [YD hj] at hu
  injection hu with hu
  rw [zn,hu]
 ·obtain ⟨j,hj,rfl⟩:=uo hx
  exact (hp j hj).1
end
end
def RdL {α:Type} (w:vw) (sz:Nat) (R:vw -> List vx -> α -> Prop) (A:Option vy) (l:List α):Prop :=
 ∀ (i:Nat) (hi:i<l.length),∃ a cs,A=vE a /\ cs.length=sz /\ (∀ j,j<sz -> w.cell? (a.add (i*sz+j))=cs[j]?) /\ R w cs l[i]
def dB {α:Type} (R:vw -> List vx -> α -> Prop):Prop:=∀ (w w':vw) (cs:List vx) (x:α),vA w.1.size w w' -> R w cs x -> R w' cs x
def RSl {α:Type} (sz:Nat) (R:vw -> List vx -> α -> Prop) (w:vw) (cs:List vx) (l:List α):Prop :=
 ∃ A n c,cs=[ve A n c] /\ l.length=n /\ n <= c /\ c <= maxLen /\ RdL w sz R A l
def RWd (w:vw) (cs:List vx) (l:List Nat):Prop :=
 ∃ A n c,cs=[ve A n c] /\ n <= c /\ c <= maxLen /\ Rd w 1 A n (Ia l) /\ ∀ x∈l,x<18446744073709551616
section
variable {α:Type} {R:vw -> List vx -> α -> Prop} {sz:Nat} {w w':vw} {A:Option vy} {l:List α}
theorem RdL.below (h:RdL w sz R A l) (hR:dB R) (hb:vA w.1.size w w'):RdL w' sz R A l:=fun i hi=>by
 obtain ⟨a,cs,e,hl,hc,hr⟩:=h i hi;refine ⟨a,cs,e,hl,fun j hj=>?_,hR _ _ _ _ hb hr⟩
 have AE:=hc j hj;rw [oc (by omega)] at AE |-
 exact (hb.cell (mf _ _ AE)).trans AE
theorem Dg (hR:dB R):dB (RSl sz R):=fun w w' cs l hb h=>by
 obtain ⟨A,n,c,e,h1,h2,h3,h4⟩:=h;exact ⟨A,n,c,e,h1,h2,h3,h4.below hR hb⟩
theorem dI:dB RWd:=fun w w' cs l hb h=>by
 obtain ⟨A,n,c,e,h1,h2,h3,h4⟩:=h;exact ⟨A,n,c,e,h1,h2,h3.below hb,h4⟩
theorem Bb {w w1:vw} {v:List vx} {l:List Nat} (h:vA w.1.size w w1) (r:RWd w v l):RWd w1 v l:=dI _ _ _ _ h r
theorem RdL.at_ (h:RdL w sz R A l) (tb:0<sz) {i:Nat} (hi:i<l.length) :
  ∃ a b q cs,A=vE a /\ a.add (i*sz)=⟨b,q,vD⟩ /\ cs.length=sz /\ (∀ j,j<sz -> w.cell? ⟨b,q+j,vD⟩=cs[j]?) /\ R w cs l[i]:=by
 obtain ⟨a,cs,e,hl,hc,hr⟩:=h i hi;have h0:=hc 0 tb;rw [Nat.add_zero,oc (by omega)] at h0
 obtain ⟨b,q,hq⟩:∃ b q,a.add (i*sz)=⟨b,q,vD⟩:=by
  have hs:=World.cell?_spot h0;generalize a.add (i*sz)=x at hs;obtain ⟨b,q,s⟩:=x;simp at hs
  subst hs;exact ⟨b,q,rfl⟩
 refine ⟨a,b,q,cs,e,hq,hl,fun j hj=>?_,hr⟩
 have:=hc j hj;rw [<- OQ,hq] at this;rw [<- this];unfold Addr.add;split <;> simp_all
end
section
variable {P:Program} {w:vw} {t e:vz} {cs:List vx}
theorem TW {α:Type} {p:Nat -> α -> Prop}:∀ n,(∀ i,i<n -> ∃ u,p i u) -> ∃ l:List α,l.length=n /\ ∀ i (h:i<l.length),p i l[i]
 | 0,_=>⟨[],rfl,fun i h=>by simp at h⟩
 | n+1,h=>by
  obtain ⟨l,hl,hp⟩:=TW n fun i hi=>h i (by omega)
  obtain ⟨u,hu⟩:=h n (by omega)
  refine ⟨l++[u],by simp [hl],fun i hx=>?_⟩
  simp at hx
  by_cases h1:i<l.length
  ·rw [Tu h1]
   exact hp i h1
  ·rw [PD (by omega)]
   have:i=n:=by omega
   subst this;simp [hl]
   exact hu
theorem UX {α:Type} {R:vw -> List vx -> α -> Prop} (sz:Nat) (ht:P.underlying t=vE (.slice e)) (hc:P.cellsOf e=sz)
  (ho:∀ Hj,Hj.length=sz -> Fits P w e Hj -> ∃ x,R w Hj x) (h:Fits P w t cs):∃ l,RSl sz R w cs l:=by
 obtain ⟨A,n,c,rfl,h1,h2,hi⟩:=WX ht h;rw [hc] at hi;have:∀ i,i<n -> ∃ x,∃ a Hj,A=vE a /\ Hj.length=sz /\ (∀ j,j<sz -> w.cell? (a.add (i*sz+j))=Hj[j]?) /\ R w Hj x:=by
  intro i Kc;obtain ⟨a,Hj,e,hl,Qs,hf⟩:=hi i Kc;obtain ⟨x,hx⟩:=ho Hj hl hf;exact ⟨x,a,Hj,e,hl,Qs,hx⟩
 obtain ⟨l,hl,hp⟩:=TW n this;exact ⟨l,A,n,c,rfl,hl,h1,h2,fun i hi=>hp i hi⟩
theorem zBv (ht:P.underlying t=vE (.slice e)) (he:P.underlying e=vE (.int vn)) (hc:P.cellsOf e=1) (h:Fits P w t cs):∃ l,RWd w cs l:=by
 obtain ⟨A,n,c,l,rfl,h1,h2,h3,h4⟩:=zBC ht he hc h;exact ⟨l,A,n,c,rfl,h1,h2,h3,h4⟩
theorem ym {fs:Array Field} {f:Field} {i k n:Nat} (ht:P.underlying t=vE (.struct fs)) (hf:fs[i]?=vE f) (ho:f.offset=k) (hn:P.cellsOf f.type=n) (h:Fits P w t cs):Fits P w f.type ((cs.drop k).take n):=by
 have:=(XX ht h).2 i f hf;rw [ho,hn] at this;exact this
end
def DQ (_w:vw) (cs:List vx) (x:Int × Nat):Prop:=cs=[vd vq x.1,vd vn x.2] /\ (-9223372036854775808 <= x.1 /\ x.1 <= 9223372036854775807) /\ x.2<18446744073709551616
theorem lF:dB DQ:=fun _ _ _ _ _ h=>h
def RLin:vw -> List vx -> List (Int × Nat) -> Prop:=RSl 2 DQ
theorem gh:dB RLin:=Dg lF
structure Ya where
 a:List (Int × Nat)
 b:List (Int × Nat)
 c:List (Int × Nat)
def oe (w:vw) (cs:List vx) (r:Ya):Prop:=∃ x y z,cs=[x,y,z] /\ RLin w [x] r.a /\ RLin w [y] r.b /\ RLin w [z] r.c
theorem Bg:dB oe:=fun w w' cs r hb h=>by
 obtain ⟨x,y,z,e,h1,h2,h3⟩:=h;exact ⟨x,y,z,e,gh _ _ _ _ hb h1,gh _ _ _ _ hb h2,gh _ _ _ _ hb h3⟩
structure TabR where
 p:Nat
 pub:Int
 vars:Int
 rows:List Ya
def RTab (w:vw) (cs:List vx) (t:TabR):Prop:=∃ x,cs=[vd vn t.p,vd vq t.pub,vd vq t.vars,x] /\ t.p<18446744073709551616 /\
 (-9223372036854775808 <= t.pub /\ t.pub <= 9223372036854775807) /\ (-9223372036854775808 <= t.vars /\ t.vars <= 9223372036854775807) /\ RSl 3 oe w [x] t.rows
theorem XK:prog.cellsOf 22=1:=by kernel_rfl
theorem SG:prog.cellsOf 3=1:=by kernel_rfl
theorem zAi:prog.cellsOf 4=1:=by kernel_rfl
theorem zAq:prog.cellsOf 28=1:=by kernel_rfl
theorem cR:prog.cellsOf 206=1:=by kernel_rfl
theorem zAp:prog.cellsOf 208=2:=by kernel_rfl
theorem zAm:prog.cellsOf 211=3:=by kernel_rfl
theorem zAn:prog.cellsOf 23=1:=by kernel_rfl
theorem zAo:prog.cellsOf 25=4:=by kernel_rfl
theorem TR {w:vw} {cs:List vx} (h:Fits prog w 206 cs):∃ l,RLin w cs l :=
 UX 2 underlying206 zAp (fun Hj hl hf=>by
  match Hj,hl with
  | [x,y],_ =>
   obtain ⟨a,ha,ja⟩:=lJ nx (ym (i:=0) underlying208 rfl rfl SG hf);obtain ⟨b,hb,Gb⟩:=nL underlying22 (ym (i:=1) underlying208 rfl rfl XK hf);simp at ha hb
   exact ⟨(a,b),by rw [ha,hb],ja,Gb⟩) h
theorem zBt {w:vw} {cs:List vx} (hl:cs.length=3) (h:Fits prog w 211 cs):∃ r,oe w cs r:=by
 match cs,hl with
 | [x,y,z],_ =>
  obtain ⟨a,ha⟩:=TR (ym (i:=0) underlying211 rfl rfl cR h);obtain ⟨b,hb⟩:=TR (ym (i:=1) underlying211 rfl rfl cR h);obtain ⟨c,hc⟩:=TR (ym (i:=2) underlying211 rfl rfl cR h);exact ⟨⟨a,b,c⟩,x,y,z,rfl,ha,hb,hc⟩
theorem zBu {w:vw} {cs:List vx} (hl:cs.length=4) (h:Fits prog w 25 cs):∃ t,RTab w cs t:=by
 match cs,hl with
 | [x,y,z,r],_ =>
  obtain ⟨a,ha,ja⟩:=nL underlying22 (ym (i:=0) underlying25 rfl rfl XK h);obtain ⟨b,hb,Gb⟩:=lJ nx (ym (i:=1) underlying25 rfl rfl SG h);obtain ⟨c,hc,Mh⟩:=lJ nx (ym (i:=2) underlying25 rfl rfl SG h);obtain ⟨rs,hr⟩:=UX 3 (R:=oe) underlying23 zAm (fun Hj hl' hf=>zBt hl' hf) (ym (i:=3) underlying25 rfl rfl zAn h)
  simp at ha hb hc
  exact ⟨⟨a,b,c,rs⟩,r,by rw [ha,hb,hc],ja,Gb,Mh,hr⟩
def Ib (p:Nat):Bool:=p == 17||p == 97||p == 193||p == 257||p == 12289||p == 65537||p == 18446744069414584321
theorem Bt {p:Nat} (h:Ib p=true):p=17 \/ p=97 \/ p=193 \/ p=257 \/ p=12289 \/ p=65537 \/ p=18446744069414584321:=by
 simp [Ib] at h
 omega
def Mb (p:Nat):Nat × Nat × Nat :=
 if p=17 then (3,4,3) else
 if p=97 then (5,5,5) else
 if p=193 then (5,6,5) else
 if p=257 then (3,8,3) else
 if p=12289 then (11,12,5) else
 if p=65537 then (3,16,3) else
 if p=18446744069414584321 then (7,32,7) else
 (0,0,0)
def rM (p:Nat):vx:=vf #[vd vn ((Mb p).1:Int),vd vn ((Mb p).2.1:Int),vd vn ((Mb p).2.2:Int)]
theorem u6 (p:Nat) (w:vw) (_hp:p<18446744073709551616) :
  vB prog 233 #[vd vn p] w fun e w'=>e=vl (rM p) /\ vA w.1.size w w':=by
 by_cases h0:p=17
 ·subst h0
  go_enter func233,ntmps233
  go_wp2_with fail
  exact ed (v:=vf #[vd vn 3,vd vn 4,vd vn 3]) (by simp [results,results233,go_sem]) rfl ⟨rfl,(za _ _).alloc zR _⟩
 by_cases h1:p=97
 ·subst h1
  go_enter func233,ntmps233
  go_wp2_with fail
  exact ed (v:=vf #[vd vn 5,vd vn 5,vd vn 5]) (by simp [results,results233,go_sem]) rfl ⟨rfl,(za _ _).alloc zR _⟩
 by_cases h2:p=193
 ·subst h2
  go_enter func233,ntmps233
  go_wp2_with fail
  exact ed (v:=vf #[vd vn 5,vd vn 6,vd vn 5]) (by simp [results,results233,go_sem]) rfl ⟨rfl,(za _ _).alloc zR _⟩
 by_cases h3:p=257
 ·subst h3
  go_enter func233,ntmps233
  go_wp2_with fail
  exact ed (v:=vf #[vd vn 3,vd vn 8,vd vn 3]) (by simp [results,results233,go_sem]) rfl ⟨rfl,(za _ _).alloc zR _⟩
 by_cases h4:p=12289
 ·subst h4
  go_enter func233,ntmps233
  go_wp2_with fail
  exact ed (v:=vf #[vd vn 11,vd vn 12,vd vn 5]) (by simp [results,results233,go_sem]) rfl ⟨rfl,(za _ _).alloc zR _⟩
 by_cases h5:p=65537
 ·subst h5
  go_enter func233,ntmps233
  go_wp2_with fail
  exact ed (v:=vf #[vd vn 3,vd vn 16,vd vn 3]) (by simp [results,results233,go_sem]) rfl ⟨rfl,(za _ _).alloc zR _⟩
 by_cases h6:p=18446744069414584321
 ·subst h6
  go_enter func233,ntmps233
  go_wp2_with fail
  exact ed (v:=vf #[vd vn 7,vd vn 32,vd vn 7]) (by simp [results,results233,go_sem]) rfl ⟨rfl,(za _ _).alloc zR _⟩
 have d0:((p:Int) == 17)=false:=by rw [pd];omega
 have d1:((p:Int) == 97)=false:=by rw [pd];omega
 have d2:((p:Int) == 193)=false:=by rw [pd];omega
 have d3:((p:Int) == 257)=false:=by rw [pd];omega
 have d4:((p:Int) == 12289)=false:=by rw [pd];omega
 have d5:((p:Int) == 65537)=false:=by rw [pd];omega
 have d6:((p:Int) == 18446744069414584321)=false:=by rw [pd];omega
 have HR:=zH (show rM p=vf #[vd vn 0,vd vn 0,vd vn 0] by simp [rM,Mb, *])
 clear h0 h1 h2 h3 h4 h5 h6;go_enter func233,ntmps233
 go_wp2_with fail
 exact ed (v:=vf #[vd vn 0,vd vn 0,vd vn 0]) (by simp [results,results233,go_sem]) rfl ⟨by rw [HR.out],(za _ _).alloc zR _⟩
theorem zFl (p:Nat):decide (0<(Mb p).1)=Ib p:=by
 by_cases h:Ib p=true
 ·rcases Bt h with rfl | rfl | rfl | rfl | rfl | rfl | rfl <;> rfl
 ·have h':=h
  simp [Ib] at h'
  simp [Mb,h',h]
theorem pn (b q k:Nat):(⟨b,q,vD⟩:vy).add k=⟨b,q+k,vD⟩:=by
 unfold Addr.add;split
 ·subst_vars;rfl
 ·rfl
theorem RdL.base {α:Type} {R:vw -> List vx -> α -> Prop} {sz:Nat} {w:vw} {A:Option vy} {l:List α} (h:RdL w sz R A l) (tb:0<sz) (hl:0<l.length):∃ b q,A=vE ⟨b,q,vD⟩:=by
 obtain ⟨a,b,q,cs,rfl,hq,-⟩:=h.at_ tb hl;refine ⟨b,q,?_⟩;rw [<- hq];simp [Addr.add]
theorem RdL.get {α:Type} {R:vw -> List vx -> α -> Prop} {sz:Nat} {w:vw} {b q:Nat} {l:List α} (h:RdL w sz R (vE ⟨b,q,vD⟩) l) {i:Nat} (hi:i<l.length) :
  ∃ cs,cs.length=sz /\ (∀ j,j<sz -> w.cell? ⟨b,q+i*sz+j,vD⟩=cs[j]?) /\ R w cs l[i]:=by
 obtain ⟨a,cs,e,hl,hc,hr⟩:=h i hi
 injection e with e
 subst e;refine ⟨cs,hl,fun j hj=>?_,hr⟩
 rw [<- hc j hj,pn,Nat.add_assoc]
theorem sM {P:Program} {w:vw} {t e:vz} {n:Nat} {cs:Array vx} {v:vx} {i:Nat} (h:P.underlying t=vE (.array n e)) (hs:((isAgg e).run P w)= .ok false w) (hz:((sizeOf e).run P w)= .ok 1 w) (hi:i<n) (hv:cs[i]?=vE v) :
  (Instr.index t (vf cs) (vd vq i)).run P w= .ok v w:=by
 have h1:(0:Int)<=i /\ (i:Int)<n:=by omega
 simp [Instr.index,run_underlying h,asIntOf,h1,hi,hz,hs,hv,part,Result.andThen]
theorem QQ {w:vw}:((isAgg 22).run prog w)= .ok false w:=by simp [isAgg,run_underlying underlying22]
theorem TU {w:vw}:((sizeOf 22).run prog w)= .ok 1 w:=by
 obtain ⟨i0,hi,sj,Nd,Bf⟩:=info_parts GY;simp [sizeOf,typeInfo,hi,Nd]
theorem zB5 {w:vw} {a b c:vx}:(Instr.index 298 (vf #[a,b,c]) (vd vq 0)).run prog w= .ok a w :=
 sM (i:=0) underlying298 QQ TU (by omega) rfl
theorem Ju (p:Nat) (w:vw) (hp:p<18446744073709551616) :
  vB prog 152 #[vd vn p] w fun e w'=>e=vl (.bool (Ib p)) /\ vA w.1.size w w':=by
 have HO:=zH (zFl p);have HR:=zH (u6 p w hp);unfold rM at HR;revert HO HR
 generalize (Mb p).1=a;generalize (Mb p).2.1=b;generalize (Mb p).2.2=c;intro HO HR;go_enter func152,ntmps152
 go_wp2_with (go_at_call 233;refine HR.out.mono ?_;rintro e w1 ⟨rfl,hb⟩)
 rw [zB5,Result.andThen,Oper.upon_value];go_wp2;go_ret
 exact ⟨by rw [<- HO.out];rfl,hb⟩
def ren264:Go.Shelf.Ren:=⟨fun | 264=>259 | n=>n,fun | 46=>338 | 53=>22 | n=>n,fun n=>n⟩
theorem zCu:Go.Proofs.Lays.n264 prog ren264:={ mixed:=by kernel_rfl,f264:=by kernel_rfl,t46:=by kernel_rfl,a46:=fun _=>by kernel_rfl,z46:=fun _=>by kernel_rfl,v46:=fun _=>by kernel_rfl,t53:=by kernel_rfl,a53:=fun _=>by kernel_rfl,z53:=fun _=>by kernel_rfl,v53:=fun _=>by kernel_rfl }
theorem GZ (x y:Nat) (w:vw) (hx:x<18446744073709551616) (hy:y<18446744073709551616) :
  vB prog 259 #[vd vn x,vd vn y] w fun e w'=>e=vl (.tuple #[vd vn ((x*y / 18446744073709551616:Nat):Int),vd vn ((x*y%18446744073709551616:Nat):Int)]) /\ w'=w :=
 Any.bits_Mul64 zCu x y hx hy w
def ren134:Go.Shelf.Ren:=⟨fun | 129=>298 | 134=>296 | n=>n,fun | 3=>3 | 4=>4 | 5=>5 | 9=>9 | 46=>338 | 53=>22 | n=>n,fun n=>n⟩
theorem zCs:Go.Proofs.Lays.n134 prog ren134:={ mixed:=by kernel_rfl,f129:=by kernel_rfl,f134:=by kernel_rfl,t3:=by kernel_rfl,a3:=fun _=>by kernel_rfl,z3:=fun _=>by kernel_rfl,v3:=fun _=>by kernel_rfl,t4:=by kernel_rfl,a4:=fun _=>by kernel_rfl,z4:=fun _=>by kernel_rfl,v4:=fun _=>by kernel_rfl,t5:=by kernel_rfl,a5:=fun _=>by kernel_rfl,z5:=fun _=>by kernel_rfl,v5:=fun _=>by kernel_rfl,t9:=by kernel_rfl,a9:=fun _=>by kernel_rfl,z9:=fun _=>by kernel_rfl,v9:=fun _=>by kernel_rfl,t46:=by kernel_rfl,a46:=fun _=>by kernel_rfl,z46:=fun _=>by kernel_rfl,v46:=fun _=>by kernel_rfl,t53:=by kernel_rfl,a53:=fun _=>by kernel_rfl,z53:=fun _=>by kernel_rfl,v53:=fun _=>by kernel_rfl }
theorem zCH (x:Int) (w:vw) (h0:0 <= x) (h1:x <= 18446744073709551615) :
  vB prog 296 #[vd vn x] w fun e w'=>e=vl (vd vq (64-(Lib.bitLen x.toNat:Int))) /\ w'=w:=Any.bits_LeadingZeros64 zCs x w h0 h1
def ren125:Go.Shelf.Ren:=⟨fun | 125=>267 | 128=>297 | 129=>298 | n=>n,fun | 3=>3 | 4=>4 | 5=>5 | 9=>9 | 46=>338 | 51=>107 | 53=>22 | n=>n,fun n=>n⟩
theorem zCr:Go.Proofs.Lays.n125 prog ren125:={ mixed:=by kernel_rfl,f125:=by kernel_rfl,f128:=by kernel_rfl,f129:=by kernel_rfl,t3:=by kernel_rfl,a3:=fun _=>by kernel_rfl,z3:=fun _=>by kernel_rfl,v3:=fun _=>by kernel_rfl,t4:=by kernel_rfl,a4:=fun _=>by kernel_rfl,z4:=fun _=>by kernel_rfl,v4:=fun _=>by kernel_rfl,t5:=by kernel_rfl,a5:=fun _=>by kernel_rfl,z5:=fun _=>by kernel_rfl,v5:=fun _=>by kernel_rfl,t9:=by kernel_rfl,a9:=fun _=>by kernel_rfl,z9:=fun _=>by kernel_rfl,v9:=fun _=>by kernel_rfl,t46:=by kernel_rfl,a46:=fun _=>by kernel_rfl,z46:=fun _=>by kernel_rfl,v46:=fun _=>by kernel_rfl,t51:=by kernel_rfl,a51:=fun _=>by kernel_rfl,z51:=fun _=>by kernel_rfl,v51:=fun _=>by kernel_rfl,t53:=by kernel_rfl,a53:=fun _=>by kernel_rfl,z53:=fun _=>by kernel_rfl,v53:=fun _=>by kernel_rfl }
theorem zCv (x:Int) (w:vw) (h0:0 <= x) (h1:x <= 18446744073709551615) :
  vB prog 267 #[vd vn x] w fun e w'=>e=vl (vd vq (Lib.bitLen x.toNat)) /\ w'=w:=Any.bits_Len zCr x w h0 h1
theorem zAO {u v y Vl It:Nat} (hy:y=Vl*4294967296+It) (hn:It<4294967296) (h1:2147483648 <= Vl) (hu:u<y) (hv:v<4294967296) :
  (u*4294967296+v) / y <= u / Vl /\ u / Vl <= 4294967297 /\ (u*4294967296+v) / y<4294967296:=by
 refine ⟨?_,?_,?_⟩
 ·rw [Nat.le_div_iff_mul_le (by omega)]
  have h2:(u*4294967296+v) / y*y <= u*4294967296+v:=Nat.div_mul_le_self _ _;generalize (u*4294967296+v) / y=q at *;have h3:q*y=q*Vl*4294967296+q*It:=by rw [hy,Nat.mul_add,Nat.mul_assoc]
  omega
 ·have:u<(4294967298)*Vl:=by omega
  have:=(Nat.div_lt_iff_lt_mul (k:=Vl) (by omega)).2 this
  omega
 ·rw [Nat.div_lt_iff_lt_mul (by omega)]
  have:u+1 <= y:=hu;have h:=Nat.mul_le_mul_right 4294967296 this;rw [Fe 4294967296 y];omega
theorem mX {u v y Vl It c:Nat} (hy:y=Vl*4294967296+It) (h1:2147483648 <= Vl) (hc:c*Vl <= u) :
  (4294967296*(u-c*Vl)+v<c*It)↔(u*4294967296+v) / y<c:=by
 rw [Nat.div_lt_iff_lt_mul (by omega)]
 have h3:c*y=c*Vl*4294967296+c*It:=by rw [hy,Nat.mul_add,Nat.mul_assoc]
 omega
theorem zAN {u v y Vl It c:Nat} (hy:y=Vl*4294967296+It) (hn:It<4294967296) (h1:2147483648 <= Vl) (hc:c*Vl <= u) (hb:c <= 4294967296) (hr:4294967296 <= u-c*Vl) (hq:(u*4294967296+v) / y<c+1) :
  c=(u*4294967296+v) / y:=by
 have h:=not_congr (mX (v:=v) hy h1 hc);have h5:c*It <= 4294967296*It:=Nat.mul_le_mul_right _ hb;have h6:¬(4294967296*(u-c*Vl)+v<c*It):=by
  have:4294967296*It <= 4294967296*4294967295:=Nat.mul_le_mul_left _ (by omega)
  have:4294967296*4294967296 <= 4294967296*(u-c*Vl):=Nat.mul_le_mul_left _ hr;omega
 have:=h.1 h6;omega
theorem zAQ {X y0 s y u v1 v0 q1 r1 q0 r0:Nat} (hy:y=y0*2^s) (EC:0<y0) (hU:X*2^s=(u*4294967296+v1)*4294967296+v0)
  (e1:q1=(u*4294967296+v1) / y) (f1:r1=(u*4294967296+v1)%y) (e0:q0=(r1*4294967296+v0) / y) (f0:r0=(r1*4294967296+v0)%y) :
  X / y0=q1*4294967296+q0 /\ X%y0=r0 / 2^s:=by
 have hp:0<2^s:=Nat.pow_pos (by omega)
 have hyp:0<y:=by rw [hy];exact Nat.mul_pos EC hp
 have a1:(u*4294967296+v1)=y*q1+r1:=by rw [e1,f1,au]
 have a0:(r1*4294967296+v0)=y*q0+r0:=by rw [e0,f0,au]
 have hr:r0<y:=by rw [f0];exact ic _ hyp
 have key:X*2^s=y*(q1*4294967296+q0)+r0:=by
  have e1:y*(q1*4294967296+q0)=y*q1*4294967296+y*q0:=by rw [Nat.mul_add y,Nat.mul_assoc]
  omega
 have hdiv:X / y0=q1*4294967296+q0:=by
  rw [<- Nat.mul_div_mul_right X y0 hp,<- hy,key,Nat.mul_add_div hyp,Nat.div_eq_of_lt hr,Nat.add_zero]
 refine ⟨hdiv,?_⟩;have hm:X*2^s%y=r0:=by rw [key,Nat.mul_add_mod,Fj hr]
 rw [hy,Nat.mul_mod_mul_right] at hm;rw [<- hm,Nat.mul_div_cancel _ hp]
theorem zAe {y:Nat} (h0:y≠0) (h:y<18446744073709551616):Lib.bitLen y <= 64 /\ 9223372036854775808 <= y*2^(64-Lib.bitLen y) /\ y*2^(64-Lib.bitLen y)<18446744073709551616:=by
 obtain ⟨h1,h2,h3⟩:=Lib.bitLenAux_bounds 64 y h h0;have h4:Lib.bitLenAux 64 y <= 64:=Lib.bitLenAux_le 64 y 64 h;have e:Lib.bitLen y=Lib.bitLenAux 64 y:=rfl;rw [e];generalize Lib.bitLenAux 64 y=k at *;have e1:2^(k-1)*2^(64-k)=2^63:=by rw [<- Nat.pow_add];congr 1;omega
 have e2:2^k*2^(64-k)=2^64:=by rw [<- Nat.pow_add];congr 1;omega
 refine ⟨h4,?_,?_⟩
 ·have:=Nat.mul_le_mul_right (2^(64-k)) h2
  omega
 ·have:=(Nat.mul_lt_mul_right (a:=2^(64-k)) (Nat.pow_pos (by omega))).2 h3
  omega
theorem Ek (a:Nat) (h:a<18446744073709551616):vn.wrap (a:Int)=a:=by rw [Ei];omega
theorem BV (a:Nat):vn.wrap (a:Int)=((a%18446744073709551616:Nat):Int):=by rw [Ei];omega
theorem iQ (a b:Nat) (h:a*b<18446744073709551616):vn.wrap ((a:Int)*b)=((a*b:Nat):Int):=by rw [<- ig,Ek _ h]
theorem R8 (a b:Nat):vn.wrap ((a:Int)*b)=((a*b%18446744073709551616:Nat):Int):=by rw [<- ig,BV]
theorem gQ (a b:Nat) (h:a+b<18446744073709551616):vn.wrap ((a:Int)+b)=((a+b:Nat):Int):=by rw [<- Al,Ek _ h]
theorem zGP (a b:Nat):vn.wrap ((a:Int)+b)=(((a+b)%18446744073709551616:Nat):Int):=by rw [<- Al,BV]
theorem Hy (a b:Nat) (h:b <= a) (ha:a<18446744073709551616):vn.wrap ((a:Int)-b)=((a-b:Nat):Int):=by rw [Ei];omega
theorem zGQ {X c Z r:Nat} (h:X+c=Z+r) (hr:r<18446744073709551616):vn.wrap ((((X%18446744073709551616+c)%18446744073709551616:Nat):Int)-((Z%18446744073709551616:Nat):Int))=(r:Int):=by
 rw [Ei];omega
theorem zDu (a b s:Nat) (hs:s <= 64) (ha:a*2^s<18446744073709551616) (hb:b<2^s):bits .or vn ((a*2^s:Nat):Int) (b:Int)=((a*2^s+b:Nat):Int):=by
 have h1:b<18446744073709551616:=by
  rcases xo a with h0 | h0
  ·subst h0
   have:2^s <= 2^64:=Zr (by omega) hs
   omega
  ·have:2^s <= a*2^s:=Nat.le_mul_of_pos_left _ h0
   omega
 have h:=bits_or_u64_nat (a*2^s) b ha h1;rw [h,Fe a,Nat.two_pow_add_eq_or_of_lt hb]
theorem zZ (a:Nat) (ha:a<18446744073709551616):bits .and vn (a:Int) 4294967295=((a%4294967296:Nat):Int):=by
 have h:=bits_and_u64_nat a 4294967295 ha (by omega)
 have e:a &&& 4294967295=a%4294967296:=Nat.and_two_pow_sub_one_eq_mod a 32;rw [e] at h;exact h
theorem nX {u v Y a b:Nat} (hY:Y=a*4294967296+b) (hb:b<4294967296) (ha:2147483648 <= a) (hu:u<Y) (hv:v<4294967296) (hY2:Y<18446744073709551616) :
  ∃ Q r k0 k0a rh U1 U2 U3:Nat,(Q=(u*4294967296+v) / Y /\ r=(u*4294967296+v)%Y) /\ r<Y /\ Q<4294967296 /\ Q <= k0 /\ k0 <= 4294967297 /\ (k0*a <= u /\ rh=u-k0*a) /\ rh<4294967296 /\
   (u:Int) / (a:Int)=k0 /\ vn.wrap ((k0:Int)*a)=(k0a:Int) /\ vn.wrap ((u:Int)-k0a)=(rh:Int) /\
   vn.wrap ((u:Int)*4294967296)=(U1:Int) /\ vn.wrap ((U1:Int)+v)=(U2:Int) /\ vn.wrap ((Q:Int)*Y)=(U3:Int) /\ vn.wrap ((U2:Int)-U3)=(r:Int):=by
 obtain ⟨t1,t2,t3⟩:=zAO hY hb ha hu hv;have h1:=Nat.div_mul_le_self u a;have h2:=ic u (show 0<a by omega)
 have h3:=au u a;have h4:=Fe a (u / a);have hr:=ic (u*4294967296+v) (show 0<Y by omega)
 have h5:=au (u*4294967296+v) Y;rw [Fe Y] at h5;refine ⟨(u*4294967296+v) / Y,(u*4294967296+v)%Y,u / a,u / a*a,u-u / a*a,u*4294967296%18446744073709551616,(u*4294967296%18446744073709551616+v)%18446744073709551616,(u*4294967296+v) / Y*Y%18446744073709551616,
  ⟨rfl,rfl⟩,hr,t3,t1,t2,⟨h1,rfl⟩,by omega,rfl,iQ _ _ (by omega),Hy _ _ h1 (by omega),R8 u 4294967296,zGP _ _,R8 _ _,zGQ h5.symm (by omega)⟩
theorem Z5 {u a k r Q:Nat} (hK:k*a <= u /\ r=u-k*a) (ra:Q<k) (hk:k <= 4294967297) (hr:r<4294967296) (_ha:2147483648 <= a) (haT:a<4294967296) :
  ∃ k1 r1:Nat,vn.wrap ((k:Int)-1)=(k1:Int) /\ vn.wrap ((r:Int)+a)=(r1:Int) /\ k=k1+1 /\ r1=r+a :=
 ⟨k-1,r+a,Hy k 1 (by omega) (by omega),gQ _ _ (by omega),by omega,rfl⟩
theorem EU {u a k r k1 r1 Q:Nat} (hK:k*a <= u /\ r=u-k*a) (h1:k=k1+1) (h2:r1=r+a) (_hlt:Q<k):k1*a <= u /\ r1=u-k1*a:=by
 subst h1;rw [Nat.add_mul k1 1,Nat.one_mul] at hK;omega
theorem p6 {u v Y a b k r k1 r1 Q:Nat} (hY:Y=a*4294967296+b) (hb:b<4294967296) (ha:2147483648 <= a) (hK:k*a <= u /\ r=u-k*a) (hQ:Q=(u*4294967296+v) / Y) (h1:k=k1+1) (h2:r1=r+a) (ra:Q<k) (hk:k <= 4294967297) (hS:4294967296 <= r1):Q=k1:=by
 obtain ⟨g1,g2⟩:=EU hK h1 h2 ra;rw [g2] at hS;have:=zAN (v:=v) hY hb ha g1 (by omega) hS (by omega)
 omega
theorem FP {u v Y a b k r Q:Nat} (hY:Y=a*4294967296+b) (hb:b<4294967296) (ha:2147483648 <= a) (hv:v<4294967296) (hK:k*a <= u /\ r=u-k*a) (hr:r<4294967296) (hQ:Q=(u*4294967296+v) / Y) (hB:k<4294967296) :
  ∃ kb r2 r3:Nat,vn.wrap ((k:Int)*b)=(kb:Int) /\ vn.wrap (4294967296*(r:Int))=(r2:Int) /\ vn.wrap ((r2:Int)+v)=(r3:Int) /\ (r3<kb↔Q<k):=by
 have h1:k*b <= 4294967295*b:=Nat.mul_le_mul_right _ (by omega)
 have h2:=mX (v:=v) hY ha hK.1;rw [<- hK.2,<- hQ] at h2;exact ⟨k*b,4294967296*r,4294967296*r+v,iQ _ _ (by omega),iQ 4294967296 r (by omega),gQ _ _ (by omega),h2⟩
theorem zAR {h l y s Y:Nat} (hh:h<y) (hl:l<18446744073709551616) (hY:Y=y*2^s) (hs:s <= 64) (hy:Y<18446744073709551616) :
  h*2^s<18446744073709551616 /\ l / 2^(64-s)<2^s /\ h*2^s+l / 2^(64-s)<Y /\
  (h*18446744073709551616+l)*2^s=((h*2^s+l / 2^(64-s))*4294967296+(l*2^s%18446744073709551616) / 4294967296)*4294967296+(l*2^s%18446744073709551616)%4294967296:=by
 have hp:0<2^s:=Nat.pow_pos (by omega)
 have e64:2^(64-s)*2^s=18446744073709551616:=by rw [<- Nat.pow_add,show 64-s+s=64 by omega]
 have h1:h*2^s<Y:=by rw [hY];exact (Nat.mul_lt_mul_right hp).2 hh
 have h2:l / 2^(64-s)<2^s:=by rw [Nat.div_lt_iff_lt_mul (Nat.pow_pos (by omega)),Fe,e64];exact hl
 have h3:l*2^s / 18446744073709551616=l / 2^(64-s):=by rw [<- e64,Nat.mul_div_mul_right _ _ hp]
 have h4:h*2^s+l / 2^(64-s)<Y:=by
  have:(h+1)*2^s <= Y:=by rw [hY];exact Nat.mul_le_mul_right _ hh
  rw [Nat.add_mul h 1] at this;omega
 refine ⟨by omega,h2,h4,?_⟩
 rw [<- h3,Nat.add_mul (h*18446744073709551616) l,Nat.mul_right_comm];generalize l*2^s=A;generalize h*2^s=C;omega
theorem rX (h l y:Nat) (w:vw) (hh:h<y) (hl:l<18446744073709551616) (hy:y<18446744073709551616) :
  vB prog 260 #[vd vn h,vd vn l,vd vn y] w fun e w'=>e=vl (.tuple #[vd vn (((h*18446744073709551616+l) / y:Nat):Int),vd vn (((h*18446744073709551616+l)%y:Nat):Int)]) /\ ∃ k,w'=w.drewN k:=by
 have g1:((y:Int) == 0)=false:=by rw [pd];omega
 by_cases hz:h=0
 ·subst hz
  have g0:decide (y=0)=false:=xb (by omega)
  have p1:(0:Int)<y:=by omega
  have p2:¬((y:Int)=0):=by omega
  have q1:vn.wrap ((l:Int) / (y:Int))=((l / y:Nat):Int):=by
   rw [<- Int.natCast_ediv,Ek];have:=jz l y;omega
  have HH:=zH hh;clear hh;go_enter func260,ntmps260
  go_wp2_with fail
  go_quiet (fail)
  go_wp2
  go_ret2
  refine ⟨?_,_,rfl⟩;rw [Nat.zero_mul,Mk]
  rfl
 ·have g3:((h:Int) == 0)=false:=by rw [pd];omega
  have g2:¬(y <= h):=by omega
  obtain ⟨b0,b1,b2⟩:=zAe (y:=y) (by omega) hy
  have HL:=zH (fun w=>zCH (y:Int) w (by omega) (by omega))
  rw [Lk] at HL;have hs:(64-(Lib.bitLen y:Int))=((64-Lib.bitLen y:Nat):Int):=by omega
  rw [hs] at HL;clear hs;revert HL b1 b2
  generalize hs:64-Lib.bitLen y=s;have BJ:s <= 64:=by omega
  clear hs b0;intro b1 b2 HL;obtain ⟨Y,hY⟩:=zEX (y*2^s);rw [<- hY] at b1 b2;have e1:vn.wrap ((y:Int)*2^s)=(Y:Int):=by
   rw [show ((y:Int)*2^s)=((y*2^s:Nat):Int) by rw [ig,xp];rfl,<- hY,Ek _ b2]
  obtain ⟨s1,s2,s3,s4⟩:=zAR hh hl hY BJ b2;have e4:vn.wrap ((h:Int)*2^s)=((h*2^s:Nat):Int):=by
   rw [show ((h:Int)*2^s)=((h*2^s:Nat):Int) by rw [ig,xp];rfl,Ek _ s1]
  have e5:bits .or vn ((h*2^s:Nat):Int) ((l:Int) / 2^(64-s))=((h*2^s+l / 2^(64-s):Nat):Int):=by
   rw [show ((l:Int) / 2^(64-s))=((l / 2^(64-s):Nat):Int) by rw [Int.natCast_ediv,xp];rfl]
   exact zDu _ _ _ BJ s1 s2
  have e6:vn.wrap ((l:Int)*2^s)=((l*2^s%18446744073709551616:Nat):Int):=by
   rw [show ((l:Int)*2^s)=((l*2^s:Nat):Int) by rw [ig,xp];rfl,BV]
  have HR:Hid (∀ q1 r1 q0 r0,q1=((h*2^s+l / 2^(64-s))*4294967296+(l*2^s%18446744073709551616) / 4294967296) / Y ->
    r1=((h*2^s+l / 2^(64-s))*4294967296+(l*2^s%18446744073709551616) / 4294967296)%Y -> q0=(r1*4294967296+(l*2^s%18446744073709551616)%4294967296) / Y ->
    r0=(r1*4294967296+(l*2^s%18446744073709551616)%4294967296)%Y -> (h*18446744073709551616+l) / y=q1*4294967296+q0 /\ (h*18446744073709551616+l)%y=r0 / 2^s) :=
   fun q1 r1 q0 r0 f1 f2 f3 f4=>zAQ hY (by omega) s4 f1 f2 f3 f4
  clear s1 s2 s4;revert HR e4 e5 e6 s3
  generalize h*2^s=H;generalize H+l / 2^(64-s)=u;have hL:l*2^s%18446744073709551616<18446744073709551616:=ic _ (by omega)
  revert hL
  generalize l*2^s%18446744073709551616=L;intro hL s3 e4 e5 e6 HR;have e7:(L:Int) / 4294967296=((L / 4294967296:Nat):Int):=rfl;have e8:=zZ L hL;have hc:L / 4294967296<4294967296:=by omega
  have hd:L%4294967296<4294967296:=by omega
  revert e7 e8 hc hd HR
  generalize L / 4294967296=c;generalize L%4294967296=d;intro HR e7 e8 hc hd;have e2:(Y:Int) / 4294967296=((Y / 4294967296:Nat):Int):=rfl;have e3:=zZ Y b2;have sJ:2147483648 <= Y / 4294967296:=by omega
  have hb:Y%4294967296<4294967296:=by omega
  have mx:=zH (show Y=Y / 4294967296*4294967296+Y%4294967296 by omega)
  revert e2 e3 sJ hb mx
  generalize Y / 4294967296=a;generalize Y%4294967296=b;intro e2 e3 sJ hb mx;have HY:=zH hY;clear hY hL;have p1:(0:Int)<a:=by omega
  have p2:¬((a:Int)=0):=by omega
  have haT:a<4294967296:=by have:=mx.out;omega
  obtain ⟨Q1,v1,k0,k0a,rh0,U1,U2,U3,Vw,Vk,hQ1,pj,Pp,xe,Of,x1,x2,x3,x4,x5,x6,x7⟩:=nX mx.out hb sJ s3 hc b2;obtain ⟨Q0,v0,l0,l0a,rh1,V1,V2,V3,Vy,Jn,hQ0,Nv,hk0,fG,hr0,y1,y2,y3,y4,y5,y6,y7⟩:=nX mx.out hb sJ Vk hd b2;have HX:=zH (HR.out Q1 v1 Q0 v0 Vw.1 Vw.2 Vy.1 Vy.2);obtain ⟨R,hR⟩:=zEX (v0 / 2^s);obtain ⟨M1,nH⟩:=zEX (Q1*4294967296);obtain ⟨M,hM⟩:=zEX (M1+Q0);have z1:vn.wrap ((Q1:Int)*4294967296)=(M1:Int):=by rw [nH];exact iQ Q1 4294967296 (by omega)
  have z2:vn.wrap ((M1:Int)+Q0)=(M:Int):=by rw [hM];exact gQ _ _ (by omega)
  have z3:(v0:Int) / 2^s=(R:Int):=by rw [hR,Int.natCast_ediv,xp];rfl
  rw [<- hR,<- nH,<- hM] at HX;clear hR nH hM;have Mi:=zH hc;have eF:=zH hd;have Hb:=zH hb;have LD:=zH sJ;have HaT:=zH haT;replace hQ1:=zH hQ1;replace hQ0:=zH hQ0;replace Pp:=zH Pp;replace hk0:=zH hk0;replace Of:=zH Of;replace hr0:=zH hr0;replace b1:=zH b1;replace b2:=zH b2;have xk1:vn.wrap (k0:Int)=k0:=Ek _ (by have:=Pp.out;omega)
  have xk0:vn.wrap (l0:Int)=l0:=Ek _ (by have:=hk0.out;omega)
  clear hc hd hb sJ haT;replace Vw:=zH Vw;replace Vy:=zH Vy;replace xe:=zH xe;replace fG:=zH fG;clear HR hl hy s3;rw [HX.out.1,HX.out.2];go_enter func260,ntmps260
  go_upto_block 0 with (go_at_call 296;refine (HL.out _).mono ?_;rintro e w1 ⟨rfl,rfl⟩)
  go_cut [15] (fun s15 wx=>s15=vd vn Q1 /\ w1=wx)
  case first =>
   go_wp2_with fail
   go_loop [15,16] (fun x z=>∃ k r:Nat,Hid (k*a <= u /\ r=u-k*a) /\ Q1 <= k /\ k <= 4294967297 /\ r<4294967296 /\ x=vd vn k /\ z=vd vn r)
    (fun x _=>(intOf x).toNat)
   case atStart=>exact ⟨_,_,xe,pj,Pp.out,Of.out,rfl,rfl⟩
   case round =>
    obtain ⟨k,r,HK,i1,i2,i3,rfl,rfl⟩:=hrel;have I2:=zH i2;have I3:=zH i3;clear i2 i3;by_cases ra:Q1<k
    ·obtain ⟨k1,r1,m1,m2,Pp,Of⟩:=Z5 (a:=a) HK.out ra I2.out I3.out LD.out HaT.out
     have HN:=zH (EU HK.out Pp Of ra);have HF:=zH (fun h1=>p6 mx.out Hb.out LD.out HK.out Vw.out.1 Pp Of ra I2.out h1)
     have pj:Q1 <= k1:=by omega
     have Us:=zH (show k1 <= 4294967297 by have:=I2.out;omega)
     have hkd:k1<k:=by omega
     clear Pp Of;by_cases hB:4294967296 <= k
     ·have b1:¬((k:Int)<4294967296):=by omega
      by_cases hS:4294967296 <= r1
      ·have HS:=zH hS
       have VG:decide ((4294967296:Int)<=r1)=true:=yb (by omega)
       have WG:decide (4294967296 <= r1)=true:=yb (by omega)
       clear hS;go_wp2_with fail
       go_meet
       exact ⟨by rw [HF.out HS.out],rfl⟩
      ·have HS:=zH hS
       have VG:decide ((4294967296:Int)<=r1)=false:=xb (by omega)
       have WG:decide (4294967296 <= r1)=false:=xb (by omega)
       clear hS;go_wp2_with fail
       go_round
       case rel=>exact ⟨k1,r1,HN.out,pj,Us.out,Nat.not_le.1 HS.out,rfl,rfl⟩
       case measure=>simp [intOf];omega
     ·have b2:(k:Int)<4294967296:=by omega
      obtain ⟨kb,r2,r3,n1,n2,n3,hT⟩:=FP mx.out Hb.out LD.out Mi.out HK.out I3.out Vw.out.1 (by omega)
      have pH:r3<kb:=hT.2 ra;clear hT;by_cases hS:4294967296 <= r1
      ·have HS:=zH hS
       have VG:decide ((4294967296:Int)<=r1)=true:=yb (by omega)
       have WG:decide (4294967296 <= r1)=true:=yb (by omega)
       clear hS;go_wp2_with fail
       go_meet
       exact ⟨by rw [HF.out HS.out],rfl⟩
      ·have HS:=zH hS
       have VG:decide ((4294967296:Int)<=r1)=false:=xb (by omega)
       have WG:decide (4294967296 <= r1)=false:=xb (by omega)
       clear hS;go_wp2_with fail
       go_round
       case rel=>exact ⟨k1,r1,HN.out,pj,Us.out,Nat.not_le.1 HS.out,rfl,rfl⟩
       case measure=>simp [intOf];omega
    ·have e:k=Q1:=by omega
     obtain ⟨kb,r2,r3,n1,n2,n3,hT⟩:=FP mx.out Hb.out LD.out Mi.out HK.out I3.out Vw.out.1 (by have:=hQ1.out;omega)
     have pH:¬(r3<kb):=fun h=>ra (hT.1 h)
     have HE:=zH e;have hB:(k:Int)<4294967296:=by have:=hQ1.out;omega
     have d1:decide ((4294967296:Int)<=k)=false:=xb (by omega)
     have d2:decide (4294967296 <= k)=false:=xb (by omega)
     have f1:decide ((r3:Int)<kb)=false:=xb (by omega)
     have f2:decide (r3<kb)=false:=xb pH;clear hT e pH ra;go_wp2_with fail
     go_meet
     exact ⟨by rw [HE.out],rfl⟩
  case rest =>
   obtain ⟨rfl,rfl⟩:=hcut
   go_upto_block 2 with fail
   go_cut [18] (fun s15 wx=>s15=vd vn Q0 /\ w1=wx)
   case first =>
    go_wp2_with fail
    go_loop [18,16] (fun x z=>∃ k r:Nat,Hid (k*a <= v1 /\ r=v1-k*a) /\ Q0 <= k /\ k <= 4294967297 /\ r<4294967296 /\ x=vd vn k /\ z=vd vn r)
     (fun x _=>(intOf x).toNat)
    case atStart=>exact ⟨_,_,fG,Nv,hk0.out,hr0.out,rfl,rfl⟩
    case round =>
     obtain ⟨k,r,HK,i1,i2,i3,rfl,rfl⟩:=hrel;have I2:=zH i2;have I3:=zH i3;clear i2 i3;by_cases ra:Q0<k
     ·obtain ⟨k1,r1,m1,m2,Pp,Of⟩:=Z5 (a:=a) HK.out ra I2.out I3.out LD.out HaT.out
      have HN:=zH (EU HK.out Pp Of ra);have HF:=zH (fun h1=>p6 mx.out Hb.out LD.out HK.out Vy.out.1 Pp Of ra I2.out h1)
      have pj:Q0 <= k1:=by omega
      have Us:=zH (show k1 <= 4294967297 by have:=I2.out;omega)
      have hkd:k1<k:=by omega
      clear Pp Of;by_cases hB:4294967296 <= k
      ·have b1:¬((k:Int)<4294967296):=by omega
       by_cases hS:4294967296 <= r1
       ·have HS:=zH hS
        have VG:decide ((4294967296:Int)<=r1)=true:=yb (by omega)
        have WG:decide (4294967296 <= r1)=true:=yb (by omega)
        clear hS;go_wp2_with fail
        go_meet
        exact ⟨by rw [HF.out HS.out],rfl⟩
       ·have HS:=zH hS
        have VG:decide ((4294967296:Int)<=r1)=false:=xb (by omega)
        have WG:decide (4294967296 <= r1)=false:=xb (by omega)
        clear hS;go_wp2_with fail
        go_round
        case rel=>exact ⟨k1,r1,HN.out,pj,Us.out,Nat.not_le.1 HS.out,rfl,rfl⟩
        case measure=>simp [intOf];omega
      ·have b2:(k:Int)<4294967296:=by omega
       obtain ⟨kb,r2,r3,n1,n2,n3,hT⟩:=FP mx.out Hb.out LD.out eF.out HK.out I3.out Vy.out.1 (by omega)
       have pH:r3<kb:=hT.2 ra;clear hT;by_cases hS:4294967296 <= r1
       ·have HS:=zH hS
        have VG:decide ((4294967296:Int)<=r1)=true:=yb (by omega)
        have WG:decide (4294967296 <= r1)=true:=yb (by omega)
        clear hS;go_wp2_with fail
        go_meet
        exact ⟨by rw [HF.out HS.out],rfl⟩
       ·have HS:=zH hS
        have VG:decide ((4294967296:Int)<=r1)=false:=xb (by omega)
        have WG:decide (4294967296 <= r1)=false:=xb (by omega)
        clear hS;go_wp2_with fail
        go_round
        case rel=>exact ⟨k1,r1,HN.out,pj,Us.out,Nat.not_le.1 HS.out,rfl,rfl⟩
        case measure=>simp [intOf];omega
     ·have e:k=Q0:=by omega
      obtain ⟨kb,r2,r3,n1,n2,n3,hT⟩:=FP mx.out Hb.out LD.out eF.out HK.out I3.out Vy.out.1 (by have:=hQ0.out;omega)
      have pH:¬(r3<kb):=fun h=>ra (hT.1 h)
      have HE:=zH e;have hB:(k:Int)<4294967296:=by have:=hQ0.out;omega
      have d1:decide ((4294967296:Int)<=k)=false:=xb (by omega)
      have d2:decide (4294967296 <= k)=false:=xb (by omega)
      have f1:decide ((r3:Int)<kb)=false:=xb (by omega)
      have f2:decide (r3<kb)=false:=xb pH;clear hT e pH ra;go_wp2_with fail
      go_meet
      exact ⟨by rw [HE.out],rfl⟩
   case rest =>
    obtain ⟨rfl,rfl⟩:=hcut;go_wp2_with fail
    go_ret2
    exact ⟨rfl,0,rfl⟩
def Wq (p:Nat) (n:Int) (l:List (Int × Nat)) (i:Nat):Bool :=
 decide ((l.getD i (0,0)).1<0)||decide (n <= (l.getD i (0,0)).1)||(decide (0<i)&&decide ((l.getD i (0,0)).1 <= (l.getD (i-1) (0,0)).1))||(l.getD i (0,0)).2 == 0||decide (p <= (l.getD i (0,0)).2)
def yh (p:Nat) (n:Int) (l:List (Int × Nat)):Bool:=(List.range l.length).all fun i=>!Wq p n l i
theorem qy {p:Nat} {n:Int} {l:List (Int × Nat)} {j:Nat} (hj:j<l.length) (h:Wq p n l j=true):yh p n l=false:=by
 unfold yh;rw [bz];exact ⟨j,by simpa using hj,by simp [h]⟩
theorem kZ {p:Nat} {n:Int} {l:List (Int × Nat)} (h:∀ k<l.length,Wq p n l k=false):yh p n l=true:=by
 unfold yh;rw [Xd];intro k hk;simp [h k (by simpa using hk)]
theorem GR {f:Nat -> Bool} {j:Nat} (h:∀ k<j,f k=false) (hj:f j=false):∀ k<j+1,f k=false:=fun k hk=>by
 rcases Hg k j with h1 | h1
 ·exact h k h1
 ·have e:k=j:=by omega
  rw [e];exact hj
theorem RLin.at_ {w:vw} {b q:Nat} {l:List (Int × Nat)} (h:RdL w 2 DQ (vE ⟨b,q,vD⟩) l) {i:Nat} (hi:i<l.length) :
  w.cell? ⟨b,q+i*2,vD⟩=vE (vd vq (l.getD i (0,0)).1) /\ w.cell? ⟨b,q+i*2+1,vD⟩=vE (vd vn ((l.getD i (0,0)).2:Int)):=by
 obtain ⟨cs,hl,hc,rfl,-,-⟩:=h.get hi;have h0:=hc 0 (by omega)
 have h1:=hc 1 (by omega)
 simp [hi] at h0 h1 |-
 exact ⟨h0,h1⟩
theorem cK (p:Nat) (n:Int) (A:Option vy) (len c:Nat) (l:List (Int × Nat)) (w:vw) (hl:RLin w [ve A len c] l) (_hp:p<18446744073709551616) :
  vB prog 272 #[vd vn p,ve A len c,vd vq n] w fun e w'=>e=vl (.bool (yh p n l)) /\ vA w.1.size w w':=by
 obtain ⟨A',n',c',he,hlen,He,yf,Ma⟩:=hl;simp at he
 obtain ⟨rfl,rfl,rfl⟩:=he;subst hlen;go_enter func272,ntmps272
 go_wp2_with fail
 go_loopw [7] (fun i wr=>∃ j:Nat,j <= l.length /\ i=vd vq j /\ vA w.1.size w wr /\ Hid (∀ k<j,Wq p n l k=false))
  (fun i _=>l.length-(intOf i).toNat)
 case atStart=>exact ⟨0,Lb _,rfl,za _ _,fun k hk=>by omega⟩
 case round =>
  obtain ⟨j,hj,rfl,hb,HB⟩:=hrel;by_cases ra:j<l.length
  ·have HL:=zH ra
   obtain ⟨b,q,rfl⟩:=Ma.base (by omega) (by omega)
   have Ov:=Ma.below lF hb;obtain ⟨c1,c2⟩:=RLin.at_ Ov ra;have g0:(l.length:Int) <= 9223372036854775807:=by
    have h3:=He;have h4:=yf;simp [maxLen] at h4
    omega
   have g1:(0:Int)<=j:=by omega
   have g2:(j:Int)<l.length:=by omega
   have HD:Hid (Wq p n l j=(decide ((l.getD j (0,0)).1<0)||decide (n <= (l.getD j (0,0)).1)||(decide (0<j)&&decide ((l.getD j (0,0)).1 <= (l.getD (j-1) (0,0)).1))||(l.getD j (0,0)).2 == 0||decide (p <= (l.getD j (0,0)).2))):=rfl
   have HC:=zH (fun (h0:0<j)=>(RLin.at_ Ov (show j-1<l.length by omega)).1)
   revert c1 c2 HD HC
   generalize (l.getD j (0,0)).1=x;generalize (l.getD j (0,0)).2=y;generalize (l.getD (j-1) (0,0)).1=z;intro c1 c2 HD HC;clear Ma Ov;by_cases z1:x<0
   ·have d1:=yb z1
    go_wp2_with fail
    go_quiet (fail)
    go_wp2;go_ret
    exact ⟨by rw [qy HL.out (HD.out.trans (by simp [*]))];rfl,by first | exact Ds hb _ | exact hb⟩
   ·have d1:=xb z1
    by_cases z2:n <= x
    ·have d2:=yb z2
     go_wp2_with fail
     go_quiet (fail)
     go_wp2;go_ret
     exact ⟨by rw [qy HL.out (HD.out.trans (by simp [*]))];rfl,by first | exact Ds hb _ | exact hb⟩
    ·have d2:=xb z2
     rcases xo j with z3 | z3
     ·subst z3
      simp only [Nat.zero_mul,Nat.add_zero] at c1 c2;by_cases z4:y=0
      ·subst z4
       go_wp2_with fail
       go_quiet (fail)
       go_wp2;go_ret
       exact ⟨by rw [qy HL.out (HD.out.trans (by simp [*]))];rfl,by first | exact Ds hb _ | exact hb⟩
      ·have d4:((y:Int) == 0)=false:=by rw [pd];omega
       by_cases z5:p <= y
       ·have d5:decide ((p:Int)<=y)=true:=yb (by omega)
        go_wp2_with fail
        go_quiet (fail)
        go_wp2;go_ret
        exact ⟨by rw [qy HL.out (HD.out.trans (by simp [*]))];rfl,by first | exact Ds hb _ | exact hb⟩
       ·have d5:decide ((p:Int)<=y)=false:=xb (by omega)
        go_wp2_with fail
        go_quiet (fail)
        go_wp2
        go_roundw
        case rel=>exact ⟨0+1,by omega,by go_num,by first | exact Ds hb _ | exact hb,GR HB.out (HD.out.trans (by simp [*]))⟩
        case measure=>simp [intOf];omega
     ·have d3:decide ((0:Int)<j)=true:=yb (by omega)
      have c3:=HC.out z3;have i1:(0:Int)<=j-1:=by omega
      have i2:(j:Int)-1<(l.length:Int):=by omega
      have i3:((j:Int)-1).toNat=j-1:=by omega
      by_cases z6:x <= z
      ·have d6:=yb z6
       go_wp2_with fail
       go_quiet (fail)
       go_wp2;go_ret
       exact ⟨by rw [qy HL.out (HD.out.trans (by simp [*]))];rfl,by first | exact Ds hb _ | exact hb⟩
      ·have d6:=xb z6
       by_cases z4:y=0
       ·subst z4
        go_wp2_with fail
        go_quiet (fail)
        go_wp2;go_ret
        exact ⟨by rw [qy HL.out (HD.out.trans (by simp [*]))];rfl,by first | exact Ds hb _ | exact hb⟩
       ·have d4:((y:Int) == 0)=false:=by rw [pd];omega
        by_cases z5:p <= y
        ·have d5:decide ((p:Int)<=y)=true:=yb (by omega)
         go_wp2_with fail
         go_quiet (fail)
         go_wp2;go_ret
         exact ⟨by rw [qy HL.out (HD.out.trans (by simp [*]))];rfl,by first | exact Ds hb _ | exact hb⟩
        ·have d5:decide ((p:Int)<=y)=false:=xb (by omega)
         go_wp2_with fail
         go_quiet (fail)
         go_wp2
         go_roundw
         case rel=>exact ⟨j+1,by omega,by go_num,by first | exact Ds hb _ | exact hb,GR HB.out (HD.out.trans (by simp [*]))⟩
         case measure=>simp [intOf];omega
  ·go_wp2
   go_ret
   have e:j=l.length:=by omega
   subst e;exact ⟨by rw [kZ HB.out];rfl,hb⟩
def slc (v:vx):Prop:=∃ A n c,v=ve A n c
theorem RSl.slc {α:Type} {R:vw -> List vx -> α -> Prop} {sz:Nat} {w:vw} {v:vx} {l:List α} (h:RSl sz R w [v] l):slc v:=by
 obtain ⟨A,n,c,e,-⟩:=h;simp at e
 exact ⟨A,n,c,e⟩
def sc (p:Nat) (pub vars:Int) (rows:vx):vx:=vf #[vd vn p,vd vq pub,vd vq vars,rows]
def Qm (p:Nat) (n:Int) (r:Ya):Bool:=yh p n r.a&&yh p n r.b&&yh p n r.c
theorem oK {w w1:vw} {t1 t2:vz} {je Ef:Array vx} (hb:vA ((w.alloc (.cells je t1)).alloc (.cells Ef t2)).1.size ((w.alloc (.cells je t1)).alloc (.cells Ef t2)) w1) :
  Blk w1 w.1.size t1 je /\ Blk w1 (w.1.size+1) t2 Ef /\ vA w.1.size w w1:=by
 refine ⟨((Blk.new w t1 je).alloc _).below hb (by simp;omega),?_,ma (((za _ w).alloc zR _).alloc (by simp) _) hb⟩
 have:=(Blk.new (w.alloc (.cells je t1)) t2 Ef).below hb (by simp)
 simpa using this
theorem K5 (p:Nat) (pub vars:Int) (rows:vx) (r:Ya) (x y z:vx) (w:vw) (hx:RLin w [x] r.a) (hy:RLin w [y] r.b) (hz:RLin w [z] r.c) (hp:p<18446744073709551616) :
  vB prog 206 #[sc p pub vars rows,vf #[x,y,z]] w fun e w'=>e=vl (.bool (Qm p vars r)) /\ vA w.1.size w w':=by
 obtain ⟨A1,n1,c1,rfl⟩:=RSl.slc hx;obtain ⟨A2,n2,c2,rfl⟩:=RSl.slc hy;obtain ⟨A3,n3,c3,rfl⟩:=RSl.slc hz;unfold sc;cases b1:yh p vars r.a
 ·have E:=zH (show Qm p vars r=false by simp [Qm,b1])
  have B1:=zH b1;clear b1;go_enter func206,ntmps206
  go_wp2_with (first | (go_at_call 272;refine (cK p vars _ _ _ r.a _ (gh _ _ _ _ (((za _ w).alloc zR _).alloc (by simp) _) hx) hp).mono ?_;rintro e w1 ⟨rfl,hb⟩;rw [B1.out];obtain ⟨K1,K2,Ca⟩:=oK hb;have t0:w1.cell? ⟨w.1.size,0,vD⟩=vE (vd vn p):=K1.cell 0;have t2:w1.cell? ⟨w.1.size,2,vD⟩=vE (vd vq vars):=K1.cell 2;have y1:w1.cell? ⟨w.1.size+1,1,vD⟩=vE (ve A2 n2 c2):=K2.cell 1;have y2:w1.cell? ⟨w.1.size+1,2,vD⟩=vE (ve A3 n3 c3):=K2.cell 2;clear hb))
  go_ret
  exact ⟨by rw [E.out];rfl,Ca⟩
 have B1:=zH b1;cases b2:yh p vars r.b
 ·have E:=zH (show Qm p vars r=false by simp [Qm,b1,b2])
  have B2:=zH b2;clear b1 b2;go_enter func206,ntmps206
  go_wp2_with (first | (go_at_call 272;refine (cK p vars _ _ _ r.b _ (gh _ _ _ _ Ca hy) hp).mono ?_;rintro e w2 ⟨rfl,Aa⟩;rw [B2.out];clear t0 t2 y1 y2;have t0:w2.cell? ⟨w.1.size,0,vD⟩=vE (vd vn p):=(ia K1 Aa).cell 0;have t2:w2.cell? ⟨w.1.size,2,vD⟩=vE (vd vq vars):=(ia K1 Aa).cell 2;have y2:w2.cell? ⟨w.1.size+1,2,vD⟩=vE (ve A3 n3 c3):=(ia K2 Aa).cell 2) | (go_at_call 272;refine (cK p vars _ _ _ r.a _ (gh _ _ _ _ (((za _ w).alloc zR _).alloc (by simp) _) hx) hp).mono ?_;rintro e w1 ⟨rfl,hb⟩;rw [B1.out];obtain ⟨K1,K2,Ca⟩:=oK hb;have t0:w1.cell? ⟨w.1.size,0,vD⟩=vE (vd vn p):=K1.cell 0;have t2:w1.cell? ⟨w.1.size,2,vD⟩=vE (vd vq vars):=K1.cell 2;have y1:w1.cell? ⟨w.1.size+1,1,vD⟩=vE (ve A2 n2 c2):=K2.cell 1;have y2:w1.cell? ⟨w.1.size+1,2,vD⟩=vE (ve A3 n3 c3):=K2.cell 2;clear hb))
  go_ret
  exact ⟨by rw [E.out];rfl,ma Ca Aa⟩
 have B2:=zH b2;have E:=zH (show Qm p vars r=yh p vars r.c by simp [Qm,b1,b2])
 clear b1 b2;go_enter func206,ntmps206
 go_wp2_with (first | (go_at_call 272;refine (cK p vars _ _ _ r.c _ (gh _ _ _ _ (ma Ca Aa) hz) hp).mono ?_;rintro e w3 ⟨rfl,Ua⟩) | (go_at_call 272;refine (cK p vars _ _ _ r.b _ (gh _ _ _ _ Ca hy) hp).mono ?_;rintro e w2 ⟨rfl,Aa⟩;rw [B2.out];clear t0 t2 y1 y2;have t0:w2.cell? ⟨w.1.size,0,vD⟩=vE (vd vn p):=(ia K1 Aa).cell 0;have t2:w2.cell? ⟨w.1.size,2,vD⟩=vE (vd vq vars):=(ia K1 Aa).cell 2;have y2:w2.cell? ⟨w.1.size+1,2,vD⟩=vE (ve A3 n3 c3):=(ia K2 Aa).cell 2) | (go_at_call 272;refine (cK p vars _ _ _ r.a _ (gh _ _ _ _ (((za _ w).alloc zR _).alloc (by simp) _) hx) hp).mono ?_;rintro e w1 ⟨rfl,hb⟩;rw [B1.out];obtain ⟨K1,K2,Ca⟩:=oK hb;have t0:w1.cell? ⟨w.1.size,0,vD⟩=vE (vd vn p):=K1.cell 0;have t2:w1.cell? ⟨w.1.size,2,vD⟩=vE (vd vq vars):=K1.cell 2;have y1:w1.cell? ⟨w.1.size+1,1,vD⟩=vE (ve A2 n2 c2):=K2.cell 1;have y2:w1.cell? ⟨w.1.size+1,2,vD⟩=vE (ve A3 n3 c3):=K2.cell 2;clear hb))
 go_ret
 exact ⟨by rw [E.out];rfl,ma (ma Ca Aa) Ua⟩
end Go.Proofs.YteoghgbnielkpaaGreat
