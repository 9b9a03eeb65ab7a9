/- A part of the proof. No condition. -/
import Derived.ChangeOld
import Derived.Deep.Slices
import Derived.Test.YtgeofabpinfcmaaGreatProg
import Derived.Test.YtgeofabpinfcmaaGreatEZ1
import Derived.BigQuiet
import Derived.Deep.QuietTactic

set_option maxRecDepth 100000
set_option maxHeartbeats 8000000
set_option linter.unusedVariables false
set_option linter.unusedSimpArgs false
namespace Go.Proofs.YtgeofabpinfcmaaGreat
open Go.RowKit Go.ChangeShapes Go.WideShapes Go.ChangeAt
def Fits (P:Program) (w:World) (t:TypeId) (cs:List Value):Prop :=
 ∃ (H:Type) (enc:TypeId × Value -> H) (base:Nat) (spare:Nat -> Bool) (held:Bool) (fuel:Nat) (x:DataW H × List MemPlace),DataW.trod enc P w base spare held fuel t cs=some x
section
variable {P:Program} {w:World} {t e:TypeId} {cs:List Value}
theorem Fits.of_trod {H:Type} {enc:TypeId × Value -> H} {base:Nat} {spare:Nat -> Bool} {held:Bool} {v:Value} {d:DataW H} {ps:List MemPlace} (h:DataW.Trod enc P w base spare held t v d ps):Fits P w t v.cells.toList:=by
 obtain ⟨fuel,hf⟩:=h;exact ⟨H,enc,base,spare,held,fuel,_,hf⟩
theorem tP {k:IntKind} (ht:P.underlying t=some (.int k)) (h:Fits P w t cs):∃ n,cs=[.int k n] /\ (Lit.int k n).wf=true:=by
 obtain ⟨H,enc,base,spare,held,fuel,x,hf⟩:=h;obtain ⟨n,h1,_,h3⟩:=DataW.trod_int ht hf;exact ⟨n,h1,h3⟩
theorem jB (ht:P.underlying t=some (.int .u64)) (h:Fits P w t cs):∃ n:Nat,cs=[.int .u64 n] /\ n<18446744073709551616:=by
 obtain ⟨n,rfl,hw⟩:=tP ht h;have hx:0 <= n /\ n <= 18446744073709551615:=by simpa [Lit.wf,IntKind.min,IntKind.max,IntKind.signed,IntKind.bits] using hw
 obtain ⟨m,rfl⟩:=Int.eq_ofNat_of_zero_le hx.1;exact ⟨m,rfl,by omega⟩
theorem iB (ht:P.underlying t=some (.int .i64)) (h:Fits P w t cs):∃ n:Int,cs=[.int .i64 n] /\ -9223372036854775808 <= n /\ n <= 9223372036854775807:=by
 obtain ⟨n,rfl,hw⟩:=tP ht h;have hx:-9223372036854775808 <= n /\ n <= 9223372036854775807:=by simpa [Lit.wf,IntKind.min,IntKind.max,IntKind.signed,IntKind.bits] using hw
 exact ⟨n,rfl,hx⟩
theorem uP (ht:P.underlying t=some (.slice e)) (h:Fits P w t cs):∃ A n c,cs=[.slice A n c] /\ n <= c /\ c <= maxLen /\
  ∀ i,i<n -> ∃ a Zi,A=some a /\ Zi.length=P.cellsOf e /\ (∀ j,j<P.cellsOf e -> w.cell? (a.add (i*P.cellsOf e+j))=Zi[j]?) /\ Fits P w e Zi:=by
 obtain ⟨H,enc,base,spare,held,fuel,x,hf⟩:=h;rcases Deep.open_slice ht hf with ⟨rfl,_⟩ | ⟨a,len,cap,m,k,D,Pl,rfl,hb,hl,hm,hmm,hx,hi⟩
 ·exact ⟨none,0,0,rfl,zR,by simp [maxLen],fun i h=>absurd h (by omega)⟩
 ·refine ⟨some a,len,cap,rfl,hl,hm,fun i Ub=>?_⟩
  have ft:i<m:=by rw [hmm];split <;> omega
  obtain ⟨Zi,hc,ht'⟩:=hi i ft;obtain ⟨_,Vf,hat⟩:=World.cells?_some hc;exact ⟨a,Zi,rfl,Vf,fun j hj=>by rw [<- KJ];exact hat j hj,H,enc,base,spare,held,k,_,ht'⟩
theorem wP {fs:Array Field} (ht:P.underlying t=some (.struct fs)) (h:Fits P w t cs):cs.length=P.cellsOf t /\
  ∀ (i:Nat) (f:Field),fs[i]?=some f -> Fits P w f.type ((cs.drop f.offset).take (P.cellsOf f.type)):=by
 obtain ⟨H,enc,base,spare,held,fuel,x,hf⟩:=h;obtain ⟨xs,n,_,_,hl,tC,hi⟩:=DataW.trod_struct ht hf;refine ⟨hl,fun i f hif=>?_⟩
 have za:i<xs.length:=by rw [tC];exact (Array.getElem?_eq_some_iff.1 hif).1
 exact ⟨H,enc,base,spare,held,n,_,(hi i f hif).trans (List.getElem?_eq_getElem za)⟩
theorem BO {p:Nat -> Nat -> Prop}:∀ n,(∀ i,i<n -> ∃ u,p i u) -> ∃ l:List Nat,l.length=n /\ ∀ i (h:i<l.length),p i l[i]
 | 0,_=>⟨[],rfl,fun i h=>by simp at h⟩
 | n+1,h=>by
  obtain ⟨l,hl,hp⟩:=BO n fun i hi=>h i (by omega)
  obtain ⟨u,hu⟩:=h n (by omega)
  refine ⟨l++[u],by simp [hl],fun i hx=>?_⟩
  simp at hx
  by_cases h1:i<l.length
  ·rw [List.getElem_append_left h1]
   exact hp i h1
  ·rw [List.getElem_append_right (by omega)]
   have:i=n:=by omega
   subst this;simp [hl]
   exact hu
theorem EW (ht:P.underlying t=some (.slice e)) (he:P.underlying e=some (.int .u64)) (hc:P.cellsOf e=1) (h:Fits P w t cs) :
  ∃ A n c l,cs=[.slice A n c] /\ n <= c /\ c <= maxLen /\ Rd w 1 A n (Fa l) /\ ∀ x∈l,x<18446744073709551616:=by
 obtain ⟨A,n,c,rfl,h1,h2,hi⟩:=uP ht h;have hi':∀ i,i<n -> ∃ u:Nat,u<18446744073709551616 /\ ∃ a,A=some a /\ w.cell? (a.add i)=some (.int .u64 u):=by
  intro i Ub;obtain ⟨a,Zi,rfl,hl,LB,hf⟩:=hi i Ub;obtain ⟨u,rfl,hu⟩:=jB he hf;have:=LB 0 (by omega)
  rw [hc,Nat.mul_one,Nat.add_zero] at this;exact ⟨u,hu,a,rfl,by simpa using this⟩
 obtain ⟨l,hl,hp⟩:=BO n hi';refine ⟨A,n,c,l,rfl,h1,h2,⟨by rw [Ou,hl,Nat.mul_one],fun hn=>?_⟩,fun x hx=>?_⟩
 ·obtain ⟨_,a,ha,_⟩:=hp 0 (by omega)
  refine ⟨a,ha,fun j u hu=>?_⟩
  have hj:j<l.length:=by
   rcases Nat.lt_or_ge j l.length with h | h
   ·exact h
   ·rw [List.getElem?_eq_none (by rw [Ou];exact h)] at hu;cases hu
  obtain ⟨_,a',Vq,Gl⟩:=hp j hj;rw [ha] at Vq
  injection Vq with Vq
  subst Vq;rw [FA hj] at hu
  injection hu with hu
  rw [Gl,hu]
 ·obtain ⟨j,hj,rfl⟩:=List.getElem_of_mem hx
  exact (hp j hj).1
end
end Go.Proofs.YtgeofabpinfcmaaGreat
namespace Go.Proofs.YtgeofabpinfcmaaGreat
open Go.RowKit
def RdL {α:Type} (w:World) (sz:Nat) (R:World -> List Value -> α -> Prop) (A:Option Addr) (l:List α):Prop :=
 ∀ (i:Nat) (hi:i<l.length),∃ a cs,A=some a /\ cs.length=sz /\ (∀ j,j<sz -> w.cell? (a.add (i*sz+j))=cs[j]?) /\ R w cs l[i]
def ju {α:Type} (R:World -> List Value -> α -> Prop):Prop:=∀ (w w':World) (cs:List Value) (x:α),Below w.heap.size w w' -> R w cs x -> R w' cs x
def RSl {α:Type} (sz:Nat) (R:World -> List Value -> α -> Prop) (w:World) (cs:List Value) (l:List α):Prop :=
 ∃ A n c,cs=[.slice A n c] /\ l.length=n /\ n <= c /\ c <= maxLen /\ RdL w sz R A l
def RWd (w:World) (cs:List Value) (l:List Nat):Prop :=
 ∃ A n c,cs=[.slice A n c] /\ n <= c /\ c <= maxLen /\ Rd w 1 A n (Fa l) /\ ∀ x∈l,x<18446744073709551616
section
variable {α:Type} {R:World -> List Value -> α -> Prop} {sz:Nat} {w w':World} {A:Option Addr} {l:List α}
theorem RdL.below (h:RdL w sz R A l) (hR:ju R) (hb:Below w.heap.size w w'):RdL w' sz R A l:=fun i hi=>by
 obtain ⟨a,cs,e,hl,hc,hr⟩:=h i hi;refine ⟨a,cs,e,hl,fun j hj=>?_,hR _ _ _ _ hb hr⟩
 have hcj:=hc j hj;rw [List.getElem?_eq_getElem (by omega)] at hcj |-
 exact (hb.cell (World.block_lt_of_cell? _ _ hcj)).trans hcj
theorem Kc (hR:ju R):ju (RSl sz R):=fun w w' cs l hb h=>by
 obtain ⟨A,n,c,e,h1,h2,h3,h4⟩:=h;exact ⟨A,n,c,e,h1,h2,h3,h4.below hR hb⟩
theorem DC:ju RWd:=fun w w' cs l hb h=>by
 obtain ⟨A,n,c,e,h1,h2,h3,h4⟩:=h;exact ⟨A,n,c,e,h1,h2,h3.below hb,h4⟩
theorem ta {w w1:World} {v:List Value} {l:List Nat} (h:Below w.heap.size w w1) (r:RWd w v l):RWd w1 v l:=DC _ _ _ _ h r
theorem RdL.at_ (h:RdL w sz R A l) (Nb:0<sz) {i:Nat} (hi:i<l.length) :
  ∃ a b q cs,A=some a /\ a.add (i*sz)=⟨b,q,none⟩ /\ cs.length=sz /\ (∀ j,j<sz -> w.cell? ⟨b,q+j,none⟩=cs[j]?) /\ R w cs l[i]:=by
 obtain ⟨a,cs,e,hl,hc,hr⟩:=h i hi;have h0:=hc 0 Nb;rw [Nat.add_zero,List.getElem?_eq_getElem (by omega)] at h0
 obtain ⟨b,q,hq⟩:∃ b q,a.add (i*sz)=⟨b,q,none⟩:=by
  have hs:=World.cell?_spot h0;generalize a.add (i*sz)=x at hs;obtain ⟨b,q,s⟩:=x;simp at hs
  subst hs;exact ⟨b,q,rfl⟩
 refine ⟨a,b,q,cs,e,hq,hl,fun j hj=>?_,hr⟩
 have:=hc j hj;rw [<- KJ,hq] at this;rw [<- this];unfold Addr.add;split <;> simp_all
end
section
variable {P:Program} {w:World} {t e:TypeId} {cs:List Value}
theorem CO {α:Type} {p:Nat -> α -> Prop}:∀ n,(∀ i,i<n -> ∃ u,p i u) -> ∃ l:List α,l.length=n /\ ∀ i (h:i<l.length),p i l[i]
 | 0,_=>⟨[],rfl,fun i h=>by simp at h⟩
 | n+1,h=>by
  obtain ⟨l,hl,hp⟩:=CO n fun i hi=>h i (by omega)
  obtain ⟨u,hu⟩:=h n (by omega)
  refine ⟨l++[u],by simp [hl],fun i hx=>?_⟩
  simp at hx
  by_cases h1:i<l.length
  ·rw [List.getElem_append_left h1]
   exact hp i h1
  ·rw [List.getElem_append_right (by omega)]
   have:i=n:=by omega
   subst this;simp [hl]
   exact hu
theorem qK {α:Type} {R:World -> List Value -> α -> Prop} (sz:Nat) (ht:P.underlying t=some (.slice e)) (hc:P.cellsOf e=sz)
  (ho:∀ Zi,Zi.length=sz -> Fits P w e Zi -> ∃ x,R w Zi x) (h:Fits P w t cs):∃ l,RSl sz R w cs l:=by
 obtain ⟨A,n,c,rfl,h1,h2,hi⟩:=uP ht h;rw [hc] at hi;have:∀ i,i<n -> ∃ x,∃ a Zi,A=some a /\ Zi.length=sz /\ (∀ j,j<sz -> w.cell? (a.add (i*sz+j))=Zi[j]?) /\ R w Zi x:=by
  intro i Ub;obtain ⟨a,Zi,e,hl,LB,hf⟩:=hi i Ub;obtain ⟨x,hx⟩:=ho Zi hl hf;exact ⟨x,a,Zi,e,hl,LB,hx⟩
 obtain ⟨l,hl,hp⟩:=CO n this;exact ⟨l,A,n,c,rfl,hl,h1,h2,fun i hi=>hp i hi⟩
theorem sP (ht:P.underlying t=some (.slice e)) (he:P.underlying e=some (.int .u64)) (hc:P.cellsOf e=1) (h:Fits P w t cs):∃ l,RWd w cs l:=by
 obtain ⟨A,n,c,l,rfl,h1,h2,h3,h4⟩:=EW ht he hc h;exact ⟨l,A,n,c,rfl,h1,h2,h3,h4⟩
theorem Hi {fs:Array Field} {f:Field} {i k n:Nat} (ht:P.underlying t=some (.struct fs)) (hf:fs[i]?=some f) (ho:f.offset=k) (hn:P.cellsOf f.type=n) (h:Fits P w t cs):Fits P w f.type ((cs.drop k).take n):=by
 have:=(wP ht h).2 i f hf;rw [ho,hn] at this;exact this
end
def GJ (_w:World) (cs:List Value) (x:Int × Nat):Prop:=cs=[.int .i64 x.1, .int .u64 x.2] /\ (-9223372036854775808 <= x.1 /\ x.1 <= 9223372036854775807) /\ x.2<18446744073709551616
theorem BC:ju GJ:=fun _ _ _ _ _ h=>h
def RLin:World -> List Value -> List (Int × Nat) -> Prop:=RSl 2 GJ
theorem jg:ju RLin:=Kc BC
structure Cb where
 a:List (Int × Nat)
 b:List (Int × Nat)
 c:List (Int × Nat)
def te (w:World) (cs:List Value) (r:Cb):Prop:=∃ x y z,cs=[x,y,z] /\ RLin w [x] r.a /\ RLin w [y] r.b /\ RLin w [z] r.c
theorem Gc:ju te:=fun w w' cs r hb h=>by
 obtain ⟨x,y,z,e,h1,h2,h3⟩:=h;exact ⟨x,y,z,e,jg _ _ _ _ hb h1,jg _ _ _ _ hb h2,jg _ _ _ _ hb h3⟩
structure TabR where
 p:Nat
 pub:Int
 vars:Int
 rows:List Cb
def RTab (w:World) (cs:List Value) (t:TabR):Prop:=∃ x,cs=[.int .u64 t.p, .int .i64 t.pub, .int .i64 t.vars,x] /\ t.p<18446744073709551616 /\
 (-9223372036854775808 <= t.pub /\ t.pub <= 9223372036854775807) /\ (-9223372036854775808 <= t.vars /\ t.vars <= 9223372036854775807) /\ RSl 3 te w [x] t.rows
theorem vy:Tryz.prog.cellsOf 22=1:=by kernel_rfl
theorem uy:Tryz.prog.cellsOf 3=1:=by kernel_rfl
theorem zO:Tryz.prog.cellsOf 28=1:=by kernel_rfl
theorem OJ:Tryz.prog.cellsOf 184=1:=by kernel_rfl
theorem fV:Tryz.prog.cellsOf 186=2:=by kernel_rfl
theorem cV:Tryz.prog.cellsOf 189=3:=by kernel_rfl
theorem dV:Tryz.prog.cellsOf 23=1:=by kernel_rfl
theorem eV:Tryz.prog.cellsOf 25=4:=by kernel_rfl
theorem pK {w:World} {cs:List Value} (h:Fits Tryz.prog w 184 cs):∃ l,RLin w cs l :=
 qK 2 Tryz.underlying184 fV (fun Zi hl hf=>by
  match Zi,hl with
  | [x,y],_ =>
   obtain ⟨a,ha,ma⟩:=iB Tryz.underlying3 (Hi (i:=0) Tryz.underlying186 rfl rfl uy hf);obtain ⟨b,hb,Wb⟩:=jB Tryz.underlying22 (Hi (i:=1) Tryz.underlying186 rfl rfl vy hf);simp at ha hb
   exact ⟨(a,b),by rw [ha,hb],ma,Wb⟩) h
theorem zW {w:World} {cs:List Value} (hl:cs.length=3) (h:Fits Tryz.prog w 189 cs):∃ r,te w cs r:=by
 match cs,hl with
 | [x,y,z],_ =>
  obtain ⟨a,ha⟩:=pK (Hi (i:=0) Tryz.underlying189 rfl rfl OJ h);obtain ⟨b,hb⟩:=pK (Hi (i:=1) Tryz.underlying189 rfl rfl OJ h);obtain ⟨c,hc⟩:=pK (Hi (i:=2) Tryz.underlying189 rfl rfl OJ h);exact ⟨⟨a,b,c⟩,x,y,z,rfl,ha,hb,hc⟩
theorem AW {w:World} {cs:List Value} (hl:cs.length=4) (h:Fits Tryz.prog w 25 cs):∃ t,RTab w cs t:=by
 match cs,hl with
 | [x,y,z,r],_ =>
  obtain ⟨a,ha,ma⟩:=jB Tryz.underlying22 (Hi (i:=0) Tryz.underlying25 rfl rfl vy h);obtain ⟨b,hb,Wb⟩:=iB Tryz.underlying3 (Hi (i:=1) Tryz.underlying25 rfl rfl uy h);obtain ⟨c,hc,Vf⟩:=iB Tryz.underlying3 (Hi (i:=2) Tryz.underlying25 rfl rfl uy h);obtain ⟨rs,hr⟩:=qK 3 (R:=te) Tryz.underlying23 cV (fun Zi QB hf=>zW QB hf) (Hi (i:=3) Tryz.underlying25 rfl rfl dV h)
  simp at ha hb hc
  exact ⟨⟨a,b,c,rs⟩,r,by rw [ha,hb,hc],ma,Wb,Vf,hr⟩
def ab (p:Nat):Bool:=p == 17||p == 97||p == 193||p == 257||p == 12289||p == 65537||p == 18446744069414584321
theorem pq {p:Nat} (h:ab p=true):p=17 \/ p=97 \/ p=193 \/ p=257 \/ p=12289 \/ p=65537 \/ p=18446744069414584321:=by
 simp [ab] at h
 omega
def tb (p:Nat):Nat × Nat × Nat :=
 if p=17 then (3,4,3) else
 if p=97 then (5,5,5) else
 if p=193 then (5,6,5) else
 if p=257 then (3,8,3) else
 if p=12289 then (11,12,5) else
 if p=65537 then (3,16,3) else
 if p=18446744069414584321 then (7,32,7) else
 (0,0,0)
def pE (p:Nat):Value:=.agg #[.int .u64 ((tb p).1:Int), .int .u64 ((tb p).2.1:Int), .int .u64 ((tb p).2.2:Int)]
theorem KM (p:Nat) (w:World) (_hp:p<18446744073709551616) :
  Calls Tryz.prog 134 #[.int .u64 p] w fun e w'=>e= .returned (pE p) /\ Below w.heap.size w w':=by
 by_cases h0:p=17
 ·subst h0
  go_enter Tryz.func134,Tryz.ntmps134
  go_wp2_with fail
  exact bodyPost_ret (v:=.agg #[.int .u64 3, .int .u64 4, .int .u64 3]) (by simp [results,Tryz.results134,go_sem]) rfl ⟨rfl,(Below.refl _ _).alloc zR _⟩
 by_cases h1:p=97
 ·subst h1
  go_enter Tryz.func134,Tryz.ntmps134
  go_wp2_with fail
  exact bodyPost_ret (v:=.agg #[.int .u64 5, .int .u64 5, .int .u64 5]) (by simp [results,Tryz.results134,go_sem]) rfl ⟨rfl,(Below.refl _ _).alloc zR _⟩
 by_cases h2:p=193
 ·subst h2
  go_enter Tryz.func134,Tryz.ntmps134
  go_wp2_with fail
  exact bodyPost_ret (v:=.agg #[.int .u64 5, .int .u64 6, .int .u64 5]) (by simp [results,Tryz.results134,go_sem]) rfl ⟨rfl,(Below.refl _ _).alloc zR _⟩
 by_cases h3:p=257
 ·subst h3
  go_enter Tryz.func134,Tryz.ntmps134
  go_wp2_with fail
  exact bodyPost_ret (v:=.agg #[.int .u64 3, .int .u64 8, .int .u64 3]) (by simp [results,Tryz.results134,go_sem]) rfl ⟨rfl,(Below.refl _ _).alloc zR _⟩
 by_cases h4:p=12289
 ·subst h4
  go_enter Tryz.func134,Tryz.ntmps134
  go_wp2_with fail
  exact bodyPost_ret (v:=.agg #[.int .u64 11, .int .u64 12, .int .u64 5]) (by simp [results,Tryz.results134,go_sem]) rfl ⟨rfl,(Below.refl _ _).alloc zR _⟩
 by_cases h5:p=65537
 ·subst h5
  go_enter Tryz.func134,Tryz.ntmps134
  go_wp2_with fail
  exact bodyPost_ret (v:=.agg #[.int .u64 3, .int .u64 16, .int .u64 3]) (by simp [results,Tryz.results134,go_sem]) rfl ⟨rfl,(Below.refl _ _).alloc zR _⟩
 by_cases h6:p=18446744069414584321
 ·subst h6
  go_enter Tryz.func134,Tryz.ntmps134
  go_wp2_with fail
  exact bodyPost_ret (v:=.agg #[.int .u64 7, .int .u64 32, .int .u64 7]) (by simp [results,Tryz.results134,go_sem]) rfl ⟨rfl,(Below.refl _ _).alloc zR _⟩
 have d0:((p:Int) == 17)=false:=by rw [beq_eq_false_iff_ne];omega
 have d1:((p:Int) == 97)=false:=by rw [beq_eq_false_iff_ne];omega
 have d2:((p:Int) == 193)=false:=by rw [beq_eq_false_iff_ne];omega
 have d3:((p:Int) == 257)=false:=by rw [beq_eq_false_iff_ne];omega
 have d4:((p:Int) == 12289)=false:=by rw [beq_eq_false_iff_ne];omega
 have d5:((p:Int) == 65537)=false:=by rw [beq_eq_false_iff_ne];omega
 have d6:((p:Int) == 18446744069414584321)=false:=by rw [beq_eq_false_iff_ne];omega
 have HR:=zH (show pE p= .agg #[.int .u64 0, .int .u64 0, .int .u64 0] by simp [pE,tb, *])
 clear h0 h1 h2 h3 h4 h5 h6;go_enter Tryz.func134,Tryz.ntmps134
 go_wp2_with fail
 exact bodyPost_ret (v:=.agg #[.int .u64 0, .int .u64 0, .int .u64 0]) (by simp [results,Tryz.results134,go_sem]) rfl ⟨by rw [HR.out],(Below.refl _ _).alloc zR _⟩
theorem T1 (p:Nat):decide (0<(tb p).1)=ab p:=by
 by_cases h:ab p=true
 ·rcases pq h with rfl | rfl | rfl | rfl | rfl | rfl | rfl <;> rfl
 ·have h':=h
  simp [ab] at h'
  simp [tb,h',h]
theorem eX:(Tryz.prog.info? 22).map (fun i=>(i.zero,i.size,i.bytes))=some (some (.int .u64 0),1,8):=by kernel_rfl
theorem Ep (b q k:Nat):(⟨b,q,none⟩:Addr).add k=⟨b,q+k,none⟩:=by
 unfold Addr.add;split
 ·subst_vars;rfl
 ·rfl
theorem RdL.base {α:Type} {R:World -> List Value -> α -> Prop} {sz:Nat} {w:World} {A:Option Addr} {l:List α} (h:RdL w sz R A l) (Nb:0<sz) (hl:0<l.length):∃ b q,A=some ⟨b,q,none⟩:=by
 obtain ⟨a,b,q,cs,rfl,hq,-⟩:=h.at_ Nb hl;refine ⟨b,q,?_⟩;rw [<- hq];simp [Addr.add]
theorem RdL.get {α:Type} {R:World -> List Value -> α -> Prop} {sz:Nat} {w:World} {b q:Nat} {l:List α} (h:RdL w sz R (some ⟨b,q,none⟩) l) {i:Nat} (hi:i<l.length) :
  ∃ cs,cs.length=sz /\ (∀ j,j<sz -> w.cell? ⟨b,q+i*sz+j,none⟩=cs[j]?) /\ R w cs l[i]:=by
 obtain ⟨a,cs,e,hl,hc,hr⟩:=h i hi
 injection e with e
 subst e;refine ⟨cs,hl,fun j hj=>?_,hr⟩
 rw [<- hc j hj,Ep,Nat.add_assoc]
theorem FI {P:Program} {w:World} {t e:TypeId} {n:Nat} {cs:Array Value} {v:Value} {i:Nat} (h:P.underlying t=some (.array n e)) (hs:((isAgg e).run P w)= .ok false w) (hz:((sizeOf e).run P w)= .ok 1 w) (hi:i<n) (hv:cs[i]?=some v) :
  (Instr.index t (.agg cs) (.int .i64 i)).run P w= .ok v w:=by
 have h1:(0:Int) <= (i:Int) /\ (i:Int)<(n:Int):=by omega
 simp [Instr.index,run_underlying h,asIntOf,h1,hi,hz,hs,hv,part,Result.andThen]
theorem cO {w:World}:((isAgg 22).run Tryz.prog w)= .ok false w:=by simp [isAgg,run_underlying Tryz.underlying22]
theorem jT {w:World}:((sizeOf 22).run Tryz.prog w)= .ok 1 w:=by
 obtain ⟨i0,hi,Tg,fe,sh⟩:=info_parts eX;simp [sizeOf,typeInfo,hi,fe]
theorem ZP {w:World} {a b c:Value}:(Instr.index 214 (.agg #[a,b,c]) (.int .i64 0)).run Tryz.prog w= .ok a w :=
 FI (i:=0) Tryz.underlying214 cO jT (by omega) rfl
theorem Ul (p:Nat) (w:World) (hp:p<18446744073709551616) :
  Calls Tryz.prog 55 #[.int .u64 p] w fun e w'=>e= .returned (.bool (ab p)) /\ Below w.heap.size w w':=by
 have HO:=zH (T1 p);have HR:=zH (KM p w hp);unfold pE at HR;revert HO HR
 generalize (tb p).1=a;generalize (tb p).2.1=b;generalize (tb p).2.2=c;intro HO HR;go_enter Tryz.func55,Tryz.ntmps55
 go_wp2_with (go_at_call 134;refine HR.out.mono ?_;rintro e w1 ⟨rfl,hb⟩)
 rw [ZP,Result.andThen,Oper.upon_value];go_wp2;go_ret
 exact ⟨by rw [<- HO.out];rfl,hb⟩
def xr (p:Nat) (n:Int) (l:List (Int × Nat)) (i:Nat):Bool :=
 decide ((l.getD i (0,0)).1<0)||decide (n <= (l.getD i (0,0)).1)||(decide (0<i)&&decide ((l.getD i (0,0)).1 <= (l.getD (i-1) (0,0)).1))||(l.getD i (0,0)).2 == 0||decide (p <= (l.getD i (0,0)).2)
def Pj (p:Nat) (n:Int) (l:List (Int × Nat)):Bool:=(List.range l.length).all fun i=>!xr p n l i
theorem Ct {p:Nat} {n:Int} {l:List (Int × Nat)} {j:Nat} (hj:j<l.length) (h:xr p n l j=true):Pj p n l=false:=by
 unfold Pj;rw [List.all_eq_false];exact ⟨j,by simpa using hj,by simp [h]⟩
theorem mQ {p:Nat} {n:Int} {l:List (Int × Nat)} (h:∀ k<l.length,xr p n l k=false):Pj p n l=true:=by
 unfold Pj;rw [List.all_eq_true];intro k hk;simp [h k (by simpa using hk)]
theorem jK {f:Nat -> Bool} {j:Nat} (h:∀ k<j,f k=false) (hj:f j=false):∀ k<j+1,f k=false:=fun k hk=>by
 rcases Nat.lt_or_ge k j with h1 | h1
 ·exact h k h1
 ·have e:k=j:=by omega
  rw [e];exact hj
theorem RLin.at_ {w:World} {b q:Nat} {l:List (Int × Nat)} (h:RdL w 2 GJ (some ⟨b,q,none⟩) l) {i:Nat} (hi:i<l.length) :
  w.cell? ⟨b,q+i*2,none⟩=some (.int .i64 (l.getD i (0,0)).1) /\ w.cell? ⟨b,q+i*2+1,none⟩=some (.int .u64 ((l.getD i (0,0)).2:Int)):=by
 obtain ⟨cs,hl,hc,rfl,-,-⟩:=h.get hi;have h0:=hc 0 (by omega)
 have h1:=hc 1 (by omega)
 simp [hi] at h0 h1 |-
 exact ⟨h0,h1⟩
theorem mE (p:Nat) (n:Int) (A:Option Addr) (len c:Nat) (l:List (Int × Nat)) (w:World) (hl:RLin w [.slice A len c] l) (_hp:p<18446744073709551616) :
  Calls Tryz.prog 212 #[.int .u64 p, .slice A len c, .int .i64 n] w fun e w'=>e= .returned (.bool (Pj p n l)) /\ Below w.heap.size w w':=by
 obtain ⟨A',n',c',he,hlen,Td,xe,La⟩:=hl;simp at he
 obtain ⟨rfl,rfl,rfl⟩:=he;subst hlen;go_enter Tryz.func212,Tryz.ntmps212
 go_wp2_with fail
 go_loopw [7] (fun i wr=>∃ j:Nat,j <= l.length /\ i= .int .i64 j /\ Below w.heap.size w wr /\ Hid (∀ k<j,xr p n l k=false))
  (fun i _=>l.length-(intOf i).toNat)
 case atStart=>exact ⟨0,Nat.zero_le _,rfl,Below.refl _ _,fun k hk=>by omega⟩
 case round =>
  obtain ⟨j,hj,rfl,hb,HB⟩:=hrel;by_cases za:j<l.length
  ·have HL:=zH za
   obtain ⟨b,q,rfl⟩:=La.base (by omega) (by omega)
   have Pk:=La.below BC hb;obtain ⟨c1,c2⟩:=RLin.at_ Pk za;have g0:(l.length:Int) <= 9223372036854775807:=by
    have h3:=Td;have h4:=xe;simp [maxLen] at h4
    omega
   have g1:(0:Int) <= (j:Int):=by omega
   have g2:(j:Int)<(l.length:Int):=by omega
   have HD:Hid (xr p n l j=(decide ((l.getD j (0,0)).1<0)||decide (n <= (l.getD j (0,0)).1)||(decide (0<j)&&decide ((l.getD j (0,0)).1 <= (l.getD (j-1) (0,0)).1))||(l.getD j (0,0)).2 == 0||decide (p <= (l.getD j (0,0)).2))):=rfl
   have HC:=zH (fun (h0:0<j)=>(RLin.at_ Pk (show j-1<l.length by omega)).1)
   revert c1 c2 HD HC
   generalize (l.getD j (0,0)).1=x;generalize (l.getD j (0,0)).2=y;generalize (l.getD (j-1) (0,0)).1=z;intro c1 c2 HD HC;clear La Pk;by_cases z1:x<0
   ·have d1:=decide_eq_true z1
    go_wp2_with fail
    go_quiet (fail)
    go_wp2;go_ret
    exact ⟨by rw [Ct HL.out (HD.out.trans (by simp [*]))];rfl,by first | exact below_drewN hb _ | exact hb⟩
   ·have d1:=decide_eq_false z1
    by_cases z2:n <= x
    ·have d2:=decide_eq_true z2
     go_wp2_with fail
     go_quiet (fail)
     go_wp2;go_ret
     exact ⟨by rw [Ct HL.out (HD.out.trans (by simp [*]))];rfl,by first | exact below_drewN hb _ | exact hb⟩
    ·have d2:=decide_eq_false z2
     rcases Nat.eq_zero_or_pos j with z3 | z3
     ·subst z3
      simp only [Nat.zero_mul,Nat.add_zero] at c1 c2;by_cases z4:y=0
      ·subst z4
       go_wp2_with fail
       go_quiet (fail)
       go_wp2;go_ret
       exact ⟨by rw [Ct HL.out (HD.out.trans (by simp [*]))];rfl,by first | exact below_drewN hb _ | exact hb⟩
      ·have d4:((y:Int) == 0)=false:=by rw [beq_eq_false_iff_ne];omega
       by_cases z5:p <= y
       ·have d5:decide ((p:Int) <= (y:Int))=true:=decide_eq_true (by omega)
        go_wp2_with fail
        go_quiet (fail)
        go_wp2;go_ret
        exact ⟨by rw [Ct HL.out (HD.out.trans (by simp [*]))];rfl,by first | exact below_drewN hb _ | exact hb⟩
       ·have d5:decide ((p:Int) <= (y:Int))=false:=decide_eq_false (by omega)
        go_wp2_with fail
        go_quiet (fail)
        go_wp2
        go_roundw
        case rel=>exact ⟨0+1,by omega,by go_num,by first | exact below_drewN hb _ | exact hb,jK HB.out (HD.out.trans (by simp [*]))⟩
        case measure=>simp [intOf];omega
     ·have d3:decide ((0:Int)<(j:Int))=true:=decide_eq_true (by omega)
      have c3:=HC.out z3;have i1:(0:Int) <= (j:Int)-1:=by omega
      have i2:(j:Int)-1<(l.length:Int):=by omega
      have i3:((j:Int)-1).toNat=j-1:=by omega
      by_cases z6:x <= z
      ·have d6:=decide_eq_true z6
       go_wp2_with fail
       go_quiet (fail)
       go_wp2;go_ret
       exact ⟨by rw [Ct HL.out (HD.out.trans (by simp [*]))];rfl,by first | exact below_drewN hb _ | exact hb⟩
      ·have d6:=decide_eq_false z6
       by_cases z4:y=0
       ·subst z4
        go_wp2_with fail
        go_quiet (fail)
        go_wp2;go_ret
        exact ⟨by rw [Ct HL.out (HD.out.trans (by simp [*]))];rfl,by first | exact below_drewN hb _ | exact hb⟩
       ·have d4:((y:Int) == 0)=false:=by rw [beq_eq_false_iff_ne];omega
        by_cases z5:p <= y
        ·have d5:decide ((p:Int) <= (y:Int))=true:=decide_eq_true (by omega)
         go_wp2_with fail
         go_quiet (fail)
         go_wp2;go_ret
         exact ⟨by rw [Ct HL.out (HD.out.trans (by simp [*]))];rfl,by first | exact below_drewN hb _ | exact hb⟩
        ·have d5:decide ((p:Int) <= (y:Int))=false:=decide_eq_false (by omega)
         go_wp2_with fail
         go_quiet (fail)
         go_wp2
         go_roundw
         case rel=>exact ⟨j+1,by omega,by go_num,by first | exact below_drewN hb _ | exact hb,jK HB.out (HD.out.trans (by simp [*]))⟩
         case measure=>simp [intOf];omega
  ·go_wp2
   go_ret
   have e:j=l.length:=by omega
   subst e;exact ⟨by rw [mQ HB.out];rfl,hb⟩
def slc (v:Value):Prop:=∃ A n c,v= .slice A n c
theorem RSl.slc {α:Type} {R:World -> List Value -> α -> Prop} {sz:Nat} {w:World} {v:Value} {l:List α} (h:RSl sz R w [v] l):slc v:=by
 obtain ⟨A,n,c,e,-⟩:=h;simp at e
 exact ⟨A,n,c,e⟩
def pc (p:Nat) (pub vars:Int) (rows:Value):Value:=.agg #[.int .u64 p, .int .i64 pub, .int .i64 vars,rows]
def Xk (p:Nat) (n:Int) (r:Cb):Bool:=Pj p n r.a&&Pj p n r.b&&Pj p n r.c
theorem oG {w w1:World} {t1 t2:TypeId} {ed me:Array Value} (hb:Below ((w.alloc (.cells ed t1)).alloc (.cells me t2)).heap.size ((w.alloc (.cells ed t1)).alloc (.cells me t2)) w1) :
  Blk w1 w.heap.size t1 ed /\ Blk w1 (w.heap.size+1) t2 me /\ Below w.heap.size w w1:=by
 refine ⟨((Blk.new w t1 ed).alloc _).below hb (by simp;omega),?_,oa (((Below.refl _ w).alloc zR _).alloc (by simp) _) hb⟩
 have:=(Blk.new (w.alloc (.cells ed t1)) t2 me).below hb (by simp)
 simpa using this
theorem rS (p:Nat) (pub vars:Int) (rows:Value) (r:Cb) (x y z:Value) (w:World) (hx:RLin w [x] r.a) (hy:RLin w [y] r.b) (hz:RLin w [z] r.c) (hp:p<18446744073709551616) :
  Calls Tryz.prog 135 #[pc p pub vars rows, .agg #[x,y,z]] w fun e w'=>e= .returned (.bool (Xk p vars r)) /\ Below w.heap.size w w':=by
 obtain ⟨A1,n1,c1,rfl⟩:=RSl.slc hx;obtain ⟨A2,n2,c2,rfl⟩:=RSl.slc hy;obtain ⟨A3,n3,c3,rfl⟩:=RSl.slc hz;unfold pc;cases b1:Pj p vars r.a
 ·have E:=zH (show Xk p vars r=false by simp [Xk,b1])
  have B1:=zH b1;clear b1;go_enter Tryz.func135,Tryz.ntmps135
  go_wp2_with (first | (go_at_call 212;refine (mE p vars _ _ _ r.a _ (jg _ _ _ _ (((Below.refl _ w).alloc zR _).alloc (by simp) _) hx) hp).mono ?_;rintro e w1 ⟨rfl,hb⟩;rw [B1.out];obtain ⟨K1,K2,Ga⟩:=oG hb;have t0:w1.cell? ⟨w.heap.size,0,none⟩=some (.int .u64 p):=K1.cell 0;have t2:w1.cell? ⟨w.heap.size,2,none⟩=some (.int .i64 vars):=K1.cell 2;have y1:w1.cell? ⟨w.heap.size+1,1,none⟩=some (.slice A2 n2 c2):=K2.cell 1;have y2:w1.cell? ⟨w.heap.size+1,2,none⟩=some (.slice A3 n3 c3):=K2.cell 2;clear hb))
  go_ret
  exact ⟨by rw [E.out];rfl,Ga⟩
 have B1:=zH b1;cases b2:Pj p vars r.b
 ·have E:=zH (show Xk p vars r=false by simp [Xk,b1,b2])
  have B2:=zH b2;clear b1 b2;go_enter Tryz.func135,Tryz.ntmps135
  go_wp2_with (first | (go_at_call 212;refine (mE p vars _ _ _ r.b _ (jg _ _ _ _ Ga hy) hp).mono ?_;rintro e w2 ⟨rfl,Ka⟩;rw [B2.out];clear t0 t2 y1 y2;have t0:w2.cell? ⟨w.heap.size,0,none⟩=some (.int .u64 p):=(ia K1 Ka).cell 0;have t2:w2.cell? ⟨w.heap.size,2,none⟩=some (.int .i64 vars):=(ia K1 Ka).cell 2;have y2:w2.cell? ⟨w.heap.size+1,2,none⟩=some (.slice A3 n3 c3):=(ia K2 Ka).cell 2) | (go_at_call 212;refine (mE p vars _ _ _ r.a _ (jg _ _ _ _ (((Below.refl _ w).alloc zR _).alloc (by simp) _) hx) hp).mono ?_;rintro e w1 ⟨rfl,hb⟩;rw [B1.out];obtain ⟨K1,K2,Ga⟩:=oG hb;have t0:w1.cell? ⟨w.heap.size,0,none⟩=some (.int .u64 p):=K1.cell 0;have t2:w1.cell? ⟨w.heap.size,2,none⟩=some (.int .i64 vars):=K1.cell 2;have y1:w1.cell? ⟨w.heap.size+1,1,none⟩=some (.slice A2 n2 c2):=K2.cell 1;have y2:w1.cell? ⟨w.heap.size+1,2,none⟩=some (.slice A3 n3 c3):=K2.cell 2;clear hb))
  go_ret
  exact ⟨by rw [E.out];rfl,oa Ga Ka⟩
 have B2:=zH b2;have E:=zH (show Xk p vars r=Pj p vars r.c by simp [Xk,b1,b2])
 clear b1 b2;go_enter Tryz.func135,Tryz.ntmps135
 go_wp2_with (first | (go_at_call 212;refine (mE p vars _ _ _ r.c _ (jg _ _ _ _ (oa Ga Ka) hz) hp).mono ?_;rintro e w3 ⟨rfl,ib⟩) | (go_at_call 212;refine (mE p vars _ _ _ r.b _ (jg _ _ _ _ Ga hy) hp).mono ?_;rintro e w2 ⟨rfl,Ka⟩;rw [B2.out];clear t0 t2 y1 y2;have t0:w2.cell? ⟨w.heap.size,0,none⟩=some (.int .u64 p):=(ia K1 Ka).cell 0;have t2:w2.cell? ⟨w.heap.size,2,none⟩=some (.int .i64 vars):=(ia K1 Ka).cell 2;have y2:w2.cell? ⟨w.heap.size+1,2,none⟩=some (.slice A3 n3 c3):=(ia K2 Ka).cell 2) | (go_at_call 212;refine (mE p vars _ _ _ r.a _ (jg _ _ _ _ (((Below.refl _ w).alloc zR _).alloc (by simp) _) hx) hp).mono ?_;rintro e w1 ⟨rfl,hb⟩;rw [B1.out];obtain ⟨K1,K2,Ga⟩:=oG hb;have t0:w1.cell? ⟨w.heap.size,0,none⟩=some (.int .u64 p):=K1.cell 0;have t2:w1.cell? ⟨w.heap.size,2,none⟩=some (.int .i64 vars):=K1.cell 2;have y1:w1.cell? ⟨w.heap.size+1,1,none⟩=some (.slice A2 n2 c2):=K2.cell 1;have y2:w1.cell? ⟨w.heap.size+1,2,none⟩=some (.slice A3 n3 c3):=K2.cell 2;clear hb))
 go_ret
 exact ⟨by rw [E.out];rfl,oa (oa Ga Ka) ib⟩
end Go.Proofs.YtgeofabpinfcmaaGreat
