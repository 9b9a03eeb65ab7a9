/- A part of the proof. No condition. -/
import Derived.ChangeOld
import Derived.Deep.Slices
import Derived.Test.YtjipleoamlmkfaaGreatProg
import Derived.Test.YtjipleoamlmkfaaGreatPF1

set_option maxRecDepth 100000
set_option maxHeartbeats 8000000
set_option linter.unusedVariables false
set_option linter.unusedSimpArgs false
namespace Go.Proofs.YtjipleoamlmkfaaGreat
open Go.RowKit Go.ChangeShapes Go.WideShapes Go.ChangeAt
def Fits (P:Program) (w:World) (t:TypeId) (cs:List Value):Prop :=
 ∃ (H:Type) (enc:TypeId × Value -> H) (base:Nat) (spare:Nat -> Bool) (held:Bool) (fuel:Nat) (x:DataW H × List MemPlace),DataW.trod enc P w base spare held fuel t cs=some x
section
variable {P:Program} {w:World} {t e:TypeId} {cs:List Value}
theorem Fits.of_trod {H:Type} {enc:TypeId × Value -> H} {base:Nat} {spare:Nat -> Bool} {held:Bool} {v:Value} {d:DataW H} {ps:List MemPlace} (h:DataW.Trod enc P w base spare held t v d ps):Fits P w t v.cells.toList:=by
 obtain ⟨fuel,hf⟩:=h;exact ⟨H,enc,base,spare,held,fuel,_,hf⟩
theorem tH {k:IntKind} (ht:P.underlying t=some (.int k)) (h:Fits P w t cs):∃ n,cs=[.int k n] /\ (Lit.int k n).wf=true:=by
 obtain ⟨H,enc,base,spare,held,fuel,x,hf⟩:=h;obtain ⟨n,h1,_,h3⟩:=DataW.trod_int ht hf;exact ⟨n,h1,h3⟩
theorem Sy (ht:P.underlying t=some (.int .u64)) (h:Fits P w t cs):∃ n:Nat,cs=[.int .u64 n] /\ n<18446744073709551616:=by
 obtain ⟨n,rfl,hw⟩:=tH ht h;have hx:0 <= n /\ n <= 18446744073709551615:=by simpa [Lit.wf,IntKind.min,IntKind.max,IntKind.signed,IntKind.bits] using hw
 obtain ⟨m,rfl⟩:=Int.eq_ofNat_of_zero_le hx.1;exact ⟨m,rfl,by omega⟩
theorem yx (ht:P.underlying t=some (.int .i64)) (h:Fits P w t cs):∃ n:Int,cs=[.int .i64 n] /\ -9223372036854775808 <= n /\ n <= 9223372036854775807:=by
 obtain ⟨n,rfl,hw⟩:=tH ht h;have hx:-9223372036854775808 <= n /\ n <= 9223372036854775807:=by simpa [Lit.wf,IntKind.min,IntKind.max,IntKind.signed,IntKind.bits] using hw
 exact ⟨n,rfl,hx⟩
theorem ZM (ht:P.underlying t=some .bool) (h:Fits P w t cs):∃ b,cs=[.bool b]:=by
 obtain ⟨H,enc,base,spare,held,fuel,x,hf⟩:=h;cases fuel with
 | zero=>simp [DataW.trod] at hf
 | succ n =>
  unfold DataW.trod at hf;rw [ht] at hf;split at hf <;> simp_all
theorem uH (ht:P.underlying t=some (.slice e)) (h:Fits P w t cs):∃ A n c,cs=[.slice A n c] /\ n <= c /\ c <= maxLen /\
  ∀ i,i<n -> ∃ a Ig,A=some a /\ Ig.length=P.cellsOf e /\ (∀ j,j<P.cellsOf e -> w.cell? (a.add (i*P.cellsOf e+j))=Ig[j]?) /\ Fits P w e Ig:=by
 obtain ⟨H,enc,base,spare,held,fuel,x,hf⟩:=h;rcases Deep.open_slice ht hf with ⟨rfl,_⟩ | ⟨a,len,cap,m,k,D,Pl,rfl,hb,hl,hm,hmm,hx,hi⟩
 ·exact ⟨none,0,0,rfl,zR,by simp [maxLen],fun i h=>absurd h (by omega)⟩
 ·refine ⟨some a,len,cap,rfl,hl,hm,fun i Pb=>?_⟩
  have Wq:i<m:=by rw [hmm];split <;> omega
  obtain ⟨Ig,hc,ht'⟩:=hi i Wq;obtain ⟨_,Tq,Ym⟩:=World.cells?_some hc;exact ⟨a,Ig,rfl,Tq,fun j hj=>by rw [<- X5];exact Ym j hj,H,enc,base,spare,held,k,_,ht'⟩
theorem vH {fs:Array Field} (ht:P.underlying t=some (.struct fs)) (h:Fits P w t cs):cs.length=P.cellsOf t /\
  ∀ (i:Nat) (f:Field),fs[i]?=some f -> Fits P w f.type ((cs.drop f.offset).take (P.cellsOf f.type)):=by
 obtain ⟨H,enc,base,spare,held,fuel,x,hf⟩:=h;obtain ⟨xs,n,_,_,hl,uw,hi⟩:=DataW.trod_struct ht hf;refine ⟨hl,fun i f hif=>?_⟩
 have oa:i<xs.length:=by rw [uw];exact (Array.getElem?_eq_some_iff.1 hif).1
 exact ⟨H,enc,base,spare,held,n,_,(hi i f hif).trans (List.getElem?_eq_getElem oa)⟩
theorem RG {p:Nat -> Nat -> Prop}:∀ n,(∀ i,i<n -> ∃ u,p i u) -> ∃ l:List Nat,l.length=n /\ ∀ i (h:i<l.length),p i l[i]
 | 0,_=>⟨[],rfl,fun i h=>by simp at h⟩
 | n+1,h=>by
  obtain ⟨l,hl,hp⟩:=RG n fun i hi=>h i (by omega)
  obtain ⟨u,hu⟩:=h n (by omega)
  refine ⟨l++[u],by simp [hl],fun i hx=>?_⟩
  simp at hx
  by_cases h1:i<l.length
  ·rw [List.getElem_append_left h1]
   exact hp i h1
  ·rw [List.getElem_append_right (by omega)]
   have:i=n:=by omega
   subst this;simp [hl]
   exact hu
theorem dN (ht:P.underlying t=some (.slice e)) (he:P.underlying e=some (.int .u64)) (hc:P.cellsOf e=1) (h:Fits P w t cs) :
  ∃ A n c l,cs=[.slice A n c] /\ n <= c /\ c <= maxLen /\ Rd w 1 A n (Ca l) /\ ∀ x∈l,x<18446744073709551616:=by
 obtain ⟨A,n,c,rfl,h1,h2,hi⟩:=uH ht h;have Jt:∀ i,i<n -> ∃ u:Nat,u<18446744073709551616 /\ ∃ a,A=some a /\ w.cell? (a.add i)=some (.int .u64 u):=by
  intro i Pb;obtain ⟨a,Ig,rfl,hl,Tj,hf⟩:=hi i Pb;obtain ⟨u,rfl,hu⟩:=Sy he hf;have:=Tj 0 (by omega)
  rw [hc,Nat.mul_one,Nat.add_zero] at this;exact ⟨u,hu,a,rfl,by simpa using this⟩
 obtain ⟨l,hl,hp⟩:=RG n Jt;refine ⟨A,n,c,l,rfl,h1,h2,⟨by rw [Gi,hl,Nat.mul_one],fun hn=>?_⟩,fun x hx=>?_⟩
 ·obtain ⟨_,a,ha,_⟩:=hp 0 (by omega)
  refine ⟨a,ha,fun j u hu=>?_⟩
  have hj:j<l.length:=by
   rcases Nat.lt_or_ge j l.length with h | h
   ·exact h
   ·rw [List.getElem?_eq_none (by rw [Gi];exact h)] at hu;cases hu
  obtain ⟨_,a',El,Jk⟩:=hp j hj;rw [ha] at El
  injection El with El
  subst El;rw [jv hj] at hu
  injection hu with hu
  rw [Jk,hu]
 ·obtain ⟨j,hj,rfl⟩:=List.getElem_of_mem hx
  exact (hp j hj).1
end
end Go.Proofs.YtjipleoamlmkfaaGreat
namespace Go.Proofs.YtjipleoamlmkfaaGreat
open Go.RowKit
def RdL {α:Type} (w:World) (sz:Nat) (R:World -> List Value -> α -> Prop) (A:Option Addr) (l:List α):Prop :=
 ∀ (i:Nat) (hi:i<l.length),∃ a cs,A=some a /\ cs.length=sz /\ (∀ j,j<sz -> w.cell? (a.add (i*sz+j))=cs[j]?) /\ R w cs l[i]
def Ao {α:Type} (R:World -> List Value -> α -> Prop):Prop:=∀ (w w':World) (cs:List Value) (x:α),Below w.heap.size w w' -> R w cs x -> R w' cs x
def RSl {α:Type} (sz:Nat) (R:World -> List Value -> α -> Prop) (w:World) (cs:List Value) (l:List α):Prop :=
 ∃ A n c,cs=[.slice A n c] /\ l.length=n /\ n <= c /\ c <= maxLen /\ RdL w sz R A l
def RWd (w:World) (cs:List Value) (l:List Nat):Prop :=
 ∃ A n c,cs=[.slice A n c] /\ n <= c /\ c <= maxLen /\ Rd w 1 A n (Ca l) /\ ∀ x∈l,x<18446744073709551616
section
variable {α:Type} {R:World -> List Value -> α -> Prop} {sz:Nat} {w w':World} {A:Option Addr} {l:List α}
theorem RdL.below (h:RdL w sz R A l) (hR:Ao R) (hb:Below w.heap.size w w'):RdL w' sz R A l:=fun i hi=>by
 obtain ⟨a,cs,e,hl,hc,hr⟩:=h i hi;refine ⟨a,cs,e,hl,fun j hj=>?_,hR _ _ _ _ hb hr⟩
 have Et:=hc j hj;rw [List.getElem?_eq_getElem (by omega)] at Et |-
 exact (hb.cell (World.block_lt_of_cell? _ _ Et)).trans Et
theorem Le (hR:Ao R):Ao (RSl sz R):=fun w w' cs l hb h=>by
 obtain ⟨A,n,c,e,h1,h2,h3,h4⟩:=h;exact ⟨A,n,c,e,h1,h2,h3,h4.below hR hb⟩
theorem zw:Ao RWd:=fun w w' cs l hb h=>by
 obtain ⟨A,n,c,e,h1,h2,h3,h4⟩:=h;exact ⟨A,n,c,e,h1,h2,h3.below hb,h4⟩
theorem ib {w w1:World} {v:List Value} {l:List Nat} (h:Below w.heap.size w w1) (r:RWd w v l):RWd w1 v l:=zw _ _ _ _ h r
theorem RdL.at_ (h:RdL w sz R A l) (Ra:0<sz) {i:Nat} (hi:i<l.length) :
  ∃ a b q cs,A=some a /\ a.add (i*sz)=⟨b,q,none⟩ /\ cs.length=sz /\ (∀ j,j<sz -> w.cell? ⟨b,q+j,none⟩=cs[j]?) /\ R w cs l[i]:=by
 obtain ⟨a,cs,e,hl,hc,hr⟩:=h i hi;have h0:=hc 0 Ra;rw [Nat.add_zero,List.getElem?_eq_getElem (by omega)] at h0
 obtain ⟨b,q,hq⟩:∃ b q,a.add (i*sz)=⟨b,q,none⟩:=by
  have hs:=World.cell?_spot h0;generalize a.add (i*sz)=x at hs;obtain ⟨b,q,s⟩:=x;simp at hs
  subst hs;exact ⟨b,q,rfl⟩
 refine ⟨a,b,q,cs,e,hq,hl,fun j hj=>?_,hr⟩
 have:=hc j hj;rw [<- X5,hq] at this;rw [<- this];unfold Addr.add;split <;> simp_all
end
section
variable {P:Program} {w:World} {t e:TypeId} {cs:List Value}
theorem SG {α:Type} {p:Nat -> α -> Prop}:∀ n,(∀ i,i<n -> ∃ u,p i u) -> ∃ l:List α,l.length=n /\ ∀ i (h:i<l.length),p i l[i]
 | 0,_=>⟨[],rfl,fun i h=>by simp at h⟩
 | n+1,h=>by
  obtain ⟨l,hl,hp⟩:=SG n fun i hi=>h i (by omega)
  obtain ⟨u,hu⟩:=h n (by omega)
  refine ⟨l++[u],by simp [hl],fun i hx=>?_⟩
  simp at hx
  by_cases h1:i<l.length
  ·rw [List.getElem_append_left h1]
   exact hp i h1
  ·rw [List.getElem_append_right (by omega)]
   have:i=n:=by omega
   subst this;simp [hl]
   exact hu
theorem sH {α:Type} {R:World -> List Value -> α -> Prop} (sz:Nat) (ht:P.underlying t=some (.slice e)) (hc:P.cellsOf e=sz)
  (ho:∀ Ig,Ig.length=sz -> Fits P w e Ig -> ∃ x,R w Ig x) (h:Fits P w t cs):∃ l,RSl sz R w cs l:=by
 obtain ⟨A,n,c,rfl,h1,h2,hi⟩:=uH ht h;rw [hc] at hi;have:∀ i,i<n -> ∃ x,∃ a Ig,A=some a /\ Ig.length=sz /\ (∀ j,j<sz -> w.cell? (a.add (i*sz+j))=Ig[j]?) /\ R w Ig x:=by
  intro i Pb;obtain ⟨a,Ig,e,hl,Tj,hf⟩:=hi i Pb;obtain ⟨x,hx⟩:=ho Ig hl hf;exact ⟨x,a,Ig,e,hl,Tj,hx⟩
 obtain ⟨l,hl,hp⟩:=SG n this;exact ⟨l,A,n,c,rfl,hl,h1,h2,fun i hi=>hp i hi⟩
theorem XM (ht:P.underlying t=some (.slice e)) (he:P.underlying e=some (.int .u64)) (hc:P.cellsOf e=1) (h:Fits P w t cs):∃ l,RWd w cs l:=by
 obtain ⟨A,n,c,l,rfl,h1,h2,h3,h4⟩:=dN ht he hc h;exact ⟨l,A,n,c,rfl,h1,h2,h3,h4⟩
theorem dh {fs:Array Field} {f:Field} {i k n:Nat} (ht:P.underlying t=some (.struct fs)) (hf:fs[i]?=some f) (ho:f.offset=k) (hn:P.cellsOf f.type=n) (h:Fits P w t cs):Fits P w f.type ((cs.drop k).take n):=by
 have:=(vH ht h).2 i f hf;rw [ho,hn] at this;exact this
end
def PC (_w:World) (cs:List Value) (x:Int × Nat):Prop:=cs=[.int .i64 x.1, .int .u64 x.2] /\ (-9223372036854775808 <= x.1 /\ x.1 <= 9223372036854775807) /\ x.2<18446744073709551616
theorem yw:Ao PC:=fun _ _ _ _ _ h=>h
def RLin:World -> List Value -> List (Int × Nat) -> Prop:=RSl 2 PC
theorem se:Ao RLin:=Le yw
structure Ya where
 a:List (Int × Nat)
 b:List (Int × Nat)
 c:List (Int × Nat)
def Md (w:World) (cs:List Value) (r:Ya):Prop:=∃ x y z,cs=[x,y,z] /\ RLin w [x] r.a /\ RLin w [y] r.b /\ RLin w [z] r.c
theorem fq:Ao Md:=fun w w' cs r hb h=>by
 obtain ⟨x,y,z,e,h1,h2,h3⟩:=h;exact ⟨x,y,z,e,se _ _ _ _ hb h1,se _ _ _ _ hb h2,se _ _ _ _ hb h3⟩
structure TabR where
 p:Nat
 pub:Int
 vars:Int
 rows:List Ya
def RTab (w:World) (cs:List Value) (t:TabR):Prop:=∃ x,cs=[.int .u64 t.p, .int .i64 t.pub, .int .i64 t.vars,x] /\ t.p<18446744073709551616 /\
 (-9223372036854775808 <= t.pub /\ t.pub <= 9223372036854775807) /\ (-9223372036854775808 <= t.vars /\ t.vars <= 9223372036854775807) /\ RSl 3 Md w [x] t.rows
theorem Jy:Tryz.prog.cellsOf 22=1:=by kernel_rfl
theorem ov:Tryz.prog.cellsOf 3=1:=by kernel_rfl
theorem EL:Tryz.prog.cellsOf 4=1:=by kernel_rfl
theorem OL:Tryz.prog.cellsOf 28=1:=by kernel_rfl
theorem dD:Tryz.prog.cellsOf 168=1:=by kernel_rfl
theorem NL:Tryz.prog.cellsOf 242=2:=by kernel_rfl
theorem JL:Tryz.prog.cellsOf 170=3:=by kernel_rfl
theorem LL:Tryz.prog.cellsOf 23=1:=by kernel_rfl
theorem ML:Tryz.prog.cellsOf 25=4:=by kernel_rfl
theorem uD {w:World} {cs:List Value} (h:Fits Tryz.prog w 168 cs):∃ l,RLin w cs l :=
 sH 2 Tryz.underlying168 NL (fun Ig hl hf=>by
  match Ig,hl with
  | [x,y],_ =>
   obtain ⟨a,ha,ia⟩:=yx Tryz.underlying3 (dh (i:=0) Tryz.underlying242 rfl rfl ov hf);obtain ⟨b,hb,Za⟩:=Sy Tryz.underlying22 (dh (i:=1) Tryz.underlying242 rfl rfl Jy hf);simp at ha hb
   exact ⟨(a,b),by rw [ha,hb],ia,Za⟩) h
theorem VM {w:World} {cs:List Value} (hl:cs.length=3) (h:Fits Tryz.prog w 170 cs):∃ r,Md w cs r:=by
 match cs,hl with
 | [x,y,z],_ =>
  obtain ⟨a,ha⟩:=uD (dh (i:=0) Tryz.underlying170 rfl rfl dD h);obtain ⟨b,hb⟩:=uD (dh (i:=1) Tryz.underlying170 rfl rfl dD h);obtain ⟨c,hc⟩:=uD (dh (i:=2) Tryz.underlying170 rfl rfl dD h);exact ⟨⟨a,b,c⟩,x,y,z,rfl,ha,hb,hc⟩
theorem WM {w:World} {cs:List Value} (hl:cs.length=4) (h:Fits Tryz.prog w 25 cs):∃ t,RTab w cs t:=by
 match cs,hl with
 | [x,y,z,r],_ =>
  obtain ⟨a,ha,ia⟩:=Sy Tryz.underlying22 (dh (i:=0) Tryz.underlying25 rfl rfl Jy h);obtain ⟨b,hb,Za⟩:=yx Tryz.underlying3 (dh (i:=1) Tryz.underlying25 rfl rfl ov h);obtain ⟨c,hc,Tq⟩:=yx Tryz.underlying3 (dh (i:=2) Tryz.underlying25 rfl rfl ov h);obtain ⟨rs,hr⟩:=sH 3 (R:=Md) Tryz.underlying23 JL (fun Ig hl' hf=>VM hl' hf) (dh (i:=3) Tryz.underlying25 rfl rfl LL h)
  simp at ha hb hc
  exact ⟨⟨a,b,c,rs⟩,r,by rw [ha,hb,hc],ia,Za,Tq,hr⟩
end Go.Proofs.YtjipleoamlmkfaaGreat
