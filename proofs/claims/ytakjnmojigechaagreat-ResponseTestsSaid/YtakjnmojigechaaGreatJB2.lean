/- A part of the proof. No condition. -/
import Derived.Test.YtakjnmojigechaaGreatProg
import Derived.Test.YtakjnmojigechaaGreatJB1

namespace Go.Proofs.YtakjnmojigechaaGreat
open Go.RowKit
def RdL {α:Type} (w:World) (sz:Nat) (R:World→List Value→α→Prop) (A:Option Addr) (l:List α):Prop :=
 ∀ (i:Nat) (hi:i<l.length),∃ a cs,A=some a∧cs.length=sz∧(∀ j,j<sz→w.cell? (a.add (i*sz+j))=cs[j]?)∧R w cs l[i]
def kQ {α:Type} (R:World→List Value→α→Prop):Prop:=∀ (w w':World) (cs:List Value) (x:α),Below w.heap.size w w'→R w cs x→R w' cs x
def RSl {α:Type} (sz:Nat) (R:World→List Value→α→Prop) (w:World) (cs:List Value) (l:List α):Prop :=
 ∃ A n c,cs=[.slice A n c]∧l.length=n∧n≤c∧c≤maxLen∧RdL w sz R A l
def RWd (w:World) (cs:List Value) (l:List Nat):Prop :=
 ∃ A n c,cs=[.slice A n c]∧n≤c∧c≤maxLen∧Rd w 1 A n (U64 l)∧∀ x∈l,x<18446744073709551616
section
variable {α:Type} {R:World→List Value→α→Prop} {sz:Nat} {w w':World} {A:Option Addr} {l:List α}
theorem RdL.below (h:RdL w sz R A l) (hR:kQ R) (hb:Below w.heap.size w w'):RdL w' sz R A l:=fun i hi=>by
 obtain ⟨a,cs,e,hl,hc,hr⟩:=h i hi
 refine ⟨a,cs,e,hl,fun j hj=>?_,hR _ _ _ _ hb hr⟩
 have hcj:=hc j hj
 rw [List.getElem?_eq_getElem (by omega)] at hcj ⊢
 exact (hb.cell (World.block_lt_of_cell? _ _ hcj)).trans hcj
theorem ZA (hR:kQ R):kQ (RSl sz R):=fun w w' cs l hb h=>by
 obtain ⟨A,n,c,e,h1,h2,h3,h4⟩:=h
 exact ⟨A,n,c,e,h1,h2,h3,h4.below hR hb⟩
theorem Zc:kQ RWd:=fun w w' cs l hb h=>by
 obtain ⟨A,n,c,e,h1,h2,h3,h4⟩:=h
 exact ⟨A,n,c,e,h1,h2,h3.below hb,h4⟩
theorem RdL.at_ (h:RdL w sz R A l) (hsz:0<sz) {i:Nat} (hi:i<l.length) :
  ∃ a b q cs,A=some a∧a.add (i*sz)=⟨b,q,none⟩∧cs.length=sz∧(∀ j,j<sz→w.cell? ⟨b,q+j,none⟩=cs[j]?)∧R w cs l[i]:=by
 obtain ⟨a,cs,e,hl,hc,hr⟩:=h i hi
 have h0:=hc 0 hsz
 rw [Nat.add_zero,List.getElem?_eq_getElem (by omega)] at h0
 obtain ⟨b,q,hq⟩:∃ b q,a.add (i*sz)=⟨b,q,none⟩:=by
  have hs:=World.cell?_spot h0
  generalize a.add (i*sz)=x at hs
  obtain ⟨b,q,s⟩:=x
  simp at hs
  subst hs
  exact ⟨b,q,rfl⟩
 refine ⟨a,b,q,cs,e,hq,hl,fun j hj=>?_,hr⟩
 have:=hc j hj
 rw [←yr,hq] at this
 rw [←this]
 unfold Addr.add
 split <;> simp_all
end
section
variable {P:Program} {w:World} {t e:TypeId} {cs:List Value}
theorem zl {α:Type} {p:Nat→α→Prop}:∀ n,(∀ i,i<n→∃ u,p i u)→∃ l:List α,l.length=n∧∀ i (h:i<l.length),p i l[i]
 | 0,_=>⟨[],rfl,fun i h=>by simp at h⟩
 | n+1,h=>by
  obtain ⟨l,hl,hp⟩:=zl n fun i hi=>h i (by omega)
  obtain ⟨u,hu⟩:=h n (by omega)
  refine ⟨l++[u],by simp [hl],fun i hx=>?_⟩
  simp at hx
  by_cases h1:i<l.length
  ·rw [List.getElem_append_left h1]
   exact hp i h1
  ·rw [List.getElem_append_right (by omega)]
   have:i=n:=by omega
   subst this
   simp [hl]
   exact hu
theorem yG {α:Type} {R:World→List Value→α→Prop} (sz:Nat) (ht:P.underlying t=some (.slice e)) (hc:P.cellsOf e=sz)
  (ho:∀ cs',cs'.length=sz→Fits P w e cs'→∃ x,R w cs' x) (h:Fits P w t cs):∃ l,RSl sz R w cs l:=by
 obtain ⟨A,n,c,rfl,h1,h2,hi⟩:=xp ht h
 rw [hc] at hi
 have:∀ i,i<n→∃ x,∃ a cs',A=some a∧cs'.length=sz∧(∀ j,j<sz→w.cell? (a.add (i*sz+j))=cs'[j]?)∧R w cs' x:=by
  intro i hin
  obtain ⟨a,cs',e,hl,hcell,hf⟩:=hi i hin
  obtain ⟨x,hx⟩:=ho cs' hl hf
  exact ⟨x,a,cs',e,hl,hcell,hx⟩
 obtain ⟨l,hl,hp⟩:=zl n this
 exact ⟨l,A,n,c,rfl,hl,h1,h2,fun i hi=>hp i hi⟩
theorem yK (ht:P.underlying t=some (.slice e)) (he:P.underlying e=some (.int .u64)) (hc:P.cellsOf e=1) (h:Fits P w t cs):∃ l,RWd w cs l:=by
 obtain ⟨A,n,c,l,rfl,h1,h2,h3,h4⟩:=zDu ht he hc h
 exact ⟨l,A,n,c,rfl,h1,h2,h3,h4⟩
theorem Z5 {fs:Array Field} {f:Field} {i k n:Nat} (ht:P.underlying t=some (.struct fs)) (hf:fs[i]?=some f) (ho:f.offset=k) (hn:P.cellsOf f.type=n) (h:Fits P w t cs):Fits P w f.type ((cs.drop k).take n):=by
 have:=(KD ht h).2 i f hf
 rw [ho,hn] at this
 exact this
end
def zIv (_w:World) (cs:List Value) (x:Int × Nat):Prop:=cs=[.int .i64 x.1, .int .u64 (x.2:Int)]∧(-9223372036854775808≤x.1∧x.1≤9223372036854775807)∧x.2<18446744073709551616
theorem VO:kQ zIv:=fun _ _ _ _ _ h=>h
def RLin:World→List Value→List (Int × Nat)→Prop:=RSl 2 zIv
theorem Yu:kQ RLin:=ZA VO
structure Ya where
 a:List (Int × Nat)
 b:List (Int × Nat)
 c:List (Int × Nat)
def Xb (w:World) (cs:List Value) (r:Ya):Prop:=∃ x y z,cs=[x,y,z]∧RLin w [x] r.a∧RLin w [y] r.b∧RLin w [z] r.c
theorem ZB:kQ Xb:=fun w w' cs r hb h=>by
 obtain ⟨x,y,z,e,h1,h2,h3⟩:=h
 exact ⟨x,y,z,e,Yu _ _ _ _ hb h1,Yu _ _ _ _ hb h2,Yu _ _ _ _ hb h3⟩
structure TabR where
 p:Nat
 pub:Int
 vars:Int
 rows:List Ya
def RTab (w:World) (cs:List Value) (t:TabR):Prop:=∃ x,cs=[.int .u64 (t.p:Int), .int .i64 t.pub, .int .i64 t.vars,x]∧t.p<18446744073709551616 ∧
 (-9223372036854775808≤t.pub∧t.pub≤9223372036854775807)∧(-9223372036854775808≤t.vars∧t.vars≤9223372036854775807)∧RSl 3 Xb w [x] t.rows
theorem Xf:Tryz.prog.cellsOf 22=1:=by kernel_rfl
theorem Vp:Tryz.prog.cellsOf 3=1:=by kernel_rfl
theorem Gg:Tryz.prog.cellsOf 28=1:=by kernel_rfl
theorem KB:Tryz.prog.cellsOf 130=1:=by kernel_rfl
theorem zAf:Tryz.prog.cellsOf 128=2:=by kernel_rfl
theorem zBh:Tryz.prog.cellsOf 132=3:=by kernel_rfl
theorem ki:Tryz.prog.cellsOf 23=1:=by kernel_rfl
theorem zCs:Tryz.prog.cellsOf 25=4:=by kernel_rfl
theorem zx {w:World} {cs:List Value} (h:Fits Tryz.prog w 130 cs):∃ l,RLin w cs l :=
 yG 2 Tryz.underlying130 zAf (fun cs' hl hf=>by
  match cs',hl with
  | [x,y],_ =>
   obtain ⟨a,ha,hal⟩:=JP Tryz.underlying3 (Z5 (i:=0) Tryz.underlying128 rfl rfl Vp hf)
   obtain ⟨b,hb,hbl⟩:=UE Tryz.underlying22 (Z5 (i:=1) Tryz.underlying128 rfl rfl Xf hf)
   simp at ha hb
   exact ⟨(a,b),by rw [ha,hb],hal,hbl⟩) h
theorem zGy {w:World} {cs:List Value} (hl:cs.length=3) (h:Fits Tryz.prog w 132 cs):∃ r,Xb w cs r:=by
 match cs,hl with
 | [x,y,z],_ =>
  obtain ⟨a,ha⟩:=zx (Z5 (i:=0) Tryz.underlying132 rfl rfl KB h)
  obtain ⟨b,hb⟩:=zx (Z5 (i:=1) Tryz.underlying132 rfl rfl KB h)
  obtain ⟨c,hc⟩:=zx (Z5 (i:=2) Tryz.underlying132 rfl rfl KB h)
  exact ⟨⟨a,b,c⟩,x,y,z,rfl,ha,hb,hc⟩
theorem zGq {w:World} {cs:List Value} (hl:cs.length=4) (h:Fits Tryz.prog w 25 cs):∃ t,RTab w cs t:=by
 match cs,hl with
 | [x,y,z,r],_ =>
  obtain ⟨a,ha,hal⟩:=UE Tryz.underlying22 (Z5 (i:=0) Tryz.underlying25 rfl rfl Xf h)
  obtain ⟨b,hb,hbl⟩:=JP Tryz.underlying3 (Z5 (i:=1) Tryz.underlying25 rfl rfl Vp h)
  obtain ⟨c,hc,hcl⟩:=JP Tryz.underlying3 (Z5 (i:=2) Tryz.underlying25 rfl rfl Vp h)
  obtain ⟨rs,hr⟩:=yG 3 (R:=Xb) Tryz.underlying23 zBh (fun cs' hl' hf=>zGy hl' hf) (Z5 (i:=3) Tryz.underlying25 rfl rfl ki h)
  simp at ha hb hc
  exact ⟨⟨a,b,c,rs⟩,r,by rw [ha,hb,hc],hal,hbl,hcl,hr⟩
def okP (p:Nat):Bool:=p == 17||p == 97||p == 193||p == 257||p == 12289||p == 65537||p == 18446744069414584321
theorem Xh {p:Nat} (h:okP p=true):p=17∨p=97∨p=193∨p=257∨p=12289∨p=65537∨p=18446744069414584321:=by
 simp [okP] at h
 omega
def ZJ (p:Nat):Nat × Nat × Nat :=
 if p=17 then (3,4,3) else
 if p=97 then (5,5,5) else
 if p=193 then (5,6,5) else
 if p=257 then (3,8,3) else
 if p=12289 then (11,12,5) else
 if p=65537 then (3,16,3) else
 if p=18446744069414584321 then (7,32,7) else
 (0,0,0)
def zu (p:Nat):Value:=.agg #[.int .u64 ((ZJ p).1:Int), .int .u64 ((ZJ p).2.1:Int), .int .u64 ((ZJ p).2.2:Int)]
set_option maxRecDepth 100000 in
set_option maxHeartbeats 1000000 in
theorem zAl (p:Nat) (w:World) (_hp:p<18446744073709551616) :
  Calls Tryz.prog 123 #[.int .u64 p] w fun e w'=>e= .returned (zu p)∧Below w.heap.size w w':=by
 by_cases h0:p=17
 ·subst h0
  go_enter Tryz.func123,Tryz.ntmps123
  go_wp2_with fail
  exact bodyPost_ret (v:=.agg #[.int .u64 3, .int .u64 4, .int .u64 3]) (by simp [results,Tryz.results123,go_sem]) rfl ⟨rfl,(Below.refl _ _).alloc (Nat.le_refl _) _⟩
 by_cases h1:p=97
 ·subst h1
  go_enter Tryz.func123,Tryz.ntmps123
  go_wp2_with fail
  exact bodyPost_ret (v:=.agg #[.int .u64 5, .int .u64 5, .int .u64 5]) (by simp [results,Tryz.results123,go_sem]) rfl ⟨rfl,(Below.refl _ _).alloc (Nat.le_refl _) _⟩
 by_cases h2:p=193
 ·subst h2
  go_enter Tryz.func123,Tryz.ntmps123
  go_wp2_with fail
  exact bodyPost_ret (v:=.agg #[.int .u64 5, .int .u64 6, .int .u64 5]) (by simp [results,Tryz.results123,go_sem]) rfl ⟨rfl,(Below.refl _ _).alloc (Nat.le_refl _) _⟩
 by_cases h3:p=257
 ·subst h3
  go_enter Tryz.func123,Tryz.ntmps123
  go_wp2_with fail
  exact bodyPost_ret (v:=.agg #[.int .u64 3, .int .u64 8, .int .u64 3]) (by simp [results,Tryz.results123,go_sem]) rfl ⟨rfl,(Below.refl _ _).alloc (Nat.le_refl _) _⟩
 by_cases h4:p=12289
 ·subst h4
  go_enter Tryz.func123,Tryz.ntmps123
  go_wp2_with fail
  exact bodyPost_ret (v:=.agg #[.int .u64 11, .int .u64 12, .int .u64 5]) (by simp [results,Tryz.results123,go_sem]) rfl ⟨rfl,(Below.refl _ _).alloc (Nat.le_refl _) _⟩
 by_cases h5:p=65537
 ·subst h5
  go_enter Tryz.func123,Tryz.ntmps123
  go_wp2_with fail
  exact bodyPost_ret (v:=.agg #[.int .u64 3, .int .u64 16, .int .u64 3]) (by simp [results,Tryz.results123,go_sem]) rfl ⟨rfl,(Below.refl _ _).alloc (Nat.le_refl _) _⟩
 by_cases h6:p=18446744069414584321
 ·subst h6
  go_enter Tryz.func123,Tryz.ntmps123
  go_wp2_with fail
  exact bodyPost_ret (v:=.agg #[.int .u64 7, .int .u64 32, .int .u64 7]) (by simp [results,Tryz.results123,go_sem]) rfl ⟨rfl,(Below.refl _ _).alloc (Nat.le_refl _) _⟩
 have d0:((p:Int) == 17)=false:=by rw [beq_eq_false_iff_ne];omega
 have d1:((p:Int) == 97)=false:=by rw [beq_eq_false_iff_ne];omega
 have d2:((p:Int) == 193)=false:=by rw [beq_eq_false_iff_ne];omega
 have d3:((p:Int) == 257)=false:=by rw [beq_eq_false_iff_ne];omega
 have d4:((p:Int) == 12289)=false:=by rw [beq_eq_false_iff_ne];omega
 have d5:((p:Int) == 65537)=false:=by rw [beq_eq_false_iff_ne];omega
 have d6:((p:Int) == 18446744069414584321)=false:=by rw [beq_eq_false_iff_ne];omega
 have HR:=Lib.hid (show zu p= .agg #[.int .u64 0, .int .u64 0, .int .u64 0] by simp [zu,ZJ, *])
 clear h0 h1 h2 h3 h4 h5 h6
 go_enter Tryz.func123,Tryz.ntmps123
 go_wp2_with fail
 exact bodyPost_ret (v:=.agg #[.int .u64 0, .int .u64 0, .int .u64 0]) (by simp [results,Tryz.results123,go_sem]) rfl ⟨by rw [HR.out],(Below.refl _ _).alloc (Nat.le_refl _) _⟩
theorem zIu (p:Nat):decide (0<(ZJ p).1)=okP p:=by
 by_cases h:okP p=true
 ·rcases Xh h with rfl | rfl | rfl | rfl | rfl | rfl | rfl <;> rfl
 ·have h':=h
  simp [okP] at h'
  simp [ZJ,h',h]
end Go.Proofs.YtakjnmojigechaaGreat
