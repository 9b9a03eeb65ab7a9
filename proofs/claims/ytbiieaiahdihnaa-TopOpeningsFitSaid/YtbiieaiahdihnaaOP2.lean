/- A part of the proof. No condition. -/
import Derived.ChangeOld
import Derived.Deep.Slices
import Derived.Test.YtbiieaiahdihnaaProg
import Derived.Test.YtbiieaiahdihnaaOP1
import Derived.BigQuiet
import Derived.Deep.QuietTactic

namespace Go.Proofs.Ytbiieaiahdihnaa
open Go.RowKit Go.ChangeShapes Go.WideShapes Go.ChangeAt
def Fits (P:Program) (w:World) (t:TypeId) (cs:List Value):Prop :=
 ∃ (H:Type) (enc:TypeId × Value→H) (base:Nat) (spare:Nat→Bool) (held:Bool) (fuel:Nat) (x:DataW H × List MemPlace),DataW.trod enc P w base spare held fuel t cs=some x
section
variable {P:Program} {w:World} {t e:TypeId} {cs:List Value}
theorem Fits.of_trod {H:Type} {enc:TypeId × Value→H} {base:Nat} {spare:Nat→Bool} {held:Bool} {v:Value} {d:DataW H} {ps:List MemPlace} (h:DataW.Trod enc P w base spare held t v d ps):Fits P w t v.cells.toList:=by
 obtain ⟨fuel,hf⟩:=h
 exact ⟨H,enc,base,spare,held,fuel,_,hf⟩
theorem yr {k:IntKind} (ht:P.underlying t=some (.int k)) (h:Fits P w t cs):∃ n,cs=[.int k n]∧(Lit.int k n).wf=true:=by
 obtain ⟨H,enc,base,spare,held,fuel,x,hf⟩:=h
 obtain ⟨n,h1,_,h3⟩:=DataW.trod_int ht hf
 exact ⟨n,h1,h3⟩
theorem yf (ht:P.underlying t=some (.int .u64)) (h:Fits P w t cs):∃ n:Nat,cs=[.int .u64 (n:Int)]∧n<18446744073709551616:=by
 obtain ⟨n,rfl,hw⟩:=yr ht h
 have hx:0≤n∧n≤18446744073709551615:=by simpa [Lit.wf,IntKind.min,IntKind.max,IntKind.signed,IntKind.bits] using hw
 obtain ⟨m,rfl⟩:=Int.eq_ofNat_of_zero_le hx.1
 exact ⟨m,rfl,by omega⟩
theorem UO (ht:P.underlying t=some (.slice e)) (h:Fits P w t cs):∃ A n c,cs=[.slice A n c]∧n≤c∧c≤maxLen ∧
  ∀ i,i<n→∃ a cs',A=some a∧cs'.length=P.cellsOf e∧(∀ j,j<P.cellsOf e→w.cell? (a.add (i*P.cellsOf e+j))=cs'[j]?)∧Fits P w e cs':=by
 obtain ⟨H,enc,base,spare,held,fuel,x,hf⟩:=h
 rcases Deep.open_slice ht hf with ⟨rfl,_⟩ | ⟨a,len,cap,m,k,D,Pl,rfl,hb,hl,hm,hmm,hx,hi⟩
 ·exact ⟨none,0,0,rfl,Nat.le_refl _,by simp [maxLen],fun i h=>absurd h (by omega)⟩
 ·refine ⟨some a,len,cap,rfl,hl,hm,fun i hin=>?_⟩
  have him:i<m:=by rw [hmm];split <;> omega
  obtain ⟨cs',hc,ht'⟩:=hi i him
  obtain ⟨_,hcl,hat⟩:=World.cells?_some hc
  exact ⟨a,cs',rfl,hcl,fun j hj=>by rw [←Kg];exact hat j hj,H,enc,base,spare,held,k,_,ht'⟩
theorem Uo {fs:Array Field} (ht:P.underlying t=some (.struct fs)) (h:Fits P w t cs):cs.length=P.cellsOf t ∧
  ∀ (i:Nat) (f:Field),fs[i]?=some f→Fits P w f.type ((cs.drop f.offset).take (P.cellsOf f.type)):=by
 obtain ⟨H,enc,base,spare,held,fuel,x,hf⟩:=h
 obtain ⟨xs,n,_,_,hl,hxl,hi⟩:=DataW.trod_struct ht hf
 refine ⟨hl,fun i f hif=>?_⟩
 have hlt:i<xs.length:=by rw [hxl];exact (Array.getElem?_eq_some_iff.1 hif).1
 exact ⟨H,enc,base,spare,held,n,_,(hi i f hif).trans (List.getElem?_eq_getElem hlt)⟩
theorem Ui {p:Nat→Nat→Prop}:∀ n,(∀ i,i<n→∃ u,p i u)→∃ l:List Nat,l.length=n∧∀ i (h:i<l.length),p i l[i]
 | 0,_=>⟨[],rfl,fun i h=>by simp at h⟩
 | n+1,h=>by
  obtain ⟨l,hl,hp⟩:=Ui n fun i hi=>h i (by omega)
  obtain ⟨u,hu⟩:=h n (by omega)
  refine ⟨l++[u],by simp [hl],fun i hx=>?_⟩
  simp at hx
  by_cases h1:i<l.length
  ·rw [List.getElem_append_left h1]
   exact hp i h1
  ·rw [List.getElem_append_right (by omega)]
   have:i=n:=by omega
   subst this
   simp [hl]
   exact hu
theorem GG (ht:P.underlying t=some (.slice e)) (he:P.underlying e=some (.int .u64)) (hc:P.cellsOf e=1) (h:Fits P w t cs) :
  ∃ A n c l,cs=[.slice A n c]∧n≤c∧c≤maxLen∧Rd w 1 A n (U64 l)∧∀ x∈l,x<18446744073709551616:=by
 obtain ⟨A,n,c,rfl,h1,h2,hi⟩:=UO ht h
 have hi':∀ i,i<n→∃ u:Nat,u<18446744073709551616∧∃ a,A=some a∧w.cell? (a.add i)=some (.int .u64 (u:Int)):=by
  intro i hin
  obtain ⟨a,cs',rfl,hl,hcell,hf⟩:=hi i hin
  obtain ⟨u,rfl,hu⟩:=yf he hf
  have:=hcell 0 (by omega)
  rw [hc,Nat.mul_one,Nat.add_zero] at this
  exact ⟨u,hu,a,rfl,by simpa using this⟩
 obtain ⟨l,hl,hp⟩:=Ui n hi'
 refine ⟨A,n,c,l,rfl,h1,h2,⟨by rw [UD,hl,Nat.mul_one],fun hn=>?_⟩,fun x hx=>?_⟩
 ·obtain ⟨_,a,ha,_⟩:=hp 0 (by omega)
  refine ⟨a,ha,fun j u hu=>?_⟩
  have hj:j<l.length:=by
   rcases Nat.lt_or_ge j l.length with h | h
   ·exact h
   ·rw [List.getElem?_eq_none (by rw [UD];exact h)] at hu;cases hu
  obtain ⟨_,a',ha',hc'⟩:=hp j hj
  rw [ha] at ha'
  injection ha' with ha'
  subst ha'
  rw [Ga hj] at hu
  injection hu with hu
  rw [hc',hu]
 ·obtain ⟨j,hj,rfl⟩:=List.getElem_of_mem hx
  exact (hp j hj).1
end
end Go.Proofs.Ytbiieaiahdihnaa
namespace Go.Proofs.Ytbiieaiahdihnaa
open Go.RowKit
def RdL {α:Type} (w:World) (sz:Nat) (R:World→List Value→α→Prop) (A:Option Addr) (l:List α):Prop :=
 ∀ (i:Nat) (hi:i<l.length),∃ a cs,A=some a∧cs.length=sz∧(∀ j,j<sz→w.cell? (a.add (i*sz+j))=cs[j]?)∧R w cs l[i]
def yE {α:Type} (R:World→List Value→α→Prop):Prop:=∀ (w w':World) (cs:List Value) (x:α),Below w.heap.size w w'→R w cs x→R w' cs x
def RSl {α:Type} (sz:Nat) (R:World→List Value→α→Prop) (w:World) (cs:List Value) (l:List α):Prop :=
 ∃ A n c,cs=[.slice A n c]∧l.length=n∧n≤c∧c≤maxLen∧RdL w sz R A l
def RWd (w:World) (cs:List Value) (l:List Nat):Prop :=
 ∃ A n c,cs=[.slice A n c]∧n≤c∧c≤maxLen∧Rd w 1 A n (U64 l)∧∀ x∈l,x<18446744073709551616
section
variable {α:Type} {R:World→List Value→α→Prop} {sz:Nat} {w w':World} {A:Option Addr} {l:List α}
theorem RdL.below (h:RdL w sz R A l) (hR:yE R) (hb:Below w.heap.size w w'):RdL w' sz R A l:=fun i hi=>by
 obtain ⟨a,cs,e,hl,hc,hr⟩:=h i hi
 refine ⟨a,cs,e,hl,fun j hj=>?_,hR _ _ _ _ hb hr⟩
 have hcj:=hc j hj
 rw [List.getElem?_eq_getElem (by omega)] at hcj ⊢
 exact (hb.cell (World.block_lt_of_cell? _ _ hcj)).trans hcj
theorem yM (hR:yE R):yE (RSl sz R):=fun w w' cs l hb h=>by
 obtain ⟨A,n,c,e,h1,h2,h3,h4⟩:=h
 exact ⟨A,n,c,e,h1,h2,h3,h4.below hR hb⟩
theorem Yc:yE RWd:=fun w w' cs l hb h=>by
 obtain ⟨A,n,c,e,h1,h2,h3,h4⟩:=h
 exact ⟨A,n,c,e,h1,h2,h3.below hb,h4⟩
theorem RdL.at_ (h:RdL w sz R A l) (hsz:0<sz) {i:Nat} (hi:i<l.length) :
  ∃ a b q cs,A=some a∧a.add (i*sz)=⟨b,q,none⟩∧cs.length=sz∧(∀ j,j<sz→w.cell? ⟨b,q+j,none⟩=cs[j]?)∧R w cs l[i]:=by
 obtain ⟨a,cs,e,hl,hc,hr⟩:=h i hi
 have h0:=hc 0 hsz
 rw [Nat.add_zero,List.getElem?_eq_getElem (by omega)] at h0
 obtain ⟨b,q,hq⟩:∃ b q,a.add (i*sz)=⟨b,q,none⟩:=by
  have hs:=World.cell?_spot h0
  generalize a.add (i*sz)=x at hs
  obtain ⟨b,q,s⟩:=x
  simp at hs
  subst hs
  exact ⟨b,q,rfl⟩
 refine ⟨a,b,q,cs,e,hq,hl,fun j hj=>?_,hr⟩
 have:=hc j hj
 rw [←Kg,hq] at this
 rw [←this]
 unfold Addr.add
 split <;> simp_all
end
section
variable {P:Program} {w:World} {t e:TypeId} {cs:List Value}
theorem VG {α:Type} {p:Nat→α→Prop}:∀ n,(∀ i,i<n→∃ u,p i u)→∃ l:List α,l.length=n∧∀ i (h:i<l.length),p i l[i]
 | 0,_=>⟨[],rfl,fun i h=>by simp at h⟩
 | n+1,h=>by
  obtain ⟨l,hl,hp⟩:=VG n fun i hi=>h i (by omega)
  obtain ⟨u,hu⟩:=h n (by omega)
  refine ⟨l++[u],by simp [hl],fun i hx=>?_⟩
  simp at hx
  by_cases h1:i<l.length
  ·rw [List.getElem_append_left h1]
   exact hp i h1
  ·rw [List.getElem_append_right (by omega)]
   have:i=n:=by omega
   subst this
   simp [hl]
   exact hu
theorem ys {α:Type} {R:World→List Value→α→Prop} (sz:Nat) (ht:P.underlying t=some (.slice e)) (hc:P.cellsOf e=sz)
  (ho:∀ cs',cs'.length=sz→Fits P w e cs'→∃ x,R w cs' x) (h:Fits P w t cs):∃ l,RSl sz R w cs l:=by
 obtain ⟨A,n,c,rfl,h1,h2,hi⟩:=UO ht h
 rw [hc] at hi
 have:∀ i,i<n→∃ x,∃ a cs',A=some a∧cs'.length=sz∧(∀ j,j<sz→w.cell? (a.add (i*sz+j))=cs'[j]?)∧R w cs' x:=by
  intro i hin
  obtain ⟨a,cs',e,hl,hcell,hf⟩:=hi i hin
  obtain ⟨x,hx⟩:=ho cs' hl hf
  exact ⟨x,a,cs',e,hl,hcell,hx⟩
 obtain ⟨l,hl,hp⟩:=VG n this
 exact ⟨l,A,n,c,rfl,hl,h1,h2,fun i hi=>hp i hi⟩
theorem Ko (ht:P.underlying t=some (.slice e)) (he:P.underlying e=some (.int .u64)) (hc:P.cellsOf e=1) (h:Fits P w t cs):∃ l,RWd w cs l:=by
 obtain ⟨A,n,c,l,rfl,h1,h2,h3,h4⟩:=GG ht he hc h
 exact ⟨l,A,n,c,rfl,h1,h2,h3,h4⟩
theorem UH {fs:Array Field} {f:Field} {i k n:Nat} (ht:P.underlying t=some (.struct fs)) (hf:fs[i]?=some f) (ho:f.offset=k) (hn:P.cellsOf f.type=n) (h:Fits P w t cs):Fits P w f.type ((cs.drop k).take n):=by
 have:=(Uo ht h).2 i f hf
 rw [ho,hn] at this
 exact this
end
def xz (_w:World) (cs:List Value) (x:Int × Nat):Prop:=cs=[.int .i64 x.1, .int .u64 (x.2:Int)]∧(-9223372036854775808≤x.1∧x.1≤9223372036854775807)∧x.2<18446744073709551616
def RLin:World→List Value→List (Int × Nat)→Prop:=RSl 2 xz
structure RowR where
 a:List (Int × Nat)
 b:List (Int × Nat)
 c:List (Int × Nat)
structure TabR where
 p:Nat
 pub:Int
 vars:Int
 rows:List RowR
def okP (p:Nat):Bool:=p == 17||p == 97||p == 193||p == 257||p == 12289||p == 65537||p == 18446744069414584321
theorem Xh {p:Nat} (h:okP p=true):p=17∨p=97∨p=193∨p=257∨p=12289∨p=65537∨p=18446744069414584321:=by
 simp [okP] at h
 omega
def Z5 (p:Nat):Nat × Nat × Nat :=
 if p=17 then (3,4,3) else
 if p=97 then (5,5,5) else
 if p=193 then (5,6,5) else
 if p=257 then (3,8,3) else
 if p=12289 then (11,12,5) else
 if p=65537 then (3,16,3) else
 if p=18446744069414584321 then (7,32,7) else
 (0,0,0)
def UT (p:Nat):Value:=.agg #[.int .u64 ((Z5 p).1:Int), .int .u64 ((Z5 p).2.1:Int), .int .u64 ((Z5 p).2.2:Int)]
set_option maxRecDepth 100000 in
set_option maxHeartbeats 1000000 in
theorem GQ (p:Nat) (w:World) (_hp:p<18446744073709551616) :
  Calls Try.prog 54 #[.int .u64 p] w fun e w'=>e= .returned (UT p)∧Below w.heap.size w w':=by
 by_cases h0:p=17
 ·subst h0
  go_enter Try.func54,Try.ntmps54
  go_wp2_with fail
  exact bodyPost_ret (v:=.agg #[.int .u64 3, .int .u64 4, .int .u64 3]) (by simp [results,Try.results54,go_sem]) rfl ⟨rfl,(Below.refl _ _).alloc (Nat.le_refl _) _⟩
 by_cases h1:p=97
 ·subst h1
  go_enter Try.func54,Try.ntmps54
  go_wp2_with fail
  exact bodyPost_ret (v:=.agg #[.int .u64 5, .int .u64 5, .int .u64 5]) (by simp [results,Try.results54,go_sem]) rfl ⟨rfl,(Below.refl _ _).alloc (Nat.le_refl _) _⟩
 by_cases h2:p=193
 ·subst h2
  go_enter Try.func54,Try.ntmps54
  go_wp2_with fail
  exact bodyPost_ret (v:=.agg #[.int .u64 5, .int .u64 6, .int .u64 5]) (by simp [results,Try.results54,go_sem]) rfl ⟨rfl,(Below.refl _ _).alloc (Nat.le_refl _) _⟩
 by_cases h3:p=257
 ·subst h3
  go_enter Try.func54,Try.ntmps54
  go_wp2_with fail
  exact bodyPost_ret (v:=.agg #[.int .u64 3, .int .u64 8, .int .u64 3]) (by simp [results,Try.results54,go_sem]) rfl ⟨rfl,(Below.refl _ _).alloc (Nat.le_refl _) _⟩
 by_cases h4:p=12289
 ·subst h4
  go_enter Try.func54,Try.ntmps54
  go_wp2_with fail
  exact bodyPost_ret (v:=.agg #[.int .u64 11, .int .u64 12, .int .u64 5]) (by simp [results,Try.results54,go_sem]) rfl ⟨rfl,(Below.refl _ _).alloc (Nat.le_refl _) _⟩
 by_cases h5:p=65537
 ·subst h5
  go_enter Try.func54,Try.ntmps54
  go_wp2_with fail
  exact bodyPost_ret (v:=.agg #[.int .u64 3, .int .u64 16, .int .u64 3]) (by simp [results,Try.results54,go_sem]) rfl ⟨rfl,(Below.refl _ _).alloc (Nat.le_refl _) _⟩
 by_cases h6:p=18446744069414584321
 ·subst h6
  go_enter Try.func54,Try.ntmps54
  go_wp2_with fail
  exact bodyPost_ret (v:=.agg #[.int .u64 7, .int .u64 32, .int .u64 7]) (by simp [results,Try.results54,go_sem]) rfl ⟨rfl,(Below.refl _ _).alloc (Nat.le_refl _) _⟩
 have d0:((p:Int) == 17)=false:=by rw [beq_eq_false_iff_ne];omega
 have d1:((p:Int) == 97)=false:=by rw [beq_eq_false_iff_ne];omega
 have d2:((p:Int) == 193)=false:=by rw [beq_eq_false_iff_ne];omega
 have d3:((p:Int) == 257)=false:=by rw [beq_eq_false_iff_ne];omega
 have d4:((p:Int) == 12289)=false:=by rw [beq_eq_false_iff_ne];omega
 have d5:((p:Int) == 65537)=false:=by rw [beq_eq_false_iff_ne];omega
 have d6:((p:Int) == 18446744069414584321)=false:=by rw [beq_eq_false_iff_ne];omega
 have HR:=Lib.hid (show UT p= .agg #[.int .u64 0, .int .u64 0, .int .u64 0] by simp [UT,Z5, *])
 clear h0 h1 h2 h3 h4 h5 h6
 go_enter Try.func54,Try.ntmps54
 go_wp2_with fail
 exact bodyPost_ret (v:=.agg #[.int .u64 0, .int .u64 0, .int .u64 0]) (by simp [results,Try.results54,go_sem]) rfl ⟨by rw [HR.out],(Below.refl _ _).alloc (Nat.le_refl _) _⟩
theorem yB (p:Nat):decide (0<(Z5 p).1)=okP p:=by
 by_cases h:okP p=true
 ·rcases Xh h with rfl | rfl | rfl | rfl | rfl | rfl | rfl <;> rfl
 ·have h':=h
  simp [okP] at h'
  simp [Z5,h',h]
theorem G9:(Try.prog.info? 5).map (fun i=>(i.zero,i.size,i.bytes))=some (some (.int .u8 0),1,1):=by kernel_rfl
theorem Kz:(Try.prog.info? 26).map (fun i=>(i.zero,i.size,i.bytes))=some (some (.int .u64 0),1,8):=by kernel_rfl
theorem el_u8:Jm Try.prog 102 5 1 1 (.int .u8 0):=by
 obtain ⟨i0,hi,hz0,hz1,hz2⟩:=info_parts G9
 exact ⟨Try.underlying102,⟨i0,hi,hz0,hz1,hz2⟩,rfl,by omega⟩
theorem Gg:Jm Try.prog 23 26 1 8 (.int .u64 0):=by
 obtain ⟨i0,hi,hz0,hz1,hz2⟩:=info_parts Kz
 exact ⟨Try.underlying23,⟨i0,hi,hz0,hz1,hz2⟩,rfl,by omega⟩
def Xp:Nat→Nat→List Nat
 | _,0=>[]
 | n,k+1=>n%256 :: Xp (n / 256) k
theorem Jq:∀ (k n:Nat),Xp n (k+1)=Xp n k++[n / 256^k%256]
 | 0,n=>by simp [Xp]
 | k+1,n=>by
  rw [Xp,Jq k (n / 256),Xp,List.cons_append,Nat.div_div_eq_div_mul,Nat.pow_succ,Nat.mul_comm 256]
theorem Je:∀ (k n:Nat),(Xp n k).length=k
 | 0,_=>rfl
 | k+1,n=>by simp [Xp,Je k]
theorem X0 (b q k:Nat):(⟨b,q,none⟩:Addr).add k=⟨b,q+k,none⟩:=by
 unfold Addr.add
 split
 ·subst_vars;rfl
 ·rfl
theorem RdL.get {α:Type} {R:World→List Value→α→Prop} {sz:Nat} {w:World} {b q:Nat} {l:List α} (h:RdL w sz R (some ⟨b,q,none⟩) l) {i:Nat} (hi:i<l.length) :
  ∃ cs,cs.length=sz∧(∀ j,j<sz→w.cell? ⟨b,q+i*sz+j,none⟩=cs[j]?)∧R w cs l[i]:=by
 obtain ⟨a,cs,e,hl,hc,hr⟩:=h i hi
 injection e with e
 subst e
 refine ⟨cs,hl,fun j hj=>?_,hr⟩
 rw [←hc j hj,X0,Nat.add_assoc]
theorem Xd {P:Program} {w:World} {t e:TypeId} {n:Nat} {cs:Array Value} {v:Value} {i:Nat} (h:P.underlying t=some (.array n e)) (hs:((isAgg e).run P w)= .ok false w) (hz:((sizeOf e).run P w)= .ok 1 w) (hi:i<n) (hv:cs[i]?=some v) :
  (Instr.index t (.agg cs) (.int .i64 (i:Int))).run P w= .ok v w:=by
 have h1:(0:Int)≤(i:Int)∧(i:Int)<(n:Int):=by omega
 simp [Instr.index,run_underlying h,asIntOf,h1,hi,hz,hs,hv,part,Result.andThen]
theorem J2 {w:World}:((isAgg 26).run Try.prog w)= .ok false w:=by simp [isAgg,run_underlying Try.underlying26]
theorem UZ {w:World}:((sizeOf 26).run Try.prog w)= .ok 1 w:=by
 obtain ⟨i0,hi,hz0,hz1,hz2⟩:=info_parts Kz
 simp [sizeOf,typeInfo,hi,hz1]
theorem z8 {w:World} {a b c:Value}:(Instr.index 80 (.agg #[a,b,c]) (.int .i64 0)).run Try.prog w= .ok a w :=
 Xd (i:=0) Try.underlying80 J2 UZ (by omega) rfl
set_option maxRecDepth 100000 in
set_option maxHeartbeats 400000 in
theorem Yg (p:Nat) (w:World) (hp:p<18446744073709551616) :
  Calls Try.prog 41 #[.int .u64 p] w fun e w'=>e= .returned (.bool (okP p))∧Below w.heap.size w w':=by
 have HO:=Lib.hid (yB p)
 have HR:=Lib.hid (GQ p w hp)
 unfold UT at HR
 revert HO HR
 generalize (Z5 p).1=a
 generalize (Z5 p).2.1=b
 generalize (Z5 p).2.2=c
 intro HO HR
 go_enter Try.func41,Try.ntmps41
 go_wp2_with (go_at_call 54;refine HR.out.mono ?_;rintro e w1 ⟨rfl,hb⟩)
 rw [z8,Result.andThen,Oper.upon_value]
 go_wp2
 go_ret
 exact ⟨by rw [←HO.out];rfl,hb⟩
end Go.Proofs.Ytbiieaiahdihnaa
