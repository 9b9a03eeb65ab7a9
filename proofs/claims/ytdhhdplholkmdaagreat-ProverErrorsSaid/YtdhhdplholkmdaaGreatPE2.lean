/- A part of the proof. No condition. -/
import Derived.ChangeOld
import Derived.Deep.Slices
import Derived.Test.YtdhhdplholkmdaaGreatProg
import Derived.Test.YtdhhdplholkmdaaGreatPE1

namespace Go.Proofs.YtdhhdplholkmdaaGreat
open Go.RowKit Go.ChangeShapes Go.WideShapes Go.ChangeAt
def Fits (P:Program) (w:World) (t:TypeId) (cs:List Value):Prop :=
 ∃ (H:Type) (enc:TypeId × Value→H) (base:Nat) (spare:Nat→Bool) (held:Bool) (fuel:Nat) (x:DataW H × List MemPlace),DataW.trod enc P w base spare held fuel t cs=some x
section
variable {P:Program} {w:World} {t e:TypeId} {cs:List Value}
theorem Fits.of_trod {H:Type} {enc:TypeId × Value→H} {base:Nat} {spare:Nat→Bool} {held:Bool} {v:Value} {d:DataW H} {ps:List MemPlace} (h:DataW.Trod enc P w base spare held t v d ps):Fits P w t v.cells.toList:=by
 obtain ⟨fuel,hf⟩:=h
 exact ⟨H,enc,base,spare,held,fuel,_,hf⟩
theorem VP {k:IntKind} (ht:P.underlying t=some (.int k)) (h:Fits P w t cs):∃ n,cs=[.int k n]∧(Lit.int k n).wf=true:=by
 obtain ⟨H,enc,base,spare,held,fuel,x,hf⟩:=h
 obtain ⟨n,h1,_,h3⟩:=DataW.trod_int ht hf
 exact ⟨n,h1,h3⟩
theorem YU (ht:P.underlying t=some (.int .u64)) (h:Fits P w t cs):∃ n:Nat,cs=[.int .u64 (n:Int)]∧n<18446744073709551616:=by
 obtain ⟨n,rfl,hw⟩:=VP ht h
 have hx:0≤n∧n≤18446744073709551615:=by simpa [Lit.wf,IntKind.min,IntKind.max,IntKind.signed,IntKind.bits] using hw
 obtain ⟨m,rfl⟩:=Int.eq_ofNat_of_zero_le hx.1
 exact ⟨m,rfl,by omega⟩
theorem YF (ht:P.underlying t=some (.int .i64)) (h:Fits P w t cs):∃ n:Int,cs=[.int .i64 n]∧-9223372036854775808≤n∧n≤9223372036854775807:=by
 obtain ⟨n,rfl,hw⟩:=VP ht h
 have hx:-9223372036854775808≤n∧n≤9223372036854775807:=by simpa [Lit.wf,IntKind.min,IntKind.max,IntKind.signed,IntKind.bits] using hw
 exact ⟨n,rfl,hx⟩
theorem U4 (ht:P.underlying t=some .bool) (h:Fits P w t cs):∃ b,cs=[.bool b]:=by
 obtain ⟨H,enc,base,spare,held,fuel,x,hf⟩:=h
 cases fuel with
 | zero=>simp [DataW.trod] at hf
 | succ n =>
  unfold DataW.trod at hf
  rw [ht] at hf
  split at hf <;> simp_all
theorem XV (ht:P.underlying t=some (.slice e)) (h:Fits P w t cs):∃ A n c,cs=[.slice A n c]∧n≤c∧c≤maxLen ∧
  ∀ i,i<n→∃ a cs',A=some a∧cs'.length=P.cellsOf e∧(∀ j,j<P.cellsOf e→w.cell? (a.add (i*P.cellsOf e+j))=cs'[j]?)∧Fits P w e cs':=by
 obtain ⟨H,enc,base,spare,held,fuel,x,hf⟩:=h
 rcases Deep.open_slice ht hf with ⟨rfl,_⟩ | ⟨a,len,cap,m,k,D,Pl,rfl,hb,hl,hm,hmm,hx,hi⟩
 ·exact ⟨none,0,0,rfl,Nat.le_refl _,by simp [maxLen],fun i h=>absurd h (by omega)⟩
 ·refine ⟨some a,len,cap,rfl,hl,hm,fun i hin=>?_⟩
  have him:i<m:=by rw [hmm];split <;> omega
  obtain ⟨cs',hc,ht'⟩:=hi i him
  obtain ⟨_,hcl,hat⟩:=World.cells?_some hc
  exact ⟨a,cs',rfl,hcl,fun j hj=>by rw [←VM];exact hat j hj,H,enc,base,spare,held,k,_,ht'⟩
theorem YR {fs:Array Field} (ht:P.underlying t=some (.struct fs)) (h:Fits P w t cs):cs.length=P.cellsOf t ∧
  ∀ (i:Nat) (f:Field),fs[i]?=some f→Fits P w f.type ((cs.drop f.offset).take (P.cellsOf f.type)):=by
 obtain ⟨H,enc,base,spare,held,fuel,x,hf⟩:=h
 obtain ⟨xs,n,_,_,hl,hxl,hi⟩:=DataW.trod_struct ht hf
 refine ⟨hl,fun i f hif=>?_⟩
 have hlt:i<xs.length:=by rw [hxl];exact (Array.getElem?_eq_some_iff.1 hif).1
 exact ⟨H,enc,base,spare,held,n,_,(hi i f hif).trans (List.getElem?_eq_getElem hlt)⟩
theorem XA {p:Nat→Nat→Prop}:∀ n,(∀ i,i<n→∃ u,p i u)→∃ l:List Nat,l.length=n∧∀ i (h:i<l.length),p i l[i]
 | 0,_=>⟨[],rfl,fun i h=>by simp at h⟩
 | n+1,h=>by
  obtain ⟨l,hl,hp⟩:=XA n fun i hi=>h i (by omega)
  obtain ⟨u,hu⟩:=h n (by omega)
  refine ⟨l++[u],by simp [hl],fun i hx=>?_⟩
  simp at hx
  by_cases h1:i<l.length
  ·rw [List.getElem_append_left h1]
   exact hp i h1
  ·rw [List.getElem_append_right (by omega)]
   have:i=n:=by omega
   subst this
   simp [hl]
   exact hu
theorem Uq (ht:P.underlying t=some (.slice e)) (he:P.underlying e=some (.int .u64)) (hc:P.cellsOf e=1) (h:Fits P w t cs) :
  ∃ A n c l,cs=[.slice A n c]∧n≤c∧c≤maxLen∧Rd w 1 A n (U64 l)∧∀ x∈l,x<18446744073709551616:=by
 obtain ⟨A,n,c,rfl,h1,h2,hi⟩:=XV ht h
 have hi':∀ i,i<n→∃ u:Nat,u<18446744073709551616∧∃ a,A=some a∧w.cell? (a.add i)=some (.int .u64 (u:Int)):=by
  intro i hin
  obtain ⟨a,cs',rfl,hl,hcell,hf⟩:=hi i hin
  obtain ⟨u,rfl,hu⟩:=YU he hf
  have:=hcell 0 (by omega)
  rw [hc,Nat.mul_one,Nat.add_zero] at this
  exact ⟨u,hu,a,rfl,by simpa using this⟩
 obtain ⟨l,hl,hp⟩:=XA n hi'
 refine ⟨A,n,c,l,rfl,h1,h2,⟨by rw [Z7,hl,Nat.mul_one],fun hn=>?_⟩,fun x hx=>?_⟩
 ·obtain ⟨_,a,ha,_⟩:=hp 0 (by omega)
  refine ⟨a,ha,fun j u hu=>?_⟩
  have hj:j<l.length:=by
   rcases Nat.lt_or_ge j l.length with h | h
   ·exact h
   ·rw [List.getElem?_eq_none (by rw [Z7];exact h)] at hu;cases hu
  obtain ⟨_,a',ha',hc'⟩:=hp j hj
  rw [ha] at ha'
  injection ha' with ha'
  subst ha'
  rw [Xo hj] at hu
  injection hu with hu
  rw [hc',hu]
 ·obtain ⟨j,hj,rfl⟩:=List.getElem_of_mem hx
  exact (hp j hj).1
end
end Go.Proofs.YtdhhdplholkmdaaGreat
