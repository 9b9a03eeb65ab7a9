/- A part of the proof. No condition. -/
import Derived.Test.YtdhhdplholkmdaaGreatProg
import Derived.Test.YtdhhdplholkmdaaGreatPC37
import Derived.Test.YtdhhdplholkmdaaGreatPC41
import Derived.Test.YtdhhdplholkmdaaGreatPC36

namespace Go.Proofs.YtdhhdplholkmdaaGreat
open Go.RowKit
theorem UR (real:Bool) (seed:Nat) (h:seed<18446744073709551616):KY (Vp real seed) 0:=by
 cases real
 ·exact ⟨fun _ q hq=>by simp [Vp] at hq,fun q hq=>by simp [Vp] at hq,by simp [Vp,YX],by simpa [Vp] using h⟩
 ·exact ⟨fun _ q hq=>by simp [Vp] at hq,fun q hq=>by simp [Vp] at hq,by simp [Vp,YX],by simp [Vp]⟩
theorem zDa (real:Bool) (seed:Nat):(Vp real seed).qs=[]:=by cases real <;> rfl
theorem zz {O:Orc} {k:Nat} (h:KY O k) (L:YO) (dg:Nat) (pub:List Nat):Ue (Yq O L dg pub) (k+1) 0 :=
 Jg (s:=⟨O,20,0⟩) (c:=0) ⟨h,by show (20:Nat)<18446744073709551616;omega,Nat.le_refl _⟩ 1 _
theorem KE {s:Tr} {k c:Nat} (h:Ue s k c) (root:Nat):Ue (Z7 s root) (k+4) 3 :=
 VK (VK (VK (Jg h 2 [root])))
theorem Kk {l:List Nat} {n:Int} {p:Nat} (h:Yv l n p=true):(l.length:Int)=n:=by
 unfold Yv at h
 simp only [Bool.and_eq_true,beq_iff_eq] at h
 exact h.2
theorem zCl {L:YO} {j:Nat} {P:Yi} (h:VZ L j P=true):P.code.length=L.k∧P.linear.length=L.k+L.block-1∧P.quad.length=2*L.k-1:=by
 unfold VZ at h
 simp only [Bool.and_eq_true] at h
 have h1:=Kk h.2.1
 have h2:=Kk h.2.2.1
 have h3:=Kk h.2.2.2.1
 omega
theorem GK {L:YO} {j:Nat} {P:Yi} (hL:Y7 L) (h:VZ L j P=true):(P.code++P.linear++P.quad).length≤100000:=by
 obtain ⟨h1,h2,h3⟩:=zCl h
 have a:=hL.k
 have b:=hL.b2
 have c:=hL.q2
 simp only [List.length_append]
 omega
theorem kj (q:Qn):JX q q=true:=by simp [JX]
theorem xV (a:List Qn):UE a a=true:=by
 unfold UE
 simp only [decide_true,Bool.true_and,List.all_eq_true,List.mem_range]
 intro i hi
 rw [List.getElem?_eq_getElem hi]
 exact kj _
end Go.Proofs.YtdhhdplholkmdaaGreat
