/- A part of the proof. No condition. -/
import Derived.Test.YtdhhdplholkmdaaGreatProg
import Derived.Test.YtdhhdplholkmdaaGreatPE28

namespace Go.Proofs.YtdhhdplholkmdaaGreat
open Go.RowKit
theorem VG {l:List Nat} {p j:Nat} (hj:j<l.length) (h:p≤l.getD j 0):l.all (fun x=>decide (x<p))=false:=by
 refine List.all_eq_false.2 ⟨l[j],List.getElem_mem hj,?_⟩
 simp [List.getD_eq_getElem?_getD,List.getElem?_eq_getElem hj] at h
 simp
 omega
theorem Uk {l:List Nat} {p:Nat} (h:∀ k<l.length,l.getD k 0<p):l.all (fun x=>decide (x<p))=true:=by
 refine List.all_eq_true.2 fun x hx=>?_
 obtain ⟨k,hk,rfl⟩:=List.getElem_of_mem hx
 have:=h k hk
 simp [List.getD_eq_getElem?_getD,List.getElem?_eq_getElem hk] at this
 simpa using this
theorem KK {l:List Nat} {p j:Nat} (h:∀ k<j,l.getD k 0<p) (hj:¬p≤l.getD j 0):∀ k<j+1,l.getD k 0<p:=fun k hk=>by
 rcases Nat.lt_or_ge k j with h1 | h1
 ·exact h k h1
 ·have e:k=j:=by omega
  rw [e];omega
theorem Zs {w:World} {A:Option Addr} {n c:Nat} {l:List Nat} (h:RWd w [.slice A n c] l):n=l.length∧n≤c∧c≤maxLen∧(∀ x∈l,x<18446744073709551616)∧Rd w 1 A n (U64 l):=by
 obtain ⟨A',n',c',he,h1,h2,h3,h4⟩:=h
 simp at he
 obtain ⟨rfl,rfl,rfl⟩:=he
 have:=h3.len1
 rw [Z7] at this
 exact ⟨this.symm,h1,h2,h4,h3⟩
theorem XT {w:World} {A:Option Addr} {l:List Nat} (h:Rd w 1 A l.length (U64 l)) {j:Nat} (hj:j<l.length):∃ b q,A=some ⟨b,q,none⟩∧b<w.heap.size∧w.cell? ⟨b,q+j,none⟩=some (.int .u64 ((l.getD j 0:Nat):Int)):=by
 obtain ⟨b,q,e,hb,hc⟩:=XJ h (by omega)
 refine ⟨b,q,e,hb,?_⟩
 rw [hc j hj,Xo hj,List.getD_eq_getElem?_getD,List.getElem?_eq_getElem hj]
 rfl
theorem YJ {n c:Nat} (h1:n≤c) (h2:c≤maxLen):(n:Int)≤9223372036854775807:=by
 simp [maxLen] at h2
 omega
set_option maxRecDepth 100000 in
set_option maxHeartbeats 1000000 in
theorem Jo (A:Option Addr) (n c:Nat) (l:List Nat) (p:Nat) (w:World) (hl:RWd w [.slice A n c] l) :
  Calls Tryz.prog 54 #[.slice A n c, .int .u64 p] w fun e w'=>e= .returned (.bool (l.all (fun x=>decide (x<p))))∧w=w':=by
 obtain ⟨rfl,h1,h2,-,hrd⟩:=Zs hl
 have gm:=YJ h1 h2
 clear hl h1 h2
 go_enter Tryz.func54,Tryz.ntmps54
 go_wp2_with fail
 go_loop [9] (fun i=>∃ j:Nat,j≤l.length∧i= .int .i64 (j:Int)∧Hid (∀ k<j,l.getD k 0<p)) (fun i=>l.length-(intOf i).toNat)
 case atStart=>exact ⟨0,Nat.zero_le _,rfl,fun k hk=>by omega⟩
 case round =>
  obtain ⟨j,hj,rfl,HB⟩:=hrel
  by_cases hlt:j<l.length
  ·obtain ⟨b,q,rfl,hbl,hc⟩:=XT hrd hlt
   have HL:=Lib.hid hlt
   have g1:(0:Int)≤(j:Int):=by omega
   have g2:(j:Int)<(l.length:Int):=by omega
   revert hc
   generalize hy:l.getD j 0=y
   intro hc
   have HY:=Lib.hid hy
   clear hy hrd
   by_cases z:p≤y
   ·have HZ:=Lib.hid (VG (p:=p) hlt (by rw [HY.out];exact z))
    have d1:decide ((p:Int)≤(y:Int))=true:=decide_eq_true (by omega)
    go_wp2
    go_ret
    exact ⟨by rw [HZ.out];rfl,rfl⟩
   ·have HZ:=Lib.hid (KK HB.out (by rw [HY.out];exact z))
    have d1:decide ((p:Int)≤(y:Int))=false:=decide_eq_false (by omega)
    go_wp2
    go_round
    case rel=>exact ⟨j+1,by omega,by go_num,HZ.out⟩
    case measure=>simp [intOf];omega
  ·have e:j=l.length:=by omega
   have HA:=Lib.hid (Uk (l:=l) (p:=p) (fun k hk=>HB.out k (by omega)))
   clear hrd
   go_wp2
   go_ret
   exact ⟨by rw [HA.out];rfl,rfl⟩
end Go.Proofs.YtdhhdplholkmdaaGreat
