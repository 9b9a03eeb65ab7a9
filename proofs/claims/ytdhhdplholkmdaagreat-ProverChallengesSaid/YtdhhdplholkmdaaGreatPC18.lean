/- A part of the proof. No condition. -/
import Derived.Test.YtdhhdplholkmdaaGreatProg
import Derived.Test.YtdhhdplholkmdaaGreatPC17

namespace Go.Proofs.YtdhhdplholkmdaaGreat
open Go.RowKit
def Yv (l:List Nat) (n:Int) (p:Nat):Bool:=l.all (fun x=>decide (x<p))&&((l.length:Int) == n)
def Y5 (ls:List (List Nat)) (m n:Int) (p:Nat):Bool:=ls.all (fun l=>Yv l n p)&&((ls.length:Int) == m)
theorem JU {l:List Nat} {p j:Nat} (hj:j<l.length) (h:p≤l.getD j 0):l.all (fun x=>decide (x<p))=false:=by
 refine List.all_eq_false.2 ⟨l[j],List.getElem_mem hj,?_⟩
 simp [List.getD_eq_getElem?_getD,List.getElem?_eq_getElem hj] at h
 simp
 omega
theorem KJ {l:List Nat} {p:Nat} (h:∀ k<l.length,l.getD k 0<p):l.all (fun x=>decide (x<p))=true:=by
 refine List.all_eq_true.2 fun x hx=>?_
 obtain ⟨k,hk,rfl⟩:=List.getElem_of_mem hx
 have:=h k hk
 simp [List.getD_eq_getElem?_getD,List.getElem?_eq_getElem hk] at this
 simpa using this
theorem zEa {l:List Nat} {p j:Nat} (h:∀ k<j,l.getD k 0<p) (hj:¬p≤l.getD j 0):∀ k<j+1,l.getD k 0<p:=fun k hk=>by
 rcases Nat.lt_or_ge k j with h1 | h1
 ·exact h k h1
 ·have e:k=j:=by omega
  rw [e];omega
theorem J3 {w:World} {A:Option Addr} {n c:Nat} {l:List Nat} (h:RWd w [.slice A n c] l):n=l.length∧n≤c∧c≤maxLen∧(∀ x∈l,x<18446744073709551616)∧Rd w 1 A n (U64 l):=by
 obtain ⟨A',n',c',he,h1,h2,h3,h4⟩:=h
 simp at he
 obtain ⟨rfl,rfl,rfl⟩:=he
 have:=h3.len1
 rw [UG] at this
 exact ⟨this.symm,h1,h2,h4,h3⟩
theorem J7 {w:World} {A:Option Addr} {l:List Nat} (h:Rd w 1 A l.length (U64 l)) {j:Nat} (hj:j<l.length):∃ b q,A=some ⟨b,q,none⟩∧b<w.heap.size∧w.cell? ⟨b,q+j,none⟩=some (.int .u64 ((l.getD j 0:Nat):Int)):=by
 obtain ⟨b,q,e,hb,hc⟩:=Kb h (by omega)
 refine ⟨b,q,e,hb,?_⟩
 rw [hc j hj,G8 hj,List.getD_eq_getElem?_getD,List.getElem?_eq_getElem hj]
 rfl
theorem Vo {n c:Nat} (h1:n≤c) (h2:c≤maxLen):(n:Int)≤9223372036854775807:=by
 simp [maxLen] at h2
 omega
set_option maxRecDepth 100000 in
set_option maxHeartbeats 1000000 in
theorem Xt (A:Option Addr) (n c:Nat) (l:List Nat) (m:Int) (p:Nat) (w:World) (hl:RWd w [.slice A n c] l) :
  Calls Tryz.prog 58 #[.slice A n c, .int .i64 m, .int .u64 p] w fun e w'=>e= .returned (.bool (Yv l m p))∧w=w':=by
 obtain ⟨rfl,h1,h2,-,hrd⟩:=J3 hl
 have gm:=Vo h1 h2
 clear hl h1 h2
 go_enter Tryz.func58,Tryz.ntmps58
 go_wp2_with fail
 go_loop [7] (fun i=>∃ j:Nat,j≤l.length∧i= .int .i64 (j:Int)∧Hid (∀ k<j,l.getD k 0<p)) (fun i=>l.length-(intOf i).toNat)
 case atStart=>exact ⟨0,Nat.zero_le _,rfl,fun k hk=>by omega⟩
 case round =>
  obtain ⟨j,hj,rfl,HB⟩:=hrel
  by_cases hlt:j<l.length
  ·obtain ⟨b,q,rfl,hbl,hc⟩:=J7 hrd hlt
   have HL:=Lib.hid hlt
   have g1:(0:Int)≤(j:Int):=by omega
   have g2:(j:Int)<(l.length:Int):=by omega
   revert hc
   generalize hy:l.getD j 0=y
   intro hc
   have HY:=Lib.hid hy
   clear hy hrd
   by_cases z:p≤y
   ·have HZ:=Lib.hid (show Yv l m p=false by unfold Yv;rw [JU hlt (by rw [HY.out];exact z)];rfl)
    have d1:decide ((p:Int)≤(y:Int))=true:=decide_eq_true (by omega)
    go_wp2
    go_ret
    exact ⟨by rw [HZ.out];rfl,rfl⟩
   ·have HZ:=Lib.hid (zEa HB.out (by rw [HY.out];exact z))
    have d1:decide ((p:Int)≤(y:Int))=false:=decide_eq_false (by omega)
    go_wp2
    go_round
    case rel=>exact ⟨j+1,by omega,by go_num,HZ.out⟩
    case measure=>simp [intOf];omega
  ·have e:j=l.length:=by omega
   have HA:=Lib.hid (KJ (l:=l) (p:=p) (fun k hk=>HB.out k (by omega)))
   by_cases z:(l.length:Int)=m
   ·have g:((l.length:Int) == m)=true:=by rw [beq_iff_eq];exact z
    have HZ:=Lib.hid (show Yv l m p=true by unfold Yv;rw [HA.out,g];rfl)
    clear z hrd
    go_wp2
    go_ret
    exact ⟨by rw [HZ.out];rfl,rfl⟩
   ·have g:((l.length:Int) == m)=false:=by rw [beq_eq_false_iff_ne];exact z
    have HZ:=Lib.hid (show Yv l m p=false by unfold Yv;rw [HA.out,g];rfl)
    clear z hrd
    go_wp2
    go_ret
    exact ⟨by rw [HZ.out];rfl,rfl⟩
set_option maxRecDepth 100000 in
set_option maxHeartbeats 1000000 in
theorem Kl (A:Option Addr) (n c:Nat) (l:List Nat) (p:Nat) (w:World) (hl:RWd w [.slice A n c] l) :
  Calls Tryz.prog 54 #[.slice A n c, .int .u64 p] w fun e w'=>e= .returned (.bool (l.all (fun x=>decide (x<p))))∧w=w':=by
 obtain ⟨rfl,h1,h2,-,hrd⟩:=J3 hl
 have gm:=Vo h1 h2
 clear hl h1 h2
 go_enter Tryz.func54,Tryz.ntmps54
 go_wp2_with fail
 go_loop [9] (fun i=>∃ j:Nat,j≤l.length∧i= .int .i64 (j:Int)∧Hid (∀ k<j,l.getD k 0<p)) (fun i=>l.length-(intOf i).toNat)
 case atStart=>exact ⟨0,Nat.zero_le _,rfl,fun k hk=>by omega⟩
 case round =>
  obtain ⟨j,hj,rfl,HB⟩:=hrel
  by_cases hlt:j<l.length
  ·obtain ⟨b,q,rfl,hbl,hc⟩:=J7 hrd hlt
   have HL:=Lib.hid hlt
   have g1:(0:Int)≤(j:Int):=by omega
   have g2:(j:Int)<(l.length:Int):=by omega
   revert hc
   generalize hy:l.getD j 0=y
   intro hc
   have HY:=Lib.hid hy
   clear hy hrd
   by_cases z:p≤y
   ·have HZ:=Lib.hid (JU (p:=p) hlt (by rw [HY.out];exact z))
    have d1:decide ((p:Int)≤(y:Int))=true:=decide_eq_true (by omega)
    go_wp2
    go_ret
    exact ⟨by rw [HZ.out];rfl,rfl⟩
   ·have HZ:=Lib.hid (zEa HB.out (by rw [HY.out];exact z))
    have d1:decide ((p:Int)≤(y:Int))=false:=decide_eq_false (by omega)
    go_wp2
    go_round
    case rel=>exact ⟨j+1,by omega,by go_num,HZ.out⟩
    case measure=>simp [intOf];omega
  ·have e:j=l.length:=by omega
   have HA:=Lib.hid (KJ (l:=l) (p:=p) (fun k hk=>HB.out k (by omega)))
   clear hrd
   go_wp2
   go_ret
   exact ⟨by rw [HA.out];rfl,rfl⟩
set_option maxRecDepth 100000 in
set_option maxHeartbeats 1000000 in
theorem zS (A:Option Addr) (n c:Nat) (ls:List (List Nat)) (m k:Int) (p:Nat) (w:World) (hl:RSl 1 RWd w [.slice A n c] ls) :
  Calls Tryz.prog 98 #[.slice A n c, .int .i64 m, .int .i64 k, .int .u64 p] w fun e w'=>e= .returned (.bool (Y5 ls m k p))∧w=w':=by
 obtain ⟨A',n',c',he,hlen,hnc,hmx,hrd⟩:=hl
 simp at he
 obtain ⟨rfl,rfl,rfl⟩:=he
 subst hlen
 have gm:=Vo hnc hmx
 clear hnc hmx
 go_enter Tryz.func98,Tryz.ntmps98
 go_wp2_with fail
 go_loop [9] (fun i=>∃ j:Nat,j≤ls.length∧i= .int .i64 (j:Int)∧Hid (∀ k'<j,∀ h:k'<ls.length,Yv ls[k'] k p=true)) (fun i=>ls.length-(intOf i).toNat)
 case atStart=>exact ⟨0,Nat.zero_le _,rfl,fun k hk=>by omega⟩
 case round =>
  obtain ⟨j,hj,rfl,HB⟩:=hrel
  by_cases hlt:j<ls.length
  ·obtain ⟨b,q,rfl⟩:=hrd.base (by omega) (by omega)
   obtain ⟨cs,hl1,hc,hr⟩:=hrd.get hlt
   have hr':=hr
   obtain ⟨A1,n1,c1,rfl,-⟩:=hr
   have c0:=hc 0 (by omega)
   simp at c0
   have HL:=Lib.hid hlt
   have g1:(0:Int)≤(j:Int):=by omega
   have g2:(j:Int)<(ls.length:Int):=by omega
   have HR:=Lib.hid (fun w (h:RWd w [.slice A1 n1 c1] ls[j])=>Xt A1 n1 c1 ls[j] k p w h)
   clear hc hrd hl1
   cases hb:Yv ls[j] k p
   ·have HZ:=Lib.hid (show Y5 ls m k p=false by
     unfold Y5
     rw [List.all_eq_false.2 ⟨ls[j],List.getElem_mem hlt,by rw [hb];exact Bool.noConfusion⟩]
     rfl)
    have HBB:=Lib.hid hb
    clear hb
    go_wp2_with fail
    refine (HR.out _ hr').mono ?_
    rintro e w1 ⟨rfl,rfl⟩
    rw [HBB.out]
    go_wp2
    go_ret
    exact ⟨by rw [HZ.out];rfl,rfl⟩
   ·have HBB:=Lib.hid hb
    clear hb
    go_wp2_with fail
    refine (HR.out _ hr').mono ?_
    rintro e w1 ⟨rfl,rfl⟩
    rw [HBB.out]
    go_wp2
    go_round
    case rel =>
     refine ⟨j+1,by omega,by go_num,fun k' hk h=>?_⟩
     rcases Nat.lt_or_ge k' j with h5 | h5
     ·exact HB.out k' h5 h
     ·have e:k'=j:=by omega
      subst e
      exact HBB.out
    case measure=>simp [intOf];omega
  ·have e:j=ls.length:=by omega
   have HA:=Lib.hid (show ls.all (fun l=>Yv l k p)=true from List.all_eq_true.2 fun x hx=>by obtain ⟨k',hk,rfl⟩:=List.getElem_of_mem hx;exact HB.out k' (by omega) hk)
   by_cases z:(ls.length:Int)=m
   ·have g:((ls.length:Int) == m)=true:=by rw [beq_iff_eq];exact z
    have HZ:=Lib.hid (show Y5 ls m k p=true by unfold Y5;rw [HA.out,g];rfl)
    clear z hrd
    go_wp2
    go_ret
    exact ⟨by rw [HZ.out];rfl,rfl⟩
   ·have g:((ls.length:Int) == m)=false:=by rw [beq_eq_false_iff_ne];exact z
    have HZ:=Lib.hid (show Y5 ls m k p=false by unfold Y5;rw [HA.out,g];rfl)
    clear z hrd
    go_wp2
    go_ret
    exact ⟨by rw [HZ.out];rfl,rfl⟩
theorem kO {j:Nat} (hj:j<64):Lib.bitLen (2^j)=j+1:=by
 obtain ⟨h1,h2,h3⟩:=Lib.bitLenAux_bounds 64 (2^j) (Nat.pow_lt_pow_right (by omega) hj) (Nat.ne_of_gt (Nat.pow_pos (by omega)))
 have e:Lib.bitLen (2^j)=Lib.bitLenAux 64 (2^j):=rfl
 rw [e]
 generalize Lib.bitLenAux 64 (2^j)=k at *
 have h4:=(Nat.pow_lt_pow_iff_right (a:=2) (by omega)).1 h3
 have h5:=(Nat.pow_le_pow_iff_right (a:=2) (by omega)).1 h2
 omega
theorem ji (d:Nat) (hd:d≤10):wrap64 ((2:Int)^d)=((2^d:Nat):Int):=by
 have h:2^d≤2^10:=Nat.pow_le_pow_right (by omega) hd
 have e:((2:Int)^d)=((2^d:Nat):Int):=(Int.natCast_pow 2 d).symm
 rw [e]
 generalize 2^d=x at *
 unfold wrap64
 omega
theorem zBq {j n:Nat} (h:n=2^j) (hn:n≤1024):j≤10:=by
 rcases Nat.lt_or_ge 10 j with h1 | h1
 ·have:2^11≤2^j:=Nat.pow_le_pow_right (by omega) h1
  omega
 ·exact h1
set_option maxRecDepth 100000 in
set_option maxHeartbeats 1000000 in
theorem Gn (L:YO) (j:Nat) (w:World) (hn:L.n=2^j) (hj:j≤10) :
  Calls Tryz.prog 112 #[.agg (ZH L)] w fun e w'=>e= .returned (.int .i64 (j:Int))∧Below w.heap.size w w':=by
 have hN:L.n≤1024:=by rw [hn];exact Nat.pow_le_pow_right (n:=2) (by omega) hj
 have HL:=Lib.hid (fun w=>zFg (L.n:Int) w (by omega) (by omega))
 rw [Int.toNat_natCast,hn,kO (by omega),←hn] at HL
 have e1:IntKind.u64.wrap (L.n:Int)=(L.n:Int):=Y6 _ (by omega)
 have i1:(j:Int)≤10:=by omega
 have e2:((j+1:Nat):Int)-1=(j:Int):=by omega
 unfold ZH
 clear hn
 go_enter Tryz.func112,Tryz.ntmps112
 go_wp2_with fail
 refine (HL.out _).mono ?_
 rintro e w1 ⟨rfl,rfl⟩
 go_wp2
 go_ret
 exact ⟨by simp,(Below.refl _ _).alloc (Nat.le_refl _) _⟩
set_option maxRecDepth 100000 in
set_option maxHeartbeats 1000000 in
theorem jc (L:YO) (w:World) (hL:Y7 L) :
  Calls Tryz.prog 97 #[.agg (ZH L)] w fun e w'=>e= .returned (.agg #[.int .i64 (L.k:Int), .int .i64 ((L.k+L.block-1:Nat):Int), .int .i64 ((2*L.k-1:Nat):Int)])∧Below w.heap.size w w':=by
 have h1:=hL.b1
 have h2:=hL.b2
 have h3:=hL.q1
 have h4:=hL.q2
 have h5:=hL.k
 have e1:(L.k:Int)+(L.block:Int)-1=((L.k+L.block-1:Nat):Int):=by omega
 have e2:(2:Int)*(L.k:Int)-1=((2*L.k-1:Nat):Int):=by omega
 have i1:(L.k:Int)≤320:=by omega
 have i2:(1:Int)≤(L.k:Int):=by omega
 have i3:(L.block:Int)≤256:=by omega
 revert e1 e2
 generalize L.k+L.block-1=x
 generalize 2*L.k-1=y
 intro e1 e2
 clear h1 h2 h3 h4 h5 hL
 unfold ZH
 go_enter Tryz.func97,Tryz.ntmps97
 go_wp2
 exact bodyPost_ret (v:=.agg #[.int .i64 (L.k:Int), .int .i64 (x:Int), .int .i64 (y:Int)]) (by simp [results,Tryz.results97,go_sem]) rfl ⟨rfl,((Below.refl _ _).alloc (Nat.le_refl _) _).alloc (by simp) _⟩
set_option maxRecDepth 100000 in
set_option maxHeartbeats 1000000 in
theorem xE (L:YO) (w:World) :
  Calls Tryz.prog 17 #[.agg (ZH L)] w fun e w'=>e= .returned (.agg (ZH L))∧Below w.heap.size w w':=by
 unfold ZH
 go_enter Tryz.func17,Tryz.ntmps17
 go_wp2
 exact bodyPost_ret (v:=.agg (ZH L)) (by simp [results,Tryz.results17,go_sem,ZH]) rfl ⟨by simp [ZH],((Below.refl _ _).alloc (Nat.le_refl _) _).alloc (by simp) _⟩
def szOf (L:YO) (j:Nat):Nat:=8*(1+(L.k+(L.k+L.block-1)+(2*L.k-1))+L.queries*(L.a+L.b+L.b+L.b+3+1+j))
set_option maxRecDepth 100000 in
set_option maxHeartbeats 1000000 in
theorem zCa (n j:Nat) (w:World) (hn:n=2^j) (hj:j≤10) :
  Calls Tryz.prog 99 #[.int .i64 (n:Int)] w fun e w'=>e= .returned (.int .i64 (j:Int))∧w=w':=by
 have hN:n≤1024:=by rw [hn];exact Nat.pow_le_pow_right (n:=2) (by omega) hj
 go_enter Tryz.func99,Tryz.ntmps99
 go_wp2_with fail
 go_loop [3] (fun i=>∃ d:Nat,d≤j∧i= .int .i64 (d:Int)) (fun i=>j-(intOf i).toNat)
 case atStart=>exact ⟨0,Nat.zero_le _,rfl⟩
 case round =>
  obtain ⟨d,hd,rfl⟩:=hrel
  have HN:=Lib.hid hn
  clear hn
  go_wp2_with fail
  ·rename_i h
   have hlt:d<j:=by
    rw [ji d (by omega),HN.out] at h
    exact (Nat.pow_lt_pow_iff_right (a:=2) (by omega)).1 (by omega)
   go_round
   case rel=>exact ⟨d+1,hlt,by go_num⟩
   case measure=>simp [intOf];omega
  ·have h:(n:Int)≤wrap64 (2^d):=by assumption
   have hge:¬d<j:=fun hlt=>by
    have:=(Nat.pow_lt_pow_iff_right (a:=2) (by omega)).2 hlt
    rw [ji d (by omega),HN.out] at h
    omega
   have e:d=j:=by omega
   subst e
   go_ret
   exact ⟨rfl,rfl⟩
set_option maxRecDepth 100000 in
set_option maxHeartbeats 1000000 in
theorem zC3 (L:YO) (j:Nat) (w:World) (hL:Y7 L) (hn:L.n=2^j) (hj:j≤10) :
  Calls Tryz.prog 50 #[.agg (ZH L)] w fun e w'=>e= .returned (.int .i64 (szOf L j:Nat))∧Below w.heap.size w w':=by
 have HL:=Lib.hid (fun w=>Gn L j w hn hj)
 have HT:=Lib.hid (fun w=>GM L.p L.block L.queries L.k L.n L.secret L.rows L.a L.b L.b L.b w hL.a hL.b hL.b hL.b)
 have h1:=hL.b1
 have h2:=hL.b2
 have h3:=hL.q1
 have h4:=hL.q2
 have h5:=hL.k
 have h6:=hL.a
 have h7:=hL.b
 have i1:(L.k:Int)≤320:=by omega
 have i2:(1:Int)≤(L.k:Int):=by omega
 have i3:(L.block:Int)≤256:=by omega
 have i4:(j:Int)≤10:=by omega
 have hS:szOf L j=8*(1+(L.k+(L.k+L.block-1)+(2*L.k-1))+L.queries*(L.a+L.b+L.b+L.b+3+1+j)):=rfl
 have hT:L.a+L.b+L.b+L.b≤400000:=by omega
 obtain ⟨T,hTT⟩:∃ T,T=L.a+L.b+L.b+L.b:=⟨_,rfl⟩
 rw [←hTT] at HT hS hT
 obtain ⟨T2,hT2⟩:∃ T2,T2=T+3+1+j:=⟨_,rfl⟩
 rw [←hT2] at hS
 have hM:L.queries*T2≤64*T2:=Nat.mul_le_mul_right _ h4
 obtain ⟨M,hMM⟩:∃ M,M=L.queries*T2:=⟨_,rfl⟩
 rw [←hMM] at hS hM
 obtain ⟨Z,hZ⟩:∃ Z,Z=szOf L j:=⟨_,rfl⟩
 rw [←hZ] at hS
 rw [←hZ]
 obtain ⟨X,hX⟩:∃ X,X=L.k+(L.k+L.block-1)+(2*L.k-1):=⟨_,rfl⟩
 have e1:(L.k:Int)+((L.k:Int)+(L.block:Int)-1)+(2*(L.k:Int)-1)=(X:Int):=by omega
 have e2:(T:Int)+3+1+(j:Int)=(T2:Int):=by omega
 have e3:(L.queries:Int)*(T2:Int)=(M:Int):=by rw [hMM];exact (Int.natCast_mul _ _).symm
 have e4:(8:Int)*(1+(X:Int)+(M:Int))=(Z:Int):=by omega
 have e5:IntKind.i64.wrap ((T:Int)+3)=(T:Int)+3:=Y1 _ (by omega) (by omega)
 have e6:IntKind.i64.wrap ((T:Int)+3+1)=(T:Int)+3+1:=Y1 _ (by omega) (by omega)
 have e7:IntKind.i64.wrap (T2:Int)=(T2:Int):=Y1 _ (by omega) (by omega)
 have i5:(T2:Int)≤400014:=by omega
 have i6:(M:Int)≤25600896:=by omega
 have i7:(X:Int)≤2000:=by omega
 have i8:(T:Int)≤400000:=by omega
 clear h1 h2 h3 h4 h5 h6 h7 hS hT hTT hT2 hM hMM hZ hX hL hn hj
 unfold ZH at HL ⊢
 have hb0:Below w.heap.size w (w.alloc (.cells #[.int .u64 (L.p:Int), .int .i64 (L.block:Int), .int .i64 (L.queries:Int), .int .i64 (L.k:Int), .int .i64 (L.n:Int), .int .i64 (L.secret:Int), .int .i64 (L.rows:Int), .int .i64 (L.a:Int), .int .i64 (L.b:Int), .int .i64 (L.b:Int), .int .i64 (L.b:Int)] 50)):=(Below.refl _ _).alloc (Nat.le_refl _) _
 have hB:=Blk.new w 50 #[.int .u64 (L.p:Int), .int .i64 (L.block:Int), .int .i64 (L.queries:Int), .int .i64 (L.k:Int), .int .i64 (L.n:Int), .int .i64 (L.secret:Int), .int .i64 (L.rows:Int), .int .i64 (L.a:Int), .int .i64 (L.b:Int), .int .i64 (L.b:Int), .int .i64 (L.b:Int)]
 go_enter Tryz.func50,Tryz.ntmps50
 go_wp2_with fail
 revert hb0 hB
 generalize w.alloc _=w0
 intro hb0 hB
 obtain ⟨c0,f0⟩:=hB.cells'
 have l0:=hB.lt
 refine Zx (Yj) [1,5] [0,4,1,2,3,5,6,7] (by kernel_rfl) (by kernel_rfl) ?_
 refine Yt (later_moves) ?_
 intro Wc hacc
 repeat (first | (refine Zh (later_moves) rfl rfl (fun _ _ _ h=>h) ?_;simp only [Act.put,zLa,zLb,zLc]) | (refine Ze (v:=?_) (later_moves) rfl rfl (fun _ _ _ h=>h) ?_ ?_;rotate_left;(· (intro w' hR;(first | have hcells:=Zd ((later_moves).trans _ _ _ hacc hR) | skip);go_simp;try with_reducible rfl));simp only [Act.put,zLa,zLb,zLc]))
 refine ZX (later_moves) rfl rfl rfl (fun _=>by go_simp <;> rfl) ((HT.out _).mono ?_)
 rintro e w1 ⟨rfl,hb1⟩
 refine ⟨_,rfl,hb1,?_⟩
 replace hacc:=(later_moves).trans _ _ _ hacc (hb1)
 simp only [Act.put,zLa,zLb,zLc]
 repeat (first | (refine Zh (later_moves) rfl rfl (fun _ _ _ h=>h) ?_;simp only [Act.put,zLa,zLb,zLc]) | (refine Ze (v:=?_) (later_moves) rfl rfl (fun _ _ _ h=>h) ?_ ?_;rotate_left;(· (intro w' hR;(first | have hcells:=Zd ((later_moves).trans _ _ _ hacc hR) | skip);go_simp;try with_reducible rfl));simp only [Act.put,zLa,zLb,zLc]))
 refine ZX (later_moves) rfl rfl rfl (fun _=>by go_simp <;> rfl) ((HL.out _).mono ?_)
 rintro e w2 ⟨rfl,hb2⟩
 refine ⟨_,rfl,hb2,?_⟩
 replace hacc:=(later_moves).trans _ _ _ hacc (hb2)
 simp only [Act.put,zLa,zLb,zLc]
 repeat (first | (refine Zh (later_moves) rfl rfl (fun _ _ _ h=>h) ?_;simp only [Act.put,zLa,zLb,zLc]) | (refine Ze (v:=?_) (later_moves) rfl rfl (fun _ _ _ h=>h) ?_ ?_;rotate_left;(· (intro w' hR;(first | have hcells:=Zd ((later_moves).trans _ _ _ hacc hR) | skip);go_simp;try with_reducible rfl));simp only [Act.put,zLa,zLb,zLc]))
 refine Zt ?_
 have hB2:=hB.drew.below hacc hB.lt
 clear c0 f0
 obtain ⟨c0,f0⟩:=hB2.cells'
 go_wp2
 go_ret
 exact ⟨rfl,Za hb0.drew hacc⟩
set_option maxRecDepth 100000 in
set_option maxHeartbeats 1000000 in
theorem Ug (w:World):Calls Tryz.prog 13 #[] w fun e w'=>e= .returned (.bool true)∧Below w.heap.size w w':=by
 have HS:=Lib.hid (zC3 ⟨97,2,2,4,8,3,1,2,1⟩ 3 w ⟨rfl,by decide,by decide,by decide,by decide,rfl,⟨3,rfl⟩,by decide,by decide,by decide,by decide,by decide,by decide,by decide,by decide,by decide,by decide,by decide,by decide⟩ rfl (by decide))
 unfold ZH at HS
 simp only at HS
 go_enter Tryz.func13,Tryz.ntmps13
 go_wp2_with fail
 refine HS.out.mono ?_
 rintro e w1 ⟨rfl,hb⟩
 go_wp2
 go_ret
 exact ⟨rfl,hb⟩
structure Yi where
 root:Nat
 code:List Nat
 linear:List Nat
 quad:List Nat
 cols:List (List Nat)
 salts:List Nat
 paths:List (List Nat)
structure PS where
 A1:Option Addr
 n1:Nat
 c1:Nat
 A2:Option Addr
 n2:Nat
 c2:Nat
 A3:Option Addr
 n3:Nat
 c3:Nat
 A4:Option Addr
 n4:Nat
 c4:Nat
 A5:Option Addr
 n5:Nat
 c5:Nat
 A6:Option Addr
 n6:Nat
 c6:Nat
def Y3 (P:Yi) (S:PS):Array Value:=#[.int .u64 (P.root:Int), .slice S.A1 S.n1 S.c1, .slice S.A2 S.n2 S.c2, .slice S.A3 S.n3 S.c3, .slice S.A4 S.n4 S.c4, .slice S.A5 S.n5 S.c5, .slice S.A6 S.n6 S.c6]
structure Js (w:World) (P:Yi) (S:PS):Prop where
 root:P.root<18446744073709551616
 code:RWd w [.slice S.A1 S.n1 S.c1] P.code
 linear:RWd w [.slice S.A2 S.n2 S.c2] P.linear
 quad:RWd w [.slice S.A3 S.n3 S.c3] P.quad
 cols:RSl 1 RWd w [.slice S.A4 S.n4 S.c4] P.cols
 salts:RWd w [.slice S.A5 S.n5 S.c5] P.salts
 paths:RSl 1 RWd w [.slice S.A6 S.n6 S.c6] P.paths
theorem Xs {w w':World} {P:Yi} {S:PS} (h:Js w P S) (hb:Below w.heap.size w w'):Js w' P S :=
 ⟨h.root,Zl _ _ _ _ hb h.code,Zl _ _ _ _ hb h.linear,Zl _ _ _ _ hb h.quad,ZQ Zl _ _ _ _ hb h.cols,Zl _ _ _ _ hb h.salts,ZQ Zl _ _ _ _ hb h.paths⟩
theorem Vd {w:World} {A:Option Addr} {n c:Nat} {ls:List (List Nat)} (h:RSl 1 RWd w [.slice A n c] ls):n=ls.length∧n≤c∧c≤maxLen∧RdL w 1 RWd A ls:=by
 obtain ⟨A',n',c',he,hlen,hnc,hmx,hrd⟩:=h
 simp at he
 obtain ⟨rfl,rfl,rfl⟩:=he
 exact ⟨hlen.symm,hnc,hmx,hrd⟩
theorem Kx {w:World} {A:Option Addr} {ls:List (List Nat)} (h:RdL w 1 RWd A ls) {j:Nat} (hj:j<ls.length):∃ b q A1 n1 c1,A=some ⟨b,q,none⟩∧b<w.heap.size∧w.cell? ⟨b,q+j,none⟩=some (.slice A1 n1 c1)∧RWd w [.slice A1 n1 c1] ls[j]:=by
 obtain ⟨b,q,rfl⟩:=h.base (by omega) (by omega)
 obtain ⟨cs,hl1,hc,hr⟩:=h.get hj
 have hr':=hr
 obtain ⟨A1,n1,c1,rfl,-⟩:=hr
 have c0:=hc 0 (by omega)
 simp at c0
 exact ⟨b,q,A1,n1,c1,rfl,World.block_lt_of_cell? _ _ c0,c0,hr'⟩
set_option maxRecDepth 100000 in
set_option maxHeartbeats 2000000 in
theorem zEz (P:Yi) (S:PS) (w:World) (h:Js w P S) :
  Calls Tryz.prog 14 #[.agg (Y3 P S)] w fun e w'=>zD6 e∧Below w.heap.size w w':=by
 obtain ⟨e4,f4,g4,r4⟩:=Vd h.cols
 obtain ⟨e6,f6,g6,r6⟩:=Vd h.paths
 have m4:=Vo f4 g4
 have m6:=Vo f6 g6
 have E4:=Lib.hid e4
 have E6:=Lib.hid e6
 clear e4 e6 f4 f6 g4 g6 h
 unfold Y3
 have hb0:Below w.heap.size w (w.alloc (.cells #[.int .u64 (P.root:Int), .slice S.A1 S.n1 S.c1, .slice S.A2 S.n2 S.c2, .slice S.A3 S.n3 S.c3, .slice S.A4 S.n4 S.c4, .slice S.A5 S.n5 S.c5, .slice S.A6 S.n6 S.c6] 35)):=(Below.refl _ _).alloc (Nat.le_refl _) _
 have hB:=Blk.new w 35 #[.int .u64 (P.root:Int), .slice S.A1 S.n1 S.c1, .slice S.A2 S.n2 S.c2, .slice S.A3 S.n3 S.c3, .slice S.A4 S.n4 S.c4, .slice S.A5 S.n5 S.c5, .slice S.A6 S.n6 S.c6]
 go_enter Tryz.func14,Tryz.ntmps14
 go_upto_block 0 with fail
 revert hb0 hB
 generalize w.alloc _=w0
 intro hb0 hB
 have r4':=r4.below Zl hb0
 have r6':=r6.below Zl hb0
 have c0:=hB.cell
 have l0:=hB.lt
 clear r4 r6 hB
 go_cut [3] (fun t wx=>(∃ z:Int,t= .int .i64 z)∧w0=wx)
 case first =>
  go_wp2_with fail
  go_loop [3,4] (fun t i=>∃ (j:Nat) (z:Int),j≤S.n4∧i= .int .i64 (j:Int)∧t= .int .i64 z) (fun _ i=>S.n4-(intOf i).toNat)
  case atStart=>exact ⟨0,_,Nat.zero_le _,rfl,rfl⟩
  case round =>
   obtain ⟨j,z,hj,rfl,rfl⟩:=hrel
   by_cases hlt:j<S.n4
   ·by_cases hz:z≤4000
    ·obtain ⟨b,q,A1,n1,c1,hA,hbl,hc,-⟩:=Kx r4' (show j<P.cols.length by rw [←E4.out];exact hlt)
     have d1:=decide_eq_true hz
     have g1:(0:Int)≤(j:Int):=by omega
     have g2:(j:Int)<(S.n4:Int):=by omega
     rw [hA] at c0
     clear hz r4' r6'
     go_wp2_with fail
     go_round
     case rel=>exact ⟨j+1,_,by omega,by go_num,rfl⟩
     case measure=>simp [intOf];omega
    ·have d1:=decide_eq_false hz
     clear r4' r6'
     go_wp2_with fail
     go_meet
     exact ⟨⟨_,rfl⟩,rfl⟩
   ·clear r4' r6'
    go_wp2_with fail
    go_meet
    exact ⟨⟨_,rfl⟩,rfl⟩
 case rest =>
  obtain ⟨⟨z0,rfl⟩,rfl⟩:=hcut
  go_wp2_with fail
  go_loop [3,5] (fun t i=>∃ (j:Nat) (z:Int),j≤S.n6∧i= .int .i64 (j:Int)∧t= .int .i64 z) (fun _ i=>S.n6-(intOf i).toNat)
  case atStart=>exact ⟨0,_,Nat.zero_le _,rfl,rfl⟩
  case round =>
   obtain ⟨j,z,hj,rfl,rfl⟩:=hrel
   by_cases hlt:j<S.n6
   ·by_cases hz:z≤4000
    ·obtain ⟨b,q,A1,n1,c1,hA,hbl,hc,-⟩:=Kx r6' (show j<P.paths.length by rw [←E6.out];exact hlt)
     have d1:=decide_eq_true hz
     have g1:(0:Int)≤(j:Int):=by omega
     have g2:(j:Int)<(S.n6:Int):=by omega
     rw [hA] at c0
     clear hz r4' r6'
     go_wp2_with fail
     go_round
     case rel=>exact ⟨j+1,_,by omega,by go_num,rfl⟩
     case measure=>simp [intOf];omega
    ·have d1:=decide_eq_false hz
     clear r4' r6'
     go_wp2_with fail
     go_ret
     exact ⟨⟨_,rfl⟩,hb0⟩
   ·clear r4' r6'
    go_wp2_with fail
    go_ret
    exact ⟨⟨_,rfl⟩,hb0⟩
def VC:Nat:=18446744069414584321
def VZ (L:YO) (j:Nat) (P:Yi):Bool :=
 !(decide (VC≤P.root))&&(Yv P.code (L.k:Int) L.p&&(Yv P.linear ((L.k+L.block-1:Nat):Int) L.p&&(Yv P.quad ((2*L.k-1:Nat):Int) L.p &&
  (Y5 P.cols (L.queries:Int) ((L.a+L.b+L.b+L.b+3:Nat):Int) L.p&&(Yv P.salts (L.queries:Int) VC&&Y5 P.paths (L.queries:Int) (j:Int) VC)))))
set_option maxRecDepth 100000 in
set_option maxHeartbeats 4000000 in
theorem JR (L:YO) (j:Nat) (P:Yi) (S:PS) (w:World) (hL:Y7 L) (hn:L.n=2^j) (hj:j≤10) (h:Js w P S) :
  Calls Tryz.prog 43 #[.agg (ZH L), .agg (Y3 P S)] w fun e w'=>e= .returned (.bool (VZ L j P))∧Below w.heap.size w w':=by
 have HLen:=Lib.hid (fun w=>jc L w hL)
 have HT:=Lib.hid (fun w=>G9 L.p L.block L.queries L.k L.n L.secret L.rows L.a L.b L.b L.b w hL.a hL.b hL.b hL.b)
 have HD:=Lib.hid (fun w=>zCa L.n j w hn hj)
 have H1:=Lib.hid (fun w' (hb:Below w.heap.size w w')=>Xt S.A1 S.n1 S.c1 P.code (L.k:Int) L.p w' (Zl _ _ _ _ hb h.code))
 have H2:=Lib.hid (fun w' (hb:Below w.heap.size w w')=>Xt S.A2 S.n2 S.c2 P.linear ((L.k+L.block-1:Nat):Int) L.p w' (Zl _ _ _ _ hb h.linear))
 have H3:=Lib.hid (fun w' (hb:Below w.heap.size w w')=>Xt S.A3 S.n3 S.c3 P.quad ((2*L.k-1:Nat):Int) L.p w' (Zl _ _ _ _ hb h.quad))
 have H4:=Lib.hid (fun w' (hb:Below w.heap.size w w')=>zS S.A4 S.n4 S.c4 P.cols (L.queries:Int) ((L.a+L.b+L.b+L.b+3:Nat):Int) L.p w' (ZQ Zl _ _ _ _ hb h.cols))
 have H5:=Lib.hid (fun w' (hb:Below w.heap.size w w')=>Xt S.A5 S.n5 S.c5 P.salts (L.queries:Int) VC w' (Zl _ _ _ _ hb h.salts))
 have H6:=Lib.hid (fun w' (hb:Below w.heap.size w w')=>zS S.A6 S.n6 S.c6 P.paths (L.queries:Int) (j:Int) VC w' (ZQ Zl _ _ _ _ hb h.paths))
 have hV:Hid (VZ L j P=(!(decide (VC≤P.root))&&(Yv P.code (L.k:Int) L.p&&(Yv P.linear ((L.k+L.block-1:Nat):Int) L.p&&(Yv P.quad ((2*L.k-1:Nat):Int) L.p &&
  (Y5 P.cols (L.queries:Int) ((L.a+L.b+L.b+L.b+3:Nat):Int) L.p&&(Yv P.salts (L.queries:Int) VC&&Y5 P.paths (L.queries:Int) (j:Int) VC))))))):=rfl
 have hA:=hL.a
 have hBB:=hL.b
 obtain ⟨T,hTT⟩:∃ T,T=L.a+L.b+L.b+L.b:=⟨_,rfl⟩
 rw [←hTT] at HT H4 hV
 have hT:T≤400000:=by omega
 have e3:(T:Int)+3=((T+3:Nat):Int):=by omega
 have e4:IntKind.i64.wrap ((T+3:Nat):Int)=((T+3:Nat):Int):=Y1 _ (by omega) (by omega)
 have e5:IntKind.i64.wrap ((T:Int)+3)=((T+3:Nat):Int):=by rw [Y1 _ (by omega) (by omega)];omega
 revert e3 e4 e5 H4 hV HLen H2 H3
 generalize T+3=T3
 generalize L.k+L.block-1=x
 generalize 2*L.k-1=y
 generalize hr1:Yv P.code (L.k:Int) L.p=b1 at *
 generalize hr2:Yv P.linear (x:Int) L.p=b2
 generalize hr3:Yv P.quad (y:Int) L.p=b3
 generalize hr4:Y5 P.cols (L.queries:Int) (T3:Int) L.p=b4
 generalize hr5:Yv P.salts (L.queries:Int) VC=b5 at *
 generalize hr6:Y5 P.paths (L.queries:Int) (j:Int) VC=b6 at *
 intro HLen H2 H3 hV H4 e3 e4 e5
 clear hr1 hr2 hr3 hr4 hr5 hr6 hL hn hj hA hBB hTT hT h
 generalize VZ L j P=res at *
 unfold ZH at HLen ⊢
 unfold Y3
 unfold VC at *
 have hb0:Below w.heap.size w ((w.alloc (.cells #[.int .u64 (L.p:Int), .int .i64 (L.block:Int), .int .i64 (L.queries:Int), .int .i64 (L.k:Int), .int .i64 (L.n:Int), .int .i64 (L.secret:Int), .int .i64 (L.rows:Int), .int .i64 (L.a:Int), .int .i64 (L.b:Int), .int .i64 (L.b:Int), .int .i64 (L.b:Int)] 38)).alloc (.cells #[.int .u64 (P.root:Int), .slice S.A1 S.n1 S.c1, .slice S.A2 S.n2 S.c2, .slice S.A3 S.n3 S.c3, .slice S.A4 S.n4 S.c4, .slice S.A5 S.n5 S.c5, .slice S.A6 S.n6 S.c6] 35)):=((Below.refl _ w).alloc (Nat.le_refl _) _).alloc (by simp) _
 go_enter Tryz.func43,Tryz.ntmps43
 go_wp2_with fail
 refine (HLen.out _).mono ?_
 rintro e w1 ⟨rfl,hb⟩
 obtain ⟨k1,k2,hbw⟩:=Vc hb
 have k1':=k1.alloc (.cells #[.int .i64 (L.k:Int), .int .i64 (x:Int), .int .i64 (y:Int)] 181)
 have k2':=k2.alloc (.cells #[.int .i64 (L.k:Int), .int .i64 (x:Int), .int .i64 (y:Int)] 181)
 have k3':=Blk.new w1 181 #[.int .i64 (L.k:Int), .int .i64 (x:Int), .int .i64 (y:Int)]
 have hbw':=hbw.alloc hbw.size (.cells #[.int .i64 (L.k:Int), .int .i64 (x:Int), .int .i64 (y:Int)] 181)
 clear hb k1 k2 hbw hb0
 go_upto_region 2 with fail
 revert k1' k2' k3' hbw'
 generalize w1.alloc _=w2
 generalize w1.heap.size=g
 intro k1 k2 k3 hbw
 have c1:=k1.cell
 have c2:=k2.cell
 have c3:=k3.cell
 have l1:=k1.lt
 have l2:=k2.lt
 by_cases z:18446744069414584321≤P.root
 ·have d1:decide ((18446744069414584321:Int)≤(P.root:Int))=true:=decide_eq_true (by omega)
  have d2:decide (18446744069414584321≤P.root)=true:=decide_eq_true z
  have HZ:=Lib.hid (show res=false by rw [hV.out,d2];rfl)
  clear z
  go_wp2_with fail
  go_ret
  exact ⟨by rw [HZ.out];rfl,hbw⟩
 have d1:decide ((18446744069414584321:Int)≤(P.root:Int))=false:=decide_eq_false (by omega)
 have d2:decide (18446744069414584321≤P.root)=false:=decide_eq_false z
 rw [d2] at hV
 clear z
 go_wp2_with fail
 refine (H1.out _ hbw).mono ?_
 rintro e w3 ⟨rfl,rfl⟩
 cases b1
 ·have HZ:=Lib.hid (show res=false by rw [hV.out];rfl)
  go_wp2_with fail
  go_ret
  exact ⟨by rw [HZ.out];rfl,hbw⟩
 go_wp2_with fail
 refine (H2.out _ hbw).mono ?_
 rintro e w3 ⟨rfl,rfl⟩
 cases b2
 ·have HZ:=Lib.hid (show res=false by rw [hV.out];rfl)
  go_wp2_with fail
  go_ret
  exact ⟨by rw [HZ.out];rfl,hbw⟩
 go_wp2_with fail
 refine (H3.out _ hbw).mono ?_
 rintro e w3 ⟨rfl,rfl⟩
 cases b3
 ·have HZ:=Lib.hid (show res=false by rw [hV.out];rfl)
  go_wp2_with fail
  go_ret
  exact ⟨by rw [HZ.out];rfl,hbw⟩
 go_wp2_with fail
 refine Zx (Yj) [5,9,15,24,25] [0,1,2,3,4,7,8,5,6,9,10,11,12,13,14,15,16,17,18,19,20,21,22,23,24,25,26,27] (by kernel_rfl) (by kernel_rfl) ?_
 refine Yt (later_moves) ?_
 intro Wc hacc
 repeat (first | (refine Zh (later_moves) rfl rfl (fun _ _ _ h=>h) ?_;simp only [Act.put,zLa,zLb,zLc]) | (refine Ze (v:=?_) (later_moves) rfl rfl (fun _ _ _ h=>h) ?_ ?_;rotate_left;(· (intro w' hR;(first | have hcells:=Zd ((later_moves).trans _ _ _ hacc hR) | skip);go_simp;try with_reducible rfl));simp only [Act.put,zLa,zLb,zLc]))
 refine ZX (later_moves) rfl rfl rfl (fun _=>by go_simp <;> rfl) ((HT.out _).mono ?_)
 rintro e w4 ⟨rfl,hb4⟩
 refine ⟨_,rfl,hb4,?_⟩
 replace hacc:=(later_moves).trans _ _ _ hacc (hb4)
 simp only [Act.put,zLa,zLb,zLc]
 repeat (first | (refine Zh (later_moves) rfl rfl (fun _ _ _ h=>h) ?_;simp only [Act.put,zLa,zLb,zLc]) | (refine Ze (v:=?_) (later_moves) rfl rfl (fun _ _ _ h=>h) ?_ ?_;rotate_left;(· (intro w' hR;(first | have hcells:=Zd ((later_moves).trans _ _ _ hacc hR) | skip);go_simp;try with_reducible rfl));simp only [Act.put,zLa,zLb,zLc]))
 refine ZX (later_moves) rfl rfl rfl (fun _=>by go_simp <;> rfl) ((H4.out _ (Za hbw.drew hacc)).mono ?_)
 rintro e w5 ⟨rfl,rfl⟩
 refine ⟨_,rfl,later_moves.refl _,?_⟩
 replace hacc:=(later_moves).trans _ _ _ hacc (later_moves.refl _)
 simp only [Act.put,zLa,zLb,zLc]
 cases b4
 ·have HZ:=Lib.hid (show res=false by rw [hV.out];rfl)
  repeat (first | (refine Zh (later_moves) rfl rfl (fun _ _ _ h=>h) ?_;simp only [Act.put,zLa,zLb,zLc]) | (refine Ze (v:=?_) (later_moves) rfl rfl (fun _ _ _ h=>h) ?_ ?_;rotate_left;(· (intro w' hR;(first | have hcells:=Zd ((later_moves).trans _ _ _ hacc hR) | skip);go_simp;try with_reducible rfl));simp only [Act.put,zLa,zLb,zLc]))
  refine Zt ?_
  go_wp2
  go_ret
  exact ⟨by rw [HZ.out];rfl,Za hbw.drew hacc⟩
 repeat (first | (refine Zh (later_moves) rfl rfl (fun _ _ _ h=>h) ?_;simp only [Act.put,zLa,zLb,zLc]) | (refine Ze (v:=?_) (later_moves) rfl rfl (fun _ _ _ h=>h) ?_ ?_;rotate_left;(· (intro w' hR;(first | have hcells:=Zd ((later_moves).trans _ _ _ hacc hR) | skip);go_simp;try with_reducible rfl));simp only [Act.put,zLa,zLb,zLc]))
 refine ZX (later_moves) rfl rfl rfl (fun _=>by go_simp <;> rfl) ((H5.out _ (Za hbw.drew hacc)).mono ?_)
 rintro e w5 ⟨rfl,rfl⟩
 refine ⟨_,rfl,later_moves.refl _,?_⟩
 replace hacc:=(later_moves).trans _ _ _ hacc (later_moves.refl _)
 simp only [Act.put,zLa,zLb,zLc]
 cases b5
 ·have HZ:=Lib.hid (show res=false by rw [hV.out];rfl)
  repeat (first | (refine Zh (later_moves) rfl rfl (fun _ _ _ h=>h) ?_;simp only [Act.put,zLa,zLb,zLc]) | (refine Ze (v:=?_) (later_moves) rfl rfl (fun _ _ _ h=>h) ?_ ?_;rotate_left;(· (intro w' hR;(first | have hcells:=Zd ((later_moves).trans _ _ _ hacc hR) | skip);go_simp;try with_reducible rfl));simp only [Act.put,zLa,zLb,zLc]))
  refine Zt ?_
  go_wp2
  go_ret
  exact ⟨by rw [HZ.out];rfl,Za hbw.drew hacc⟩
 repeat (first | (refine Zh (later_moves) rfl rfl (fun _ _ _ h=>h) ?_;simp only [Act.put,zLa,zLb,zLc]) | (refine Ze (v:=?_) (later_moves) rfl rfl (fun _ _ _ h=>h) ?_ ?_;rotate_left;(· (intro w' hR;(first | have hcells:=Zd ((later_moves).trans _ _ _ hacc hR) | skip);go_simp;try with_reducible rfl));simp only [Act.put,zLa,zLb,zLc]))
 refine ZX (later_moves) rfl rfl rfl (fun _=>by go_simp <;> rfl) ((HD.out _).mono ?_)
 rintro e w5 ⟨rfl,rfl⟩
 refine ⟨_,rfl,later_moves.refl _,?_⟩
 replace hacc:=(later_moves).trans _ _ _ hacc (later_moves.refl _)
 simp only [Act.put,zLa,zLb,zLc]
 repeat (first | (refine Zh (later_moves) rfl rfl (fun _ _ _ h=>h) ?_;simp only [Act.put,zLa,zLb,zLc]) | (refine Ze (v:=?_) (later_moves) rfl rfl (fun _ _ _ h=>h) ?_ ?_;rotate_left;(· (intro w' hR;(first | have hcells:=Zd ((later_moves).trans _ _ _ hacc hR) | skip);go_simp;try with_reducible rfl));simp only [Act.put,zLa,zLb,zLc]))
 refine ZX (later_moves) rfl rfl rfl (fun _=>by go_simp <;> rfl) ((H6.out _ (Za hbw.drew hacc)).mono ?_)
 rintro e w5 ⟨rfl,rfl⟩
 refine ⟨_,rfl,later_moves.refl _,?_⟩
 replace hacc:=(later_moves).trans _ _ _ hacc (later_moves.refl _)
 simp only [Act.put,zLa,zLb,zLc]
 have HZ:=Lib.hid (show res=b6 by rw [hV.out];rfl)
 cases b6
 ·repeat (first | (refine Zh (later_moves) rfl rfl (fun _ _ _ h=>h) ?_;simp only [Act.put,zLa,zLb,zLc]) | (refine Ze (v:=?_) (later_moves) rfl rfl (fun _ _ _ h=>h) ?_ ?_;rotate_left;(· (intro w' hR;(first | have hcells:=Zd ((later_moves).trans _ _ _ hacc hR) | skip);go_simp;try with_reducible rfl));simp only [Act.put,zLa,zLb,zLc]))
  refine Zt ?_
  go_wp2
  go_ret
  exact ⟨by rw [HZ.out];rfl,Za hbw.drew hacc⟩
 ·repeat (first | (refine Zh (later_moves) rfl rfl (fun _ _ _ h=>h) ?_;simp only [Act.put,zLa,zLb,zLc]) | (refine Ze (v:=?_) (later_moves) rfl rfl (fun _ _ _ h=>h) ?_ ?_;rotate_left;(· (intro w' hR;(first | have hcells:=Zd ((later_moves).trans _ _ _ hacc hR) | skip);go_simp;try with_reducible rfl));simp only [Act.put,zLa,zLb,zLc]))
  refine Zt ?_
  go_wp2
  go_ret
  exact ⟨by rw [HZ.out];rfl,Za hbw.drew hacc⟩
theorem zBw:(Tryz.prog.info? 200).map (fun i=>(i.zero,i.size,i.bytes))=some (some (.agg #[.pointer none, .int .i64 0, .int .u64 0]),3,24):=by kernel_rfl
theorem yX:JG Tryz.prog 195 200 3 24 (.agg #[.pointer none, .int .i64 0, .int .u64 0]):=by
 obtain ⟨i0,hi,hz0,hz1,hz2⟩:=info_parts zBw
 exact ⟨Tryz.underlying195,⟨i0,hi,hz0,hz1,hz2⟩,rfl,by omega⟩
structure XM where
 ptr:Addr
 size:Nat
 lim:Nat
def pcs (l:List XM):List Value:=l.flatMap fun x=>[.pointer (some x.ptr), .int .i64 (x.size:Int), .int .u64 (x.lim:Int)]
theorem JK (l m:List XM):pcs (l++m)=pcs l++pcs m:=by simp [pcs]
theorem zAq (l:List XM):(pcs l).length=l.length*3:=by
 induction l with
 | nil=>rfl
 | cons x l ih=>simp [pcs] at ih ⊢;omega
def Xv (L:YO) (g:Nat):List XM:=[⟨⟨g,1,none⟩,L.k,L.p⟩,⟨⟨g,2,none⟩,L.k+L.block-1,L.p⟩,⟨⟨g,3,none⟩,2*L.k-1,L.p⟩]
def YC (b q n size lim:Nat):List XM:=(List.range n).map fun i=>⟨⟨b,q+i,none⟩,size,lim⟩
theorem KH (b q n size lim:Nat):YC b q (n+1) size lim=YC b q n size lim++[⟨⟨b,q+n,none⟩,size,lim⟩]:=by simp [YC,List.range_succ]
def Xz (L:YO) (j g b4 q4 b6 q6:Nat):List XM :=
 Xv L g++YC b4 q4 L.queries (L.a+L.b+L.b+L.b+3) L.p++[⟨⟨g,5,none⟩,L.queries,VC⟩]++YC b6 q6 L.queries j VC
theorem zA7 (w:World) (base:Nat) (x1 x2 x3 x4 x5 x6 x7 x8 x9:Value) (hb:base≤w.heap.size) :
  (w.alloc (.cells #[x1,x2,x3,x4,x5,x6,x7,x8,x9] 200)).ownsRow base 200 3 (.slice (some ⟨w.heap.size,0,none⟩) 3 3) 3 [x1,x2,x3,x4,x5,x6,x7,x8,x9] :=
 ⟨rfl, .inr ⟨w.heap.size,3,_,rfl,hb,heap_alloc_new w _,by omega,by simp [maxLen],rfl,rfl⟩⟩
theorem X6 {B:Nat} {w0 w1 w2:World} (h1:Below B w0 w1) (h2:Below w1.heap.size w1 w2) (hB:B≤w1.heap.size:=by omega):Below B w0 w2:=h1.trans (h2.mono hB)
theorem yF {w W:World} {base:Nat} {e:TypeId} {size:Nat} {v:Value} {n:Nat} {xs:List Value} (hW:Hid (W=w.drew)) (h:w.ownsRow base e size v n xs):W.ownsRow base e size v n xs:=by rw [hW.out];exact h
theorem Km {B:Nat} {w0 w W:World} (hW:Hid (W=w.drew)) (h:Below B w0 w):Below B w0 W:=by rw [hW.out];exact h.drew
theorem UJ {w:World} {base:Nat} {e:TypeId} {size:Nat} {v:Value} {n:Nat} {xs:List Value} (h:w.ownsRow base e size v n xs) (hn:0<n):∃ r c,v= .slice (some ⟨r,0,none⟩) n c∧base≤r∧r<w.heap.size:=by
 rcases h.2 with ⟨-,h0⟩ | ⟨r,c,cur,hv,hb,hh,-⟩
 ·omega
 ·exact ⟨r,c,hv,hb,(Array.getElem?_eq_some_iff.1 hh).1⟩
theorem Ko (w:World) (x y z:Value) (t:TypeId):Rd (w.alloc (.cells #[x,y,z] t)) 3 (some ⟨w.heap.size,0,none⟩) 1 [x,y,z]:=by
 refine ⟨rfl,fun _=>⟨_,rfl,fun j u hj=>?_⟩⟩
 match j,hj with
 | 0,hj=>simp at hj;subst hj;simp [Addr.add]
 | 1,hj=>simp at hj;subst hj;simp [Addr.add]
 | 2,hj=>simp at hj;subst hj;simp [Addr.add]
theorem GB (a:Addr) (n m:Int):∀ u∈[Value.pointer (some a), .int .i64 n, .int .u64 m],u.oneCell'=true:=by
 intro u hu
 simp at hu
 rcases hu with rfl | rfl | rfl <;> rfl
set_option maxRecDepth 100000 in
set_option maxHeartbeats 1000000 in
theorem zA8 (L:YO) (P:Yi) (S:PS) (g:Nat) (w:World) (kg:Blk w g 35 (Y3 P S)) (h:¬(S.n4=L.queries∧S.n6=L.queries)) :
  Calls Tryz.prog 114 #[.agg (ZH L), .pointer (some ⟨g,0,none⟩)] w fun e w'=>e= .returned (.slice none 0 0)∧Below w.heap.size w w':=by
 unfold ZH
 unfold Y3 at kg
 have hb0:Below w.heap.size w (w.alloc (.cells #[.int .u64 (L.p:Int), .int .i64 (L.block:Int), .int .i64 (L.queries:Int), .int .i64 (L.k:Int), .int .i64 (L.n:Int), .int .i64 (L.secret:Int), .int .i64 (L.rows:Int), .int .i64 (L.a:Int), .int .i64 (L.b:Int), .int .i64 (L.b:Int), .int .i64 (L.b:Int)] 50)):=(Below.refl _ _).alloc (Nat.le_refl _) _
 have kl:=Blk.new w 50 #[.int .u64 (L.p:Int), .int .i64 (L.block:Int), .int .i64 (L.queries:Int), .int .i64 (L.k:Int), .int .i64 (L.n:Int), .int .i64 (L.secret:Int), .int .i64 (L.rows:Int), .int .i64 (L.a:Int), .int .i64 (L.b:Int), .int .i64 (L.b:Int), .int .i64 (L.b:Int)]
 have kg0:=kg.below hb0 kg.lt
 by_cases z:S.n4=L.queries
 ·have d1:((S.n4:Int) != (L.queries:Int))=false:=by rw [bne_eq_false_iff_eq];omega
  have d2:((S.n6:Int) != (L.queries:Int))=true:=by rw [bne_iff_ne];omega
  clear z h
  go_enter Tryz.func114,Tryz.ntmps114
  go_wp2_with fail
  revert hb0 kl kg0
  generalize w.alloc _=w0
  intro hb0 kl kg0
  have c0:=kl.cell
  have cg:=kg0.cell
  have l0:=kl.lt
  have lg:=kg0.lt
  refine Zx (Yj) [] [0,1,2,3,4,5,6,7,8,9,10,11,12,13,14,15,16,17] (by kernel_rfl) (by kernel_rfl) ?_
  refine Yt (later_moves) ?_
  intro Wc hacc
  repeat (first | (refine Zh (later_moves) rfl rfl (fun _ _ _ h=>h) ?_;simp only [Act.put,zLa,zLb,zLc]) | (refine Ze (v:=?_) (later_moves) rfl rfl (fun _ _ _ h=>h) ?_ ?_;rotate_left;(· (intro w' hR;(first | have hcells:=Zd ((later_moves).trans _ _ _ hacc hR) | skip);go_simp;try with_reducible rfl));simp only [Act.put,zLa,zLb,zLc]))
  refine Zt ?_
  go_wp2
  go_ret
  exact ⟨rfl,Za hb0.drew hacc⟩
 ·have d1:((S.n4:Int) != (L.queries:Int))=true:=by rw [bne_iff_ne];omega
  clear z h
  go_enter Tryz.func114,Tryz.ntmps114
  go_wp2_with fail
  revert hb0 kl kg0
  generalize w.alloc _=w0
  intro hb0 kl kg0
  have c0:=kl.cell
  have cg:=kg0.cell
  have l0:=kl.lt
  have lg:=kg0.lt
  refine Zx (Yj) [] [0,1,2,3,4,5,6,7,8,9,10,11,12,13,14,15,16,17] (by kernel_rfl) (by kernel_rfl) ?_
  refine Yt (later_moves) ?_
  intro Wc hacc
  repeat (first | (refine Zh (later_moves) rfl rfl (fun _ _ _ h=>h) ?_;simp only [Act.put,zLa,zLb,zLc]) | (refine Ze (v:=?_) (later_moves) rfl rfl (fun _ _ _ h=>h) ?_ ?_;rotate_left;(· (intro w' hR;(first | have hcells:=Zd ((later_moves).trans _ _ _ hacc hR) | skip);go_simp;try with_reducible rfl));simp only [Act.put,zLa,zLb,zLc]))
  refine Zt ?_
  go_wp2
  go_ret
  exact ⟨rfl,Za hb0.drew hacc⟩
set_option maxRecDepth 100000 in
set_option maxHeartbeats 4000000 in
theorem xM (L:YO) (j:Nat) (P:Yi) (S:PS) (g b4 q4 b6 q6:Nat) (w:World) (hL:Y7 L) (hn:L.n=2^j) (hj:j≤10) (kg:Blk w g 35 (Y3 P S)) (h4:S.n4=L.queries) (h6:S.n6=L.queries)
  (hg:g<w.heap.size) (hA4:S.A4=some ⟨b4,q4,none⟩) (hA6:S.A6=some ⟨b6,q6,none⟩) (hc4:S.n4≤S.c4∧S.c4≤maxLen) (hc6:S.n6≤S.c6∧S.c6≤maxLen) :
  Calls Tryz.prog 114 #[.agg (ZH L), .pointer (some ⟨g,0,none⟩)] w fun e w'=>∃ v n,e= .returned v∧w'.ownsRow w.heap.size 200 3 v n (pcs (Xz L j g b4 q4 b6 q6))∧Below w.heap.size w w':=by
 have HLv:=Lib.hid (fun w=>Gn L j w hn hj)
 have HT:=Lib.hid (fun w=>GM L.p L.block L.queries L.k L.n L.secret L.rows L.a L.b L.b L.b w hL.a hL.b hL.b hL.b)
 have b1:=hL.b1
 have b2:=hL.b2
 have b3:=hL.q1
 have b5:=hL.q2
 have b6':=hL.k
 have hT:L.a+L.b+L.b+L.b≤400000:=by have:=hL.a;have:=hL.b;omega
 have HP:Hid (Xz L j g b4 q4 b6 q6=Xv L g++YC b4 q4 L.queries (L.a+L.b+L.b+L.b+3) L.p++[⟨⟨g,5,none⟩,L.queries,VC⟩]++YC b6 q6 L.queries j VC):=rfl
 rw [HP.out]
 clear HP
 revert HT hT
 generalize L.a+L.b+L.b+L.b=T
 intro HT hT
 have e3:IntKind.i64.wrap ((T:Int)+3)=((T+3:Nat):Int):=by rw [Y1 _ (by omega) (by omega)];omega
 have e4:(T:Int)+3=((T+3:Nat):Int):=by omega
 have e5:IntKind.i64.wrap ((T+3:Nat):Int)=((T+3:Nat):Int):=Y1 _ (by omega) (by omega)
 have eX1:IntKind.i64.wrap ((L.k:Int)+(L.block:Int))=(L.k:Int)+(L.block:Int):=Y1 _ (by omega) (by omega)
 have eX2:IntKind.i64.wrap ((L.k:Int)+(L.block:Int)-1)=((L.k+L.block-1:Nat):Int):=by rw [Y1 _ (by omega) (by omega)];omega
 have eX3:(L.k:Int)+(L.block:Int)-1=((L.k+L.block-1:Nat):Int):=by omega
 have eX4:IntKind.i64.wrap ((L.k+L.block-1:Nat):Int)=((L.k+L.block-1:Nat):Int):=Y1 _ (by omega) (by omega)
 have eY1:IntKind.i64.wrap (2*(L.k:Int))=2*(L.k:Int):=Y1 _ (by omega) (by omega)
 have eY2:IntKind.i64.wrap (2*(L.k:Int)-1)=((2*L.k-1:Nat):Int):=by rw [Y1 _ (by omega) (by omega)];omega
 have eY3:2*(L.k:Int)-1=((2*L.k-1:Nat):Int):=by omega
 have eY4:IntKind.i64.wrap ((2*L.k-1:Nat):Int)=((2*L.k-1:Nat):Int):=Y1 _ (by omega) (by omega)
 have HP3:Hid (Xv L g=[⟨⟨g,1,none⟩,L.k,L.p⟩,⟨⟨g,2,none⟩,L.k+L.block-1,L.p⟩,⟨⟨g,3,none⟩,2*L.k-1,L.p⟩]):=rfl
 revert e3 e4 e5 eX2 eX3 eX4 eY2 eY3 eY4 HP3
 generalize T+3=T3
 generalize L.k+L.block-1=x
 generalize 2*L.k-1=y
 intro e3 e4 e5 eX2 eX3 eX4 eY2 eY3 eY4 HP3
 have d1:((S.n4:Int) != (L.queries:Int))=false:=by rw [bne_eq_false_iff_eq];omega
 have d2:((S.n6:Int) != (L.queries:Int))=false:=by rw [bne_eq_false_iff_eq];omega
 have H4:=Lib.hid h4
 have H6:=Lib.hid h6
 have HQ:=Lib.hid b5
 clear b1 b2 b3 b5 b6' hL hn hj hT h4 h6
 unfold ZH at HLv ⊢
 unfold Y3 at kg
 rw [hA4,hA6] at kg
 have hb0:Below w.heap.size w (w.alloc (.cells #[.int .u64 (L.p:Int), .int .i64 (L.block:Int), .int .i64 (L.queries:Int), .int .i64 (L.k:Int), .int .i64 (L.n:Int), .int .i64 (L.secret:Int), .int .i64 (L.rows:Int), .int .i64 (L.a:Int), .int .i64 (L.b:Int), .int .i64 (L.b:Int), .int .i64 (L.b:Int)] 50)):=(Below.refl _ _).alloc (Nat.le_refl _) _
 have kl:=Blk.new w 50 #[.int .u64 (L.p:Int), .int .i64 (L.block:Int), .int .i64 (L.queries:Int), .int .i64 (L.k:Int), .int .i64 (L.n:Int), .int .i64 (L.secret:Int), .int .i64 (L.rows:Int), .int .i64 (L.a:Int), .int .i64 (L.b:Int), .int .i64 (L.b:Int), .int .i64 (L.b:Int)]
 have kg0:=kg.below hb0 kg.lt
 clear kg hA4 hA6
 go_enter Tryz.func114,Tryz.ntmps114
 go_wp2_with fail
 revert hb0 kl kg0
 generalize w.alloc _=w0
 intro hb0 kl kg0
 have c0:=kl.cell
 have cg:=kg0.cell
 have l0:=kl.lt
 have lg:=kg0.lt
 refine Zx (Yj) [] [0,1,2,3,4,5,6,7,8,9,10,11,12,13,14,15,16,17] (by kernel_rfl) (by kernel_rfl) ?_
 refine Yt (later_moves) ?_
 intro Wc hacc
 repeat (first | (refine Zh (later_moves) rfl rfl (fun _ _ _ h=>h) ?_;simp only [Act.put,zLa,zLb,zLc]) | (refine Ze (v:=?_) (later_moves) rfl rfl (fun _ _ _ h=>h) ?_ ?_;rotate_left;(· (intro w' hR;(first | have hcells:=Zd ((later_moves).trans _ _ _ hacc hR) | skip);go_simp;try with_reducible rfl));simp only [Act.put,zLa,zLb,zLc]))
 refine Zt ?_
 replace kl:=kl.drew.below hacc kl.lt
 replace kg0:=kg0.drew.below hacc kg0.lt
 replace hb0:=Za hb0.drew hacc
 clear c0 cg l0 lg hacc
 have c0:=kl.cell
 have cg:=kg0.cell
 have l0:=kl.lt
 have lg:=kg0.lt
 go_wp2_with fail
 refine Zx (Yj) [30] [0,1,2,3,4,5,6,7,8,9,10,11,12,13,14,15,16,17,18,19,20,21,22,23,24,25,26,27,28,29,30,31] (by kernel_rfl) (by kernel_rfl) ?_
 refine Yt (later_moves) ?_
 intro Wc hacc
 repeat (first | (refine Zh (later_moves) rfl rfl (fun _ _ _ h=>h) ?_;simp only [Act.put,zLa,zLb,zLc]) | (refine Ze (v:=?_) (later_moves) rfl rfl (fun _ _ _ h=>h) ?_ ?_;rotate_left;(· (intro w' hR;(first | have hcells:=Zd ((later_moves).trans _ _ _ hacc hR) | skip);go_simp;try with_reducible rfl));simp only [Act.put,zLa,zLb,zLc]))
 refine Zs (later_moves) rfl rfl rfl ?_
 go_simp
 refine ⟨(Below.refl _ _).alloc (Nat.le_refl _) _,?_⟩
 have hls:w.heap.size+1≤Wc.heap.size:=by have:=Below.size hacc;simp at this;omega
 have hown:=zA7 Wc (w.heap.size+1) (.pointer (some ⟨g,1,none⟩)) (.int .i64 (L.k:Int)) (.int .u64 (L.p:Int)) (.pointer (some ⟨g,2,none⟩)) (.int .i64 (x:Int)) (.int .u64 (L.p:Int)) (.pointer (some ⟨g,3,none⟩)) (.int .i64 (y:Int)) (.int .u64 (L.p:Int)) hls
 replace hacc:=later_moves.trans _ _ _ hacc ((Below.refl Wc.heap.size Wc).alloc (Nat.le_refl _) (.cells #[.pointer (some ⟨g,1,none⟩), .int .i64 (L.k:Int), .int .u64 (L.p:Int), .pointer (some ⟨g,2,none⟩), .int .i64 (x:Int), .int .u64 (L.p:Int), .pointer (some ⟨g,3,none⟩), .int .i64 (y:Int), .int .u64 (L.p:Int)] 200))
 clear hls
 revert hown hacc
 try simp only [Act.put,zLa,zLb,zLc]
 generalize Wc.alloc _=w2
 generalize Wc.heap.size=gr
 intro hown hacc
 repeat (first | (refine Zh (later_moves) rfl rfl (fun _ _ _ h=>h) ?_;simp only [Act.put,zLa,zLb,zLc]) | (refine Ze (v:=?_) (later_moves) rfl rfl (fun _ _ _ h=>h) ?_ ?_;rotate_left;(· (intro w' hR;(first | have hcells:=Zd ((later_moves).trans _ _ _ hacc hR) | skip);go_simp;try with_reducible rfl));simp only [Act.put,zLa,zLb,zLc]))
 refine Zt ?_
 replace kl:=kl.drew.below hacc kl.lt
 replace kg0:=kg0.drew.below hacc kg0.lt
 replace hb0:=Za hb0.drew hacc
 clear c0 cg l0 lg hacc
 have c0:=kl.cell
 have cg:=kg0.cell
 have hlw:w.heap.size+1≤w2.heap.size:=kl.lt
 have hgw:g<w.heap.size:=hg
 have HP0:Hid ([.pointer (some ⟨g,1,none⟩), .int .i64 (L.k:Int), .int .u64 (L.p:Int), .pointer (some ⟨g,2,none⟩), .int .i64 (x:Int), .int .u64 (L.p:Int), .pointer (some ⟨g,3,none⟩), .int .i64 (y:Int), .int .u64 (L.p:Int)]=pcs (Xv L g)):=by rw [HP3.out];rfl
 rw [HP0.out] at hown
 have m4:=Vo hc4.1 hc4.2
 have m6:=Vo hc6.1 hc6.2
 clear hc4 hc6 HP0 HP3
 go_wp2_with fail
 go_loopw [5,62] (fun v i wr=>∃ k:Nat,k≤S.n4∧i= .int .i64 (k:Int)∧wr.ownsRow (w.heap.size+1) 200 3 v (3+k) (pcs (Xv L g++YC b4 q4 k T3 L.p))∧Below (w.heap.size+1) w2 wr) (fun _ i _=>S.n4-(intOf i).toNat)
 case atStart=>exact ⟨0,Nat.zero_le _,rfl,by simpa [YC] using hown,Below.refl _ _⟩
 case round =>
  clear hown c0 cg
  obtain ⟨k,hk,rfl,hown,hBw⟩:=hrel
  obtain ⟨r,cr,rfl,hr1,hr2⟩:=UJ hown (by omega)
  have kl':=kl.below hBw (by omega)
  have kg':=kg0.below hBw (by omega)
  have c0:=kl'.cell
  have cg:=kg'.cell
  have l0:=kl'.lt
  have lg:=kg'.lt
  have n1:w.heap.size≠r:=by omega
  have n2:g≠r:=by omega
  by_cases hlt:k<S.n4
  ·have g1:(0:Int)≤(k:Int):=by omega
   have g2:(k:Int)<(S.n4:Int):=by omega
   go_wp2_with fail
   refine Zx (Vg r) [8,13,14] [0,1,2,3,4,5,6,7,10,11,8,9,12,13,14,15] (by kernel_rfl) (by kernel_rfl) ?_
   refine ZY (Zc r) ?_
   intro Wc HWc hacc
   replace hown:=yF HWc hown
   replace hBw:=Km HWc hBw
   clear HWc
   repeat (first | (refine Zh (Zc r) rfl rfl (fun _ _ _ h=>h) ?_;simp only [Act.put,zLa,zLb,zLc]) | (refine Ze (v:=?_) (Zc r) rfl rfl (fun _ _ _ h=>h) ?_ ?_;rotate_left;(· (intro w' hR;(first | have hcells:=ZI ((Zc r).trans _ _ _ hacc hR) | skip);go_simp;try with_reducible rfl));simp only [Act.put,zLa,zLb,zLc]))
   refine ZX (Zc r) rfl rfl rfl (fun _=>by go_simp <;> rfl) ((HT.out _).mono ?_)
   rintro e w4 ⟨rfl,hb4⟩
   refine ⟨_,rfl,Z2 hb4,?_⟩
   replace hacc:=(Zc r).trans _ _ _ hacc (Z2 hb4)
   simp only [Act.put,zLa,zLb,zLc]
   replace hown:=ZM hown hb4 (Nat.le_refl _)
   have hls4:w.heap.size+1≤Wc.heap.size:=by have:=hBw.size;omega
   replace hBw:=X6 hBw hb4 hls4
   clear hb4 hls4
   repeat (first | (refine Zh (Zc r) rfl rfl (fun _ _ _ h=>h) ?_;simp only [Act.put,zLa,zLb,zLc]) | (refine Ze (v:=?_) (Zc r) rfl rfl (fun _ _ _ h=>h) ?_ ?_;rotate_left;(· (intro w' hR;(first | have hcells:=ZI ((Zc r).trans _ _ _ hacc hR) | skip);go_simp;try with_reducible rfl));simp only [Act.put,zLa,zLb,zLc]))
   refine Zs (Zc r) rfl rfl rfl ?_
   go_simp
   refine ⟨Z2 ((Below.refl _ _).alloc (Nat.le_refl _) _),?_⟩
   have hal:=(Below.refl w4.heap.size w4).alloc (Nat.le_refl _) (.cells #[.pointer (some ⟨b4,q4+k,none⟩), .int .i64 (T3:Int), .int .u64 (L.p:Int)] 200)
   have hrd:=Ko w4 (.pointer (some ⟨b4,q4+k,none⟩)) (.int .i64 (T3:Int)) (.int .u64 (L.p:Int)) 200
   replace hacc:=(Zc r).trans _ _ _ hacc (Z2 hal)
   replace hown:=ZM hown hal (Nat.le_refl _)
   replace hBw:=X6 hBw hal (by have:=hBw.size;omega)
   have hls:w.heap.size+1≤(w4.alloc (.cells #[.pointer (some ⟨b4,q4+k,none⟩), .int .i64 (T3:Int), .int .u64 (L.p:Int)] 200)).heap.size:=by have:=hBw.size;omega
   revert hrd hacc hown hBw hls
   try simp only [Act.put,zLa,zLb,zLc]
   generalize w4.alloc _=We
   generalize w4.heap.size=ge
   intro hrd hacc hown hBw hls
   refine Zs (Zc r) rfl rfl rfl ?_
   refine X7 _ _ rfl yX rfl hown rfl hrd (GB _ _ _) (by have:=H4.out;have:=HQ.out;omega) hls ?_
   intro v' wn hown' hgrow hblk
   refine ⟨hgrow,?_⟩
   replace hacc:=(Zc r).trans _ _ _ hacc hgrow
   replace hBw:=hBw.trans (Ya hgrow (w.heap.size+1) hls (fun z hz=>by have hz2:r=z:=Option.some.inj hz;omega))
   try simp only [Act.put,zLa,zLb,zLc]
   repeat (first | (refine Zh (Zc r) rfl rfl (fun _ _ _ h=>h) ?_;simp only [Act.put,zLa,zLb,zLc]) | (refine Ze (v:=?_) (Zc r) rfl rfl (fun _ _ _ h=>h) ?_ ?_;rotate_left;(· (intro w' hR;(first | have hcells:=ZI ((Zc r).trans _ _ _ hacc hR) | skip);go_simp;try with_reducible rfl));simp only [Act.put,zLa,zLb,zLc]))
   refine Zt ?_
   go_wp2
   go_roundw
   case rel =>
    refine ⟨k+1,by omega,by go_num,?_,hBw⟩
    rw [KH,←List.append_assoc,JK]
    exact hown'
   case measure=>simp [intOf];omega
  ·have ek:k=S.n4:=by omega
   have HPP:Hid (Xv L g++YC b4 q4 k T3 L.p=Xv L g++YC b4 q4 L.queries T3 L.p):=by rw [ek,H4.out];rfl
   rw [HPP.out] at hown
   clear HPP
   have EK:=Lib.hid ek
   clear ek
   go_wp2_with fail
   refine Zx (Vg r) [7,8] [0,1,2,3,4,5,6,7,8,9] (by kernel_rfl) (by kernel_rfl) ?_
   refine ZY (Zc r) ?_
   intro Wc HWc hacc
   replace hown:=yF HWc hown
   replace hBw:=Km HWc hBw
   clear HWc
   repeat (first | (refine Zh (Zc r) rfl rfl (fun _ _ _ h=>h) ?_;simp only [Act.put,zLa,zLb,zLc]) | (refine Ze (v:=?_) (Zc r) rfl rfl (fun _ _ _ h=>h) ?_ ?_;rotate_left;(· (intro w' hR;(first | have hcells:=ZI ((Zc r).trans _ _ _ hacc hR) | skip);go_simp;try with_reducible rfl));simp only [Act.put,zLa,zLb,zLc]))
   refine Zs (Zc r) rfl rfl rfl ?_
   go_simp
   refine ⟨Z2 ((Below.refl _ _).alloc (Nat.le_refl _) _),?_⟩
   have hal:=(Below.refl Wc.heap.size Wc).alloc (Nat.le_refl _) (.cells #[.pointer (some ⟨g,5,none⟩), .int .i64 (L.queries:Int), .int .u64 18446744069414584321] 200)
   have hrd:=Ko Wc (.pointer (some ⟨g,5,none⟩)) (.int .i64 (L.queries:Int)) (.int .u64 18446744069414584321) 200
   replace hacc:=(Zc r).trans _ _ _ hacc (Z2 hal)
   replace hown:=ZM hown hal (Nat.le_refl _)
   replace hBw:=X6 hBw hal (by have:=hBw.size;omega)
   have hls:w.heap.size+1≤(Wc.alloc (.cells #[.pointer (some ⟨g,5,none⟩), .int .i64 (L.queries:Int), .int .u64 18446744069414584321] 200)).heap.size:=by have:=hBw.size;omega
   revert hrd hacc hown hBw hls
   try simp only [Act.put,zLa,zLb,zLc]
   generalize Wc.alloc _=We
   generalize Wc.heap.size=ge
   intro hrd hacc hown hBw hls
   refine Zs (Zc r) rfl rfl rfl ?_
   refine X7 _ _ rfl yX rfl hown rfl hrd (GB _ _ _) (by have:=H4.out;have:=HQ.out;have:=EK.out;omega) hls ?_
   intro v' wn hown' hgrow hblk
   refine ⟨hgrow,?_⟩
   replace hacc:=(Zc r).trans _ _ _ hacc hgrow
   replace hBw:=hBw.trans (Ya hgrow (w.heap.size+1) hls (fun z hz=>by have hz2:r=z:=Option.some.inj hz;omega))
   try simp only [Act.put,zLa,zLb,zLc]
   repeat (first | (refine Zh (Zc r) rfl rfl (fun _ _ _ h=>h) ?_;simp only [Act.put,zLa,zLb,zLc]) | (refine Ze (v:=?_) (Zc r) rfl rfl (fun _ _ _ h=>h) ?_ ?_;rotate_left;(· (intro w' hR;(first | have hcells:=ZI ((Zc r).trans _ _ _ hacc hR) | skip);go_simp;try with_reducible rfl));simp only [Act.put,zLa,zLb,zLc]))
   refine Zt ?_
   obtain ⟨PRE,hPRE⟩:∃ PRE,PRE=Xv L g++YC b4 q4 L.queries T3 L.p++[(⟨⟨g,5,none⟩,L.queries,VC⟩:XM)]:=⟨_,rfl⟩
   have hownS:wn.ownsRow (w.heap.size+1) 200 3 v' (3+k+1) (pcs PRE):=by rw [hPRE,JK];exact hown'
   have HPRE:=Lib.hid hPRE
   clear hown hown' hacc hgrow hblk hrd hls c0 cg n1 n2 l0 lg kl' kg' hPRE
   have kl2:=kl.below hBw (by omega)
   have kg2:=kg0.below hBw (by omega)
   have c0:=kl2.cell
   have cg:=kg2.cell
   go_wp2_with fail
   go_loopw [5,95] (fun v i wr=>∃ k2:Nat,k2≤S.n6∧i= .int .i64 (k2:Int)∧wr.ownsRow (w.heap.size+1) 200 3 v (3+k+1+k2) (pcs (PRE++YC b6 q6 k2 j VC))∧Below (w.heap.size+1) w2 wr) (fun _ i _=>S.n6-(intOf i).toNat)
   case atStart=>exact ⟨0,Nat.zero_le _,rfl,by simpa [YC] using hownS,hBw⟩
   case round =>
    clear hownS c0 cg hBw kl2 kg2
    obtain ⟨k2,hk2,rfl,hown,hBw⟩:=hrel
    clear hr1 hr2
    obtain ⟨r,cr2,rfl,hr1,hr2⟩:=UJ hown (by omega)
    have kl':=kl.below hBw (by omega)
    have kg':=kg0.below hBw (by omega)
    have c0:=kl'.cell
    have cg:=kg'.cell
    have l0:=kl'.lt
    have lg:=kg'.lt
    have n1:w.heap.size≠r:=by omega
    have n2:g≠r:=by omega
    by_cases hlt2:k2<S.n6
    ·have g1:(0:Int)≤(k2:Int):=by omega
     have g2:(k2:Int)<(S.n6:Int):=by omega
     go_wp2_with fail
     refine Zx (Vg r) [8,10,11] [0,1,2,3,4,5,6,7,8,9,10,11,12] (by kernel_rfl) (by kernel_rfl) ?_
     refine ZY (Zc r) ?_
     intro Wc HWc hacc
     replace hown:=yF HWc hown
     replace hBw:=Km HWc hBw
     clear HWc
     repeat (first | (refine Zh (Zc r) rfl rfl (fun _ _ _ h=>h) ?_;simp only [Act.put,zLa,zLb,zLc]) | (refine Ze (v:=?_) (Zc r) rfl rfl (fun _ _ _ h=>h) ?_ ?_;rotate_left;(· (intro w' hR;(first | have hcells:=ZI ((Zc r).trans _ _ _ hacc hR) | skip);go_simp;try with_reducible rfl));simp only [Act.put,zLa,zLb,zLc]))
     refine ZX (Zc r) rfl rfl rfl (fun _=>by go_simp <;> rfl) ((HLv.out _).mono ?_)
     rintro e w4 ⟨rfl,hb4⟩
     refine ⟨_,rfl,Z2 hb4,?_⟩
     replace hacc:=(Zc r).trans _ _ _ hacc (Z2 hb4)
     simp only [Act.put,zLa,zLb,zLc]
     replace hown:=ZM hown hb4 (Nat.le_refl _)
     have hls4:w.heap.size+1≤Wc.heap.size:=by have:=hBw.size;omega
     replace hBw:=X6 hBw hb4 hls4
     clear hb4 hls4
     repeat (first | (refine Zh (Zc r) rfl rfl (fun _ _ _ h=>h) ?_;simp only [Act.put,zLa,zLb,zLc]) | (refine Ze (v:=?_) (Zc r) rfl rfl (fun _ _ _ h=>h) ?_ ?_;rotate_left;(· (intro w' hR;(first | have hcells:=ZI ((Zc r).trans _ _ _ hacc hR) | skip);go_simp;try with_reducible rfl));simp only [Act.put,zLa,zLb,zLc]))
     refine Zs (Zc r) rfl rfl rfl ?_
     go_simp
     refine ⟨Z2 ((Below.refl _ _).alloc (Nat.le_refl _) _),?_⟩
     have hal:=(Below.refl w4.heap.size w4).alloc (Nat.le_refl _) (.cells #[.pointer (some ⟨b6,q6+k2,none⟩), .int .i64 (j:Int), .int .u64 18446744069414584321] 200)
     have hrd:=Ko w4 (.pointer (some ⟨b6,q6+k2,none⟩)) (.int .i64 (j:Int)) (.int .u64 18446744069414584321) 200
     replace hacc:=(Zc r).trans _ _ _ hacc (Z2 hal)
     replace hown:=ZM hown hal (Nat.le_refl _)
     replace hBw:=X6 hBw hal (by have:=hBw.size;omega)
     have hls:w.heap.size+1≤(w4.alloc (.cells #[.pointer (some ⟨b6,q6+k2,none⟩), .int .i64 (j:Int), .int .u64 18446744069414584321] 200)).heap.size:=by have:=hBw.size;omega
     revert hrd hacc hown hBw hls
     try simp only [Act.put,zLa,zLb,zLc]
     generalize w4.alloc _=We
     generalize w4.heap.size=ge
     intro hrd hacc hown hBw hls
     refine Zs (Zc r) rfl rfl rfl ?_
     refine X7 _ _ rfl yX rfl hown rfl hrd (GB _ _ _) (by have:=H4.out;have:=HQ.out;have:=EK.out;have:=H6.out;omega) hls ?_
     intro v' wn hown' hgrow hblk
     refine ⟨hgrow,?_⟩
     replace hacc:=(Zc r).trans _ _ _ hacc hgrow
     replace hBw:=hBw.trans (Ya hgrow (w.heap.size+1) hls (fun z hz=>by have hz2:r=z:=Option.some.inj hz;omega))
     try simp only [Act.put,zLa,zLb,zLc]
     repeat (first | (refine Zh (Zc r) rfl rfl (fun _ _ _ h=>h) ?_;simp only [Act.put,zLa,zLb,zLc]) | (refine Ze (v:=?_) (Zc r) rfl rfl (fun _ _ _ h=>h) ?_ ?_;rotate_left;(· (intro w' hR;(first | have hcells:=ZI ((Zc r).trans _ _ _ hacc hR) | skip);go_simp;try with_reducible rfl));simp only [Act.put,zLa,zLb,zLc]))
     refine Zt ?_
     go_wp2
     go_roundw
     case rel =>
      refine ⟨k2+1,by omega,by go_num,?_,hBw⟩
      rw [KH,←List.append_assoc,JK]
      exact hown'
     case measure=>simp [intOf];omega
    ·have ek2:k2=S.n6:=by omega
     have HPP:Hid (PRE++YC b6 q6 k2 j VC=Xv L g++YC b4 q4 L.queries T3 L.p++[(⟨⟨g,5,none⟩,L.queries,VC⟩:XM)]++YC b6 q6 L.queries j VC):=by rw [ek2,H6.out,HPRE.out];rfl
     rw [HPP.out] at hown
     clear HPP ek2
     go_wp2
     go_ret
     exact ⟨_,_,rfl,Vv hown (by omega),hb0.trans (hBw.mono (by omega))⟩
end Go.Proofs.YtdhhdplholkmdaaGreat
