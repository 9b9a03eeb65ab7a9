/- A part of the proof. No condition. -/
import Derived.Test.YtdhhdplholkmdaaGreatProg
import Derived.Test.YtdhhdplholkmdaaGreatPE9
import Derived.Test.YtdhhdplholkmdaaGreatPE22
import Derived.Test.YtdhhdplholkmdaaGreatPE23
import Derived.ChangeKeysEq
import Derived.Deep.AppendLies
import Derived.Laws.OwnMore
import Derived.Test.YtdhhdplholkmdaaGreatPE24

namespace Go.Proofs.YtdhhdplholkmdaaGreat
open Go.RowKit
def Xz (l:List (Int × Nat)) (j:Nat):Int:=if j=0 then -1 else (l.getD (j-1) (0,0)).1
theorem Uh {p:Nat} {n:Int} {l:List (Int × Nat)} {j:Nat} (hb:∀ k<j,Yv p n l k=false) :
  Yv p n l j=(decide ((l.getD j (0,0)).1≤Xz l j)||decide (n≤(l.getD j (0,0)).1)||(l.getD j (0,0)).2 == 0||decide (p≤(l.getD j (0,0)).2)):=by
 have h1:-1≤Xz l j:=by
  unfold Xz
  split
  ·omega
  ·have h:=hb (j-1) (by omega)
   unfold Yv at h
   simp only [Bool.or_eq_false_iff,decide_eq_false_iff_not] at h
   omega
 unfold Yv
 have e:(decide ((l.getD j (0,0)).1<0)||(decide (0<j)&&decide ((l.getD j (0,0)).1≤(l.getD (j-1) (0,0)).1)))=decide ((l.getD j (0,0)).1≤Xz l j):=by
  rw [Bool.eq_iff_iff]
  simp only [Bool.or_eq_true,Bool.and_eq_true,decide_eq_true_eq]
  unfold Xz at h1 ⊢
  split
  ·omega
  ·rename_i h0
   rw [if_neg h0] at h1
   omega
 rw [←e]
 cases decide ((l.getD j (0,0)).1<0) <;> cases decide (n≤(l.getD j (0,0)).1) <;> simp
set_option maxRecDepth 100000 in
set_option maxHeartbeats 1000000 in
theorem YQ (p:Nat) (pub n:Int) (rows:Value) (A:Option Addr) (len c:Nat) (l:List (Int × Nat)) (w:World) (hl:RLin w [.slice A len c] l) (hs:slc rows) :
  Calls Tryz.prog 267 #[ZE p pub n rows, .slice A len c] w fun e w'=>e= .returned (.bool (Yk p n l))∧Below w.heap.size w w':=by
 obtain ⟨A',n',c',he,hlen,hnc,hmx,hrd⟩:=hl
 simp at he
 obtain ⟨rfl,rfl,rfl⟩:=he
 obtain ⟨As,ns,cs,rfl⟩:=hs
 subst hlen
 unfold ZE
 have kt:=Blk.new w 25 #[.int .u64 (p:Int), .int .i64 pub, .int .i64 n, .slice As ns cs]
 have hb0:Below w.heap.size w (w.alloc (.cells #[.int .u64 (p:Int), .int .i64 pub, .int .i64 n, .slice As ns cs] 25)):=(Below.refl _ _).alloc (Nat.le_refl _) _
 have g0:(l.length:Int)≤9223372036854775807:=by
  have h4:=hmx
  simp [maxLen] at h4
  omega
 go_enter Tryz.func267,Tryz.ntmps267
 go_wp2_with fail
 generalize w.alloc _=w1 at kt hb0 ⊢
 go_loopw [5,10] (fun u i wr=>∃ (j:Nat) (la:Int),j≤l.length∧i= .int .i64 (j:Int)∧u= .int .i64 la∧Hid (la=Xz l j)∧Blk wr w.heap.size 25 #[.int .u64 (p:Int), .int .i64 pub, .int .i64 n, .slice As ns cs]∧Below w.heap.size w wr∧Hid (∀ k<j,Yv p n l k=false))
  (fun _ i _=>l.length-(intOf i).toNat)
 case atStart=>exact ⟨0,-1,Nat.zero_le _,rfl,rfl,rfl,kt,hb0,fun k hk=>by omega⟩
 case round =>
  clear kt hb0
  obtain ⟨j,la,hj,rfl,rfl,HLA,kt,hb0,HB⟩:=hrel
  by_cases hlt:j<l.length
  ·have HL:=Lib.hid hlt
   obtain ⟨b,q,rfl⟩:=hrd.base (by omega) (by omega)
   have hrd':=hrd.below Yx hb0
   obtain ⟨c1,c2⟩:=RLin.at_ hrd' hlt
   have hbl:=World.block_lt_of_cell? _ _ c1
   simp only at hbl
   have g1:(0:Int)≤(j:Int):=by omega
   have g2:(j:Int)<(l.length:Int):=by omega
   have HD:=Lib.hid (Uh HB.out)
   have HNX:=Lib.hid (show (l.getD j (0,0)).1=Xz l (j+1) by simp [Xz])
   rw [←HLA.out] at HD
   revert c1 c2 HD HNX
   generalize (l.getD j (0,0)).1=x
   generalize (l.getD j (0,0)).2=y
   intro c1 c2 HD HNX
   have ct:=kt.cell
   have lt:=kt.lt
   clear hrd hrd' HLA
   by_cases z1:x≤la
   ·have d1:=decide_eq_true z1
    go_wp2_with fail
    go_ret
    exact ⟨by rw [ZR HL.out (HD.out.trans (by simp [d1]))];rfl,hb0.alloc hb0.size _⟩
   ·have d1:=decide_eq_false z1
    by_cases z2:n≤x
    ·have d2:=decide_eq_true z2
     go_wp2_with fail
     go_ret
     exact ⟨by rw [ZR HL.out (HD.out.trans (by simp [d1,d2]))];rfl,hb0.alloc hb0.size _⟩
    ·have d2:=decide_eq_false z2
     by_cases z4:y=0
     ·have HY:=Lib.hid z4
      subst z4
      go_wp2_with fail
      go_ret
      exact ⟨by rw [ZR HL.out (HD.out.trans (by simp [d1,d2]))];rfl,hb0.alloc hb0.size _⟩
     ·have d4:((y:Int) == 0)=false:=by rw [beq_eq_false_iff_ne];omega
      have d4':(y == 0)=false:=by rw [beq_eq_false_iff_ne];exact z4
      by_cases z5:p≤y
      ·have d5:decide ((p:Int)≤(y:Int))=true:=decide_eq_true (by omega)
       have d5':=decide_eq_true z5
       go_wp2_with fail
       go_ret
       exact ⟨by rw [ZR HL.out (HD.out.trans (by simp [d1,d2,d4',d5']))];rfl,hb0.alloc hb0.size _⟩
      ·have d5:decide ((p:Int)≤(y:Int))=false:=decide_eq_false (by omega)
       have d5':=decide_eq_false z5
       have HE:=Lib.hid (show Yv p n l j=false from HD.out.trans (by simp [d1,d2,d4',d5']))
       clear d4' d5'
       go_wp2_with fail
       go_roundw
       case rel=>exact ⟨j+1,x,by omega,by go_num,rfl,HNX.out,kt.alloc _,hb0.alloc hb0.size _,Xr HB.out HE.out⟩
       case measure=>simp [intOf];omega
  ·obtain rfl:l.length=j:=by omega
   go_wp2
   go_ret
   exact ⟨by rw [XM HB.out];rfl,hb0⟩
set_option maxRecDepth 100000 in
set_option maxHeartbeats 1000000 in
theorem Js (p:Nat) (pub vars:Int) (rows:Value) (r:Zv) (x y z:Value) (w:World) (hx:RLin w [x] r.a) (hy:RLin w [y] r.b) (hz:RLin w [z] r.c) (hs:slc rows) :
  Calls Tryz.prog 223 #[ZE p pub vars rows, .agg #[x,y,z]] w fun e w'=>e= .returned (.bool (Yp p vars r))∧Below w.heap.size w w':=by
 obtain ⟨A1,n1,c1,rfl⟩:=RSl.slc hx
 obtain ⟨A2,n2,c2,rfl⟩:=RSl.slc hy
 obtain ⟨A3,n3,c3,rfl⟩:=RSl.slc hz
 have HX:=Lib.hid (fun w' (hb:Below w.heap.size w w')=>YQ p pub vars rows _ _ _ r.a w' (Zp _ _ _ _ hb hx) hs)
 have HY:=Lib.hid (fun w' (hb:Below w.heap.size w w')=>YQ p pub vars rows _ _ _ r.b w' (Zp _ _ _ _ hb hy) hs)
 have HZ:=Lib.hid (fun w' (hb:Below w.heap.size w w')=>YQ p pub vars rows _ _ _ r.c w' (Zp _ _ _ _ hb hz) hs)
 obtain ⟨As,ns,cs,rfl⟩:=hs
 have hR:Yp p vars r=(Yk p vars r.a&&Yk p vars r.b&&Yk p vars r.c):=rfl
 rw [hR]
 clear hR hx hy hz
 generalize Yk p vars r.a=b1 at *
 generalize Yk p vars r.b=b2 at *
 generalize Yk p vars r.c=b3 at *
 unfold ZE at *
 obtain ⟨kt,kr,hb0,-⟩:=Xe w 25 168 #[.int .u64 (p:Int), .int .i64 pub, .int .i64 vars, .slice As ns cs] #[.slice A1 n1 c1, .slice A2 n2 c2, .slice A3 n3 c3]
 go_enter Tryz.func223,Tryz.ntmps223
 go_wp2_with fail
 generalize (w.alloc _).alloc _=w0 at kt kr hb0 ⊢
 refine (HX.out _ hb0).mono ?_
 rintro e w1 ⟨rfl,hb1⟩
 replace kt:=kt.below hb1 kt.lt
 replace kr:=kr.below hb1 kr.lt
 replace hb0:=Za hb0 hb1
 clear hb1
 have ct:=kt.cell
 have cr:=kr.cell
 cases b1
 ·go_wp2
  go_ret
  exact ⟨rfl,hb0⟩
 go_wp2_with fail
 refine (HY.out _ hb0).mono ?_
 rintro e w2 ⟨rfl,hb2⟩
 replace kt:=kt.below hb2 kt.lt
 replace kr:=kr.below hb2 kr.lt
 replace hb0:=Za hb0 hb2
 clear hb2 ct cr
 have ct:=kt.cell
 have cr:=kr.cell
 cases b2
 ·go_wp2
  go_ret
  exact ⟨rfl,hb0⟩
 go_wp2_with fail
 refine (HZ.out _ hb0).mono ?_
 rintro e w3 ⟨rfl,hb3⟩
 go_wp2
 go_ret
 exact ⟨by simp,Za hb0 hb3⟩
set_option maxRecDepth 100000 in
set_option maxHeartbeats 1000000 in
theorem VR (p:Nat) (w:World) (hp:okP p=false) :
  Calls Tryz.prog 224 #[fv p] w fun e w'=>e= .returned (.bool false)∧Below w.heap.size w w':=by
 unfold okP at hp
 simp only [Bool.or_eq_false_iff,beq_eq_false_iff_ne] at hp
 obtain ⟨⟨⟨⟨⟨⟨h1,h2⟩,h3⟩,h4⟩,h5⟩,h6⟩,h7⟩:=hp
 have d1:((p:Int) == 17)=false:=by rw [beq_eq_false_iff_ne];omega
 have d2:((p:Int) == 97)=false:=by rw [beq_eq_false_iff_ne];omega
 have d3:((p:Int) == 193)=false:=by rw [beq_eq_false_iff_ne];omega
 have d4:((p:Int) == 257)=false:=by rw [beq_eq_false_iff_ne];omega
 have d5:((p:Int) == 12289)=false:=by rw [beq_eq_false_iff_ne];omega
 have d6:((p:Int) == 65537)=false:=by rw [beq_eq_false_iff_ne];omega
 have d7:((p:Int) == 18446744069414584321)=false:=by rw [beq_eq_false_iff_ne];omega
 clear h1 h2 h3 h4 h5 h6 h7
 unfold fv
 go_enter Tryz.func224,Tryz.ntmps224
 go_wp2_with fail
 go_ret
 exact ⟨rfl,(Below.refl _ _).alloc (Nat.le_refl _) _⟩
theorem VU (p:Nat) (w:World):Calls Tryz.prog 224 #[fv p] w fun e w'=>e= .returned (.bool (okP p))∧Below w.heap.size w w':=by
 cases h:okP p
 ·exact VR p w h
 ·exact Y5 p w h
set_option maxRecDepth 100000 in
set_option maxHeartbeats 1000000 in
theorem Uy (p:Nat) (pub vars:Int) (rows:Value) (w:World) (hs:slc rows) :
  Calls Tryz.prog 222 #[ZE p pub vars rows] w fun e w'=>e= .returned (.bool (okP p&&!decide (pub<0)&&!decide (vars≤pub)&&!decide (65536<vars)))∧Below w.heap.size w w':=by
 have HV:=Lib.hid (fun w=>VU p w)
 obtain ⟨As,ns,cs,rfl⟩:=hs
 generalize okP p=b0 at *
 unfold ZE fv at *
 have kt:=Blk.new w 25 #[.int .u64 (p:Int), .int .i64 pub, .int .i64 vars, .slice As ns cs]
 have hb0:Below w.heap.size w (w.alloc (.cells #[.int .u64 (p:Int), .int .i64 pub, .int .i64 vars, .slice As ns cs] 25)):=(Below.refl _ _).alloc (Nat.le_refl _) _
 go_enter Tryz.func222,Tryz.ntmps222
 go_wp2_with fail
 generalize w.alloc _=w0 at kt hb0 ⊢
 refine (HV.out _).mono ?_
 rintro e w1 ⟨rfl,hb1⟩
 replace kt:=kt.below hb1 kt.lt
 replace hb0:=Za hb0 hb1
 clear hb1
 have ct:=kt.cell
 cases b0
 ·go_wp2
  go_ret
  exact ⟨rfl,hb0⟩
 by_cases z1:pub<0
 ·have d1:decide (0≤pub)=false:=decide_eq_false (by omega)
  have e1:=decide_eq_true z1
  go_wp2
  go_ret
  exact ⟨by simp [e1],hb0⟩
 have d1:decide (0≤pub)=true:=decide_eq_true (by omega)
 have e1:=decide_eq_false z1
 by_cases z2:vars≤pub
 ·have d2:decide (pub<vars)=false:=decide_eq_false (by omega)
  have e2:=decide_eq_true z2
  go_wp2
  go_ret
  exact ⟨by simp [e2],hb0⟩
 have d2:decide (pub<vars)=true:=decide_eq_true (by omega)
 have e2:=decide_eq_false z2
 by_cases z3:65536<vars
 ·have d3:decide (vars≤65536)=false:=decide_eq_false (by omega)
  have e3:=decide_eq_true z3
  go_wp2
  go_ret
  exact ⟨by simp [e3],hb0⟩
 have d3:decide (vars≤65536)=true:=decide_eq_true (by omega)
 have e3:=decide_eq_false z3
 go_wp2
 go_ret
 exact ⟨by simp [e1,e2,e3],hb0⟩
set_option maxRecDepth 100000 in
set_option maxHeartbeats 1000000 in
theorem Yn (p:Nat) (pub vars:Int) (A:Option Addr) (n c:Nat) (rows:List Zv) (w:World) (hr:RSl 3 Z9 w [.slice A n c] rows) :
  Calls Tryz.prog 155 #[ZE p pub vars (.slice A n c)] w fun e w'=>e= .returned (.bool (Zr p pub vars rows))∧Below w.heap.size w w':=by
 have HS:=Lib.hid (fun w=>Uy p pub vars (.slice A n c) w ⟨_,_,_,rfl⟩)
 have HR:=Lib.hid (fun r x y z w hx hy hz=>Js p pub vars (.slice A n c) r x y z w hx hy hz ⟨_,_,_,rfl⟩)
 obtain ⟨A',n',c',he,hlen,hnc,hmx,hrd⟩:=hr
 simp at he
 obtain ⟨rfl,rfl,rfl⟩:=he
 subst hlen
 have g0:(rows.length:Int)≤9223372036854775807:=by
  have h4:=hmx
  simp [maxLen] at h4
  omega
 have E:=Lib.hid (show Zr p pub vars rows=((okP p&&!decide (pub<0)&&!decide (vars≤pub)&&!decide (65536<vars))&&!decide ((16384:Int)<(rows.length:Int))&&rows.all (Yp p vars)) from rfl)
 revert HS E
 generalize Zr p pub vars rows=ans
 generalize (okP p&&!decide (pub<0)&&!decide (vars≤pub)&&!decide (65536<vars))=b0
 intro HS E
 unfold ZE at *
 have kt:=Blk.new w 25 #[.int .u64 (p:Int), .int .i64 pub, .int .i64 vars, .slice A rows.length c]
 have hb0:Below w.heap.size w (w.alloc (.cells #[.int .u64 (p:Int), .int .i64 pub, .int .i64 vars, .slice A rows.length c] 25)):=(Below.refl _ _).alloc (Nat.le_refl _) _
 go_enter Tryz.func155,Tryz.ntmps155
 go_wp2_with fail
 generalize w.alloc _=w0 at kt hb0 ⊢
 refine (HS.out _).mono ?_
 rintro e w1 ⟨rfl,hb1⟩
 replace kt:=kt.below hb1 kt.lt
 replace hb0:=Za hb0 hb1
 clear hb1
 have ct:=kt.cell
 cases b0
 ·go_wp2
  go_ret
  exact ⟨by rw [E.out];simp,hb0⟩
 by_cases z4:(16384:Int)<(rows.length:Int)
 ·have d4:=decide_eq_true z4
  go_wp2
  go_ret
  exact ⟨by rw [E.out];simp [d4],hb0⟩
 have d4:=decide_eq_false z4
 have E2:=Lib.hid (show ans=rows.all (Yp p vars) by rw [E.out,d4];simp)
 clear E
 go_wp2_with fail
 clear ct
 go_loopw [17] (fun i wr=>∃ j:Nat,j≤rows.length∧i= .int .i64 (j:Int)∧Blk wr w.heap.size 25 #[.int .u64 (p:Int), .int .i64 pub, .int .i64 vars, .slice A rows.length c]∧Below w.heap.size w wr∧Hid (∀ k<j,∀ h:k<rows.length,Yp p vars rows[k]=true))
  (fun i _=>rows.length-(intOf i).toNat)
 case atStart=>exact ⟨0,Nat.zero_le _,rfl,kt,hb0,fun k hk=>by omega⟩
 case round =>
  clear kt hb0
  obtain ⟨j,hj,rfl,kt,hb0,HB⟩:=hrel
  by_cases hlt:j<rows.length
  ·have HL:=Lib.hid hlt
   obtain ⟨b,q,rfl⟩:=hrd.base (by omega) (by omega)
   obtain ⟨cs,-,hc,x,y,z,rfl,hx1,hy1,hz1⟩:=(hrd.below Zj hb0).get hlt
   have h0:wr.cell? ⟨b,q+j*3,none⟩=some x:=hc 0 (by omega)
   have h1:wr.cell? ⟨b,q+j*3+1,none⟩=some y:=hc 1 (by omega)
   have h2:wr.cell? ⟨b,q+j*3+2,none⟩=some z:=hc 2 (by omega)
   have i1:(0:Int)≤(j:Int):=by omega
   have i2:(j:Int)<(rows.length:Int):=by omega
   have hbl:=World.block_lt_of_cell? _ _ h0
   simp only at hbl
   have HC:=Lib.hid (fun w' (hb:Below wr.heap.size wr w')=>HR.out rows[j] x y z w' (Zp _ _ _ _ hb hx1) (Zp _ _ _ _ hb hy1) (Zp _ _ _ _ hb hz1))
   obtain ⟨A1,n1,c1,rfl⟩:=RSl.slc hx1
   obtain ⟨A2,n2,c2,rfl⟩:=RSl.slc hy1
   obtain ⟨A3,n3,c3,rfl⟩:=RSl.slc hz1
   have hal:=(Below.refl wr.heap.size wr).alloc (Nat.le_refl _) (.cells #[.slice A1 n1 c1, .slice A2 n2 c2, .slice A3 n3 c3] 168)
   have ct:=kt.cell
   have lt:=kt.lt
   clear hc hx1 hy1 hz1
   go_wp2_with fail
   refine (HC.out _ hal).mono ?_
   rintro e w3 ⟨rfl,hb3⟩
   have hb4:=Za hal hb3
   replace kt:=kt.below hb4 kt.lt
   replace hb0:=Za hb0 hb4
   clear hal hb3 hb4 h0 h1 h2 ct lt
   cases bo:Yp p vars rows[j]
   ·have HO:=Lib.hid bo
    clear bo
    go_wp2
    go_ret
    exact ⟨by rw [E2.out,List.all_eq_false.2 ⟨rows[j],List.getElem_mem HL.out,fun h=>Bool.noConfusion (HO.out.symm.trans h)⟩];rfl,hb0⟩
   ·have HO:=Lib.hid bo
    clear bo
    go_wp2
    go_roundw
    case rel =>
     refine ⟨j+1,by omega,by go_num,kt,hb0,fun k hk h=>?_⟩
     by_cases e:k<j
     ·exact HB.out k e h
     ·obtain rfl:k=j:=by omega
      exact HO.out
    case measure=>simp [intOf];omega
  ·obtain rfl:rows.length=j:=by omega
   go_wp2
   go_ret
   exact ⟨by rw [E2.out,List.all_eq_true.2 fun r hr=>by obtain ⟨k,hk,rfl⟩:=List.getElem_of_mem hr;exact HB.out k hk hk];rfl,hb0⟩
set_option maxHeartbeats 400000 in
theorem Vf (n k:Nat) (w:World) (hn:n≤1000000000) (hk:0<k) (hk2:k≤1000000000) :
  Calls Tryz.prog 157 #[.int .i64 (n:Int), .int .i64 (k:Int)] w fun e w'=>e= .returned (.int .i64 (((n+k-1) / k:Nat):Int))∧w'=w:=by
 have e1:(n:Int)+(k:Int)=((n+k:Nat):Int):=by omega
 obtain ⟨s,hs⟩:∃ s,s=n+k:=⟨_,rfl⟩
 obtain ⟨t,ht⟩:∃ t,t=n+k-1:=⟨_,rfl⟩
 obtain ⟨r,hr⟩:∃ r,r=t / k:=⟨_,rfl⟩
 have e2:(s:Int)-1=(t:Int):=by omega
 rw [←hs] at e1
 rw [←ht,←hr]
 have e3:(t:Int) / (k:Int)=(r:Int):=by rw [hr];rfl
 have e4:(t:Int).tdiv (k:Int)=(r:Int):=by rw [hr];rfl
 have e5:IntKind.i64.wrap (s:Int)=(s:Int):=Zw _ (by omega) (by omega)
 have e6:IntKind.i64.wrap (t:Int)=(t:Int):=Zw _ (by omega) (by omega)
 have hrt:r≤t:=by rw [hr];exact Nat.div_le_self _ _
 have e7:IntKind.i64.wrap (r:Int)=(r:Int):=Zw _ (by omega) (by omega)
 have q1:(0:Int)<(k:Int):=by omega
 have q2:¬((k:Int)=0):=by omega
 have q3:¬(k=0):=by omega
 clear hs ht hr hrt
 go_enter Tryz.func157,Tryz.ntmps157
 go_wp2_with fail
 go_ret
 exact ⟨rfl,rfl⟩
def Xw (bl bw qs:Int):Prop:=bl<2∨256<bl∨bl.toNat &&& (bl.toNat-1)≠0∨qs<1∨64<qs∨(bw≠1∧bw≠2∧bw≠4∧bw≠8)
theorem Ux {p:Nat} {pub vars:Int} {nr:Nat} {bl bw qs:Int} (h:Xw bl bw qs):Yg ⟨p,pub,vars,nr,bl,bw,qs⟩=1:=if_pos h
set_option maxRecDepth 100000 in
set_option maxHeartbeats 1000000 in
theorem VI (bl bw qs:Int) (w:World) (h:Xw bl bw qs) :
  Calls Tryz.prog 156 #[.agg #[.int .i64 bl, .int .i64 bw, .int .i64 qs]] w fun e w'=>e= .returned (.bool false)∧Below w.heap.size w w':=by
 have hb0:Below w.heap.size w (w.alloc (.cells #[.int .i64 bl, .int .i64 bw, .int .i64 qs] 27)):=(Below.refl _ _).alloc (Nat.le_refl _) _
 by_cases hw:bw≠1∧bw≠2∧bw≠4∧bw≠8
 ·obtain ⟨h1,h2,h3,h4⟩:=hw
  have d1:(bw != 1)=true:=by rw [bne_iff_ne];exact h1
  have d2:(bw != 2)=true:=by rw [bne_iff_ne];exact h2
  have d3:(bw != 4)=true:=by rw [bne_iff_ne];exact h3
  have d4:(bw != 8)=true:=by rw [bne_iff_ne];exact h4
  clear h h1 h2 h3 h4
  go_enter Tryz.func156,Tryz.ntmps156
  go_wp2_with fail
  go_ret
  exact ⟨rfl,hb0⟩
 have hw':bw=1∨bw=2∨bw=4∨bw=8:=by omega
 by_cases z1:bl<2
 ·have d1:decide (2≤bl)=false:=decide_eq_false (by omega)
  clear h hw
  rcases hw' with rfl | rfl | rfl | rfl <;>
  ·go_enter Tryz.func156,Tryz.ntmps156
   go_wp2_with fail
   go_ret
   exact ⟨rfl,hb0⟩
 have d1:decide (2≤bl)=true:=decide_eq_true (by omega)
 by_cases z2:256<bl
 ·have d2:decide (bl≤256)=false:=decide_eq_false (by omega)
  clear h hw
  rcases hw' with rfl | rfl | rfl | rfl <;>
  ·go_enter Tryz.func156,Tryz.ntmps156
   go_wp2_with fail
   go_ret
   exact ⟨rfl,hb0⟩
 have d2:decide (bl≤256)=true:=decide_eq_true (by omega)
 obtain ⟨b,rfl⟩:=Int.eq_ofNat_of_zero_le (show 0≤bl by omega)
 unfold Xw at h
 rw [Int.toNat_natCast] at h
 have hand:=Ya ⟨b,by omega⟩ (by show 2≤b;omega)
 simp only at hand
 have i1:(1:Int)≤(b:Int):=by omega
 have i2:(0:Int)≤(b:Int)-1:=by omega
 have i3:(b:Int)≤256:=by omega
 by_cases z3:b &&& (b-1)=0
 ·rw [z3] at hand
  have hq:¬(1≤qs∧qs≤64):=by omega
  clear h hw z3
  by_cases z4:qs<1
  ·have d4:decide (1≤qs)=false:=decide_eq_false (by omega)
   rcases hw' with rfl | rfl | rfl | rfl <;>
   ·go_enter Tryz.func156,Tryz.ntmps156
    go_wp2_with fail
    go_ret
    exact ⟨rfl,hb0⟩
  ·have d4:decide (1≤qs)=true:=decide_eq_true (by omega)
   have d5:decide (qs≤64)=false:=decide_eq_false (by omega)
   rcases hw' with rfl | rfl | rfl | rfl <;>
   ·go_enter Tryz.func156,Tryz.ntmps156
    go_wp2_with fail
    go_ret
    exact ⟨rfl,hb0⟩
 ·obtain ⟨v,hv⟩:∃ v,v=b &&& (b-1):=⟨_,rfl⟩
  rw [←hv] at hand z3
  have d3:((v:Int) == 0)=false:=by rw [beq_eq_false_iff_ne];omega
  clear h hw hv z3
  rcases hw' with rfl | rfl | rfl | rfl <;>
  ·go_enter Tryz.func156,Tryz.ntmps156
   go_wp2_with fail
   go_ret
   exact ⟨rfl,hb0⟩
set_option maxRecDepth 100000 in
set_option maxHeartbeats 1000000 in
theorem Vy (b bw q:Nat) (w:World) (h0:2≤b) (h1:b≤256) (h2:b &&& (b-1)=0) (h3:1≤q) (h4:q≤64) (hw':bw=1∨bw=2∨bw=4∨bw=8) :
  Calls Tryz.prog 156 #[.agg #[.int .i64 (b:Int), .int .i64 (bw:Int), .int .i64 (q:Int)]] w fun e w'=>e= .returned (.bool true)∧Below w.heap.size w w':=by
 have hand:=Ya ⟨b,by omega⟩ (by show 2≤b;omega)
 simp only at hand
 rw [h2] at hand
 have i1:(1:Int)≤(b:Int):=by omega
 have i2:(0:Int)≤(b:Int)-1:=by omega
 have i3:(b:Int)≤256:=by omega
 have d1:decide ((2:Int)≤(b:Int))=true:=decide_eq_true (by omega)
 have d2:decide ((b:Int)≤256)=true:=decide_eq_true (by omega)
 have d4:decide ((1:Int)≤(q:Int))=true:=decide_eq_true (by omega)
 have d5:decide ((q:Int)≤64)=true:=decide_eq_true (by omega)
 clear h0 h1 h2 h3 h4
 have hb0:Below w.heap.size w (w.alloc (.cells #[.int .i64 (b:Int), .int .i64 (bw:Int), .int .i64 (q:Int)] 27)):=(Below.refl _ _).alloc (Nat.le_refl _) _
 rcases hw' with rfl | rfl | rfl | rfl <;>
 ·go_enter Tryz.func156,Tryz.ntmps156
  go_wp2_with fail
  go_ret
  exact ⟨rfl,hb0⟩
section
variable (p:Nat) (pub vars:Int) (A:Option Addr) (n c:Nat) (rows:List Zv) (bl bw qs:Int) (w:World)
theorem JU (hr:RSl 3 Z9 w [.slice A n c] rows) (ht:Zr p pub vars rows=true) (hbad:Xw bl bw qs) :
  Calls Tryz.prog 79 (Zq p pub vars A n c bl bw qs) w fun e w'=>e= .returned (.tuple #[.agg Zm, .int .i64 1])∧Below w.heap.size w w':=by
 have HV:=Lib.hid (fun w' (hb:Below w.heap.size w w')=>Yn p pub vars A n c rows w' (Zn Zj _ _ _ _ hb hr))
 have HP:=Lib.hid (fun w=>VI bl bw qs w hbad)
 rw [ht] at HV
 clear hr ht hbad
 unfold Zq ZE Zm at *
 obtain ⟨kt,kx,kz,hb0,-⟩:=XZ w 25 27 50 #[.int .u64 (p:Int), .int .i64 pub, .int .i64 vars, .slice A n c] #[.int .i64 bl, .int .i64 bw, .int .i64 qs] #[.int .u64 0, .int .i64 0, .int .i64 0, .int .i64 0, .int .i64 0, .int .i64 0, .int .i64 0, .int .i64 0, .int .i64 0, .int .i64 0, .int .i64 0]
 go_enter Tryz.func79,Tryz.ntmps79
 go_wp2_with fail
 generalize ((w.alloc _).alloc _).alloc _=w0 at kt kx kz hb0 ⊢
 refine (HV.out _ hb0).mono ?_
 rintro e w1 ⟨rfl,hb1⟩
 replace kt:=kt.below hb1 kt.lt
 replace kx:=kx.below hb1 kx.lt
 replace kz:=kz.below hb1 kz.lt
 replace hb0:=Za hb0 hb1
 have cx:=kx.cell
 clear hb1
 go_wp2_with fail
 refine (HP.out _).mono ?_
 rintro e w2 ⟨rfl,hb2⟩
 replace kz:=kz.below hb2 kz.lt
 replace hb0:=Za hb0 hb2
 clear hb2 cx
 have cz:=kz.cell
 have fz:=kz.frozen
 go_wp2_with fail
 have kW:=Zi kz (.int .u64 0) (.int .i64 0) (.int .i64 0) (.int .i64 0) (.int .i64 0) (.int .i64 0) (.int .i64 0) (.int .i64 0) (.int .i64 0) (.int .i64 0) (.int .i64 0)
 have hW:=Ze (g:=w.heap.size+1+1) hb0 (by omega) (.int .u64 0) (.int .i64 0) (.int .i64 0) (.int .i64 0) (.int .i64 0) (.int .i64 0) (.int .i64 0) (.int .i64 0) (.int .i64 0) (.int .i64 0) (.int .i64 0)
 clear cz fz kz hb0
 revert kW hW
 generalize ((((((((((w2.setCell _ _).setCell _ _).setCell _ _).setCell _ _).setCell _ _).setCell _ _).setCell _ _).setCell _ _).setCell _ _).setCell _ _).setCell _ _=wf
 intro kW hW
 have c4:=kW.cell
 exact bodyPost_ret (v:=.tuple #[.agg #[.int .u64 0, .int .i64 0, .int .i64 0, .int .i64 0, .int .i64 0, .int .i64 0, .int .i64 0, .int .i64 0, .int .i64 0, .int .i64 0, .int .i64 0], .int .i64 1]) (by simp [results,Tryz.results79,go_sem,c4]) rfl ⟨rfl,hW⟩
end
theorem Yt {w:World} (g i:Nat) (v:Value):w.grownBy (w.setCell ⟨g,i,none⟩ v) (some g):=ZS (p:=⟨g,i,none⟩) (ZL w _) (.inl rfl) _
def VX (w:World) (g i:Nat):Nat:=match w.cell? ⟨g,i,none⟩ with | some (.int _ n)=>n.toNat | _=>0
set_option maxRecDepth 100000 in
set_option maxHeartbeats 2000000 in
theorem Jl (p U V:Nat) (A:Option Addr) (n c:Nat) (rows:List Zv) (b bw q:Nat) (w:World) (hr:RSl 3 Z9 w [.slice A n c] rows) (ht:Zr p U V rows=true)
  (h0:2≤b) (h1:b≤256) (h2:b &&& (b-1)=0) (h3:1≤q) (h4:q≤64) (hw:bw=1∨bw=2∨bw=4∨bw=8) :
  Calls Tryz.prog 79 (Zq p U V A n c b bw q) w fun e w'=>Yo ⟨p,U,V,rows.length,b,bw,q⟩ e∧Below w.heap.size w w':=by
 have hok:=Z0 ht
 obtain ⟨hp1,hp⟩:=ZA hok
 have HV:=Lib.hid (fun w' (hb:Below w.heap.size w w')=>Yn p U V A n c rows w' (Zn Zj _ _ _ _ hb hr))
 have HPa:=Lib.hid (fun w=>Vy b bw q w h0 h1 h2 h3 h4 hw)
 rw [ht] at HV
 have htt:U<V∧V≤65536∧rows.length≤16384:=by
  unfold Zr at ht
  simp only [Bool.and_eq_true,Bool.not_eq_true',decide_eq_false_iff_not] at ht
  omega
 obtain ⟨t1,t2,t3⟩:=htt
 obtain ⟨A',n',c',he,hlen,hnc,hmx,-⟩:=hr
 simp at he
 obtain ⟨rfl,rfl,rfl⟩:=he
 subst hlen
 have hbw8:bw≤8∧1≤bw:=by omega
 obtain ⟨k,hk⟩:∃ k,k=b+q:=⟨_,rfl⟩
 obtain ⟨kk,hkk⟩:∃ kk,kk=2*k:=⟨_,rfl⟩
 obtain ⟨s,hs⟩:∃ s,s=V-1-U:=⟨_,rfl⟩
 obtain ⟨v1,hv1⟩:∃ v1,v1=V-1:=⟨_,rfl⟩
 obtain ⟨pm,hpm⟩:∃ pm,pm=p-1:=⟨_,rfl⟩
 have ek:(b:Int)+(q:Int)=(k:Int):=by omega
 have ek1:IntKind.i64.wrap (k:Int)=(k:Int):=Zw _ (by omega) (by omega)
 have ek2:(2:Int)*(k:Int)=(kk:Int):=by omega
 have ek3:IntKind.i64.wrap (kk:Int)=(kk:Int):=Zw _ (by omega) (by omega)
 have ev:(V:Int)-1=(v1:Int):=by omega
 have ev2:IntKind.i64.wrap (v1:Int)=(v1:Int):=Zw _ (by omega) (by omega)
 have es:(v1:Int)-(U:Int)=(s:Int):=by omega
 have es2:IntKind.i64.wrap (s:Int)=(s:Int):=Zw _ (by omega) (by omega)
 have ep:IntKind.u64.wrap ((p:Int)-1)=(pm:Int):=by rw [hpm];exact Yi p 1 (by omega) hp
 have ep2:(p:Int)-1=(pm:Int):=by omega
 have ep3:IntKind.u64.wrap (pm:Int)=(pm:Int):=ZV _ (by omega)
 have j1:kk≤640:=by omega
 have j2:6≤kk:=by omega
 have hb256:IntKind.u64.wrap (b:Int)=(b:Int):=ZV b (by omega)
 have HB:=Lib.hid (And.intro h0 h1)
 have HQ:=Lib.hid (And.intro h3 h4)
 have HK:=Lib.hid hk
 have HS:=Lib.hid hs
 have HT:=Lib.hid (And.intro hok (And.intro t1 (And.intro t2 t3)))
 have HP:=Lib.hid (show pm=p-1∧17≤p from ⟨hpm,hp1⟩)
 have HG:=Lib.hid (fun N NN hN hNN=>Yq (p:=p) (U:=U) (V:=V) (nr:=rows.length) (bw:=bw) (N:=N) (NN:=NN) h0 h1 h2 h3 h4 hw hpm hN hNN)
 have HB2:=Lib.hid h2
 have HBW:=Lib.hid hbw8
 have HW:=Lib.hid hw
 have HKK:=Lib.hid (show kk=2*(b+q) by omega)
 have gm:(rows.length:Int)≤16384:=by omega
 have u1:(rows.length+b-1) / b≤100000:=Nat.le_trans (Nat.div_le_self _ _) (by omega)
 have u2:(s+b-1) / b≤100000:=Nat.le_trans (Nat.div_le_self _ _) (by omega)
 have HU:=Lib.hid (fun w=>Vf rows.length b w (by omega) (by omega) (by omega))
 have HV2:=Lib.hid (fun w=>Vf s b w (by omega) (by omega) (by omega))
 obtain ⟨ub,hub⟩:∃ ub,ub=(rows.length+b-1) / b:=⟨_,rfl⟩
 obtain ⟨ua,hua⟩:∃ ua,ua=(s+b-1) / b:=⟨_,rfl⟩
 rw [←hub] at HU u1
 rw [←hua] at HV2 u2
 have HUB:=Lib.hid hub
 have HUA:=Lib.hid hua
 clear hub hua h0 h1 h2 h3 h4 hk hs hkk hok hp hp1 ht t1 t2 t3 hpm hw hbw8 hv1
 unfold Zq ZE at *
 obtain ⟨kt,kx,kz,hb0,-⟩:=XZ w 25 27 50 #[.int .u64 (p:Int), .int .i64 (U:Int), .int .i64 (V:Int), .slice A rows.length c] #[.int .i64 (b:Int), .int .i64 (bw:Int), .int .i64 (q:Int)] #[.int .u64 0, .int .i64 0, .int .i64 0, .int .i64 0, .int .i64 0, .int .i64 0, .int .i64 0, .int .i64 0, .int .i64 0, .int .i64 0, .int .i64 0]
 go_enter Tryz.func79,Tryz.ntmps79
 go_wp2_with fail
 generalize ((w.alloc _).alloc _).alloc _=w0 at kt kx kz hb0 ⊢
 refine (HV.out _ hb0).mono ?_
 rintro e w1 ⟨rfl,hb1⟩
 replace kt:=kt.below hb1 kt.lt
 replace kx:=kx.below hb1 kx.lt
 replace kz:=kz.below hb1 kz.lt
 replace hb0:=Za hb0 hb1
 have cx:=kx.cell
 clear hb1
 go_wp2_with fail
 refine (HPa.out _).mono ?_
 rintro e w2 ⟨rfl,hb2⟩
 replace kt:=kt.below hb2 kt.lt
 replace kx:=kx.below hb2 kx.lt
 replace kz:=kz.below hb2 kz.lt
 replace hb0:=Za hb0 hb2
 clear hb2 cx
 have cx:=kx.cell
 have ct:=kt.cell
 go_wp2_with fail
 have hal:=(Below.refl w2.heap.size w2).alloc (Nat.le_refl _) (.cells #[.int .u64 (p:Int), .int .i64 (b:Int), .int .i64 (q:Int), .int .i64 (k:Int), .int .i64 1, .int .i64 0, .int .i64 0, .int .i64 0, .int .i64 0, .int .i64 0, .int .i64 0] 50)
 have k6:=Blk.new w2 50 #[.int .u64 (p:Int), .int .i64 (b:Int), .int .i64 (q:Int), .int .i64 (k:Int), .int .i64 1, .int .i64 0, .int .i64 0, .int .i64 0, .int .i64 0, .int .i64 0, .int .i64 0]
 have hg6:w.heap.size+1+1<w2.heap.size:=kz.lt
 replace kt:=kt.below hal kt.lt
 replace kx:=kx.below hal kx.lt
 replace kz:=kz.below hal kz.lt
 replace hb0:=Za hb0 hal
 clear hal cx ct
 generalize w2.alloc _=w3 at kt kx kz hb0 k6 ⊢
 generalize w2.heap.size=g6 at k6 hg6 ⊢
 go_loopw [35] (fun _ wr=>∃ N:Nat,Hid ((∃ z,N=2^z)∧N<2*kk)∧N≤1280∧0<N∧Blk wr w.heap.size 25 #[.int .u64 (p:Int), .int .i64 (U:Int), .int .i64 (V:Int), .slice A rows.length c]∧Blk wr (w.heap.size+1) 27 #[.int .i64 (b:Int), .int .i64 (bw:Int), .int .i64 (q:Int)]∧Blk wr (w.heap.size+1+1) 50 #[.int .u64 0, .int .i64 0, .int .i64 0, .int .i64 0, .int .i64 0, .int .i64 0, .int .i64 0, .int .i64 0, .int .i64 0, .int .i64 0, .int .i64 0]∧Blk wr g6 50 #[.int .u64 (p:Int), .int .i64 (b:Int), .int .i64 (q:Int), .int .i64 (k:Int), .int .i64 (N:Int), .int .i64 0, .int .i64 0, .int .i64 0, .int .i64 0, .int .i64 0, .int .i64 0]∧Below w.heap.size w wr) (fun _ wr=>1300-VX wr g6 4)
 case atStart=>exact ⟨1,⟨⟨0,rfl⟩,by omega⟩,by omega,by omega,kt,kx,kz,k6,hb0⟩
 case round =>
  clear kt kx kz k6 hb0
  obtain ⟨N,HN,hN2,hN0,kt,kx,kz,k6,hb0⟩:=hrel
  have cM:VX wr g6 4=N:=by unfold VX;rw [k6.cell];simp
  by_cases hlt:N<kk
  ·have q1:(N:Int)<(kk:Int):=by omega
   obtain ⟨N2,hN⟩:∃ N2,N2=2*N:=⟨_,rfl⟩
   have e1:(N:Int)*2=(N2:Int):=by omega
   have e2:IntKind.i64.wrap (N2:Int)=(N2:Int):=Zw _ (by omega) (by omega)
   have HN3:Hid ((∃ z,N2=2^z)∧N2<2*kk):=by
    obtain ⟨⟨z,hz⟩,-⟩:=HN.out
    exact ⟨⟨z+1,by rw [hN,hz,Nat.pow_succ,Nat.mul_comm]⟩,by omega⟩
   have hN4:N2≤1280:=by omega
   have hN5:0<N2:=by omega
   have HNN:=Lib.hid hN
   have HCM:=Lib.hid cM
   clear hN cM
   have c6:=k6.cell
   have f6:=k6.frozen
   go_wp2_with fail
   have hg:=Yt (w:=wr) g6 4 (.int .i64 (N2:Int))
   replace k6:=k6.set_ 4 (.int .i64 (N2:Int))
   simp at k6
   replace kt:=kt.grown hg (fun e=>by have:=Option.some.inj e;first | omega | (exact absurd this (by assumption)) | (exact absurd this.symm (by assumption)))
   replace kx:=kx.grown hg (fun e=>by have:=Option.some.inj e;first | omega | (exact absurd this (by assumption)) | (exact absurd this.symm (by assumption)))
   replace kz:=kz.grown hg (fun e=>by have:=Option.some.inj e;first | omega | (exact absurd this (by assumption)) | (exact absurd this.symm (by assumption)))
   replace hb0:=hb0.trans (ZF hg hb0.size (by omega))
   clear hg c6 f6
   go_roundw
   case rel=>exact ⟨N2,HN3,hN4,hN5,kt,kx,kz,k6,hb0⟩
   case measure =>
    have c2:VX (wr.setCell ⟨g6,4,none⟩ (.int .i64 (N2:Int))) g6 4=N2:=by unfold VX;rw [k6.cell];simp
    rw [c2,HCM.out]
    have:=HNN.out
    omega
  ·have q1:¬((N:Int)<(kk:Int)):=by omega
   clear cM
   obtain ⟨NN,hNN⟩:∃ NN,NN=bw*N:=⟨_,rfl⟩
   have hNNl:NN≤10240:=by rw [hNN];exact Nat.mul_le_mul HBW.out.1 hN2
   have hNN0:0<NN:=by rw [hNN];exact Nat.mul_pos (by have:=HBW.out;omega) hN0
   have e1:(N:Int)*(bw:Int)=(NN:Int):=by rw [hNN,Int.natCast_mul,Int.mul_comm]
   have e2:IntKind.i64.wrap (NN:Int)=(NN:Int):=Zw _ (by omega) (by omega)
   have eN:IntKind.u64.wrap (NN:Int)=(NN:Int):=ZV _ (by omega)
   have hfit:(∃ z,N=2^z)∧2*(b+q)≤N∧(1≤2*(b+q)→N<2*(2*(b+q))):=by
    have h:=HN.out
    rw [HKK.out] at h
    exact ⟨h.1,by rw [←HKK.out];omega,fun _=>h.2⟩
   replace HG:=Lib.hid (HG.out _ _ hfit hNN)
   have HNP:Hid (∃ z,NN=2^z):=by
    obtain ⟨z,hz⟩:=hfit.1
    rcases HW.out with h | h | h | h <;> rw [hNN,h,hz]
    ·exact ⟨z,by omega⟩
    ·exact ⟨z+1,by rw [Nat.pow_succ,Nat.mul_comm]⟩
    ·exact ⟨z+2,by rw [Nat.pow_add,Nat.mul_comm]⟩
    ·exact ⟨z+3,by rw [Nat.pow_add,Nat.mul_comm]⟩
   have HNK:Hid (2*k≤NN):=by
    have h1:N≤NN:=by rw [hNN];exact Nat.le_mul_of_pos_left _ (by have:=HBW.out;omega)
    have:=hfit.2.1
    have:=HK.out
    show 2*k≤NN
    omega
   clear hfit HN hNN hN2 hN0 hlt
   have HERR:Hid (∀ {er:Int},(if pm%b≠0∨pm%NN≠0∨pm≤NN then (7:Int) else if 1024<NN then 3 else 0)=er→er=Yg ⟨p,U,V,rows.length,b,bw,q⟩):=fun h=>h.symm.trans (HG.out.2).symm
   have c6:=k6.cell
   have f6:=k6.frozen
   have cx:=kx.cell
   have lx:=kx.lt
   go_upto_region 7 with fail
   have hg:=Yt (w:=wr) g6 4 (.int .i64 (NN:Int))
   replace k6:=k6.set_ 4 (.int .i64 (NN:Int))
   simp at k6
   replace kt:=kt.grown hg (fun e=>by have:=Option.some.inj e;first | omega | (exact absurd this (by assumption)) | (exact absurd this.symm (by assumption)))
   replace kx:=kx.grown hg (fun e=>by have:=Option.some.inj e;first | omega | (exact absurd this (by assumption)) | (exact absurd this.symm (by assumption)))
   replace kz:=kz.grown hg (fun e=>by have:=Option.some.inj e;first | omega | (exact absurd this (by assumption)) | (exact absurd this.symm (by assumption)))
   replace hb0:=hb0.trans (ZF hg hb0.size (by omega))
   clear hg c6 f6 cx lx e1 e2
   generalize wr.setCell _ _=w4 at kt kx kz k6 hb0 ⊢
   have c6:=k6.cell
   have ct:=kt.cell
   have cz:=kz.cell
   have fz:=kz.frozen
   have q1:(0:Int)<(b:Int):=by have:=HB.out;omega
   have q2:¬((b:Int)=0):=by omega
   have q3:¬(b=0):=by omega
   have q4:(0:Int)<(NN:Int):=by omega
   have q5:¬((NN:Int)=0):=by omega
   have q6:¬(NN=0):=by omega
   have r1:(pm:Int)%(b:Int)=((pm%b:Nat):Int):=rfl
   have r2:(pm:Int)%(NN:Int)=((pm%NN:Nat):Int):=rfl
   have r3:(pm:Int).tmod (b:Int)=((pm%b:Nat):Int):=rfl
   have r4:(pm:Int).tmod (NN:Int)=((pm%NN:Nat):Int):=rfl
   obtain ⟨x1,hx1⟩:∃ x1,x1=pm%b:=⟨_,rfl⟩
   obtain ⟨x2,hx2⟩:∃ x2,x2=pm%NN:=⟨_,rfl⟩
   rw [←hx1] at r1 r3
   rw [←hx2] at r2 r4
   have HX1:=Lib.hid hx1.symm
   have HX2:=Lib.hid hx2.symm
   clear hx1 hx2
   have fin:∀ (er:Int),er=7∨er=3→er=Yg ⟨p,U,V,rows.length,b,bw,q⟩→Yo ⟨p,U,V,rows.length,b,bw,q⟩ (.returned (.tuple #[.agg Zm, .int .i64 er])):=fun er h h'=>⟨_,_,rfl, .inl ⟨by omega,rfl,h'⟩⟩
   have FIN:=Lib.hid fin
   clear fin
   have kW:=Zi kz (.int .u64 0) (.int .i64 0) (.int .i64 0) (.int .i64 0) (.int .i64 0) (.int .i64 0) (.int .i64 0) (.int .i64 0) (.int .i64 0) (.int .i64 0) (.int .i64 0)
   have hW:=Ze (g:=w.heap.size+1+1) hb0 (by omega) (.int .u64 0) (.int .i64 0) (.int .i64 0) (.int .i64 0) (.int .i64 0) (.int .i64 0) (.int .i64 0) (.int .i64 0) (.int .i64 0) (.int .i64 0) (.int .i64 0)
   have KW:=Lib.hid (And.intro kW hW)
   clear kW hW
   by_cases z1:x1=0
   ·subst z1
    by_cases z2:x2=0
    ·subst z2
     by_cases z3:pm≤NN
     ·have y1:decide ((pm:Int)≤(NN:Int))=true:=decide_eq_true (by omega)
      have y2:decide (pm≤NN)=true:=decide_eq_true z3
      go_wp2_with fail
      obtain ⟨kW,hW⟩:=KW.out
      clear cz fz KW
      generalize ((((((((((w4.setCell _ _).setCell _ _).setCell _ _).setCell _ _).setCell _ _).setCell _ _).setCell _ _).setCell _ _).setCell _ _).setCell _ _).setCell _ _=wf at kW hW ⊢
      have c4:=kW.cell
      exact bodyPost_ret (v:=.tuple #[.agg Zm, .int .i64 7]) (by simp [results,Tryz.results79,go_sem,c4,Zm]) rfl ⟨FIN.out 7 (.inl rfl) (HERR.out (by rw [if_pos (.inr (.inr z3))])),hW⟩
     ·have y1:decide ((pm:Int)≤(NN:Int))=false:=decide_eq_false (by omega)
      have y2:decide (pm≤NN)=false:=decide_eq_false z3
      by_cases z4:1024<NN
      ·have y3:decide ((1024:Int)<(NN:Int))=true:=decide_eq_true (by omega)
       have y4:decide (1024<NN)=true:=decide_eq_true z4
       go_wp2_with fail
       obtain ⟨kW,hW⟩:=KW.out
       clear cz fz KW
       generalize ((((((((((w4.setCell _ _).setCell _ _).setCell _ _).setCell _ _).setCell _ _).setCell _ _).setCell _ _).setCell _ _).setCell _ _).setCell _ _).setCell _ _=wf at kW hW ⊢
       have c4:=kW.cell
       exact bodyPost_ret (v:=.tuple #[.agg Zm, .int .i64 3]) (by simp [results,Tryz.results79,go_sem,c4,Zm]) rfl ⟨FIN.out 3 (.inr rfl) (HERR.out (by rw [if_neg (by rw [HX1.out,HX2.out];omega),if_pos z4])),hW⟩
      ·have y3:decide ((1024:Int)<(NN:Int))=false:=decide_eq_false (by omega)
       have y4:decide (1024<NN)=false:=decide_eq_false z4
       have HZ3:=Lib.hid z3
       have HZ4:=Lib.hid z4
       have f6:=k6.frozen
       have l6:=k6.lt
       have n1:w.heap.size≠g6:=by omega
       clear KW cz fz FIN
       go_upto_region 14 with fail
       have hg:w4.grownBy ((w4.setCell ⟨g6,5,none⟩ (.int .i64 (s:Int))).setCell ⟨g6,6,none⟩ (.int .i64 (rows.length:Int))) (some g6):=by
        iterate 2 refine ZS ?_ (.inl rfl) _
        exact ZL w4 _
       replace k6:=(k6.set_ 5 (.int .i64 (s:Int))).set_ 6 (.int .i64 (rows.length:Int))
       simp at k6
       replace kt:=kt.grown hg (fun e=>by have:=Option.some.inj e;first | omega | (exact absurd this (by assumption)) | (exact absurd this.symm (by assumption)))
       replace kx:=kx.grown hg (fun e=>by have:=Option.some.inj e;first | omega | (exact absurd this (by assumption)) | (exact absurd this.symm (by assumption)))
       replace kz:=kz.grown hg (fun e=>by have:=Option.some.inj e;first | omega | (exact absurd this (by assumption)) | (exact absurd this.symm (by assumption)))
       replace hb0:=hb0.trans (ZF hg hb0.size (by omega))
       clear hg c6 f6 ct l6
       generalize (w4.setCell _ _).setCell _ _=w5 at kt kx kz k6 hb0 ⊢
       have c6:=k6.cell
       have f6:=k6.frozen
       have l6:=k6.lt
       go_wp2_with fail
       refine (HV2.out _).mono ?_
       rintro e w6 ⟨rfl,rfl⟩
       go_upto_region 15 with fail
       have hg:=Yt (w:=w6) g6 7 (.int .i64 (ua:Int))
       replace k6:=k6.set_ 7 (.int .i64 (ua:Int))
       simp at k6
       replace kt:=kt.grown hg (fun e=>by have:=Option.some.inj e;first | omega | (exact absurd this (by assumption)) | (exact absurd this.symm (by assumption)))
       replace kx:=kx.grown hg (fun e=>by have:=Option.some.inj e;first | omega | (exact absurd this (by assumption)) | (exact absurd this.symm (by assumption)))
       replace kz:=kz.grown hg (fun e=>by have:=Option.some.inj e;first | omega | (exact absurd this (by assumption)) | (exact absurd this.symm (by assumption)))
       replace hb0:=hb0.trans (ZF hg hb0.size (by omega))
       clear hg c6 f6 l6
       generalize w6.setCell _ _=w7 at kt kx kz k6 hb0 ⊢
       go_wp2_with fail
       go_loopw [8] (fun y wr=>∃ (i:Nat) (x1 x2 x3:Int),1≤i∧i≤4∧y= .int .i64 (i:Int)∧Hid ((1<i→x1=ub)∧(2<i→x2=ub)∧(3<i→x3=ub))∧Blk wr (w.heap.size+1+1) 50 #[.int .u64 0, .int .i64 0, .int .i64 0, .int .i64 0, .int .i64 0, .int .i64 0, .int .i64 0, .int .i64 0, .int .i64 0, .int .i64 0, .int .i64 0]∧Blk wr g6 50 #[.int .u64 (p:Int), .int .i64 (b:Int), .int .i64 (q:Int), .int .i64 (k:Int), .int .i64 (NN:Int), .int .i64 (s:Int), .int .i64 (rows.length:Int), .int .i64 (ua:Int), .int .i64 x1, .int .i64 x2, .int .i64 x3]∧Below w.heap.size w wr) (fun y _=>4-(intOf y).toNat)
       case atStart=>exact ⟨1,0,0,0,by omega,by omega,rfl,⟨by omega,by omega,by omega⟩,kz,k6,hb0⟩
       case round =>
        clear kt kx kz k6 hb0
        obtain ⟨i,x1,x2,x3,hi1,hi4,rfl,HXX,kz,k6,hb0⟩:=hrel
        have c6:=k6.cell
        have f6:=k6.frozen
        have l6:=k6.lt
        by_cases hlt:i<4
        ·have hi:i=1∨i=2∨i=3:=by omega
         rcases hi with rfl | rfl | rfl
         ·go_wp2_with fail
          refine (HU.out _).mono ?_
          rintro e w8 ⟨rfl,rfl⟩
          go_wp2_with fail
          have hg:=Yt (w:=w8) g6 8 (.int .i64 (ub:Int))
          replace k6:=k6.set_ 8 (.int .i64 (ub:Int))
          simp at k6
          replace kz:=kz.grown hg (fun e=>by have:=Option.some.inj e;first | omega | (exact absurd this (by assumption)) | (exact absurd this.symm (by assumption)))
          replace hb0:=hb0.trans (ZF hg hb0.size (by omega))
          clear hg c6 f6 l6
          go_roundw
          case rel=>exact ⟨2,(ub:Int),x2,x3,by omega,by omega,rfl,⟨by have:=HXX.out;omega,by have:=HXX.out;omega,by have:=HXX.out;omega⟩,kz,k6,hb0⟩
          case measure=>simp [intOf]
         ·go_wp2_with fail
          refine (HU.out _).mono ?_
          rintro e w8 ⟨rfl,rfl⟩
          go_wp2_with fail
          have hg:=Yt (w:=w8) g6 9 (.int .i64 (ub:Int))
          replace k6:=k6.set_ 9 (.int .i64 (ub:Int))
          simp at k6
          replace kz:=kz.grown hg (fun e=>by have:=Option.some.inj e;first | omega | (exact absurd this (by assumption)) | (exact absurd this.symm (by assumption)))
          replace hb0:=hb0.trans (ZF hg hb0.size (by omega))
          clear hg c6 f6 l6
          go_roundw
          case rel=>exact ⟨3,x1,(ub:Int),x3,by omega,by omega,rfl,⟨by have:=HXX.out;omega,by have:=HXX.out;omega,by have:=HXX.out;omega⟩,kz,k6,hb0⟩
          case measure=>simp [intOf]
         ·go_wp2_with fail
          refine (HU.out _).mono ?_
          rintro e w8 ⟨rfl,rfl⟩
          go_wp2_with fail
          have hg:=Yt (w:=w8) g6 10 (.int .i64 (ub:Int))
          replace k6:=k6.set_ 10 (.int .i64 (ub:Int))
          simp at k6
          replace kz:=kz.grown hg (fun e=>by have:=Option.some.inj e;first | omega | (exact absurd this (by assumption)) | (exact absurd this.symm (by assumption)))
          replace hb0:=hb0.trans (ZF hg hb0.size (by omega))
          clear hg c6 f6 l6
          go_roundw
          case rel=>exact ⟨4,x1,x2,(ub:Int),by omega,by omega,rfl,⟨by have:=HXX.out;omega,by have:=HXX.out;omega,by have:=HXX.out;omega⟩,kz,k6,hb0⟩
          case measure=>simp [intOf]
        ·obtain rfl:i=4:=by omega
         obtain ⟨e1,e2,e3⟩:=HXX.out
         obtain rfl:=e1 (by omega)
         obtain rfl:=e2 (by omega)
         obtain rfl:=e3 (by omega)
         have cz:=kz.cell
         have fz:=kz.frozen
         have lz:=kz.lt
         clear HXX e1 e2 e3
         go_wp2_with fail
         have kW:=Zi kz (.int .u64 (p:Int)) (.int .i64 (b:Int)) (.int .i64 (q:Int)) (.int .i64 (k:Int)) (.int .i64 (NN:Int)) (.int .i64 (s:Int)) (.int .i64 (rows.length:Int)) (.int .i64 (ua:Int)) (.int .i64 (ub:Int)) (.int .i64 (ub:Int)) (.int .i64 (ub:Int))
         have hW:=Ze (g:=w.heap.size+1+1) hb0 (by omega) (.int .u64 (p:Int)) (.int .i64 (b:Int)) (.int .i64 (q:Int)) (.int .i64 (k:Int)) (.int .i64 (NN:Int)) (.int .i64 (s:Int)) (.int .i64 (rows.length:Int)) (.int .i64 (ua:Int)) (.int .i64 (ub:Int)) (.int .i64 (ub:Int)) (.int .i64 (ub:Int))
         clear cz fz c6 f6 kz hb0 lz l6
         generalize ((((((((((wr.setCell _ _).setCell _ _).setCell _ _).setCell _ _).setCell _ _).setCell _ _).setCell _ _).setCell _ _).setCell _ _).setCell _ _).setCell _ _=wf at kW hW ⊢
         have c4:=kW.cell
         have HL:Yr ⟨p,b,q,k,NN,s,rows.length,ua,ub⟩:=by
          have hB:=HB.out
          have hQ:=HQ.out
          have hT:=HT.out
          refine ⟨hT.1,hB.1,hB.2,hQ.1,hQ.2,HK.out,HNP.out,by show NN≤1024;have:=HZ4.out;omega,by have:=HS.out;show s≤65536;omega,hT.2.2.2,u2,u1,HB2.out,?_,?_,?_,HNK.out,HUA.out,HUB.out⟩
          ·show (p-1)%b=0
           rw [←HP.out.1];exact HX1.out
          ·show (p-1)%NN=0
           rw [←HP.out.1];exact HX2.out
          ·show NN<p-1
           rw [←HP.out.1]
           have:=HZ3.out
           omega
         have HF2:YB ⟨p,b,q,k,NN,s,rows.length,ua,ub⟩ ⟨p,U,V,rows.length,b,bw,q⟩:=by
          have e1:((V:Int)-1-(U:Int)).toNat=s:=by have:=HS.out;have:=HT.out;omega
          refine ⟨rfl,?_,(HERR.out (by rw [if_neg (by rw [HX1.out,HX2.out];have:=HZ3.out;omega),if_neg HZ4.out])).symm,by show (0:Int)≤U;omega,by have:=HT.out;show (U:Int)<V;omega⟩
          have e5:NewIn.n ⟨p,U,V,rows.length,b,bw,q⟩=NN:=HG.out.1.symm
          unfold Y6
          simp only [Int.toNat_natCast,e1]
          rw [e5,HK.out,HUA.out,HUB.out]
         exact bodyPost_ret (v:=.tuple #[.agg (ZP ⟨p,b,q,k,NN,s,rows.length,ua,ub⟩), .int .i64 0]) (by simp [results,Tryz.results79,go_sem,c4,ZP]) rfl ⟨⟨_,_,rfl, .inr ⟨rfl,_,HL,HF2,rfl⟩⟩,hW⟩
    ·have y1:((x2:Int) != 0)=true:=by rw [bne_iff_ne];omega
     have y2:(x2 != 0)=true:=by rw [bne_iff_ne];exact z2
     go_wp2_with fail
     obtain ⟨kW,hW⟩:=KW.out
     clear cz fz KW
     generalize ((((((((((w4.setCell _ _).setCell _ _).setCell _ _).setCell _ _).setCell _ _).setCell _ _).setCell _ _).setCell _ _).setCell _ _).setCell _ _).setCell _ _=wf at kW hW ⊢
     have c4:=kW.cell
     exact bodyPost_ret (v:=.tuple #[.agg Zm, .int .i64 7]) (by simp [results,Tryz.results79,go_sem,c4,Zm]) rfl ⟨FIN.out 7 (.inl rfl) (HERR.out (by rw [if_pos (.inr (.inl (by rw [HX2.out];exact z2)))])),hW⟩
   ·have y1:((x1:Int) != 0)=true:=by rw [bne_iff_ne];omega
    have y2:(x1 != 0)=true:=by rw [bne_iff_ne];exact z1
    go_wp2_with fail
    obtain ⟨kW,hW⟩:=KW.out
    clear cz fz KW
    generalize ((((((((((w4.setCell _ _).setCell _ _).setCell _ _).setCell _ _).setCell _ _).setCell _ _).setCell _ _).setCell _ _).setCell _ _).setCell _ _).setCell _ _=wf at kW hW ⊢
    have c4:=kW.cell
    exact bodyPost_ret (v:=.tuple #[.agg Zm, .int .i64 7]) (by simp [results,Tryz.results79,go_sem,c4,Zm]) rfl ⟨FIN.out 7 (.inl rfl) (HERR.out (by rw [if_pos (.inl (by rw [HX1.out];exact z1))])),hW⟩
theorem JA (p:Nat) (pub vars:Int) (A:Option Addr) (n c:Nat) (rows:List Zv) (bl bw qs:Int) (w:World) (hr:RSl 3 Z9 w [.slice A n c] rows) (ht:Zr p pub vars rows=true) :
  Calls Tryz.prog 79 (Zq p pub vars A n c bl bw qs) w fun e w'=>Yo ⟨p,pub,vars,rows.length,bl,bw,qs⟩ e∧Below w.heap.size w w':=by
 by_cases hbad:Xw bl bw qs
 ·exact (JU p pub vars A n c rows bl bw qs w hr ht hbad).mono fun _ _ h=>⟨⟨_,_,h.1, .inl ⟨by decide,rfl,(Ux hbad).symm⟩⟩,h.2⟩
 ·have hpv:0≤pub∧pub<vars:=by
   have h:=ht
   unfold Zr at h
   simp only [Bool.and_eq_true,Bool.not_eq_true',decide_eq_false_iff_not] at h
   omega
  unfold Xw at hbad
  obtain ⟨U,rfl⟩:=Int.eq_ofNat_of_zero_le hpv.1
  obtain ⟨V,rfl⟩:=Int.eq_ofNat_of_zero_le (show 0≤vars by omega)
  obtain ⟨b,rfl⟩:=Int.eq_ofNat_of_zero_le (show 0≤bl by omega)
  obtain ⟨q,rfl⟩:=Int.eq_ofNat_of_zero_le (show 0≤qs by omega)
  obtain ⟨v,rfl⟩:=Int.eq_ofNat_of_zero_le (show 0≤bw by omega)
  rw [Int.toNat_natCast] at hbad
  exact Jl p U V A n c rows b v q w hr ht (by omega) (by omega) (by omega) (by omega) (by omega) (by omega)
structure TabFor (L:Xf) (pu:Nat) (vars:Int) (rows:List Zv):Prop where
 nr:L.rows=rows.length
 sec:vars=(L.secret:Int)+1+(pu:Int)
 small:(pu:Int)≤4294967296
def RRx (B:Nat) (w:World) (v:Value) (l:List (List Nat)):Prop:=(∀ q,v.ownBlock=some q→B≤q)∧∀ u:World,(∀ b,B≤b→b<w.heap.size→u.heap[b]?=w.heap[b]?)→XL u [v] l
theorem RRx.mono {B C:Nat} {w:World} {v:Value} {l:List (List Nat)} (h:RRx B w v l) (hC:C≤B):RRx C w v l:=⟨fun q e=>Nat.le_trans hC (h.1 q e),fun u hu=>h.2 u fun b h1 h2=>hu b (by omega) h2⟩
end Go.Proofs.YtdhhdplholkmdaaGreat
