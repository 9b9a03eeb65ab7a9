/- A part of the proof. No condition. -/
import Derived.Test.YtjipleoamlmkfaaGreatProg
import Derived.Test.YtjipleoamlmkfaaGreatPG12
import Derived.Test.YtjipleoamlmkfaaGreatPG15

set_option maxRecDepth 100000
set_option maxHeartbeats 8000000
set_option linter.unusedVariables false
set_option linter.unusedSimpArgs false
namespace Go.Proofs.YtjipleoamlmkfaaGreat
open Go.RowKit
def gu (l:List (Int × Nat)) (j:Nat):Int:=if j=0 then -1 else (l.getD (j-1) (0,0)).1
theorem vO {p:Nat} {n:Int} {l:List (Int × Nat)} {j:Nat} (hb:∀ k<j,tj p n l k=false) :
  tj p n l j=(decide ((l.getD j (0,0)).1 <= gu l j)||decide (n <= (l.getD j (0,0)).1)||(l.getD j (0,0)).2 == 0||decide (p <= (l.getD j (0,0)).2)):=by
 have h1:-1 <= gu l j:=by
  unfold gu;split
  ·omega
  ·have h:=hb (j-1) (by omega)
   unfold tj at h;simp only [Bool.or_eq_false_iff,decide_eq_false_iff_not] at h;omega
 unfold tj;have e:(decide ((l.getD j (0,0)).1<0)||(decide (0<j)&&decide ((l.getD j (0,0)).1 <= (l.getD (j-1) (0,0)).1)))=decide ((l.getD j (0,0)).1 <= gu l j):=by
  rw [Bool.eq_iff_iff];simp only [Bool.or_eq_true,Bool.and_eq_true,decide_eq_true_eq];unfold gu at h1 |-;split
  ·omega
  ·rename_i h0
   rw [if_neg h0] at h1;omega
 rw [<- e];cases decide ((l.getD j (0,0)).1<0) <;> cases decide (n <= (l.getD j (0,0)).1) <;> simp
theorem SE (p:Nat) (pub n:Int) (rows:Value) (A:Option Addr) (len c:Nat) (l:List (Int × Nat)) (w:World) (hl:RLin w [.slice A len c] l) (hs:slc rows) :
  Calls Tryz.prog 215 #[Ib p pub n rows, .slice A len c] w fun e w'=>e= .returned (.bool (ue p n l)) /\ Below w.heap.size w w':=by
 obtain ⟨A',n',c',he,hlen,Sc,Gd,za⟩:=hl;simp at he
 obtain ⟨rfl,rfl,rfl⟩:=he;obtain ⟨As,ns,cs,rfl⟩:=hs;subst hlen;unfold Ib;have kt:=Blk.new w 25 #[.int .u64 p, .int .i64 pub, .int .i64 n, .slice As ns cs];have aa:Below w.heap.size w (w.alloc (.cells #[.int .u64 p, .int .i64 pub, .int .i64 n, .slice As ns cs] 25)):=(Below.refl _ _).alloc zR _;have g0:(l.length:Int) <= 9223372036854775807:=by
  have h4:=Gd;simp [maxLen] at h4
  omega
 go_enter Tryz.func215,Tryz.ntmps215
 go_wp2_with fail
 generalize w.alloc _=w1 at kt aa |-;go_loopw [5,10] (fun u i wr=>∃ (j:Nat) (la:Int),j <= l.length /\ i= .int .i64 j /\ u= .int .i64 la /\ Hid (la=gu l j) /\ Blk wr w.heap.size 25 #[.int .u64 p, .int .i64 pub, .int .i64 n, .slice As ns cs] /\ Below w.heap.size w wr /\ Hid (∀ k<j,tj p n l k=false))
  (fun _ i _=>l.length-(intOf i).toNat)
 case atStart=>exact ⟨0,-1,Nat.zero_le _,rfl,rfl,rfl,kt,aa,fun k hk=>by omega⟩
 case round =>
  clear kt aa;obtain ⟨j,la,hj,rfl,rfl,HLA,kt,aa,HB⟩:=hrel;by_cases oa:j<l.length
  ·have HL:=zH oa
   obtain ⟨b,q,rfl⟩:=za.base (by omega) (by omega)
   have Nl:=za.below yw aa;obtain ⟨c1,c2⟩:=RLin.at_ Nl oa;have Za:=World.block_lt_of_cell? _ _ c1;simp only at Za;have g1:(0:Int) <= (j:Int):=by omega
   have g2:(j:Int)<(l.length:Int):=by omega
   have HD:=zH (vO HB.out);have HNX:=zH (show (l.getD j (0,0)).1=gu l (j+1) by simp [gu])
   rw [<- HLA.out] at HD;revert c1 c2 HD HNX
   generalize (l.getD j (0,0)).1=x;generalize (l.getD j (0,0)).2=y;intro c1 c2 HD HNX;have ct:=kt.cell;have lt:=kt.lt;clear za Nl HLA;by_cases z1:x <= la
   ·have d1:=decide_eq_true z1
    go_wp2_with fail
    go_ret
    exact ⟨by rw [Gn HL.out (HD.out.trans (by simp [d1]))];rfl,aa.alloc aa.size _⟩
   ·have d1:=decide_eq_false z1
    by_cases z2:n <= x
    ·have d2:=decide_eq_true z2
     go_wp2_with fail
     go_ret
     exact ⟨by rw [Gn HL.out (HD.out.trans (by simp [d1,d2]))];rfl,aa.alloc aa.size _⟩
    ·have d2:=decide_eq_false z2
     by_cases z4:y=0
     ·have HY:=zH z4
      subst z4;go_wp2_with fail
      go_ret
      exact ⟨by rw [Gn HL.out (HD.out.trans (by simp [d1,d2]))];rfl,aa.alloc aa.size _⟩
     ·have d4:((y:Int) == 0)=false:=by rw [beq_eq_false_iff_ne];omega
      have d4':(y == 0)=false:=by rw [beq_eq_false_iff_ne];exact z4
      by_cases z5:p <= y
      ·have d5:decide ((p:Int) <= (y:Int))=true:=decide_eq_true (by omega)
       have d5':=decide_eq_true z5;go_wp2_with fail
       go_ret
       exact ⟨by rw [Gn HL.out (HD.out.trans (by simp [d1,d2,d4',d5']))];rfl,aa.alloc aa.size _⟩
      ·have d5:decide ((p:Int) <= (y:Int))=false:=decide_eq_false (by omega)
       have d5':=decide_eq_false z5;have HE:=zH (show tj p n l j=false from HD.out.trans (by simp [d1,d2,d4',d5']))
       clear d4' d5';go_wp2_with fail
       go_roundw
       case rel=>exact ⟨j+1,x,by omega,by go_num,rfl,HNX.out,kt.alloc _,aa.alloc aa.size _,nD HB.out HE.out⟩
       case measure=>simp [intOf];omega
  ·obtain rfl:l.length=j:=by omega
   go_wp2;go_ret
   exact ⟨by rw [JI HB.out];rfl,aa⟩
theorem sQ (p:Nat) (pub vars:Int) (rows:Value) (r:Ya) (x y z:Value) (w:World) (hx:RLin w [x] r.a) (hy:RLin w [y] r.b) (hz:RLin w [z] r.c) (hs:slc rows) :
  Calls Tryz.prog 165 #[Ib p pub vars rows, .agg #[x,y,z]] w fun e w'=>e= .returned (.bool (qh p vars r)) /\ Below w.heap.size w w':=by
 obtain ⟨A1,n1,c1,rfl⟩:=RSl.slc hx;obtain ⟨A2,n2,c2,rfl⟩:=RSl.slc hy;obtain ⟨A3,n3,c3,rfl⟩:=RSl.slc hz;have HX:=zH (fun w' (hb:Below w.heap.size w w')=>SE p pub vars rows _ _ _ r.a w' (se _ _ _ _ hb hx) hs)
 have HY:=zH (fun w' (hb:Below w.heap.size w w')=>SE p pub vars rows _ _ _ r.b w' (se _ _ _ _ hb hy) hs)
 have HZ:=zH (fun w' (hb:Below w.heap.size w w')=>SE p pub vars rows _ _ _ r.c w' (se _ _ _ _ hb hz) hs)
 obtain ⟨As,ns,cs,rfl⟩:=hs;have hR:qh p vars r=(ue p vars r.a&&ue p vars r.b&&ue p vars r.c):=rfl;rw [hR];clear hR hx hy hz;generalize ue p vars r.a=b1 at *;generalize ue p vars r.b=b2 at *;generalize ue p vars r.c=b3 at *;unfold Ib at *;obtain ⟨kt,kr,aa,-⟩:=ah w 25 170 #[.int .u64 p, .int .i64 pub, .int .i64 vars, .slice As ns cs] #[.slice A1 n1 c1, .slice A2 n2 c2, .slice A3 n3 c3];go_enter Tryz.func165,Tryz.ntmps165
 go_wp2_with fail
 generalize (w.alloc _).alloc _=w0 at kt kr aa |-;refine (HX.out _ aa).mono ?_;rintro e w1 ⟨rfl,ya⟩;replace kt:=ea kt ya;replace kr:=ea kr ya;replace aa:=ja aa ya;clear ya;have ct:=kt.cell;have cr:=kr.cell;cases b1
 ·go_wp2
  go_ret
  exact ⟨rfl,aa⟩
 go_wp2_with fail
 refine (HY.out _ aa).mono ?_;rintro e w2 ⟨rfl,xa⟩;replace kt:=ea kt xa;replace kr:=ea kr xa;replace aa:=ja aa xa;clear xa ct cr;have ct:=kt.cell;have cr:=kr.cell;cases b2
 ·go_wp2
  go_ret
  exact ⟨rfl,aa⟩
 go_wp2_with fail
 refine (HZ.out _ aa).mono ?_;rintro e w3 ⟨rfl,Ga⟩;go_wp2;go_ret
 exact ⟨by simp,ja aa Ga⟩
theorem NM (p:Nat) (w:World) (hp:Db p=false) :
  Calls Tryz.prog 168 #[fv p] w fun e w'=>e= .returned (.bool false) /\ Below w.heap.size w w':=by
 unfold Db at hp;simp only [Bool.or_eq_false_iff,beq_eq_false_iff_ne] at hp;obtain ⟨⟨⟨⟨⟨⟨h1,h2⟩,h3⟩,h4⟩,h5⟩,h6⟩,h7⟩:=hp;have d1:((p:Int) == 17)=false:=by rw [beq_eq_false_iff_ne];omega
 have d2:((p:Int) == 97)=false:=by rw [beq_eq_false_iff_ne];omega
 have d3:((p:Int) == 193)=false:=by rw [beq_eq_false_iff_ne];omega
 have d4:((p:Int) == 257)=false:=by rw [beq_eq_false_iff_ne];omega
 have d5:((p:Int) == 12289)=false:=by rw [beq_eq_false_iff_ne];omega
 have d6:((p:Int) == 65537)=false:=by rw [beq_eq_false_iff_ne];omega
 have d7:((p:Int) == 18446744069414584321)=false:=by rw [beq_eq_false_iff_ne];omega
 clear h1 h2 h3 h4 h5 h6 h7;unfold fv;go_enter Tryz.func168,Tryz.ntmps168
 go_wp2_with fail
 go_ret
 exact ⟨rfl,(Below.refl _ _).alloc zR _⟩
theorem OM (p:Nat) (w:World):Calls Tryz.prog 168 #[fv p] w fun e w'=>e= .returned (.bool (Db p)) /\ Below w.heap.size w w':=by
 cases h:Db p
 ·exact NM p w h
 ·exact Pj p w h
theorem uQ (p:Nat) (pub vars:Int) (rows:Value) (w:World) (hs:slc rows) :
  Calls Tryz.prog 164 #[Ib p pub vars rows] w fun e w'=>e= .returned (.bool (Db p&&!decide (pub<0)&&!decide (vars <= pub)&&!decide (65536<vars))) /\ Below w.heap.size w w':=by
 have HV:=zH (fun w=>OM p w)
 obtain ⟨As,ns,cs,rfl⟩:=hs;generalize Db p=b0 at *;unfold Ib fv at *;have kt:=Blk.new w 25 #[.int .u64 p, .int .i64 pub, .int .i64 vars, .slice As ns cs];have aa:Below w.heap.size w (w.alloc (.cells #[.int .u64 p, .int .i64 pub, .int .i64 vars, .slice As ns cs] 25)):=(Below.refl _ _).alloc zR _;go_enter Tryz.func164,Tryz.ntmps164
 go_wp2_with fail
 generalize w.alloc _=w0 at kt aa |-;refine (HV.out _).mono ?_;rintro e w1 ⟨rfl,ya⟩;replace kt:=ea kt ya;replace aa:=ja aa ya;clear ya;have ct:=kt.cell;cases b0
 ·go_wp2
  go_ret
  exact ⟨rfl,aa⟩
 by_cases z1:pub<0
 ·have d1:decide (0 <= pub)=false:=decide_eq_false (by omega)
  have e1:=decide_eq_true z1;go_wp2;go_ret
  exact ⟨by simp [e1],aa⟩
 have d1:decide (0 <= pub)=true:=decide_eq_true (by omega)
 have e1:=decide_eq_false z1;by_cases z2:vars <= pub
 ·have d2:decide (pub<vars)=false:=decide_eq_false (by omega)
  have e2:=decide_eq_true z2;go_wp2;go_ret
  exact ⟨by simp [e2],aa⟩
 have d2:decide (pub<vars)=true:=decide_eq_true (by omega)
 have e2:=decide_eq_false z2;by_cases z3:65536<vars
 ·have d3:decide (vars <= 65536)=false:=decide_eq_false (by omega)
  have e3:=decide_eq_true z3;go_wp2;go_ret
  exact ⟨by simp [e3],aa⟩
 have d3:decide (vars <= 65536)=true:=decide_eq_true (by omega)
 have e3:=decide_eq_false z3;go_wp2;go_ret
 exact ⟨by simp [e1,e2,e3],aa⟩
theorem Az (p:Nat) (pub vars:Int) (A:Option Addr) (n c:Nat) (rows:List Ya) (w:World) (hr:RSl 3 Md w [.slice A n c] rows) :
  Calls Tryz.prog 89 #[Ib p pub vars (.slice A n c)] w fun e w'=>e= .returned (.bool (Gb p pub vars rows)) /\ Below w.heap.size w w':=by
 have HS:=zH (fun w=>uQ p pub vars (.slice A n c) w ⟨_,_,_,rfl⟩)
 have HR:=zH (fun r x y z w hx hy hz=>sQ p pub vars (.slice A n c) r x y z w hx hy hz ⟨_,_,_,rfl⟩)
 obtain ⟨A',n',c',he,hlen,Sc,Gd,za⟩:=hr;simp at he
 obtain ⟨rfl,rfl,rfl⟩:=he;subst hlen;have g0:(rows.length:Int) <= 9223372036854775807:=by
  have h4:=Gd;simp [maxLen] at h4
  omega
 have E:=zH (show Gb p pub vars rows=((Db p&&!decide (pub<0)&&!decide (vars <= pub)&&!decide (65536<vars))&&!decide ((16384:Int)<(rows.length:Int))&&rows.all (qh p vars)) from rfl)
 revert HS E
 generalize Gb p pub vars rows=ans;generalize (Db p&&!decide (pub<0)&&!decide (vars <= pub)&&!decide (65536<vars))=b0;intro HS E;unfold Ib at *;have kt:=Blk.new w 25 #[.int .u64 p, .int .i64 pub, .int .i64 vars, .slice A rows.length c];have aa:Below w.heap.size w (w.alloc (.cells #[.int .u64 p, .int .i64 pub, .int .i64 vars, .slice A rows.length c] 25)):=(Below.refl _ _).alloc zR _;go_enter Tryz.func89,Tryz.ntmps89
 go_wp2_with fail
 generalize w.alloc _=w0 at kt aa |-;refine (HS.out _).mono ?_;rintro e w1 ⟨rfl,ya⟩;replace kt:=ea kt ya;replace aa:=ja aa ya;clear ya;have ct:=kt.cell;cases b0
 ·go_wp2
  go_ret
  exact ⟨by rw [E.out];simp,aa⟩
 by_cases z4:(16384:Int)<(rows.length:Int)
 ·have d4:=decide_eq_true z4
  go_wp2;go_ret
  exact ⟨by rw [E.out];simp [d4],aa⟩
 have d4:=decide_eq_false z4;have E2:=zH (show ans=rows.all (qh p vars) by rw [E.out,d4];simp)
 clear E;go_wp2_with fail
 clear ct;go_loopw [17] (fun i wr=>∃ j:Nat,j <= rows.length /\ i= .int .i64 j /\ Blk wr w.heap.size 25 #[.int .u64 p, .int .i64 pub, .int .i64 vars, .slice A rows.length c] /\ Below w.heap.size w wr /\ Hid (∀ k<j,∀ h:k<rows.length,qh p vars rows[k]=true))
  (fun i _=>rows.length-(intOf i).toNat)
 case atStart=>exact ⟨0,Nat.zero_le _,rfl,kt,aa,fun k hk=>by omega⟩
 case round =>
  clear kt aa;obtain ⟨j,hj,rfl,kt,aa,HB⟩:=hrel;by_cases oa:j<rows.length
  ·have HL:=zH oa
   obtain ⟨b,q,rfl⟩:=za.base (by omega) (by omega)
   obtain ⟨cs,-,hc,x,y,z,rfl,Ec,Vd,Zb⟩:=(za.below Ke aa).get oa;have h0:wr.cell? ⟨b,q+j*3,none⟩=some x:=hc 0 (by omega)
   have h1:wr.cell? ⟨b,q+j*3+1,none⟩=some y:=hc 1 (by omega)
   have h2:wr.cell? ⟨b,q+j*3+2,none⟩=some z:=hc 2 (by omega)
   have i1:(0:Int) <= (j:Int):=by omega
   have i2:(j:Int)<(rows.length:Int):=by omega
   have Za:=World.block_lt_of_cell? _ _ h0;simp only at Za;have HC:=zH (fun w' (hb:Below wr.heap.size wr w')=>HR.out rows[j] x y z w' (se _ _ _ _ hb Ec) (se _ _ _ _ hb Vd) (se _ _ _ _ hb Zb))
   obtain ⟨A1,n1,c1,rfl⟩:=RSl.slc Ec;obtain ⟨A2,n2,c2,rfl⟩:=RSl.slc Vd;obtain ⟨A3,n3,c3,rfl⟩:=RSl.slc Zb;have ia:=(Below.refl wr.heap.size wr).alloc zR (.cells #[.slice A1 n1 c1, .slice A2 n2 c2, .slice A3 n3 c3] 170);have ct:=kt.cell;have lt:=kt.lt;clear hc Ec Vd Zb;go_wp2_with fail
   refine (HC.out _ ia).mono ?_;rintro e w3 ⟨rfl,Ga⟩;have Pa:=ja ia Ga;replace kt:=ea kt Pa;replace aa:=ja aa Pa;clear ia Ga Pa h0 h1 h2 ct lt;cases bo:qh p vars rows[j]
   ·have HO:=zH bo
    clear bo;go_wp2;go_ret
    exact ⟨by rw [E2.out,List.all_eq_false.2 ⟨rows[j],List.getElem_mem HL.out,fun h=>Bool.noConfusion (HO.out.symm.trans h)⟩];rfl,aa⟩
   ·have HO:=zH bo
    clear bo;go_wp2
    go_roundw
    case rel =>
     refine ⟨j+1,by omega,by go_num,kt,aa,fun k hk h=>?_⟩
     by_cases e:k<j
     ·exact HB.out k e h
     ·obtain rfl:k=j:=by omega
      exact HO.out
    case measure=>simp [intOf];omega
  ·obtain rfl:rows.length=j:=by omega
   go_wp2;go_ret
   exact ⟨by rw [E2.out,List.all_eq_true.2 fun r hr=>by obtain ⟨k,hk,rfl⟩:=List.getElem_of_mem hr;exact HB.out k hk hk];rfl,aa⟩
theorem GB (n k:Nat) (w:World) (hn:n <= 1000000000) (hk:0<k) (mn:k <= 1000000000) :
  Calls Tryz.prog 91 #[.int .i64 n, .int .i64 k] w fun e w'=>e= .returned (.int .i64 (((n+k-1) / k:Nat):Int)) /\ w'=w:=by
 have e1:(n:Int)+(k:Int)=((n+k:Nat):Int):=by omega
 obtain ⟨s,hs⟩:=zEX (n+k);obtain ⟨t,ht⟩:=zEX (n+k-1);obtain ⟨r,hr⟩:=zEX (t / k);have e2:(s:Int)-1=(t:Int):=by omega
 rw [<- hs] at e1;rw [<- ht,<- hr];have e3:(t:Int) / (k:Int)=(r:Int):=by rw [hr];rfl
 have e4:(t:Int).tdiv (k:Int)=(r:Int):=by rw [hr];rfl
 have e5:=zd s;have e6:=zd t;have pj:r <= t:=by rw [hr];exact Nat.div_le_self _ _
 have e7:=zd r;have q1:(0:Int)<(k:Int):=by omega
 have q2:¬((k:Int)=0):=by omega
 have q3:¬(k=0):=by omega
 clear hs ht hr pj;go_enter Tryz.func91,Tryz.ntmps91
 go_wp2_with fail
 go_ret
 exact ⟨rfl,rfl⟩
def Vx (bl bw qs:Int):Prop:=bl<2 \/ 256<bl \/ bl.toNat &&& (bl.toNat-1)≠0 \/ qs<1 \/ 64<qs \/ (bw≠1 /\ bw≠2 /\ bw≠4 /\ bw≠8)
theorem jP {p:Nat} {pub vars:Int} {nr:Nat} {bl bw qs:Int} (h:Vx bl bw qs):Vl ⟨p,pub,vars,nr,bl,bw,qs⟩=1:=if_pos h
theorem xQ (bl bw qs:Int) (w:World) (h:Vx bl bw qs) :
  Calls Tryz.prog 90 #[.agg #[.int .i64 bl, .int .i64 bw, .int .i64 qs]] w fun e w'=>e= .returned (.bool false) /\ Below w.heap.size w w':=by
 have aa:Below w.heap.size w (w.alloc (.cells #[.int .i64 bl, .int .i64 bw, .int .i64 qs] 27)):=(Below.refl _ _).alloc zR _;by_cases hw:bw≠1 /\ bw≠2 /\ bw≠4 /\ bw≠8
 ·obtain ⟨h1,h2,h3,h4⟩:=hw
  have d1:(bw != 1)=true:=by rw [bne_iff_ne];exact h1
  have d2:(bw != 2)=true:=by rw [bne_iff_ne];exact h2
  have d3:(bw != 4)=true:=by rw [bne_iff_ne];exact h3
  have d4:(bw != 8)=true:=by rw [bne_iff_ne];exact h4
  clear h h1 h2 h3 h4;go_enter Tryz.func90,Tryz.ntmps90
  go_wp2_with fail
  go_ret
  exact ⟨rfl,aa⟩
 have Dr:bw=1 \/ bw=2 \/ bw=4 \/ bw=8:=by omega
 by_cases z1:bl<2
 ·have d1:decide (2 <= bl)=false:=decide_eq_false (by omega)
  clear h hw;rcases Dr with rfl | rfl | rfl | rfl <;>
  ·go_enter Tryz.func90,Tryz.ntmps90
   go_wp2_with fail
   go_ret
   exact ⟨rfl,aa⟩
 have d1:decide (2 <= bl)=true:=decide_eq_true (by omega)
 by_cases z2:256<bl
 ·have d2:decide (bl <= 256)=false:=decide_eq_false (by omega)
  clear h hw;rcases Dr with rfl | rfl | rfl | rfl <;>
  ·go_enter Tryz.func90,Tryz.ntmps90
   go_wp2_with fail
   go_ret
   exact ⟨rfl,aa⟩
 have d2:decide (bl <= 256)=true:=decide_eq_true (by omega)
 obtain ⟨b,rfl⟩:=Int.eq_ofNat_of_zero_le (show 0 <= bl by omega)
 unfold Vx at h;rw [Int.toNat_natCast] at h;have hand:=rA ⟨b,by omega⟩ (by show 2 <= b;omega)
 simp only at hand;have i1:(1:Int) <= (b:Int):=by omega
 have i2:(0:Int) <= (b:Int)-1:=by omega
 have i3:(b:Int) <= 256:=by omega
 by_cases z3:b &&& (b-1)=0
 ·rw [z3] at hand
  have hq:¬(1 <= qs /\ qs <= 64):=by omega
  clear h hw z3;by_cases z4:qs<1
  ·have d4:decide (1 <= qs)=false:=decide_eq_false (by omega)
   rcases Dr with rfl | rfl | rfl | rfl <;>
   ·go_enter Tryz.func90,Tryz.ntmps90
    go_wp2_with fail
    go_ret
    exact ⟨rfl,aa⟩
  ·have d4:decide (1 <= qs)=true:=decide_eq_true (by omega)
   have d5:decide (qs <= 64)=false:=decide_eq_false (by omega)
   rcases Dr with rfl | rfl | rfl | rfl <;>
   ·go_enter Tryz.func90,Tryz.ntmps90
    go_wp2_with fail
    go_ret
    exact ⟨rfl,aa⟩
 ·obtain ⟨v,hv⟩:=zEX (b &&& (b-1))
  rw [<- hv] at hand z3;have d3:((v:Int) == 0)=false:=by rw [beq_eq_false_iff_ne];omega
  clear h hw hv z3;rcases Dr with rfl | rfl | rfl | rfl <;>
  ·go_enter Tryz.func90,Tryz.ntmps90
   go_wp2_with fail
   go_ret
   exact ⟨rfl,aa⟩
theorem yQ (b bw q:Nat) (w:World) (h0:2 <= b) (h1:b <= 256) (h2:b &&& (b-1)=0) (h3:1 <= q) (h4:q <= 64) (Dr:bw=1 \/ bw=2 \/ bw=4 \/ bw=8) :
  Calls Tryz.prog 90 #[.agg #[.int .i64 b, .int .i64 bw, .int .i64 q]] w fun e w'=>e= .returned (.bool true) /\ Below w.heap.size w w':=by
 have hand:=rA ⟨b,by omega⟩ (by show 2 <= b;omega)
 simp only at hand;rw [h2] at hand;have i1:(1:Int) <= (b:Int):=by omega
 have i2:(0:Int) <= (b:Int)-1:=by omega
 have i3:(b:Int) <= 256:=by omega
 have d1:decide ((2:Int) <= (b:Int))=true:=decide_eq_true (by omega)
 have d2:decide ((b:Int) <= 256)=true:=decide_eq_true (by omega)
 have d4:decide ((1:Int) <= (q:Int))=true:=decide_eq_true (by omega)
 have d5:decide ((q:Int) <= 64)=true:=decide_eq_true (by omega)
 clear h0 h1 h2 h3 h4;have aa:Below w.heap.size w (w.alloc (.cells #[.int .i64 b, .int .i64 bw, .int .i64 q] 27)):=(Below.refl _ _).alloc zR _;rcases Dr with rfl | rfl | rfl | rfl <;>
 ·go_enter Tryz.func90,Tryz.ntmps90
  go_wp2_with fail
  go_ret
  exact ⟨rfl,aa⟩
section
variable (p:Nat) (pub vars:Int) (A:Option Addr) (n c:Nat) (rows:List Ya) (bl bw qs:Int) (w:World)
theorem mQ (hr:RSl 3 Md w [.slice A n c] rows) (ht:Gb p pub vars rows=true) (Hk:Vx bl bw qs) :
  Calls Tryz.prog 31 (ik p pub vars A n c bl bw qs) w fun e w'=>e= .returned (.tuple #[.agg Cd, .int .i64 1]) /\ Below w.heap.size w w':=by
 have HV:=zH (fun w' (hb:Below w.heap.size w w')=>Az p pub vars A n c rows w' (Le Ke _ _ _ _ hb hr))
 have HP:=zH (fun w=>xQ bl bw qs w Hk)
 rw [ht] at HV;clear hr ht Hk;unfold ik Ib Cd at *;obtain ⟨kt,kx,kz,aa,-⟩:=Bl w 25 27 68 #[.int .u64 p, .int .i64 pub, .int .i64 vars, .slice A n c] #[.int .i64 bl, .int .i64 bw, .int .i64 qs] #[.int .u64 0, .int .i64 0, .int .i64 0, .int .i64 0, .int .i64 0, .int .i64 0, .int .i64 0, .int .i64 0, .int .i64 0, .int .i64 0, .int .i64 0];go_enter Tryz.func31,Tryz.ntmps31
 go_wp2_with fail
 generalize ((w.alloc _).alloc _).alloc _=w0 at kt kx kz aa |-;refine (HV.out _ aa).mono ?_;rintro e w1 ⟨rfl,ya⟩;replace kt:=ea kt ya;replace kx:=ea kx ya;replace kz:=ea kz ya;replace aa:=ja aa ya;have cx:=kx.cell;clear ya;go_wp2_with fail
 refine (HP.out _).mono ?_;rintro e w2 ⟨rfl,xa⟩;replace kz:=ea kz xa;replace aa:=ja aa xa;clear xa cx;have cz:=kz.cell;have fz:=kz.frozen;go_wp2_with fail
 obtain ⟨wf,yb,kW,hW⟩:=Vn kz aa;rw [yb];clear yb cz fz kz aa;have c4:=kW.cell;exact bodyPost_ret (v:=.tuple #[.agg #[.int .u64 0, .int .i64 0, .int .i64 0, .int .i64 0, .int .i64 0, .int .i64 0, .int .i64 0, .int .i64 0, .int .i64 0, .int .i64 0, .int .i64 0], .int .i64 1]) (by simp [results,Tryz.results31,go_sem,c4]) rfl ⟨rfl,hW⟩
end
theorem dy {w:World} (g i:Nat) (v:Value):w.grownBy (w.setCell ⟨g,i,none⟩ v) (some g):=Yd (p:=⟨g,i,none⟩) (Lc w _) (.inl rfl) _
def Iy (w:World) (g i:Nat):Nat:=match w.cell? ⟨g,i,none⟩ with | some (.int _ n)=>n.toNat | _=>0
theorem nQ (p U V:Nat) (A:Option Addr) (n c:Nat) (rows:List Ya) (b bw q:Nat) (w:World) (hr:RSl 3 Md w [.slice A n c] rows) (ht:Gb p U V rows=true)
  (h0:2 <= b) (h1:b <= 256) (h2:b &&& (b-1)=0) (h3:1 <= q) (h4:q <= 64) (hw:bw=1 \/ bw=2 \/ bw=4 \/ bw=8) :
  Calls Tryz.prog 31 (ik p U V A n c b bw q) w fun e w'=>Ts ⟨p,U,V,rows.length,b,bw,q⟩ e /\ Below w.heap.size w w':=by
 have Ia:=wu ht;obtain ⟨Pd,hp⟩:=nc Ia;have HV:=zH (fun w' (hb:Below w.heap.size w w')=>Az p U V A n c rows w' (Le Ke _ _ _ _ hb hr))
 have HPa:=zH (fun w=>yQ b bw q w h0 h1 h2 h3 h4 hw)
 rw [ht] at HV;have ow:U<V /\ V <= 65536 /\ rows.length <= 16384:=by
  unfold Gb at ht;simp only [Bool.and_eq_true,Bool.not_eq_true',decide_eq_false_iff_not] at ht;omega
 obtain ⟨t1,t2,t3⟩:=ow;obtain ⟨A',n',c',he,hlen,Sc,Gd,-⟩:=hr;simp at he
 obtain ⟨rfl,rfl,rfl⟩:=he;subst hlen;have hbw8:bw <= 8 /\ 1 <= bw:=by omega
 obtain ⟨k,hk⟩:=zEX (b+q);obtain ⟨kk,Xo⟩:=zEX (2*k);obtain ⟨s,hs⟩:=zEX (V-1-U);obtain ⟨v1,mf⟩:=zEX (V-1);obtain ⟨pm,jj⟩:=zEX (p-1);have ek:(b:Int)+(q:Int)=(k:Int):=by omega
 have ek1:=zd k;have Cv:(2:Int)*(k:Int)=(kk:Int):=by omega
 have ek3:=zd kk;have ev:(V:Int)-1=(v1:Int):=by omega
 have ev2:=zd v1;have es:(v1:Int)-(U:Int)=(s:Int):=by omega
 have es2:=zd s;have ep:IntKind.u64.wrap ((p:Int)-1)=(pm:Int):=by rw [jj];exact Yn p 1 (by omega) hp
 have ep2:(p:Int)-1=(pm:Int):=by omega
 have ep3:IntKind.u64.wrap (pm:Int)=(pm:Int):=pg _ (by omega)
 have j1:kk <= 640:=by omega
 have j2:6 <= kk:=by omega
 have hb256:IntKind.u64.wrap (b:Int)=(b:Int):=pg b (by omega)
 have HB:=zH (And.intro h0 h1);have HQ:=zH (And.intro h3 h4);have HK:=zH hk;have HS:=zH hs;have HT:=zH (And.intro Ia (And.intro t1 (And.intro t2 t3)));have HP:=zH (show pm=p-1 /\ 17 <= p from ⟨jj,Pd⟩)
 have HG:=zH (fun N NN hN Se=>bJ (p:=p) (U:=U) (V:=V) (nr:=rows.length) (bw:=bw) (N:=N) (NN:=NN) h0 h1 h2 h3 h4 hw jj hN Se)
 have sc:=zH h2;have HBW:=zH hbw8;have HW:=zH hw;have HKK:=zH (show kk=2*(b+q) by omega)
 have gm:(rows.length:Int) <= 16384:=by omega
 have u1:(rows.length+b-1) / b <= 100000:=Nat.le_trans (Nat.div_le_self _ _) (by omega)
 have u2:(s+b-1) / b <= 100000:=Nat.le_trans (Nat.div_le_self _ _) (by omega)
 have HU:=zH (fun w=>GB rows.length b w (by omega) (by omega) (by omega))
 have xo:=zH (fun w=>GB s b w (by omega) (by omega) (by omega))
 obtain ⟨ub,sw⟩:=zEX ((rows.length+b-1) / b);obtain ⟨ua,qw⟩:=zEX ((s+b-1) / b);rw [<- sw] at HU u1;rw [<- qw] at xo u2;have HUB:=zH sw;have HUA:=zH qw;clear sw qw h0 h1 h2 h3 h4 hk hs Xo Ia hp Pd ht t1 t2 t3 jj hw hbw8 mf;unfold ik Ib at *;obtain ⟨kt,kx,kz,aa,-⟩:=Bl w 25 27 68 #[.int .u64 p, .int .i64 U, .int .i64 V, .slice A rows.length c] #[.int .i64 b, .int .i64 bw, .int .i64 q] #[.int .u64 0, .int .i64 0, .int .i64 0, .int .i64 0, .int .i64 0, .int .i64 0, .int .i64 0, .int .i64 0, .int .i64 0, .int .i64 0, .int .i64 0];go_enter Tryz.func31,Tryz.ntmps31
 go_wp2_with fail
 generalize ((w.alloc _).alloc _).alloc _=w0 at kt kx kz aa |-;refine (HV.out _ aa).mono ?_;rintro e w1 ⟨rfl,ya⟩;replace kt:=ea kt ya;replace kx:=ea kx ya;replace kz:=ea kz ya;replace aa:=ja aa ya;have cx:=kx.cell;clear ya;go_wp2_with fail
 refine (HPa.out _).mono ?_;rintro e w2 ⟨rfl,xa⟩;replace kt:=ea kt xa;replace kx:=ea kx xa;replace kz:=ea kz xa;replace aa:=ja aa xa;clear xa cx;have cx:=kx.cell;have ct:=kt.cell;go_wp2_with fail
 have ia:=(Below.refl w2.heap.size w2).alloc zR (.cells #[.int .u64 p, .int .i64 b, .int .i64 q, .int .i64 k, .int .i64 1, .int .i64 0, .int .i64 0, .int .i64 0, .int .i64 0, .int .i64 0, .int .i64 0] 68);have k6:=Blk.new w2 68 #[.int .u64 p, .int .i64 b, .int .i64 q, .int .i64 k, .int .i64 1, .int .i64 0, .int .i64 0, .int .i64 0, .int .i64 0, .int .i64 0, .int .i64 0];have Zv:w.heap.size+1+1<w2.heap.size:=kz.lt;replace kt:=ea kt ia;replace kx:=ea kx ia;replace kz:=ea kz ia;replace aa:=ja aa ia;clear ia cx ct;generalize w2.alloc _=w3 at kt kx kz aa k6 |-;generalize w2.heap.size=g6 at k6 Zv |-;go_loopw [35] (fun _ wr=>∃ N:Nat,Hid ((∃ z,N=2^z) /\ N<2*kk) /\ N <= 1280 /\ 0<N /\ Blk wr w.heap.size 25 #[.int .u64 p, .int .i64 U, .int .i64 V, .slice A rows.length c] /\ Blk wr (w.heap.size+1) 27 #[.int .i64 b, .int .i64 bw, .int .i64 q] /\ Blk wr (w.heap.size+1+1) 68 #[.int .u64 0, .int .i64 0, .int .i64 0, .int .i64 0, .int .i64 0, .int .i64 0, .int .i64 0, .int .i64 0, .int .i64 0, .int .i64 0, .int .i64 0] /\ Blk wr g6 68 #[.int .u64 p, .int .i64 b, .int .i64 q, .int .i64 k, .int .i64 N, .int .i64 0, .int .i64 0, .int .i64 0, .int .i64 0, .int .i64 0, .int .i64 0] /\ Below w.heap.size w wr) (fun _ wr=>1300-Iy wr g6 4)
 case atStart=>exact ⟨1,⟨⟨0,rfl⟩,by omega⟩,by omega,by omega,kt,kx,kz,k6,aa⟩
 case round =>
  clear kt kx kz k6 aa;obtain ⟨N,HN,wg,ff,kt,kx,kz,k6,aa⟩:=hrel;have cM:Iy wr g6 4=N:=by unfold Iy;rw [k6.cell];simp
  by_cases oa:N<kk
  ·have q1:(N:Int)<(kk:Int):=by omega
   obtain ⟨N2,hN⟩:=zEX (2*N);have e1:(N:Int)*2=(N2:Int):=by omega
   have e2:=zd N2;have HN3:Hid ((∃ z,N2=2^z) /\ N2<2*kk):=by
    obtain ⟨⟨z,hz⟩,-⟩:=HN.out;exact ⟨⟨z+1,by rw [hN,hz,Nat.pow_succ,Nat.mul_comm]⟩,by omega⟩
   have hN4:N2 <= 1280:=by omega
   have hN5:0<N2:=by omega
   have Lf:=zH hN;have HCM:=zH cM;clear hN cM;have c6:=k6.cell;have f6:=k6.frozen;go_wp2_with fail
   have hg:=dy (w:=wr) g6 4 (.int .i64 N2);replace k6:=k6.set_ 4 (.int .i64 N2);simp at k6
   replace kt:=Dc kt hg;replace kx:=Dc kx hg;replace kz:=Dc kz hg;replace aa:=yc aa hg;clear hg c6 f6
   go_roundw
   case rel=>exact ⟨N2,HN3,hN4,hN5,kt,kx,kz,k6,aa⟩
   case measure =>
    have c2:Iy (wr.setCell ⟨g6,4,none⟩ (.int .i64 N2)) g6 4=N2:=by unfold Iy;rw [k6.cell];simp
    rw [c2,HCM.out];have:=Lf.out;omega
  ·have q1:¬((N:Int)<(kk:Int)):=by omega
   clear cM;obtain ⟨NN,Se⟩:=zEX (bw*N);have hNNl:NN <= 10240:=by rw [Se];exact Nat.mul_le_mul HBW.out.1 wg
   have hNN0:0<NN:=by rw [Se];exact Nat.mul_pos (by have:=HBW.out;omega) ff
   have e1:(N:Int)*(bw:Int)=(NN:Int):=by rw [Se,Int.natCast_mul,Int.mul_comm]
   have e2:=zd NN;have eN:IntKind.u64.wrap (NN:Int)=(NN:Int):=pg _ (by omega)
   have VA:(∃ z,N=2^z) /\ 2*(b+q) <= N /\ (1 <= 2*(b+q) -> N<2*(2*(b+q))):=by
    have h:=HN.out;rw [HKK.out] at h;exact ⟨h.1,by rw [<- HKK.out];omega,fun _=>h.2⟩
   replace HG:=zH (HG.out _ _ VA Se);have HNP:Hid (∃ z,NN=2^z):=by
    obtain ⟨z,hz⟩:=VA.1;rcases HW.out with h | h | h | h <;> rw [Se,h,hz]
    ·exact ⟨z,by omega⟩
    ·exact ⟨z+1,by rw [Nat.pow_succ,Nat.mul_comm]⟩
    ·exact ⟨z+2,by rw [Nat.pow_add,Nat.mul_comm]⟩
    ·exact ⟨z+3,by rw [Nat.pow_add,Nat.mul_comm]⟩
   have HNK:Hid (2*k <= NN):=by
    have h1:N <= NN:=by rw [Se];exact Nat.le_mul_of_pos_left _ (by have:=HBW.out;omega)
    have:=VA.2.1;have:=HK.out;show 2*k <= NN
    omega
   clear VA HN Se wg ff oa;have Bm:Hid (∀ {er:Int},(if pm%b≠0 \/ pm%NN≠0 \/ pm <= NN then (7:Int) else if 1024<NN then 3 else 0)=er -> er=Vl ⟨p,U,V,rows.length,b,bw,q⟩):=fun h=>h.symm.trans (HG.out.2).symm
   have c6:=k6.cell;have f6:=k6.frozen;have cx:=kx.cell;have lx:=kx.lt;go_upto_region 7 with fail
   have hg:=dy (w:=wr) g6 4 (.int .i64 NN);replace k6:=k6.set_ 4 (.int .i64 NN);simp at k6
   replace kt:=Dc kt hg;replace kx:=Dc kx hg;replace kz:=Dc kz hg;replace aa:=yc aa hg;clear hg c6 f6 cx lx e1 e2;generalize wr.setCell _ _=w4 at kt kx kz k6 aa |-;have c6:=k6.cell;have ct:=kt.cell;have cz:=kz.cell;have fz:=kz.frozen;have q1:(0:Int)<(b:Int):=by have:=HB.out;omega
   have q2:¬((b:Int)=0):=by omega
   have q3:¬(b=0):=by omega
   have q4:(0:Int)<(NN:Int):=by omega
   have q5:¬((NN:Int)=0):=by omega
   have q6:¬(NN=0):=by omega
   have r1:(pm:Int)%(b:Int)=((pm%b:Nat):Int):=rfl;have r2:(pm:Int)%(NN:Int)=((pm%NN:Nat):Int):=rfl;have r3:(pm:Int).tmod (b:Int)=((pm%b:Nat):Int):=rfl;have r4:(pm:Int).tmod (NN:Int)=((pm%NN:Nat):Int):=rfl;obtain ⟨x1,Ec⟩:=zEX (pm%b);obtain ⟨x2,lh⟩:=zEX (pm%NN);rw [<- Ec] at r1 r3;rw [<- lh] at r2 r4;have rq:=zH Ec.symm;have Vg:=zH lh.symm;clear Ec lh;have fin:∀ (er:Int),er=7 \/ er=3 -> er=Vl ⟨p,U,V,rows.length,b,bw,q⟩ -> Ts ⟨p,U,V,rows.length,b,bw,q⟩ (.returned (.tuple #[.agg Cd, .int .i64 er])):=fun er h h'=>⟨_,_,rfl, .inl ⟨by omega,rfl,h'⟩⟩
   have FIN:=zH fin;clear fin;have KW:=zH (Vn kz aa);by_cases z1:x1=0
   ·subst z1
    by_cases z2:x2=0
    ·subst z2
     by_cases z3:pm <= NN
     ·have y1:decide ((pm:Int) <= (NN:Int))=true:=decide_eq_true (by omega)
      have y2:decide (pm <= NN)=true:=decide_eq_true z3;go_wp2_with fail
      obtain ⟨wf,yb,kW,hW⟩:=KW.out;rw [yb];clear yb cz fz KW;have c4:=kW.cell;exact bodyPost_ret (v:=.tuple #[.agg Cd, .int .i64 7]) (by simp [results,Tryz.results31,go_sem,c4,Cd]) rfl ⟨FIN.out 7 (.inl rfl) (Bm.out (by rw [if_pos (.inr (.inr z3))])),hW⟩
     ·have y1:decide ((pm:Int) <= (NN:Int))=false:=decide_eq_false (by omega)
      have y2:decide (pm <= NN)=false:=decide_eq_false z3;by_cases z4:1024<NN
      ·have y3:decide ((1024:Int)<(NN:Int))=true:=decide_eq_true (by omega)
       have y4:decide (1024<NN)=true:=decide_eq_true z4;go_wp2_with fail
       obtain ⟨wf,yb,kW,hW⟩:=KW.out;rw [yb];clear yb cz fz KW;have c4:=kW.cell;exact bodyPost_ret (v:=.tuple #[.agg Cd, .int .i64 3]) (by simp [results,Tryz.results31,go_sem,c4,Cd]) rfl ⟨FIN.out 3 (.inr rfl) (Bm.out (by rw [if_neg (by rw [rq.out,Vg.out];omega),if_pos z4])),hW⟩
      ·have y3:decide ((1024:Int)<(NN:Int))=false:=decide_eq_false (by omega)
       have y4:decide (1024<NN)=false:=decide_eq_false z4;have HZ3:=zH z3;have HZ4:=zH z4;have f6:=k6.frozen;have l6:=k6.lt;have n1:w.heap.size≠g6:=by omega
       clear KW cz fz FIN;go_upto_region 14 with fail
       have hg:w4.grownBy ((w4.setCell ⟨g6,5,none⟩ (.int .i64 s)).setCell ⟨g6,6,none⟩ (.int .i64 rows.length)) (some g6):=by
        iterate 2 refine Yd ?_ (.inl rfl) _
        exact Lc w4 _
       replace k6:=(k6.set_ 5 (.int .i64 s)).set_ 6 (.int .i64 rows.length);simp at k6
       replace kt:=Dc kt hg;replace kx:=Dc kx hg;replace kz:=Dc kz hg;replace aa:=yc aa hg;clear hg c6 f6 ct l6;generalize (w4.setCell _ _).setCell _ _=w5 at kt kx kz k6 aa |-;have c6:=k6.cell;have f6:=k6.frozen;have l6:=k6.lt;go_wp2_with fail
       refine (xo.out _).mono ?_;rintro e w6 ⟨rfl,rfl⟩;go_upto_region 15 with fail
       have hg:=dy (w:=w6) g6 7 (.int .i64 ua);replace k6:=k6.set_ 7 (.int .i64 ua);simp at k6
       replace kt:=Dc kt hg;replace kx:=Dc kx hg;replace kz:=Dc kz hg;replace aa:=yc aa hg;clear hg c6 f6 l6;generalize w6.setCell _ _=w7 at kt kx kz k6 aa |-;go_wp2_with fail
       go_loopw [8] (fun y wr=>∃ (i:Nat) (x1 x2 x3:Int),1 <= i /\ i <= 4 /\ y= .int .i64 i /\ Hid ((1<i -> x1=ub) /\ (2<i -> x2=ub) /\ (3<i -> x3=ub)) /\ Blk wr (w.heap.size+1+1) 68 #[.int .u64 0, .int .i64 0, .int .i64 0, .int .i64 0, .int .i64 0, .int .i64 0, .int .i64 0, .int .i64 0, .int .i64 0, .int .i64 0, .int .i64 0] /\ Blk wr g6 68 #[.int .u64 p, .int .i64 b, .int .i64 q, .int .i64 k, .int .i64 NN, .int .i64 s, .int .i64 rows.length, .int .i64 ua, .int .i64 x1, .int .i64 x2, .int .i64 x3] /\ Below w.heap.size w wr) (fun y _=>4-(intOf y).toNat)
       case atStart=>exact ⟨1,0,0,0,by omega,by omega,rfl,⟨by omega,by omega,by omega⟩,kz,k6,aa⟩
       case round =>
        clear kt kx kz k6 aa;obtain ⟨i,x1,x2,x3,Di,hi4,rfl,qi,kz,k6,aa⟩:=hrel;have c6:=k6.cell;have f6:=k6.frozen;have l6:=k6.lt;by_cases oa:i<4
        ·have hi:i=1 \/ i=2 \/ i=3:=by omega
         rcases hi with rfl | rfl | rfl
         ·go_wp2_with fail
          refine (HU.out _).mono ?_;rintro e w8 ⟨rfl,rfl⟩;go_wp2_with fail
          have hg:=dy (w:=w8) g6 8 (.int .i64 ub);replace k6:=k6.set_ 8 (.int .i64 ub);simp at k6
          replace kz:=Dc kz hg;replace aa:=yc aa hg;clear hg c6 f6 l6
          go_roundw
          case rel=>exact ⟨2,(ub:Int),x2,x3,by omega,by omega,rfl,⟨by have:=qi.out;omega,by have:=qi.out;omega,by have:=qi.out;omega⟩,kz,k6,aa⟩
          case measure=>simp [intOf]
         ·go_wp2_with fail
          refine (HU.out _).mono ?_;rintro e w8 ⟨rfl,rfl⟩;go_wp2_with fail
          have hg:=dy (w:=w8) g6 9 (.int .i64 ub);replace k6:=k6.set_ 9 (.int .i64 ub);simp at k6
          replace kz:=Dc kz hg;replace aa:=yc aa hg;clear hg c6 f6 l6
          go_roundw
          case rel=>exact ⟨3,x1,(ub:Int),x3,by omega,by omega,rfl,⟨by have:=qi.out;omega,by have:=qi.out;omega,by have:=qi.out;omega⟩,kz,k6,aa⟩
          case measure=>simp [intOf]
         ·go_wp2_with fail
          refine (HU.out _).mono ?_;rintro e w8 ⟨rfl,rfl⟩;go_wp2_with fail
          have hg:=dy (w:=w8) g6 10 (.int .i64 ub);replace k6:=k6.set_ 10 (.int .i64 ub);simp at k6
          replace kz:=Dc kz hg;replace aa:=yc aa hg;clear hg c6 f6 l6
          go_roundw
          case rel=>exact ⟨4,x1,x2,(ub:Int),by omega,by omega,rfl,⟨by have:=qi.out;omega,by have:=qi.out;omega,by have:=qi.out;omega⟩,kz,k6,aa⟩
          case measure=>simp [intOf]
        ·obtain rfl:i=4:=by omega
         obtain ⟨e1,e2,e3⟩:=qi.out;obtain rfl:=e1 (by omega)
         obtain rfl:=e2 (by omega)
         obtain rfl:=e3 (by omega)
         have cz:=kz.cell;have fz:=kz.frozen;have lz:=kz.lt;clear qi e1 e2 e3;go_wp2_with fail
         obtain ⟨wf,yb,kW,hW⟩:=Yr kz aa p b q k NN s rows.length ua ub ub ub;rw [yb];clear yb cz fz c6 f6 kz aa lz l6;have c4:=kW.cell;have HL:Vc ⟨p,b,q,k,NN,s,rows.length,ua,ub⟩:=by
          have hB:=HB.out;have hQ:=HQ.out;have hT:=HT.out;refine ⟨hT.1,hB.1,hB.2,hQ.1,hQ.2,HK.out,HNP.out,by show NN <= 1024;have:=HZ4.out;omega,by have:=HS.out;show s <= 65536;omega,hT.2.2.2,u2,u1,sc.out,?_,?_,?_,HNK.out,HUA.out,HUB.out⟩
          ·show (p-1)%b=0
           rw [<- HP.out.1];exact rq.out
          ·show (p-1)%NN=0
           rw [<- HP.out.1];exact Vg.out
          ·show NN<p-1
           rw [<- HP.out.1];have:=HZ3.out;omega
         have mo:Lm ⟨p,b,q,k,NN,s,rows.length,ua,ub⟩ ⟨p,U,V,rows.length,b,bw,q⟩:=by
          have e1:((V:Int)-1-(U:Int)).toNat=s:=by have:=HS.out;have:=HT.out;omega
          refine ⟨rfl,?_,(Bm.out (by rw [if_neg (by rw [rq.out,Vg.out];have:=HZ3.out;omega),if_neg HZ4.out])).symm,by show (0:Int) <= U;omega,by have:=HT.out;show (U:Int)<V;omega⟩
          have e5:NewIn.n ⟨p,U,V,rows.length,b,bw,q⟩=NN:=HG.out.1.symm;unfold FE;simp only [Int.toNat_natCast,e1];rw [e5,HK.out,HUA.out,HUB.out]
         exact bodyPost_ret (v:=.tuple #[.agg (Ua ⟨p,b,q,k,NN,s,rows.length,ua,ub⟩), .int .i64 0]) (by simp [results,Tryz.results31,go_sem,c4,Ua]) rfl ⟨⟨_,_,rfl, .inr ⟨rfl,_,HL,mo,rfl⟩⟩,hW⟩
    ·have y1:((x2:Int) != 0)=true:=by rw [bne_iff_ne];omega
     have y2:(x2 != 0)=true:=by rw [bne_iff_ne];exact z2
     go_wp2_with fail
     obtain ⟨wf,yb,kW,hW⟩:=KW.out;rw [yb];clear yb cz fz KW;have c4:=kW.cell;exact bodyPost_ret (v:=.tuple #[.agg Cd, .int .i64 7]) (by simp [results,Tryz.results31,go_sem,c4,Cd]) rfl ⟨FIN.out 7 (.inl rfl) (Bm.out (by rw [if_pos (.inr (.inl (by rw [Vg.out];exact z2)))])),hW⟩
   ·have y1:((x1:Int) != 0)=true:=by rw [bne_iff_ne];omega
    have y2:(x1 != 0)=true:=by rw [bne_iff_ne];exact z1
    go_wp2_with fail
    obtain ⟨wf,yb,kW,hW⟩:=KW.out;rw [yb];clear yb cz fz KW;have c4:=kW.cell;exact bodyPost_ret (v:=.tuple #[.agg Cd, .int .i64 7]) (by simp [results,Tryz.results31,go_sem,c4,Cd]) rfl ⟨FIN.out 7 (.inl rfl) (Bm.out (by rw [if_pos (.inl (by rw [rq.out];exact z1))])),hW⟩
theorem lQ (p:Nat) (pub vars:Int) (A:Option Addr) (n c:Nat) (rows:List Ya) (bl bw qs:Int) (w:World) (hr:RSl 3 Md w [.slice A n c] rows) (ht:Gb p pub vars rows=true) :
  Calls Tryz.prog 31 (ik p pub vars A n c bl bw qs) w fun e w'=>Ts ⟨p,pub,vars,rows.length,bl,bw,qs⟩ e /\ Below w.heap.size w w':=by
 by_cases Hk:Vx bl bw qs
 ·exact (mQ p pub vars A n c rows bl bw qs w hr ht Hk).mono fun _ _ h=>⟨⟨_,_,h.1, .inl ⟨by decide,rfl,(jP Hk).symm⟩⟩,h.2⟩
 ·have rn:0 <= pub /\ pub<vars:=by
   have h:=ht;unfold Gb at h;simp only [Bool.and_eq_true,Bool.not_eq_true',decide_eq_false_iff_not] at h;omega
  unfold Vx at Hk;obtain ⟨U,rfl⟩:=Int.eq_ofNat_of_zero_le rn.1;obtain ⟨V,rfl⟩:=Int.eq_ofNat_of_zero_le (show 0 <= vars by omega)
  obtain ⟨b,rfl⟩:=Int.eq_ofNat_of_zero_le (show 0 <= bl by omega)
  obtain ⟨q,rfl⟩:=Int.eq_ofNat_of_zero_le (show 0 <= qs by omega)
  obtain ⟨v,rfl⟩:=Int.eq_ofNat_of_zero_le (show 0 <= bw by omega)
  rw [Int.toNat_natCast] at Hk;exact nQ p U V A n c rows b v q w hr ht (by omega) (by omega) (by omega) (by omega) (by omega) (by omega)
end Go.Proofs.YtjipleoamlmkfaaGreat
