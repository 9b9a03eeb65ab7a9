/- A part of the proof. No condition. -/
import Derived.Test.YtjipleoamlmkfaaGreatProg
import Derived.Test.YtjipleoamlmkfaaGreatPF8
import Derived.Test.YtjipleoamlmkfaaGreatPF16
import Derived.Test.YtjipleoamlmkfaaGreatPF15
import Derived.Test.YtjipleoamlmkfaaGreatPF14
import Derived.Test.YtjipleoamlmkfaaGreatPF13
import Derived.Test.YtjipleoamlmkfaaGreatPF6
import Derived.Test.YtjipleoamlmkfaaGreatPF12
import Derived.Test.YtjipleoamlmkfaaGreatPF2

set_option maxRecDepth 100000
set_option maxHeartbeats 8000000
set_option linter.unusedVariables false
set_option linter.unusedSimpArgs false
namespace Go.Proofs.YtjipleoamlmkfaaGreat
open Go.RowKit
def gu (l:List (Int × Nat)) (j:Nat):Int:=if j=0 then -1 else (l.getD (j-1) (0,0)).1
theorem vO {p:Nat} {n:Int} {l:List (Int × Nat)} {j:Nat} (hb:∀ k<j,tj p n l k=false) :
  tj p n l j=(decide ((l.getD j (0,0)).1 <= gu l j)||decide (n <= (l.getD j (0,0)).1)||(l.getD j (0,0)).2 == 0||decide (p <= (l.getD j (0,0)).2)):=by
 have h1:-1 <= gu l j:=by
  unfold gu;split
  ·omega
  ·have h:=hb (j-1) (by omega)
   unfold tj at h;simp only [Bool.or_eq_false_iff,decide_eq_false_iff_not] at h;omega
 unfold tj;have e:(decide ((l.getD j (0,0)).1<0)||(decide (0<j)&&decide ((l.getD j (0,0)).1 <= (l.getD (j-1) (0,0)).1)))=decide ((l.getD j (0,0)).1 <= gu l j):=by
  rw [Bool.eq_iff_iff];simp only [Bool.or_eq_true,Bool.and_eq_true,decide_eq_true_eq];unfold gu at h1 |-;split
  ·omega
  ·rename_i h0
   rw [if_neg h0] at h1;omega
 rw [<- e];cases decide ((l.getD j (0,0)).1<0) <;> cases decide (n <= (l.getD j (0,0)).1) <;> simp
theorem SE (p:Nat) (pub n:Int) (rows:Value) (A:Option Addr) (len c:Nat) (l:List (Int × Nat)) (w:World) (hl:RLin w [.slice A len c] l) (hs:slc rows) :
  Calls Tryz.prog 215 #[Ib p pub n rows, .slice A len c] w fun e w'=>e= .returned (.bool (ue p n l)) /\ Below w.heap.size w w':=by
 obtain ⟨A',n',c',he,hlen,Sc,Gd,za⟩:=hl;simp at he
 obtain ⟨rfl,rfl,rfl⟩:=he;obtain ⟨As,ns,cs,rfl⟩:=hs;subst hlen;unfold Ib;have kt:=Blk.new w 25 #[.int .u64 p, .int .i64 pub, .int .i64 n, .slice As ns cs];have aa:Below w.heap.size w (w.alloc (.cells #[.int .u64 p, .int .i64 pub, .int .i64 n, .slice As ns cs] 25)):=(Below.refl _ _).alloc zR _;have g0:(l.length:Int) <= 9223372036854775807:=by
  have h4:=Gd;simp [maxLen] at h4
  omega
 go_enter Tryz.func215,Tryz.ntmps215
 go_wp2_with fail
 generalize w.alloc _=w1 at kt aa |-;go_loopw [5,10] (fun u i wr=>∃ (j:Nat) (la:Int),j <= l.length /\ i= .int .i64 j /\ u= .int .i64 la /\ Hid (la=gu l j) /\ Blk wr w.heap.size 25 #[.int .u64 p, .int .i64 pub, .int .i64 n, .slice As ns cs] /\ Below w.heap.size w wr /\ Hid (∀ k<j,tj p n l k=false))
  (fun _ i _=>l.length-(intOf i).toNat)
 case atStart=>exact ⟨0,-1,Nat.zero_le _,rfl,rfl,rfl,kt,aa,fun k hk=>by omega⟩
 case round =>
  clear kt aa;obtain ⟨j,la,hj,rfl,rfl,HLA,kt,aa,HB⟩:=hrel;by_cases oa:j<l.length
  ·have HL:=zH oa
   obtain ⟨b,q,rfl⟩:=za.base (by omega) (by omega)
   have Nl:=za.below yw aa;obtain ⟨c1,c2⟩:=RLin.at_ Nl oa;have Za:=World.block_lt_of_cell? _ _ c1;simp only at Za;have g1:(0:Int) <= (j:Int):=by omega
   have g2:(j:Int)<(l.length:Int):=by omega
   have HD:=zH (vO HB.out);have HNX:=zH (show (l.getD j (0,0)).1=gu l (j+1) by simp [gu])
   rw [<- HLA.out] at HD;revert c1 c2 HD HNX
   generalize (l.getD j (0,0)).1=x;generalize (l.getD j (0,0)).2=y;intro c1 c2 HD HNX;have ct:=kt.cell;have lt:=kt.lt;clear za Nl HLA;by_cases z1:x <= la
   ·have d1:=decide_eq_true z1
    go_wp2_with fail
    go_ret
    exact ⟨by rw [Gn HL.out (HD.out.trans (by simp [d1]))];rfl,aa.alloc aa.size _⟩
   ·have d1:=decide_eq_false z1
    by_cases z2:n <= x
    ·have d2:=decide_eq_true z2
     go_wp2_with fail
     go_ret
     exact ⟨by rw [Gn HL.out (HD.out.trans (by simp [d1,d2]))];rfl,aa.alloc aa.size _⟩
    ·have d2:=decide_eq_false z2
     by_cases z4:y=0
     ·have HY:=zH z4
      subst z4;go_wp2_with fail
      go_ret
      exact ⟨by rw [Gn HL.out (HD.out.trans (by simp [d1,d2]))];rfl,aa.alloc aa.size _⟩
     ·have d4:((y:Int) == 0)=false:=by rw [beq_eq_false_iff_ne];omega
      have d4':(y == 0)=false:=by rw [beq_eq_false_iff_ne];exact z4
      by_cases z5:p <= y
      ·have d5:decide ((p:Int) <= (y:Int))=true:=decide_eq_true (by omega)
       have d5':=decide_eq_true z5;go_wp2_with fail
       go_ret
       exact ⟨by rw [Gn HL.out (HD.out.trans (by simp [d1,d2,d4',d5']))];rfl,aa.alloc aa.size _⟩
      ·have d5:decide ((p:Int) <= (y:Int))=false:=decide_eq_false (by omega)
       have d5':=decide_eq_false z5;have HE:=zH (show tj p n l j=false from HD.out.trans (by simp [d1,d2,d4',d5']))
       clear d4' d5';go_wp2_with fail
       go_roundw
       case rel=>exact ⟨j+1,x,by omega,by go_num,rfl,HNX.out,kt.alloc _,aa.alloc aa.size _,nD HB.out HE.out⟩
       case measure=>simp [intOf];omega
  ·obtain rfl:l.length=j:=by omega
   go_wp2;go_ret
   exact ⟨by rw [JI HB.out];rfl,aa⟩
theorem sQ (p:Nat) (pub vars:Int) (rows:Value) (r:Ya) (x y z:Value) (w:World) (hx:RLin w [x] r.a) (hy:RLin w [y] r.b) (hz:RLin w [z] r.c) (hs:slc rows) :
  Calls Tryz.prog 165 #[Ib p pub vars rows, .agg #[x,y,z]] w fun e w'=>e= .returned (.bool (qh p vars r)) /\ Below w.heap.size w w':=by
 obtain ⟨A1,n1,c1,rfl⟩:=RSl.slc hx;obtain ⟨A2,n2,c2,rfl⟩:=RSl.slc hy;obtain ⟨A3,n3,c3,rfl⟩:=RSl.slc hz;have HX:=zH (fun w' (hb:Below w.heap.size w w')=>SE p pub vars rows _ _ _ r.a w' (se _ _ _ _ hb hx) hs)
 have HY:=zH (fun w' (hb:Below w.heap.size w w')=>SE p pub vars rows _ _ _ r.b w' (se _ _ _ _ hb hy) hs)
 have HZ:=zH (fun w' (hb:Below w.heap.size w w')=>SE p pub vars rows _ _ _ r.c w' (se _ _ _ _ hb hz) hs)
 obtain ⟨As,ns,cs,rfl⟩:=hs;have hR:qh p vars r=(ue p vars r.a&&ue p vars r.b&&ue p vars r.c):=rfl;rw [hR];clear hR hx hy hz;generalize ue p vars r.a=b1 at *;generalize ue p vars r.b=b2 at *;generalize ue p vars r.c=b3 at *;unfold Ib at *;obtain ⟨kt,kr,aa,-⟩:=ah w 25 170 #[.int .u64 p, .int .i64 pub, .int .i64 vars, .slice As ns cs] #[.slice A1 n1 c1, .slice A2 n2 c2, .slice A3 n3 c3];go_enter Tryz.func165,Tryz.ntmps165
 go_wp2_with fail
 generalize (w.alloc _).alloc _=w0 at kt kr aa |-;refine (HX.out _ aa).mono ?_;rintro e w1 ⟨rfl,ya⟩;replace kt:=ea kt ya;replace kr:=ea kr ya;replace aa:=ja aa ya;clear ya;have ct:=kt.cell;have cr:=kr.cell;cases b1
 ·go_wp2
  go_ret
  exact ⟨rfl,aa⟩
 go_wp2_with fail
 refine (HY.out _ aa).mono ?_;rintro e w2 ⟨rfl,xa⟩;replace kt:=ea kt xa;replace kr:=ea kr xa;replace aa:=ja aa xa;clear xa ct cr;have ct:=kt.cell;have cr:=kr.cell;cases b2
 ·go_wp2
  go_ret
  exact ⟨rfl,aa⟩
 go_wp2_with fail
 refine (HZ.out _ aa).mono ?_;rintro e w3 ⟨rfl,Ga⟩;go_wp2;go_ret
 exact ⟨by simp,ja aa Ga⟩
theorem NM (p:Nat) (w:World) (hp:Db p=false) :
  Calls Tryz.prog 168 #[fv p] w fun e w'=>e= .returned (.bool false) /\ Below w.heap.size w w':=by
 unfold Db at hp;simp only [Bool.or_eq_false_iff,beq_eq_false_iff_ne] at hp;obtain ⟨⟨⟨⟨⟨⟨h1,h2⟩,h3⟩,h4⟩,h5⟩,h6⟩,h7⟩:=hp;have d1:((p:Int) == 17)=false:=by rw [beq_eq_false_iff_ne];omega
 have d2:((p:Int) == 97)=false:=by rw [beq_eq_false_iff_ne];omega
 have d3:((p:Int) == 193)=false:=by rw [beq_eq_false_iff_ne];omega
 have d4:((p:Int) == 257)=false:=by rw [beq_eq_false_iff_ne];omega
 have d5:((p:Int) == 12289)=false:=by rw [beq_eq_false_iff_ne];omega
 have d6:((p:Int) == 65537)=false:=by rw [beq_eq_false_iff_ne];omega
 have d7:((p:Int) == 18446744069414584321)=false:=by rw [beq_eq_false_iff_ne];omega
 clear h1 h2 h3 h4 h5 h6 h7;unfold fv;go_enter Tryz.func168,Tryz.ntmps168
 go_wp2_with fail
 go_ret
 exact ⟨rfl,(Below.refl _ _).alloc zR _⟩
theorem OM (p:Nat) (w:World):Calls Tryz.prog 168 #[fv p] w fun e w'=>e= .returned (.bool (Db p)) /\ Below w.heap.size w w':=by
 cases h:Db p
 ·exact NM p w h
 ·exact Pj p w h
theorem uQ (p:Nat) (pub vars:Int) (rows:Value) (w:World) (hs:slc rows) :
  Calls Tryz.prog 164 #[Ib p pub vars rows] w fun e w'=>e= .returned (.bool (Db p&&!decide (pub<0)&&!decide (vars <= pub)&&!decide (65536<vars))) /\ Below w.heap.size w w':=by
 have HV:=zH (fun w=>OM p w)
 obtain ⟨As,ns,cs,rfl⟩:=hs;generalize Db p=b0 at *;unfold Ib fv at *;have kt:=Blk.new w 25 #[.int .u64 p, .int .i64 pub, .int .i64 vars, .slice As ns cs];have aa:Below w.heap.size w (w.alloc (.cells #[.int .u64 p, .int .i64 pub, .int .i64 vars, .slice As ns cs] 25)):=(Below.refl _ _).alloc zR _;go_enter Tryz.func164,Tryz.ntmps164
 go_wp2_with fail
 generalize w.alloc _=w0 at kt aa |-;refine (HV.out _).mono ?_;rintro e w1 ⟨rfl,ya⟩;replace kt:=ea kt ya;replace aa:=ja aa ya;clear ya;have ct:=kt.cell;cases b0
 ·go_wp2
  go_ret
  exact ⟨rfl,aa⟩
 by_cases z1:pub<0
 ·have d1:decide (0 <= pub)=false:=decide_eq_false (by omega)
  have e1:=decide_eq_true z1;go_wp2;go_ret
  exact ⟨by simp [e1],aa⟩
 have d1:decide (0 <= pub)=true:=decide_eq_true (by omega)
 have e1:=decide_eq_false z1;by_cases z2:vars <= pub
 ·have d2:decide (pub<vars)=false:=decide_eq_false (by omega)
  have e2:=decide_eq_true z2;go_wp2;go_ret
  exact ⟨by simp [e2],aa⟩
 have d2:decide (pub<vars)=true:=decide_eq_true (by omega)
 have e2:=decide_eq_false z2;by_cases z3:65536<vars
 ·have d3:decide (vars <= 65536)=false:=decide_eq_false (by omega)
  have e3:=decide_eq_true z3;go_wp2;go_ret
  exact ⟨by simp [e3],aa⟩
 have d3:decide (vars <= 65536)=true:=decide_eq_true (by omega)
 have e3:=decide_eq_false z3;go_wp2;go_ret
 exact ⟨by simp [e1,e2,e3],aa⟩
theorem Az (p:Nat) (pub vars:Int) (A:Option Addr) (n c:Nat) (rows:List Ya) (w:World) (hr:RSl 3 Md w [.slice A n c] rows) :
  Calls Tryz.prog 89 #[Ib p pub vars (.slice A n c)] w fun e w'=>e= .returned (.bool (Gb p pub vars rows)) /\ Below w.heap.size w w':=by
 have HS:=zH (fun w=>uQ p pub vars (.slice A n c) w ⟨_,_,_,rfl⟩)
 have HR:=zH (fun r x y z w hx hy hz=>sQ p pub vars (.slice A n c) r x y z w hx hy hz ⟨_,_,_,rfl⟩)
 obtain ⟨A',n',c',he,hlen,Sc,Gd,za⟩:=hr;simp at he
 obtain ⟨rfl,rfl,rfl⟩:=he;subst hlen;have g0:(rows.length:Int) <= 9223372036854775807:=by
  have h4:=Gd;simp [maxLen] at h4
  omega
 have E:=zH (show Gb p pub vars rows=((Db p&&!decide (pub<0)&&!decide (vars <= pub)&&!decide (65536<vars))&&!decide ((16384:Int)<(rows.length:Int))&&rows.all (qh p vars)) from rfl)
 revert HS E
 generalize Gb p pub vars rows=ans;generalize (Db p&&!decide (pub<0)&&!decide (vars <= pub)&&!decide (65536<vars))=b0;intro HS E;unfold Ib at *;have kt:=Blk.new w 25 #[.int .u64 p, .int .i64 pub, .int .i64 vars, .slice A rows.length c];have aa:Below w.heap.size w (w.alloc (.cells #[.int .u64 p, .int .i64 pub, .int .i64 vars, .slice A rows.length c] 25)):=(Below.refl _ _).alloc zR _;go_enter Tryz.func89,Tryz.ntmps89
 go_wp2_with fail
 generalize w.alloc _=w0 at kt aa |-;refine (HS.out _).mono ?_;rintro e w1 ⟨rfl,ya⟩;replace kt:=ea kt ya;replace aa:=ja aa ya;clear ya;have ct:=kt.cell;cases b0
 ·go_wp2
  go_ret
  exact ⟨by rw [E.out];simp,aa⟩
 by_cases z4:(16384:Int)<(rows.length:Int)
 ·have d4:=decide_eq_true z4
  go_wp2;go_ret
  exact ⟨by rw [E.out];simp [d4],aa⟩
 have d4:=decide_eq_false z4;have E2:=zH (show ans=rows.all (qh p vars) by rw [E.out,d4];simp)
 clear E;go_wp2_with fail
 clear ct;go_loopw [17] (fun i wr=>∃ j:Nat,j <= rows.length /\ i= .int .i64 j /\ Blk wr w.heap.size 25 #[.int .u64 p, .int .i64 pub, .int .i64 vars, .slice A rows.length c] /\ Below w.heap.size w wr /\ Hid (∀ k<j,∀ h:k<rows.length,qh p vars rows[k]=true))
  (fun i _=>rows.length-(intOf i).toNat)
 case atStart=>exact ⟨0,Nat.zero_le _,rfl,kt,aa,fun k hk=>by omega⟩
 case round =>
  clear kt aa;obtain ⟨j,hj,rfl,kt,aa,HB⟩:=hrel;by_cases oa:j<rows.length
  ·have HL:=zH oa
   obtain ⟨b,q,rfl⟩:=za.base (by omega) (by omega)
   obtain ⟨cs,-,hc,x,y,z,rfl,Ec,Vd,Zb⟩:=(za.below fq aa).get oa;have h0:wr.cell? ⟨b,q+j*3,none⟩=some x:=hc 0 (by omega)
   have h1:wr.cell? ⟨b,q+j*3+1,none⟩=some y:=hc 1 (by omega)
   have h2:wr.cell? ⟨b,q+j*3+2,none⟩=some z:=hc 2 (by omega)
   have i1:(0:Int) <= (j:Int):=by omega
   have i2:(j:Int)<(rows.length:Int):=by omega
   have Za:=World.block_lt_of_cell? _ _ h0;simp only at Za;have HC:=zH (fun w' (hb:Below wr.heap.size wr w')=>HR.out rows[j] x y z w' (se _ _ _ _ hb Ec) (se _ _ _ _ hb Vd) (se _ _ _ _ hb Zb))
   obtain ⟨A1,n1,c1,rfl⟩:=RSl.slc Ec;obtain ⟨A2,n2,c2,rfl⟩:=RSl.slc Vd;obtain ⟨A3,n3,c3,rfl⟩:=RSl.slc Zb;have ia:=(Below.refl wr.heap.size wr).alloc zR (.cells #[.slice A1 n1 c1, .slice A2 n2 c2, .slice A3 n3 c3] 170);have ct:=kt.cell;have lt:=kt.lt;clear hc Ec Vd Zb;go_wp2_with fail
   refine (HC.out _ ia).mono ?_;rintro e w3 ⟨rfl,Ga⟩;have Pa:=ja ia Ga;replace kt:=ea kt Pa;replace aa:=ja aa Pa;clear ia Ga Pa h0 h1 h2 ct lt;cases bo:qh p vars rows[j]
   ·have HO:=zH bo
    clear bo;go_wp2;go_ret
    exact ⟨by rw [E2.out,List.all_eq_false.2 ⟨rows[j],List.getElem_mem HL.out,fun h=>Bool.noConfusion (HO.out.symm.trans h)⟩];rfl,aa⟩
   ·have HO:=zH bo
    clear bo;go_wp2
    go_roundw
    case rel =>
     refine ⟨j+1,by omega,by go_num,kt,aa,fun k hk h=>?_⟩
     by_cases e:k<j
     ·exact HB.out k e h
     ·obtain rfl:k=j:=by omega
      exact HO.out
    case measure=>simp [intOf];omega
  ·obtain rfl:rows.length=j:=by omega
   go_wp2;go_ret
   exact ⟨by rw [E2.out,List.all_eq_true.2 fun r hr=>by obtain ⟨k,hk,rfl⟩:=List.getElem_of_mem hr;exact HB.out k hk hk];rfl,aa⟩
theorem GB (n k:Nat) (w:World) (hn:n <= 1000000000) (hk:0<k) (mn:k <= 1000000000) :
  Calls Tryz.prog 91 #[.int .i64 n, .int .i64 k] w fun e w'=>e= .returned (.int .i64 (((n+k-1) / k:Nat):Int)) /\ w'=w:=by
 have e1:(n:Int)+(k:Int)=((n+k:Nat):Int):=by omega
 obtain ⟨s,hs⟩:=zEX (n+k);obtain ⟨t,ht⟩:=zEX (n+k-1);obtain ⟨r,hr⟩:=zEX (t / k);have e2:(s:Int)-1=(t:Int):=by omega
 rw [<- hs] at e1;rw [<- ht,<- hr];have e3:(t:Int) / (k:Int)=(r:Int):=by rw [hr];rfl
 have e4:(t:Int).tdiv (k:Int)=(r:Int):=by rw [hr];rfl
 have e5:=zd s;have e6:=zd t;have pj:r <= t:=by rw [hr];exact Nat.div_le_self _ _
 have e7:=zd r;have q1:(0:Int)<(k:Int):=by omega
 have q2:¬((k:Int)=0):=by omega
 have q3:¬(k=0):=by omega
 clear hs ht hr pj;go_enter Tryz.func91,Tryz.ntmps91
 go_wp2_with fail
 go_ret
 exact ⟨rfl,rfl⟩
def Vx (bl bw qs:Int):Prop:=bl<2 \/ 256<bl \/ bl.toNat &&& (bl.toNat-1)≠0 \/ qs<1 \/ 64<qs \/ (bw≠1 /\ bw≠2 /\ bw≠4 /\ bw≠8)
theorem jP {p:Nat} {pub vars:Int} {nr:Nat} {bl bw qs:Int} (h:Vx bl bw qs):Vl ⟨p,pub,vars,nr,bl,bw,qs⟩=1:=if_pos h
theorem xQ (bl bw qs:Int) (w:World) (h:Vx bl bw qs) :
  Calls Tryz.prog 90 #[.agg #[.int .i64 bl, .int .i64 bw, .int .i64 qs]] w fun e w'=>e= .returned (.bool false) /\ Below w.heap.size w w':=by
 have aa:Below w.heap.size w (w.alloc (.cells #[.int .i64 bl, .int .i64 bw, .int .i64 qs] 27)):=(Below.refl _ _).alloc zR _;by_cases hw:bw≠1 /\ bw≠2 /\ bw≠4 /\ bw≠8
 ·obtain ⟨h1,h2,h3,h4⟩:=hw
  have d1:(bw != 1)=true:=by rw [bne_iff_ne];exact h1
  have d2:(bw != 2)=true:=by rw [bne_iff_ne];exact h2
  have d3:(bw != 4)=true:=by rw [bne_iff_ne];exact h3
  have d4:(bw != 8)=true:=by rw [bne_iff_ne];exact h4
  clear h h1 h2 h3 h4;go_enter Tryz.func90,Tryz.ntmps90
  go_wp2_with fail
  go_ret
  exact ⟨rfl,aa⟩
 have Dr:bw=1 \/ bw=2 \/ bw=4 \/ bw=8:=by omega
 by_cases z1:bl<2
 ·have d1:decide (2 <= bl)=false:=decide_eq_false (by omega)
  clear h hw;rcases Dr with rfl | rfl | rfl | rfl <;>
  ·go_enter Tryz.func90,Tryz.ntmps90
   go_wp2_with fail
   go_ret
   exact ⟨rfl,aa⟩
 have d1:decide (2 <= bl)=true:=decide_eq_true (by omega)
 by_cases z2:256<bl
 ·have d2:decide (bl <= 256)=false:=decide_eq_false (by omega)
  clear h hw;rcases Dr with rfl | rfl | rfl | rfl <;>
  ·go_enter Tryz.func90,Tryz.ntmps90
   go_wp2_with fail
   go_ret
   exact ⟨rfl,aa⟩
 have d2:decide (bl <= 256)=true:=decide_eq_true (by omega)
 obtain ⟨b,rfl⟩:=Int.eq_ofNat_of_zero_le (show 0 <= bl by omega)
 unfold Vx at h;rw [Int.toNat_natCast] at h;have hand:=rA ⟨b,by omega⟩ (by show 2 <= b;omega)
 simp only at hand;have i1:(1:Int) <= (b:Int):=by omega
 have i2:(0:Int) <= (b:Int)-1:=by omega
 have i3:(b:Int) <= 256:=by omega
 by_cases z3:b &&& (b-1)=0
 ·rw [z3] at hand
  have hq:¬(1 <= qs /\ qs <= 64):=by omega
  clear h hw z3;by_cases z4:qs<1
  ·have d4:decide (1 <= qs)=false:=decide_eq_false (by omega)
   rcases Dr with rfl | rfl | rfl | rfl <;>
   ·go_enter Tryz.func90,Tryz.ntmps90
    go_wp2_with fail
    go_ret
    exact ⟨rfl,aa⟩
  ·have d4:decide (1 <= qs)=true:=decide_eq_true (by omega)
   have d5:decide (qs <= 64)=false:=decide_eq_false (by omega)
   rcases Dr with rfl | rfl | rfl | rfl <;>
   ·go_enter Tryz.func90,Tryz.ntmps90
    go_wp2_with fail
    go_ret
    exact ⟨rfl,aa⟩
 ·obtain ⟨v,hv⟩:=zEX (b &&& (b-1))
  rw [<- hv] at hand z3;have d3:((v:Int) == 0)=false:=by rw [beq_eq_false_iff_ne];omega
  clear h hw hv z3;rcases Dr with rfl | rfl | rfl | rfl <;>
  ·go_enter Tryz.func90,Tryz.ntmps90
   go_wp2_with fail
   go_ret
   exact ⟨rfl,aa⟩
theorem yQ (b bw q:Nat) (w:World) (h0:2 <= b) (h1:b <= 256) (h2:b &&& (b-1)=0) (h3:1 <= q) (h4:q <= 64) (Dr:bw=1 \/ bw=2 \/ bw=4 \/ bw=8) :
  Calls Tryz.prog 90 #[.agg #[.int .i64 b, .int .i64 bw, .int .i64 q]] w fun e w'=>e= .returned (.bool true) /\ Below w.heap.size w w':=by
 have hand:=rA ⟨b,by omega⟩ (by show 2 <= b;omega)
 simp only at hand;rw [h2] at hand;have i1:(1:Int) <= (b:Int):=by omega
 have i2:(0:Int) <= (b:Int)-1:=by omega
 have i3:(b:Int) <= 256:=by omega
 have d1:decide ((2:Int) <= (b:Int))=true:=decide_eq_true (by omega)
 have d2:decide ((b:Int) <= 256)=true:=decide_eq_true (by omega)
 have d4:decide ((1:Int) <= (q:Int))=true:=decide_eq_true (by omega)
 have d5:decide ((q:Int) <= 64)=true:=decide_eq_true (by omega)
 clear h0 h1 h2 h3 h4;have aa:Below w.heap.size w (w.alloc (.cells #[.int .i64 b, .int .i64 bw, .int .i64 q] 27)):=(Below.refl _ _).alloc zR _;rcases Dr with rfl | rfl | rfl | rfl <;>
 ·go_enter Tryz.func90,Tryz.ntmps90
  go_wp2_with fail
  go_ret
  exact ⟨rfl,aa⟩
section
variable (p:Nat) (pub vars:Int) (A:Option Addr) (n c:Nat) (rows:List Ya) (bl bw qs:Int) (w:World)
theorem mQ (hr:RSl 3 Md w [.slice A n c] rows) (ht:Gb p pub vars rows=true) (Hk:Vx bl bw qs) :
  Calls Tryz.prog 31 (ik p pub vars A n c bl bw qs) w fun e w'=>e= .returned (.tuple #[.agg Cd, .int .i64 1]) /\ Below w.heap.size w w':=by
 have HV:=zH (fun w' (hb:Below w.heap.size w w')=>Az p pub vars A n c rows w' (Le fq _ _ _ _ hb hr))
 have HP:=zH (fun w=>xQ bl bw qs w Hk)
 rw [ht] at HV;clear hr ht Hk;unfold ik Ib Cd at *;obtain ⟨kt,kx,kz,aa,-⟩:=Bl w 25 27 68 #[.int .u64 p, .int .i64 pub, .int .i64 vars, .slice A n c] #[.int .i64 bl, .int .i64 bw, .int .i64 qs] #[.int .u64 0, .int .i64 0, .int .i64 0, .int .i64 0, .int .i64 0, .int .i64 0, .int .i64 0, .int .i64 0, .int .i64 0, .int .i64 0, .int .i64 0];go_enter Tryz.func31,Tryz.ntmps31
 go_wp2_with fail
 generalize ((w.alloc _).alloc _).alloc _=w0 at kt kx kz aa |-;refine (HV.out _ aa).mono ?_;rintro e w1 ⟨rfl,ya⟩;replace kt:=ea kt ya;replace kx:=ea kx ya;replace kz:=ea kz ya;replace aa:=ja aa ya;have cx:=kx.cell;clear ya;go_wp2_with fail
 refine (HP.out _).mono ?_;rintro e w2 ⟨rfl,xa⟩;replace kz:=ea kz xa;replace aa:=ja aa xa;clear xa cx;have cz:=kz.cell;have fz:=kz.frozen;go_wp2_with fail
 obtain ⟨wf,yb,kW,hW⟩:=Vn kz aa;rw [yb];clear yb cz fz kz aa;have c4:=kW.cell;exact bodyPost_ret (v:=.tuple #[.agg #[.int .u64 0, .int .i64 0, .int .i64 0, .int .i64 0, .int .i64 0, .int .i64 0, .int .i64 0, .int .i64 0, .int .i64 0, .int .i64 0, .int .i64 0], .int .i64 1]) (by simp [results,Tryz.results31,go_sem,c4]) rfl ⟨rfl,hW⟩
end
theorem dy {w:World} (g i:Nat) (v:Value):w.grownBy (w.setCell ⟨g,i,none⟩ v) (some g):=Yd (p:=⟨g,i,none⟩) (Lc w _) (.inl rfl) _
def Iy (w:World) (g i:Nat):Nat:=match w.cell? ⟨g,i,none⟩ with | some (.int _ n)=>n.toNat | _=>0
theorem nQ (p U V:Nat) (A:Option Addr) (n c:Nat) (rows:List Ya) (b bw q:Nat) (w:World) (hr:RSl 3 Md w [.slice A n c] rows) (ht:Gb p U V rows=true)
  (h0:2 <= b) (h1:b <= 256) (h2:b &&& (b-1)=0) (h3:1 <= q) (h4:q <= 64) (hw:bw=1 \/ bw=2 \/ bw=4 \/ bw=8) :
  Calls Tryz.prog 31 (ik p U V A n c b bw q) w fun e w'=>Ts ⟨p,U,V,rows.length,b,bw,q⟩ e /\ Below w.heap.size w w':=by
 have Ia:=wu ht;obtain ⟨Pd,hp⟩:=nc Ia;have HV:=zH (fun w' (hb:Below w.heap.size w w')=>Az p U V A n c rows w' (Le fq _ _ _ _ hb hr))
 have HPa:=zH (fun w=>yQ b bw q w h0 h1 h2 h3 h4 hw)
 rw [ht] at HV;have ow:U<V /\ V <= 65536 /\ rows.length <= 16384:=by
  unfold Gb at ht;simp only [Bool.and_eq_true,Bool.not_eq_true',decide_eq_false_iff_not] at ht;omega
 obtain ⟨t1,t2,t3⟩:=ow;obtain ⟨A',n',c',he,hlen,Sc,Gd,-⟩:=hr;simp at he
 obtain ⟨rfl,rfl,rfl⟩:=he;subst hlen;have hbw8:bw <= 8 /\ 1 <= bw:=by omega
 obtain ⟨k,hk⟩:=zEX (b+q);obtain ⟨kk,Xo⟩:=zEX (2*k);obtain ⟨s,hs⟩:=zEX (V-1-U);obtain ⟨v1,mf⟩:=zEX (V-1);obtain ⟨pm,jj⟩:=zEX (p-1);have ek:(b:Int)+(q:Int)=(k:Int):=by omega
 have ek1:=zd k;have Cv:(2:Int)*(k:Int)=(kk:Int):=by omega
 have ek3:=zd kk;have ev:(V:Int)-1=(v1:Int):=by omega
 have ev2:=zd v1;have es:(v1:Int)-(U:Int)=(s:Int):=by omega
 have es2:=zd s;have ep:IntKind.u64.wrap ((p:Int)-1)=(pm:Int):=by rw [jj];exact Yn p 1 (by omega) hp
 have ep2:(p:Int)-1=(pm:Int):=by omega
 have ep3:IntKind.u64.wrap (pm:Int)=(pm:Int):=pg _ (by omega)
 have j1:kk <= 640:=by omega
 have j2:6 <= kk:=by omega
 have hb256:IntKind.u64.wrap (b:Int)=(b:Int):=pg b (by omega)
 have HB:=zH (And.intro h0 h1);have HQ:=zH (And.intro h3 h4);have HK:=zH hk;have HS:=zH hs;have HT:=zH (And.intro Ia (And.intro t1 (And.intro t2 t3)));have HP:=zH (show pm=p-1 /\ 17 <= p from ⟨jj,Pd⟩)
 have HG:=zH (fun N NN hN Se=>bJ (p:=p) (U:=U) (V:=V) (nr:=rows.length) (bw:=bw) (N:=N) (NN:=NN) h0 h1 h2 h3 h4 hw jj hN Se)
 have sc:=zH h2;have HBW:=zH hbw8;have HW:=zH hw;have HKK:=zH (show kk=2*(b+q) by omega)
 have gm:(rows.length:Int) <= 16384:=by omega
 have u1:(rows.length+b-1) / b <= 100000:=Nat.le_trans (Nat.div_le_self _ _) (by omega)
 have u2:(s+b-1) / b <= 100000:=Nat.le_trans (Nat.div_le_self _ _) (by omega)
 have HU:=zH (fun w=>GB rows.length b w (by omega) (by omega) (by omega))
 have xo:=zH (fun w=>GB s b w (by omega) (by omega) (by omega))
 obtain ⟨ub,sw⟩:=zEX ((rows.length+b-1) / b);obtain ⟨ua,KY⟩:=zEX ((s+b-1) / b);rw [<- sw] at HU u1;rw [<- KY] at xo u2;have HUB:=zH sw;have HUA:=zH KY;clear sw KY h0 h1 h2 h3 h4 hk hs Xo Ia hp Pd ht t1 t2 t3 jj hw hbw8 mf;unfold ik Ib at *;obtain ⟨kt,kx,kz,aa,-⟩:=Bl w 25 27 68 #[.int .u64 p, .int .i64 U, .int .i64 V, .slice A rows.length c] #[.int .i64 b, .int .i64 bw, .int .i64 q] #[.int .u64 0, .int .i64 0, .int .i64 0, .int .i64 0, .int .i64 0, .int .i64 0, .int .i64 0, .int .i64 0, .int .i64 0, .int .i64 0, .int .i64 0];go_enter Tryz.func31,Tryz.ntmps31
 go_wp2_with fail
 generalize ((w.alloc _).alloc _).alloc _=w0 at kt kx kz aa |-;refine (HV.out _ aa).mono ?_;rintro e w1 ⟨rfl,ya⟩;replace kt:=ea kt ya;replace kx:=ea kx ya;replace kz:=ea kz ya;replace aa:=ja aa ya;have cx:=kx.cell;clear ya;go_wp2_with fail
 refine (HPa.out _).mono ?_;rintro e w2 ⟨rfl,xa⟩;replace kt:=ea kt xa;replace kx:=ea kx xa;replace kz:=ea kz xa;replace aa:=ja aa xa;clear xa cx;have cx:=kx.cell;have ct:=kt.cell;go_wp2_with fail
 have ia:=(Below.refl w2.heap.size w2).alloc zR (.cells #[.int .u64 p, .int .i64 b, .int .i64 q, .int .i64 k, .int .i64 1, .int .i64 0, .int .i64 0, .int .i64 0, .int .i64 0, .int .i64 0, .int .i64 0] 68);have k6:=Blk.new w2 68 #[.int .u64 p, .int .i64 b, .int .i64 q, .int .i64 k, .int .i64 1, .int .i64 0, .int .i64 0, .int .i64 0, .int .i64 0, .int .i64 0, .int .i64 0];have Zv:w.heap.size+1+1<w2.heap.size:=kz.lt;replace kt:=ea kt ia;replace kx:=ea kx ia;replace kz:=ea kz ia;replace aa:=ja aa ia;clear ia cx ct;generalize w2.alloc _=w3 at kt kx kz aa k6 |-;generalize w2.heap.size=g6 at k6 Zv |-;go_loopw [35] (fun _ wr=>∃ N:Nat,Hid ((∃ z,N=2^z) /\ N<2*kk) /\ N <= 1280 /\ 0<N /\ Blk wr w.heap.size 25 #[.int .u64 p, .int .i64 U, .int .i64 V, .slice A rows.length c] /\ Blk wr (w.heap.size+1) 27 #[.int .i64 b, .int .i64 bw, .int .i64 q] /\ Blk wr (w.heap.size+1+1) 68 #[.int .u64 0, .int .i64 0, .int .i64 0, .int .i64 0, .int .i64 0, .int .i64 0, .int .i64 0, .int .i64 0, .int .i64 0, .int .i64 0, .int .i64 0] /\ Blk wr g6 68 #[.int .u64 p, .int .i64 b, .int .i64 q, .int .i64 k, .int .i64 N, .int .i64 0, .int .i64 0, .int .i64 0, .int .i64 0, .int .i64 0, .int .i64 0] /\ Below w.heap.size w wr) (fun _ wr=>1300-Iy wr g6 4)
 case atStart=>exact ⟨1,⟨⟨0,rfl⟩,by omega⟩,by omega,by omega,kt,kx,kz,k6,aa⟩
 case round =>
  clear kt kx kz k6 aa;obtain ⟨N,HN,wg,ff,kt,kx,kz,k6,aa⟩:=hrel;have cM:Iy wr g6 4=N:=by unfold Iy;rw [k6.cell];simp
  by_cases oa:N<kk
  ·have q1:(N:Int)<(kk:Int):=by omega
   obtain ⟨N2,hN⟩:=zEX (2*N);have e1:(N:Int)*2=(N2:Int):=by omega
   have e2:=zd N2;have HN3:Hid ((∃ z,N2=2^z) /\ N2<2*kk):=by
    obtain ⟨⟨z,hz⟩,-⟩:=HN.out;exact ⟨⟨z+1,by rw [hN,hz,Nat.pow_succ,Nat.mul_comm]⟩,by omega⟩
   have hN4:N2 <= 1280:=by omega
   have hN5:0<N2:=by omega
   have Lf:=zH hN;have HCM:=zH cM;clear hN cM;have c6:=k6.cell;have f6:=k6.frozen;go_wp2_with fail
   have hg:=dy (w:=wr) g6 4 (.int .i64 N2);replace k6:=k6.set_ 4 (.int .i64 N2);simp at k6
   replace kt:=Dc kt hg;replace kx:=Dc kx hg;replace kz:=Dc kz hg;replace aa:=yc aa hg;clear hg c6 f6
   go_roundw
   case rel=>exact ⟨N2,HN3,hN4,hN5,kt,kx,kz,k6,aa⟩
   case measure =>
    have c2:Iy (wr.setCell ⟨g6,4,none⟩ (.int .i64 N2)) g6 4=N2:=by unfold Iy;rw [k6.cell];simp
    rw [c2,HCM.out];have:=Lf.out;omega
  ·have q1:¬((N:Int)<(kk:Int)):=by omega
   clear cM;obtain ⟨NN,Se⟩:=zEX (bw*N);have hNNl:NN <= 10240:=by rw [Se];exact Nat.mul_le_mul HBW.out.1 wg
   have hNN0:0<NN:=by rw [Se];exact Nat.mul_pos (by have:=HBW.out;omega) ff
   have e1:(N:Int)*(bw:Int)=(NN:Int):=by rw [Se,Int.natCast_mul,Int.mul_comm]
   have e2:=zd NN;have eN:IntKind.u64.wrap (NN:Int)=(NN:Int):=pg _ (by omega)
   have VA:(∃ z,N=2^z) /\ 2*(b+q) <= N /\ (1 <= 2*(b+q) -> N<2*(2*(b+q))):=by
    have h:=HN.out;rw [HKK.out] at h;exact ⟨h.1,by rw [<- HKK.out];omega,fun _=>h.2⟩
   replace HG:=zH (HG.out _ _ VA Se);have HNP:Hid (∃ z,NN=2^z):=by
    obtain ⟨z,hz⟩:=VA.1;rcases HW.out with h | h | h | h <;> rw [Se,h,hz]
    ·exact ⟨z,by omega⟩
    ·exact ⟨z+1,by rw [Nat.pow_succ,Nat.mul_comm]⟩
    ·exact ⟨z+2,by rw [Nat.pow_add,Nat.mul_comm]⟩
    ·exact ⟨z+3,by rw [Nat.pow_add,Nat.mul_comm]⟩
   have HNK:Hid (2*k <= NN):=by
    have h1:N <= NN:=by rw [Se];exact Nat.le_mul_of_pos_left _ (by have:=HBW.out;omega)
    have:=VA.2.1;have:=HK.out;show 2*k <= NN
    omega
   clear VA HN Se wg ff oa;have Bm:Hid (∀ {er:Int},(if pm%b≠0 \/ pm%NN≠0 \/ pm <= NN then (7:Int) else if 1024<NN then 3 else 0)=er -> er=Vl ⟨p,U,V,rows.length,b,bw,q⟩):=fun h=>h.symm.trans (HG.out.2).symm
   have c6:=k6.cell;have f6:=k6.frozen;have cx:=kx.cell;have lx:=kx.lt;go_upto_region 7 with fail
   have hg:=dy (w:=wr) g6 4 (.int .i64 NN);replace k6:=k6.set_ 4 (.int .i64 NN);simp at k6
   replace kt:=Dc kt hg;replace kx:=Dc kx hg;replace kz:=Dc kz hg;replace aa:=yc aa hg;clear hg c6 f6 cx lx e1 e2;generalize wr.setCell _ _=w4 at kt kx kz k6 aa |-;have c6:=k6.cell;have ct:=kt.cell;have cz:=kz.cell;have fz:=kz.frozen;have q1:(0:Int)<(b:Int):=by have:=HB.out;omega
   have q2:¬((b:Int)=0):=by omega
   have q3:¬(b=0):=by omega
   have q4:(0:Int)<(NN:Int):=by omega
   have q5:¬((NN:Int)=0):=by omega
   have q6:¬(NN=0):=by omega
   have r1:(pm:Int)%(b:Int)=((pm%b:Nat):Int):=rfl;have r2:(pm:Int)%(NN:Int)=((pm%NN:Nat):Int):=rfl;have r3:(pm:Int).tmod (b:Int)=((pm%b:Nat):Int):=rfl;have r4:(pm:Int).tmod (NN:Int)=((pm%NN:Nat):Int):=rfl;obtain ⟨x1,Ec⟩:=zEX (pm%b);obtain ⟨x2,lh⟩:=zEX (pm%NN);rw [<- Ec] at r1 r3;rw [<- lh] at r2 r4;have rq:=zH Ec.symm;have Vg:=zH lh.symm;clear Ec lh;have fin:∀ (er:Int),er=7 \/ er=3 -> er=Vl ⟨p,U,V,rows.length,b,bw,q⟩ -> Ts ⟨p,U,V,rows.length,b,bw,q⟩ (.returned (.tuple #[.agg Cd, .int .i64 er])):=fun er h h'=>⟨_,_,rfl, .inl ⟨by omega,rfl,h'⟩⟩
   have FIN:=zH fin;clear fin;have KW:=zH (Vn kz aa);by_cases z1:x1=0
   ·subst z1
    by_cases z2:x2=0
    ·subst z2
     by_cases z3:pm <= NN
     ·have y1:decide ((pm:Int) <= (NN:Int))=true:=decide_eq_true (by omega)
      have y2:decide (pm <= NN)=true:=decide_eq_true z3;go_wp2_with fail
      obtain ⟨wf,yb,kW,hW⟩:=KW.out;rw [yb];clear yb cz fz KW;have c4:=kW.cell;exact bodyPost_ret (v:=.tuple #[.agg Cd, .int .i64 7]) (by simp [results,Tryz.results31,go_sem,c4,Cd]) rfl ⟨FIN.out 7 (.inl rfl) (Bm.out (by rw [if_pos (.inr (.inr z3))])),hW⟩
     ·have y1:decide ((pm:Int) <= (NN:Int))=false:=decide_eq_false (by omega)
      have y2:decide (pm <= NN)=false:=decide_eq_false z3;by_cases z4:1024<NN
      ·have y3:decide ((1024:Int)<(NN:Int))=true:=decide_eq_true (by omega)
       have y4:decide (1024<NN)=true:=decide_eq_true z4;go_wp2_with fail
       obtain ⟨wf,yb,kW,hW⟩:=KW.out;rw [yb];clear yb cz fz KW;have c4:=kW.cell;exact bodyPost_ret (v:=.tuple #[.agg Cd, .int .i64 3]) (by simp [results,Tryz.results31,go_sem,c4,Cd]) rfl ⟨FIN.out 3 (.inr rfl) (Bm.out (by rw [if_neg (by rw [rq.out,Vg.out];omega),if_pos z4])),hW⟩
      ·have y3:decide ((1024:Int)<(NN:Int))=false:=decide_eq_false (by omega)
       have y4:decide (1024<NN)=false:=decide_eq_false z4;have HZ3:=zH z3;have HZ4:=zH z4;have f6:=k6.frozen;have l6:=k6.lt;have n1:w.heap.size≠g6:=by omega
       clear KW cz fz FIN;go_upto_region 14 with fail
       have hg:w4.grownBy ((w4.setCell ⟨g6,5,none⟩ (.int .i64 s)).setCell ⟨g6,6,none⟩ (.int .i64 rows.length)) (some g6):=by
        iterate 2 refine Yd ?_ (.inl rfl) _
        exact Lc w4 _
       replace k6:=(k6.set_ 5 (.int .i64 s)).set_ 6 (.int .i64 rows.length);simp at k6
       replace kt:=Dc kt hg;replace kx:=Dc kx hg;replace kz:=Dc kz hg;replace aa:=yc aa hg;clear hg c6 f6 ct l6;generalize (w4.setCell _ _).setCell _ _=w5 at kt kx kz k6 aa |-;have c6:=k6.cell;have f6:=k6.frozen;have l6:=k6.lt;go_wp2_with fail
       refine (xo.out _).mono ?_;rintro e w6 ⟨rfl,rfl⟩;go_upto_region 15 with fail
       have hg:=dy (w:=w6) g6 7 (.int .i64 ua);replace k6:=k6.set_ 7 (.int .i64 ua);simp at k6
       replace kt:=Dc kt hg;replace kx:=Dc kx hg;replace kz:=Dc kz hg;replace aa:=yc aa hg;clear hg c6 f6 l6;generalize w6.setCell _ _=w7 at kt kx kz k6 aa |-;go_wp2_with fail
       go_loopw [8] (fun y wr=>∃ (i:Nat) (x1 x2 x3:Int),1 <= i /\ i <= 4 /\ y= .int .i64 i /\ Hid ((1<i -> x1=ub) /\ (2<i -> x2=ub) /\ (3<i -> x3=ub)) /\ Blk wr (w.heap.size+1+1) 68 #[.int .u64 0, .int .i64 0, .int .i64 0, .int .i64 0, .int .i64 0, .int .i64 0, .int .i64 0, .int .i64 0, .int .i64 0, .int .i64 0, .int .i64 0] /\ Blk wr g6 68 #[.int .u64 p, .int .i64 b, .int .i64 q, .int .i64 k, .int .i64 NN, .int .i64 s, .int .i64 rows.length, .int .i64 ua, .int .i64 x1, .int .i64 x2, .int .i64 x3] /\ Below w.heap.size w wr) (fun y _=>4-(intOf y).toNat)
       case atStart=>exact ⟨1,0,0,0,by omega,by omega,rfl,⟨by omega,by omega,by omega⟩,kz,k6,aa⟩
       case round =>
        clear kt kx kz k6 aa;obtain ⟨i,x1,x2,x3,Di,hi4,rfl,qi,kz,k6,aa⟩:=hrel;have c6:=k6.cell;have f6:=k6.frozen;have l6:=k6.lt;by_cases oa:i<4
        ·have hi:i=1 \/ i=2 \/ i=3:=by omega
         rcases hi with rfl | rfl | rfl
         ·go_wp2_with fail
          refine (HU.out _).mono ?_;rintro e w8 ⟨rfl,rfl⟩;go_wp2_with fail
          have hg:=dy (w:=w8) g6 8 (.int .i64 ub);replace k6:=k6.set_ 8 (.int .i64 ub);simp at k6
          replace kz:=Dc kz hg;replace aa:=yc aa hg;clear hg c6 f6 l6
          go_roundw
          case rel=>exact ⟨2,(ub:Int),x2,x3,by omega,by omega,rfl,⟨by have:=qi.out;omega,by have:=qi.out;omega,by have:=qi.out;omega⟩,kz,k6,aa⟩
          case measure=>simp [intOf]
         ·go_wp2_with fail
          refine (HU.out _).mono ?_;rintro e w8 ⟨rfl,rfl⟩;go_wp2_with fail
          have hg:=dy (w:=w8) g6 9 (.int .i64 ub);replace k6:=k6.set_ 9 (.int .i64 ub);simp at k6
          replace kz:=Dc kz hg;replace aa:=yc aa hg;clear hg c6 f6 l6
          go_roundw
          case rel=>exact ⟨3,x1,(ub:Int),x3,by omega,by omega,rfl,⟨by have:=qi.out;omega,by have:=qi.out;omega,by have:=qi.out;omega⟩,kz,k6,aa⟩
          case measure=>simp [intOf]
         ·go_wp2_with fail
          refine (HU.out _).mono ?_;rintro e w8 ⟨rfl,rfl⟩;go_wp2_with fail
          have hg:=dy (w:=w8) g6 10 (.int .i64 ub);replace k6:=k6.set_ 10 (.int .i64 ub);simp at k6
          replace kz:=Dc kz hg;replace aa:=yc aa hg;clear hg c6 f6 l6
          go_roundw
          case rel=>exact ⟨4,x1,x2,(ub:Int),by omega,by omega,rfl,⟨by have:=qi.out;omega,by have:=qi.out;omega,by have:=qi.out;omega⟩,kz,k6,aa⟩
          case measure=>simp [intOf]
        ·obtain rfl:i=4:=by omega
         obtain ⟨e1,e2,e3⟩:=qi.out;obtain rfl:=e1 (by omega)
         obtain rfl:=e2 (by omega)
         obtain rfl:=e3 (by omega)
         have cz:=kz.cell;have fz:=kz.frozen;have lz:=kz.lt;clear qi e1 e2 e3;go_wp2_with fail
         obtain ⟨wf,yb,kW,hW⟩:=Yr kz aa p b q k NN s rows.length ua ub ub ub;rw [yb];clear yb cz fz c6 f6 kz aa lz l6;have c4:=kW.cell;have HL:Vc ⟨p,b,q,k,NN,s,rows.length,ua,ub⟩:=by
          have hB:=HB.out;have hQ:=HQ.out;have hT:=HT.out;refine ⟨hT.1,hB.1,hB.2,hQ.1,hQ.2,HK.out,HNP.out,by show NN <= 1024;have:=HZ4.out;omega,by have:=HS.out;show s <= 65536;omega,hT.2.2.2,u2,u1,sc.out,?_,?_,?_,HNK.out,HUA.out,HUB.out⟩
          ·show (p-1)%b=0
           rw [<- HP.out.1];exact rq.out
          ·show (p-1)%NN=0
           rw [<- HP.out.1];exact Vg.out
          ·show NN<p-1
           rw [<- HP.out.1];have:=HZ3.out;omega
         have mo:Lm ⟨p,b,q,k,NN,s,rows.length,ua,ub⟩ ⟨p,U,V,rows.length,b,bw,q⟩:=by
          have e1:((V:Int)-1-(U:Int)).toNat=s:=by have:=HS.out;have:=HT.out;omega
          refine ⟨rfl,?_,(Bm.out (by rw [if_neg (by rw [rq.out,Vg.out];have:=HZ3.out;omega),if_neg HZ4.out])).symm,by show (0:Int) <= U;omega,by have:=HT.out;show (U:Int)<V;omega⟩
          have e5:NewIn.n ⟨p,U,V,rows.length,b,bw,q⟩=NN:=HG.out.1.symm;unfold FE;simp only [Int.toNat_natCast,e1];rw [e5,HK.out,HUA.out,HUB.out]
         exact bodyPost_ret (v:=.tuple #[.agg (Ua ⟨p,b,q,k,NN,s,rows.length,ua,ub⟩), .int .i64 0]) (by simp [results,Tryz.results31,go_sem,c4,Ua]) rfl ⟨⟨_,_,rfl, .inr ⟨rfl,_,HL,mo,rfl⟩⟩,hW⟩
    ·have y1:((x2:Int) != 0)=true:=by rw [bne_iff_ne];omega
     have y2:(x2 != 0)=true:=by rw [bne_iff_ne];exact z2
     go_wp2_with fail
     obtain ⟨wf,yb,kW,hW⟩:=KW.out;rw [yb];clear yb cz fz KW;have c4:=kW.cell;exact bodyPost_ret (v:=.tuple #[.agg Cd, .int .i64 7]) (by simp [results,Tryz.results31,go_sem,c4,Cd]) rfl ⟨FIN.out 7 (.inl rfl) (Bm.out (by rw [if_pos (.inr (.inl (by rw [Vg.out];exact z2)))])),hW⟩
   ·have y1:((x1:Int) != 0)=true:=by rw [bne_iff_ne];omega
    have y2:(x1 != 0)=true:=by rw [bne_iff_ne];exact z1
    go_wp2_with fail
    obtain ⟨wf,yb,kW,hW⟩:=KW.out;rw [yb];clear yb cz fz KW;have c4:=kW.cell;exact bodyPost_ret (v:=.tuple #[.agg Cd, .int .i64 7]) (by simp [results,Tryz.results31,go_sem,c4,Cd]) rfl ⟨FIN.out 7 (.inl rfl) (Bm.out (by rw [if_pos (.inl (by rw [rq.out];exact z1))])),hW⟩
theorem lQ (p:Nat) (pub vars:Int) (A:Option Addr) (n c:Nat) (rows:List Ya) (bl bw qs:Int) (w:World) (hr:RSl 3 Md w [.slice A n c] rows) (ht:Gb p pub vars rows=true) :
  Calls Tryz.prog 31 (ik p pub vars A n c bl bw qs) w fun e w'=>Ts ⟨p,pub,vars,rows.length,bl,bw,qs⟩ e /\ Below w.heap.size w w':=by
 by_cases Hk:Vx bl bw qs
 ·exact (mQ p pub vars A n c rows bl bw qs w hr ht Hk).mono fun _ _ h=>⟨⟨_,_,h.1, .inl ⟨by decide,rfl,(jP Hk).symm⟩⟩,h.2⟩
 ·have rn:0 <= pub /\ pub<vars:=by
   have h:=ht;unfold Gb at h;simp only [Bool.and_eq_true,Bool.not_eq_true',decide_eq_false_iff_not] at h;omega
  unfold Vx at Hk;obtain ⟨U,rfl⟩:=Int.eq_ofNat_of_zero_le rn.1;obtain ⟨V,rfl⟩:=Int.eq_ofNat_of_zero_le (show 0 <= vars by omega)
  obtain ⟨b,rfl⟩:=Int.eq_ofNat_of_zero_le (show 0 <= bl by omega)
  obtain ⟨q,rfl⟩:=Int.eq_ofNat_of_zero_le (show 0 <= qs by omega)
  obtain ⟨v,rfl⟩:=Int.eq_ofNat_of_zero_le (show 0 <= bw by omega)
  rw [Int.toNat_natCast] at Hk;exact nQ p U V A n c rows b v q w hr ht (by omega) (by omega) (by omega) (by omega) (by omega) (by omega)
def Yf (l:List Nat) (n p:Nat):Bool:=decide (l.length=n)&&l.all fun x=>decide (x<p)
theorem BM (x p B:Nat) (w:World) (hc:w.cell? ⟨B,0,none⟩=some (.int .u64 p)) :
  Calls Tryz.prog 167 #[.int .u64 x, .pointer (some ⟨B,0,none⟩)] w fun e w'=>e= .returned (.bool (decide (p <= x))) /\ Below w.heap.size w w':=by
 obtain ⟨v,hv⟩:=zEX (decide (p <= x));have e1:decide ((p:Int) <= (x:Int))=v:=by rw [hv];by_cases h:p <= x <;> simp [h]
 rw [<- hv];have HV:=zH hv.symm;clear hv;go_enter Tryz.func167,Tryz.ntmps167
 go_wp2_with fail
 go_ret
 exact ⟨by first | rfl | (simp [HV.out]),Below.refl _ _⟩
theorem qL {l:List Nat} {p i:Nat} (h:(l.take i).all (fun x=>decide (x<p))=true) (hi:i<l.length) (hx:¬p <= l.getD i 0):(l.take (i+1)).all (fun x=>decide (x<p))=true:=by
 rw [tB l i hi,List.all_append,h];have:decide (l.getD i 0<p)=true:=decide_eq_true (by omega)
 rw [List.all_cons,this]
 rfl
theorem pL {l:List Nat} {p i:Nat} (hi:i<l.length) (hx:p <= l.getD i 0):l.all (fun x=>decide (x<p))=false:=by
 rw [List.all_eq_false];refine ⟨l.getD i 0,?_,by rw [decide_eq_true_iff];omega⟩
 rw [List.getD_eq_getElem?_getD,List.getElem?_eq_getElem hi];exact List.getElem_mem _
theorem IN (A:Option Addr) (n c p B:Nat) (l:List Nat) (w:World) (hl:RWd w [.slice A n c] l) (hc:w.cell? ⟨B,0,none⟩=some (.int .u64 p)) :
  Calls Tryz.prog 216 #[.slice A n c, .func (.func 167) #[] #[.pointer (some ⟨B,0,none⟩)]] w fun e w'=>∃ r:Int,e= .returned (.int .i64 r) /\ decide (0 <= r)=!(l.all fun x=>decide (x<p)) /\ Below w.heap.size w w':=by
 obtain ⟨rfl,h1,h2,oa,za⟩:=zb hl;have gm:=uj h1 h2;have lB:B<w.heap.size:=World.block_lt_of_cell? _ _ hc;have HX:=zH (fun x w' (hb:Below w.heap.size w w')=>BM x p B w' ((hb.cell (p:=⟨B,0,none⟩) lB).trans hc))
 clear hl h1 h2 oa hc lB;obtain ⟨ans,ha⟩:=zEX (!(l.all fun x=>decide (x<p)))
 rw [<- ha];have HA:=zH ha;clear ha;go_enter Tryz.func216,Tryz.ntmps216
 go_wp2_with fail
 go_loopw [5,8] (fun _ y wr=>∃ i:Nat,i <= l.length /\ y= .int .i64 i /\ Hid ((l.take i).all (fun x=>decide (x<p))=true) /\ Below w.heap.size w wr) (fun _ y _=>l.length-(intOf y).toNat)
 case atStart=>exact ⟨0,Nat.zero_le _,rfl,rfl,Below.refl _ _⟩
 case round =>
  obtain ⟨i,hi,rfl,HT,Qa⟩:=hrel;by_cases oa:i<l.length
  ·have g1:(0:Int) <= (i:Int):=by omega
   have g2:(i:Int)<(l.length:Int):=by omega
   obtain ⟨b,q,rfl,Za,hc⟩:=Ye (za.below Qa) oa;by_cases hx:p <= l.getD i 0
   ·have HF:=zH (show ans=true by rw [HA.out,pL oa hx];rfl)
    have HC:=zH (by have:=HX.out (l.getD i 0) wr Qa;rw [decide_eq_true hx] at this;exact this)
    generalize l.getD i 0=z at *;clear hx HT;go_wp2_with fail
    refine HC.out.mono ?_;rintro e w1 ⟨rfl,ya⟩;go_wp2;go_ret
    exact ⟨_,rfl,by rw [HF.out];exact decide_eq_true g1,ja Qa ya⟩
   ·have DW:=zH (qL HT.out oa hx)
    have HC:=zH (by have:=HX.out (l.getD i 0) wr Qa;rw [decide_eq_false hx] at this;exact this)
    generalize l.getD i 0=z at *;clear hx HT;go_wp2_with fail
    refine HC.out.mono ?_;rintro e w1 ⟨rfl,ya⟩;replace Qa:=ja Qa ya;clear hc ya Za;go_wp2
    go_roundw
    case rel=>exact ⟨i+1,by omega,by go_num,DW.out,Qa⟩
    case measure=>simp [intOf];omega
  ·obtain rfl:i=l.length:=by omega
   have HF:=zH (show ans=false by rw [HA.out];have:=HT.out;rw [List.take_length] at this;rw [this];rfl)
   go_wp2;go_ret
   exact ⟨_,rfl,by rw [HF.out];rfl,Qa⟩
theorem XL (A:Option Addr) (n c p B:Nat) (l:List Nat) (w:World) (hl:RWd w [.slice A n c] l) (hc:w.cell? ⟨B,0,none⟩=some (.int .u64 p)) :
  Calls Tryz.prog 166 #[.slice A n c, .func (.func 167) #[] #[.pointer (some ⟨B,0,none⟩)]] w fun e w'=>e= .returned (.bool (!(l.all fun x=>decide (x<p)))) /\ Below w.heap.size w w':=by
 have HI:=zH (IN A n c p B l w hl hc);clear hl hc;generalize (!(l.all fun x=>decide (x<p)))=ans at *
 go_enter Tryz.func166,Tryz.ntmps166
 go_wp2_with fail
 refine HI.out.mono ?_;rintro e w1 ⟨r,rfl,hr,ya⟩;go_wp2;go_ret
 exact ⟨by first | rfl | (simp [hr]),ya⟩
theorem Oy (A:Option Addr) (n c m p:Nat) (l:List Nat) (w:World) (hl:RWd w [.slice A n c] l) :
  Calls Tryz.prog 92 #[.slice A n c, .int .i64 m, .int .u64 p] w fun e w'=>e= .returned (.bool (Yf l m p)) /\ Below w.heap.size w w':=by
 have Fl:Below w.heap.size w (w.alloc (.cells #[.int .u64 p] 22)):=(Below.refl _ _).alloc zR _;have kb:=Blk.new w 22 #[.int .u64 p];have HC:=zH (XL A n c p w.heap.size l (w.alloc (.cells #[.int .u64 p] 22)) (ib Fl hl) (by rw [kb.cell];rfl))
 obtain ⟨rfl,h1,h2,oa,za⟩:=zb hl;clear hl h1 h2 oa za kb;have HE:=zH (show Yf l m p=(decide (l.length=m)&&l.all fun x=>decide (x<p)) from rfl)
 by_cases hm:l.length=m
 ·have HF:=zH (show Yf l m p=l.all fun x=>decide (x<p) by rw [HE.out,decide_eq_true hm];rfl)
  have t1:((l.length:Int) == (m:Int))=true:=by rw [beq_iff_eq];omega
  rw [HF.out];clear hm HF HE;generalize l.length=n at *;generalize (l.all fun x=>decide (x<p))=v at *
  go_enter Tryz.func92,Tryz.ntmps92
  go_wp2_with fail
  refine HC.out.mono ?_;rintro e w1 ⟨rfl,ya⟩;go_wp2;go_ret
  exact ⟨by cases v <;> rfl,ja Fl ya⟩
 ·have HF:=zH (show Yf l m p=false by rw [HE.out,decide_eq_false hm];rfl)
  have t1:((l.length:Int) == (m:Int))=false:=by rw [beq_eq_false_iff_ne];omega
  rw [HF.out];clear hm HF HE HC;generalize l.length=n at *;go_enter Tryz.func92,Tryz.ntmps92
  go_wp2_with fail
  go_ret
  exact ⟨rfl,Fl⟩
theorem FL:Tryz.prog.cellsOf 30=8:=by kernel_rfl
theorem IL:Tryz.prog.cellsOf 27=3:=by kernel_rfl
structure pC (w:World) (p:Nat) (pub vars:Int) (A B:Option Addr) (n c m d:Nat) (rows:List Ya) (ws:List Nat):Prop where
 p:p<18446744073709551616
 rows:RSl 3 Md w [.slice A n c] rows
 ws:RWd w [.slice B m d] ws
theorem aN {w:World} {cs:List Value} (hl:cs.length=8) (h:Fits Tryz.prog w 30 cs):∃ (p:Nat) (pub vars:Int) (A B:Option Addr) (n c m d:Nat) (rows:List Ya) (ws:List Nat) (bl bw qs:Int),cs=(zA p pub vars (.slice A n c) bl bw qs (.slice B m d)).toList /\ pC w p pub vars A B n c m d rows ws:=by
 match cs,hl with
 | [x0,x1,x2,x3,x4,x5,x6,x7],_ =>
  obtain ⟨t,y,ht,h1,h2,h3,h4⟩:=WM rfl (dh (i:=0) Tryz.underlying30 rfl rfl ML h);have hx:=dh (i:=1) Tryz.underlying30 rfl rfl IL h;obtain ⟨a,ha,-⟩:=yx Tryz.underlying3 (dh (i:=0) Tryz.underlying27 rfl rfl ov hx);obtain ⟨b,hb,-⟩:=yx Tryz.underlying3 (dh (i:=1) Tryz.underlying27 rfl rfl ov hx);obtain ⟨e,he,-⟩:=yx Tryz.underlying3 (dh (i:=2) Tryz.underlying27 rfl rfl ov hx);obtain ⟨ws,hw⟩:=XM Tryz.underlying28 Tryz.underlying22 Jy (dh (i:=2) Tryz.underlying30 rfl rfl OL h);simp at ht ha hb he hw
  obtain ⟨rfl,rfl,rfl,rfl⟩:=ht;subst ha hb he;obtain ⟨A,n,c,rfl⟩:=RSl.slc h4;have hw2:=hw;obtain ⟨B,m,d,he,-⟩:=hw;simp at he
  subst he;exact ⟨t.p,t.pub,t.vars,A,B,n,c,m,d,t.rows,ws,a,b,e,rfl,h1,h4,hw2⟩
theorem KM (p a n:Nat) (w:World) (hp:Db p=true) (hn:n <= 65536) :
  Calls Tryz.prog 177 #[fv p, .int .u64 a, .int .i64 n] w fun e w'=>∃ g,e= .returned (.slice (some ⟨g,0,none⟩) n n) /\ w.heap.size <= g /\ Blk w' g 22 (Fa n fun i=>a^i%p) /\ Below w.heap.size w w':=by
 obtain ⟨Pd,Lb⟩:=nc hp;have HV:=zH (fun w=>Pj p w hp)
 have HR:=zH (fun w=>ot p a w (by omega))
 obtain ⟨F,hF⟩:∃ F:Nat -> Nat,F=fun i=>a^i%p:=⟨_,rfl⟩
 obtain ⟨r,hr⟩:=zEX (a%p);have HM:=zH (show ∀ i (w:World),Calls Tryz.prog 178 #[fv p, .int .u64 (F i:Int), .int .u64 r] w fun e w'=>e= .returned (.int .u64 (F (i+1):Int)) /\ Below w.heap.size w w' from fun i w=>by
  have:=vD p (a^i%p) (a%p) w hp (Nat.mod_lt _ (by omega)) (Nat.mod_lt _ (by omega))
  rw [<- Nat.mul_mod,<- Nat.pow_succ] at this;rw [hF,hr];exact this)
 have H0:=zH (show F 0=1 by rw [hF];show a^0%p=1;rw [Nat.pow_zero];exact Nat.mod_eq_of_lt (by omega))
 rw [<- hr] at HR;rw [<- hF];have mk:=Fp n (by omega)
 have g0:(0:Int) <= (n:Int):=by omega
 have g1:(n:Int) <= 65536:=by omega
 unfold fv at *;have kf:=Blk.new w 175 #[.int .u64 p];have aa:Below w.heap.size w (w.alloc (.cells #[.int .u64 p] 175)):=(Below.refl _ _).alloc zR _;clear hp hF hr;go_enter Tryz.func177,Tryz.ntmps177
 go_wp2_with fail
 generalize w.alloc _=w1 at kf aa |-;refine (HV.out _).mono ?_;rintro e w2 ⟨rfl,Aa⟩;replace kf:=ea kf Aa;replace aa:=ja aa Aa;clear Aa;have cf:=kf.cell;go_wp2_with fail
 refine (HR.out _).mono ?_;rintro e w3 ⟨rfl,Aa⟩;replace kf:=ea kf Aa;replace aa:=ja aa Aa;clear Aa cf;go_wp2_with fail
 have kr:=Blk.new w3 22 (Fa n fun _=>0)
 have Pq:=(Below.refl w3.heap.size w3).alloc zR (.cells (Fa n fun _=>0) 22)
 generalize w3.alloc _=w5 at kr Pq |-;have HZ:=zH (gy n F fun _=>0)
 clear mk HR HV;go_loopw [8,28] (fun pw y wr=>∃ i:Nat,i <= n /\ y= .int .i64 i /\ pw= .int .u64 (F i:Int) /\ Blk wr w3.heap.size 22 (Fa n (uf F (fun _=>0) i)) /\ Below w3.heap.size w3 wr) (fun _ y _=>n-(intOf y).toNat)
 case atStart=>exact ⟨0,Nat.zero_le _,rfl,by rw [H0.out];rfl,by rw [HZ.out];exact kr,Pq⟩
 case round =>
  clear kr Pq;obtain ⟨i,hi,rfl,rfl,kr,Pq⟩:=hrel;by_cases oa:i<n
  ·have q1:(i:Int)<(n:Int):=by omega
   have q2:(0:Int) <= (i:Int):=by omega
   have cr:=kr.cell i;rw [yu _ _ oa] at cr;have fr:=kr.frozen;obtain ⟨x,hx⟩:=zEX (F i);obtain ⟨z,hz⟩:=zEX (F (i+1));have HS:=zH (zu (n:=n) (G:=fun _=>0) hx)
   have ke:=zH (fun w=>by have:=HM.out i w;rw [<- hx,<- hz] at this;exact this)
   have HZ1:=zH hz;rw [<- hx];clear hx hz;have kd:=ea kf Pq;have hlf:=kf.lt;have hg:=Pg (w:=wr) w3.heap.size i (.int .u64 x);have aq:=kr.set_ i (.int .u64 x);rw [HS.out] at aq;have Eh:=kd.grown hg (fun e=>by have:=Option.some.inj e;omega)
   have xa:=Pq.trans (Nh hg Pq.size zR);have cf:=Eh.cell;go_wp2_with fail
   clear cf hg cr fr kd;generalize wr.setCell _ _=w6 at aq Eh xa |-;refine (ke.out _).mono ?_;rintro e w7 ⟨rfl,Aa⟩;replace aq:=ea aq Aa;replace xa:=ja xa Aa;go_wp2
   go_roundw
   case rel=>exact ⟨i+1,by omega,by go_num,by rw [<- HZ1.out],aq,xa⟩
   case measure=>simp [intOf];omega
  ·obtain rfl:i=n:=by omega
   have q1:¬((i:Int)<(i:Int)):=by omega
   rw [Mz] at kr;go_wp2;go_ret
   exact ⟨_,rfl,aa.size,kr,ja aa Pq⟩
def J2 (p:Nat) (a b:List Nat):Nat -> Nat
 | 0=>0
 | k+1=>(J2 p a b k+a.getD k 0%p*(b.getD k 0%p)%p)%p
end Go.Proofs.YtjipleoamlmkfaaGreat
namespace Go.Proofs.YtjipleoamlmkfaaGreat
def Cg (p:Nat) (x y:Int):Prop:=(p:Int)∣x-y
theorem Cg.rfl' {p:Nat} {x:Int}:Cg p x x:=⟨0,by omega⟩
theorem Cg.of_eq {p:Nat} {x y:Int} (h:x=y):Cg p x y:=h ▸ Cg.rfl'
theorem Cg.symm {p:Nat} {x y:Int} (h:Cg p x y):Cg p y x:=by
 obtain ⟨c,hc⟩:=h;exact ⟨-c,by rw [Int.mul_neg,<- hc];omega⟩
theorem Cg.trans {p:Nat} {x y z:Int} (h:Cg p x y) (h2:Cg p y z):Cg p x z:=by
 obtain ⟨c,hc⟩:=h;obtain ⟨d,hd⟩:=h2;exact ⟨c+d,by rw [Int.mul_add,<- hc,<- hd];omega⟩
theorem Cg.add {p:Nat} {x y u v:Int} (h:Cg p x y) (h2:Cg p u v):Cg p (x+u) (y+v):=by
 obtain ⟨c,hc⟩:=h;obtain ⟨d,hd⟩:=h2;exact ⟨c+d,by rw [Int.mul_add,<- hc,<- hd];omega⟩
theorem Cg.mul {p:Nat} {x y u v:Int} (h:Cg p x y) (h2:Cg p u v):Cg p (x*u) (y*v):=by
 obtain ⟨c,hc⟩:=h;obtain ⟨d,hd⟩:=h2;refine ⟨c*u+y*d,?_⟩;have e:x*u-y*v=(x-y)*u+y*(u-v):=by rw [Int.sub_mul,Int.mul_sub];omega
 rw [e,hc,hd,Int.mul_add,Int.mul_assoc,<- Int.mul_assoc y,Int.mul_comm y (p:Int),Int.mul_assoc]
theorem Cg.neg {p:Nat} {x y:Int} (h:Cg p x y):Cg p (-x) (-y):=by
 obtain ⟨c,hc⟩:=h;exact ⟨-c,by rw [Int.mul_neg,<- hc];omega⟩
theorem Cg.mod {p:Nat} (x:Nat):Cg p ((x%p:Nat):Int) (x:Int):=by
 refine ⟨-((x / p:Nat):Int),?_⟩;have h:=Nat.div_add_mod x p;have h2:((p*(x / p)+x%p:Nat):Int)=(x:Int):=by rw [h]
 rw [Int.natCast_add,Int.natCast_mul] at h2;rw [Int.mul_neg];omega
theorem Cg.pow {p:Nat} {x y:Int} (h:Cg p x y) (k:Nat):Cg p (x^k) (y^k):=by
 induction k with
 | zero=>exact Cg.of_eq (by rw [Int.pow_zero,Int.pow_zero])
 | succ k ih=>rw [Int.pow_succ,Int.pow_succ];exact ih.mul h
theorem Cg.eq {p a b:Nat} (h:Cg p (a:Int) (b:Int)) (ha:a<p) (hb:b<p):a=b:=by
 obtain ⟨c,hc⟩:=h;rcases Int.lt_trichotomy c 0 with h1 | h1 | h1
 ·have:(p:Int)*c <= (p:Int)*(-1):=Int.mul_le_mul_of_nonneg_left (by omega) (by omega)
  omega
 ·subst h1;omega
 ·have:(p:Int)*1 <= (p:Int)*c:=Int.mul_le_mul_of_nonneg_left (by omega) (by omega)
  omega
def Ub (a:Nat -> Int) (x:Int):Nat -> Int
 | 0=>0
 | n+1=>Ub a x n+a n*x^n
theorem YL {p:Nat} {a b:Nat -> Int} {x y:Int} (h:∀ i,Cg p (a i) (b i)) (hx:Cg p x y):∀ n,Cg p (Ub a x n) (Ub b y n)
 | 0=>Cg.rfl'
 | n+1=>(YL h hx n).add ((h n).mul (hx.pow n))
theorem K6 (a:Nat -> Int) (x:Int):∀ n,Ub a x (2*n)=Ub (fun i=>a (2*i)) (x*x) n+x*Ub (fun i=>a (2*i+1)) (x*x) n
 | 0=>by simp [Ub]
 | n+1=>by
  have e:(x*x)^n=x^(2*n):=by rw [Int.pow_mul];congr 1;rw [Int.pow_succ,Int.pow_succ,Int.pow_zero,Int.one_mul]
  show Ub a x (2*n)+a (2*n)*x^(2*n)+a (2*n+1)*x^(2*n+1)=_
  rw [K6 a x n];show _=(Ub (fun i=>a (2*i)) (x*x) n+a (2*n)*(x*x)^n)+x*(Ub (fun i=>a (2*i+1)) (x*x) n+a (2*n+1)*(x*x)^n)
  rw [e,Int.pow_succ]
  grind
theorem W4 (p w:Nat):∀ k,Cg p (Jp p w k:Int) ((w:Int)^k)
 | 0=>Cg.rfl'
 | k+1=>by
  show Cg p ((Jp p w k*w%p:Nat):Int) _
  refine (Cg.mod _).trans ?_;rw [Int.natCast_mul,Int.pow_succ];exact (W4 p w k).mul Cg.rfl'
theorem mX (p a:Nat) (hp:0<p):Cg p (xg p a:Int) (-(a:Int)):=by
 have h1:Cg p ((a%p:Nat):Int) (a:Int):=Cg.mod a;refine Cg.trans ?_ h1.neg;have h:=Nat.mod_lt a hp;unfold xg;split
 ·rename_i h0
  rw [h0];exact Cg.rfl'
 ·exact ⟨1,by omega⟩
theorem E3 (p:Nat) (hp:0<p):∀ (j:Nat) (a:Nat -> Nat) (w:Nat),(j=0 \/ Cg p ((w:Int)^(2^(j-1))) (-1)) -> ∀ k,k<2^j -> Cg p (bh p j a w k:Int) (Ub (fun i=>(a i:Int)) ((w:Int)^k) (2^j))
 | 0,a,w,_,k,hk=>by
  obtain rfl:k=0:=by omega
  show Cg p (a 0:Int) _
  exact Cg.of_eq (by simp [Ub])
 | j+1,a,w,hw,k,hk=>by
  have yn:Cg p ((w:Int)^(2^j)) (-1):=by
   rcases hw with h | h
   ·omega
   ·exact h
  have hw2:j=0 \/ Cg p (((w*w%p:Nat):Int)^(2^(j-1))) (-1):=by
   rcases Nat.eq_zero_or_pos j with h | h
   ·exact Or.inl h
   ·refine Or.inr (((Cg.mod (p:=p) (w*w)).pow _).trans ?_)
    have e:((w*w:Nat):Int)^(2^(j-1))=(w:Int)^(2^j):=by
     rw [Int.natCast_mul,show 2^j=2*2^(j-1) by rw [Nat.mul_comm,<- Nat.pow_succ];congr 1;omega,Int.pow_mul]
     congr 1
     rw [Int.pow_succ,Int.pow_succ,Int.pow_zero,Int.one_mul]
    rw [e];exact yn
  have key:∀ i,i<2^j -> ∀ x:Int,Cg p (x*x) (((w:Int)^i)*((w:Int)^i)) -> Cg p ((bh p j (fun i=>a (2*i)) (w*w%p) i:Int)+x*(bh p j (fun i=>a (2*i+1)) (w*w%p) i:Int)) (Ub (fun i=>(a i:Int)) x (2^(j+1))):=by
   intro i hi x hx;have e0:Cg p (((w*w%p:Nat):Int)^i) (x*x):=by
    refine ((Cg.mod (p:=p) (w*w)).pow _).trans (Cg.trans (Cg.of_eq ?_) hx.symm);rw [Int.natCast_mul,Int.mul_pow]
   have h1:=(E3 p hp j (fun i=>a (2*i)) (w*w%p) hw2 i hi).trans (YL (fun _=>Cg.rfl') e0 _)
   have h2:=(E3 p hp j (fun i=>a (2*i+1)) (w*w%p) hw2 i hi).trans (YL (fun _=>Cg.rfl') e0 _)
   rw [show 2^(j+1)=2*2^j by rw [Nat.pow_succ,Nat.mul_comm],K6]
   exact h1.add (Cg.rfl'.mul h2)
  rw [bh];simp only [];split
  ·rename_i oa
   refine (Cg.mod _).trans (Cg.trans ?_ (key k oa ((w:Int)^k) Cg.rfl'));rw [Int.natCast_add];refine Cg.rfl'.add ((Cg.mod _).trans ?_);rw [Int.natCast_mul];exact (W4 p w k).mul Cg.rfl'
  ·rename_i aw
   obtain ⟨i,rfl⟩:∃ i,k=2^j+i:=⟨k-2^j,by omega⟩
   have hi:i<2^j:=by rw [Nat.pow_succ] at hk;omega
   rw [Nat.add_sub_cancel_left];have ex:Cg p ((w:Int)^(2^j+i)) (-((w:Int)^i)):=by
    rw [Int.pow_add];refine (yn.mul Cg.rfl').trans (Cg.of_eq (by omega))
   refine (Cg.mod _).trans (Cg.trans ?_ (key i hi ((w:Int)^(2^j+i)) ?_))
   ·rw [Int.natCast_add]
    refine Cg.rfl'.add ((mX p _ hp).trans ?_);refine ((Cg.mod _).neg).trans ?_;rw [Int.natCast_mul];refine (((W4 p w i).mul Cg.rfl').neg).trans ?_;rw [<- Int.neg_mul];exact ex.symm.mul Cg.rfl'
   ·refine (ex.mul ex).trans (Cg.of_eq ?_)
    rw [Int.neg_mul_neg]
end Go.Proofs.YtjipleoamlmkfaaGreat
namespace Go.Proofs.YtjipleoamlmkfaaGreat
def sW (p:Nat):Nat -> Nat -> Nat -> Nat
 | 0,_,_=>1
 | f+1,b,e=>if e%2=1 then b*sW p f (b*b%p) (e / 2)%p else sW p f (b*b%p) (e / 2)
theorem X0 (p:Nat):∀ (f b e:Nat),e<2^f -> Cg p (sW p f b e:Int) ((b:Int)^e)
 | 0,b,e,h=>by
  obtain rfl:e=0:=by omega
  exact Cg.of_eq (by simp [sW])
 | f+1,b,e,h=>by
  have h2:e / 2<2^f:=by rw [Nat.pow_succ] at h;omega
  have ih:=(X0 p f (b*b%p) (e / 2) h2).trans ((Cg.mod (p:=p) (b*b)).pow _);have e1:((b*b:Nat):Int)^(e / 2)=(b:Int)^(2*(e / 2)):=by
   rw [Int.natCast_mul,Int.pow_mul]
   congr 1
   rw [Int.pow_succ,Int.pow_succ,Int.pow_zero,Int.one_mul]
  rw [e1] at ih;rw [sW];split
  ·rename_i h1
   refine (Cg.mod _).trans ?_;rw [Int.natCast_mul,show (b:Int)^e=(b:Int)*(b:Int)^(2*(e / 2)) by rw [Int.mul_comm,<- Int.pow_succ];congr 1;omega]
   exact Cg.rfl'.mul ih
  ·rw [show 2*(e / 2)=e by omega] at ih
   exact ih
theorem zBZ {p:Nat} (h:Db p=true):sW p 64 (Yc p).1 ((p-1) / 2)=p-1 /\ (p-1)%2=0 /\ (p-1) / 2<2^64:=by
 rcases Hw h with rfl | rfl | rfl | rfl | rfl | rfl | rfl <;> decide +kernel
theorem zB0 {p:Nat} (h:Db p=true):Cg p (((Yc p).1:Int)^((p-1) / 2)) (-1):=by
 obtain ⟨h1,-,h3⟩:=zBZ h;have h4:=X0 p 64 (Yc p).1 ((p-1) / 2) h3;rw [h1] at h4;refine h4.symm.trans ⟨1,?_⟩;have:=(nc h).1;omega
theorem C5 {p n j:Nat} (h:Db p=true) (hn:Ss p n) (hj:n=2^j):j=0 \/ Cg p ((Wr p n:Int)^(2^(j-1))) (-1):=by
 rcases Nat.eq_zero_or_pos j with h0 | h0
 ·exact Or.inl h0
 ·right
  refine ((Cg.mod (p:=p) _).pow _).trans (Cg.trans (Cg.of_eq ?_) (zB0 h));rw [Int.natCast_pow,<- Int.pow_mul]
  congr 1
  have e:n=2*2^(j-1):=by rw [hj,Nat.mul_comm,<- Nat.pow_succ];congr 1;omega
  have hd:=hn.dvd;have ur:=hn.pos;obtain ⟨q,hq⟩:∃ q,p-1=n*q:=⟨(p-1) / n,by have:=Nat.div_add_mod (p-1) n;omega⟩
  rw [hq,Nat.mul_div_cancel_left _ (by omega),e,Nat.mul_assoc,Nat.mul_div_cancel_left _ (by omega),Nat.mul_comm]
end Go.Proofs.YtjipleoamlmkfaaGreat
namespace Go.Proofs.YtjipleoamlmkfaaGreat
theorem zA8 {p:Nat} (h:Db p=true):sW p 64 2 (p-1)=1 /\ sW p 64 (Yc p).1 (p-1)=1 /\ p-1<2^64:=by
 rcases Hw h with rfl | rfl | rfl | rfl | rfl | rfl | rfl <;> decide +kernel
theorem zDG {p:Nat} (h:Db p=true):Cg p ((2:Int)^(p-1)) 1:=by
 obtain ⟨h1,-,h3⟩:=zA8 h;have h4:=X0 p 64 2 (p-1) h3;rw [h1] at h4;exact h4.symm
theorem sY {p:Nat} (h:Db p=true):Cg p (((Yc p).1:Int)^(p-1)) 1:=by
 obtain ⟨-,h1,h3⟩:=zA8 h;have h4:=X0 p 64 (Yc p).1 (p-1) h3;rw [h1] at h4;exact h4.symm
theorem zCf {p n j:Nat} (h:Db p=true) (hj:n=2^j):Cg p ((n:Int)*((n^(p-2)%p:Nat):Int)) 1:=by
 have hp:=nc h;refine (Cg.rfl'.mul (Cg.mod _)).trans ?_;have e:(n:Int)*((n^(p-2):Nat):Int)=((2:Int)^(p-1))^j:=by
  rw [Int.natCast_pow,hj,Int.natCast_pow,Int.mul_comm,<- Int.pow_succ,<- Int.pow_mul,<- Int.pow_mul,Nat.succ_eq_add_one,show p-2+1=p-1 by omega,Nat.mul_comm]
  rfl
 rw [e];refine ((zDG h).pow j).trans (Cg.of_eq ?_);exact Int.one_pow
theorem D5 {p n:Nat} (h:Db p=true) (hn:Ss p n):Cg p ((Wr p n:Int)^n) 1:=by
 refine ((Cg.mod (p:=p) _).pow _).trans (Cg.trans (Cg.of_eq ?_) (sY h));rw [Int.natCast_pow,<- Int.pow_mul]
 congr 1
 have hd:=hn.dvd;have:=Nat.div_add_mod (p-1) n;rw [Nat.mul_comm];omega
theorem u7 {p n:Nat} (h:Db p=true) (hn:Ss p n):Cg p ((Wr p n:Int)*((Wr p n^(p-2)%p:Nat):Int)) 1:=by
 have hp:=nc h;refine (Cg.rfl'.mul (Cg.mod _)).trans ?_;have e:(Wr p n:Int)*((Wr p n^(p-2):Nat):Int)=((Wr p n:Int)^n)^((p-1) / n):=by
  have hd:=hn.dvd;have h2:=Nat.div_add_mod (p-1) n;rw [Int.natCast_pow,Int.mul_comm,<- Int.pow_succ,<- Int.pow_mul]
  congr 1
  omega
 rw [e];exact ((D5 h hn).pow _).trans (Cg.of_eq Int.one_pow)
end Go.Proofs.YtjipleoamlmkfaaGreat
namespace Go.Proofs.YtjipleoamlmkfaaGreat
theorem r9 {p:Nat}:∀ (j:Nat) (x:Int) (t:Nat),t<j -> Cg p (x^(2^t)) (-1) -> Cg p (Ub (fun _=>1) x (2^j)) 0
 | 0,_,t,ht,_=>absurd ht (Nat.not_lt_zero t)
 | j+1,x,t,ht,hx=>by
  rw [show 2^(j+1)=2*2^j by rw [Nat.pow_succ,Nat.mul_comm],K6]
  show Cg p (Ub (fun _=>1) (x*x) (2^j)+x*Ub (fun _=>1) (x*x) (2^j)) 0
  cases t with
  | zero =>
   rw [Nat.pow_zero,Int.pow_succ,Int.pow_zero,Int.one_mul] at hx;exact (Cg.rfl'.add (hx.mul Cg.rfl')).trans (Cg.of_eq (by omega))
  | succ t =>
   have ih:=r9 j (x*x) t (by omega) (by
    refine Cg.trans (Cg.of_eq ?_) hx;rw [show x*x=x^2 by rw [Int.pow_succ,Int.pow_succ,Int.pow_zero,Int.one_mul],<- Int.pow_mul]
    congr 1
    rw [Nat.pow_succ,Nat.mul_comm])
   exact (ih.add (Cg.rfl'.mul ih)).trans (Cg.of_eq (by omega))
theorem zAj:∀ o:Nat,(-1:Int)^(2*o+1)=-1
 | 0=>by decide
 | o+1=>by rw [show 2*(o+1)+1=(2*o+1)+1+1 by omega,Int.pow_succ,Int.pow_succ,zAj o];decide
theorem zAQ {p:Nat}:∀ (j:Nat) (w:Int) (d:Nat),Cg p (w^(2^(j-1))) (-1) -> 0<d -> d<2^j -> ∃ t,t<j /\ Cg p ((w^d)^(2^t)) (-1)
 | 0,_,d,_,h0,h1=>by omega
 | j+1,w,d,hw,h0,h1=>by
  rcases Nat.mod_two_eq_zero_or_one d with h | h
  ·obtain ⟨e,rfl⟩:∃ e,d=2*e:=⟨d / 2,by omega⟩
   have hj:j≠0:=by rintro rfl;omega
   have he:e<2^j:=by rw [Nat.pow_succ] at h1;omega
   obtain ⟨t,ht,hc⟩:=zAQ j (w^2) e (by
    refine Cg.trans (Cg.of_eq ?_) hw;rw [<- Int.pow_mul]
    congr 1
    show 2*2^(j-1)=2^j
    rw [Nat.mul_comm,<- Nat.pow_succ]
    congr 1
    omega) (by omega) he
   exact ⟨t,by omega,by rw [Int.pow_mul (a:=w)];exact hc⟩
  ·obtain ⟨o,rfl⟩:∃ o,d=2*o+1:=⟨d / 2,by omega⟩
   refine ⟨j,by omega,?_⟩
   rw [<- Int.pow_mul,Nat.mul_comm,Int.pow_mul];exact (Cg.pow hw _).trans (Cg.of_eq (zAj o))
theorem Q7 {p j d:Nat} {w:Int} (hw:Cg p (w^(2^(j-1))) (-1)) (h0:0<d) (h1:d<2^j):Cg p (Ub (fun _=>1) (w^d) (2^j)) 0:=by
 obtain ⟨t,ht,hc⟩:=zAQ j w d hw h0 h1;exact r9 j _ t ht hc
end Go.Proofs.YtjipleoamlmkfaaGreat
namespace Go.Proofs.YtjipleoamlmkfaaGreat
open Go.RowKit
def Co (l:List Oper) (i j:Nat):Bool:=match l[i]?,l[j]? with
 | some x,some y=>x.apart l.toArray y
 | _,_=>false
def fA (P:Program) (o:Oper) (t:TypeId) (z:Array Value):Prop:=o.guard=none /\ ∀ a w,(execOp a o).run P w= .ok (.value (.pointer (some ⟨w.heap.size,0,none⟩))) (w.alloc (.cells z t))
section
variable {P:Program} {l:List Oper} {hs tail:List Nat} {Q:Exit -> Act -> World -> Prop} {N j:Nat} {t:TypeId} {z:Array Value} {rest:List Nat} {i:Nat} {o:Oper} {ta:Array Bool} {a:Act} {w:World}
theorem yG {oj:Oper} (h:Co l i j=true) (ho:l[i]?=some o) (Ie:l[j]?=some oj):o.apart l.toArray oj=true:=by
 unfold Co at h;rw [ho,Ie] at h;exact h
end
theorem RE {w:World} {base:Nat} {e:TypeId} {size:Nat} {v:Value} {n:Nat} {xs:List Value} {g:Nat} {t:TypeId} {cs:Array Value} (h:w.ownsRow base e size v n xs) (k:Blk w g t cs) (ht:t≠e):∀ q,v.ownBlock=some q -> some g=some q -> False:=fun q hq hg=>by
 obtain rfl:=Option.some.inj hg;obtain ⟨h1,h2⟩:=h;rcases h2 with ⟨rfl,-⟩ | ⟨q,cap,cur,rfl,-,hh,-⟩
 ·cases hq
 ·obtain rfl:q=g:=Option.some.inj hq
  unfold Blk at k;rw [hh] at k;cases k
  exact ht rfl
def Gw (l:List Oper) (hs bars fs:List Nat):List Nat -> Array Bool -> Bool
 | [],ta=>(Region.ready .any l.toArray ta).isEmpty
 | i :: rest,ta=>decide (i<l.length)&&(Region.ready .any l.toArray ta).contains i &&
   (if hs.contains i then Region.ready .any l.toArray ta == [i] else Region.free .any l.toArray ta i&&!bars.contains i&&(Yb bars ta||fs.contains i||bars.all fun b=>iy l b i))&&Gw l hs bars fs rest (ta.setIfInBounds i true)
def nm (P:Program) (l:List Oper) (hs bars fs:List Nat) (Q:Exit -> Act -> World -> Prop) (R:World -> World -> Prop) (order:List Nat) (ta:Array Bool) (a:Act) (w:World):Prop :=
 Region.noSelect l.toArray=true -> Gw l hs bars fs order ta=true -> wpB P l.toArray Q bars R order.length ta a w
section
variable {P:Program} {l:List Oper} {hs bars fs:List Nat} {Q:Exit -> Act -> World -> Prop} {R:World -> World -> Prop} {rest:List Nat} {i:Nat} {o:Oper} {ta:Array Bool} {a:Act} {w:World}
theorem JT {id:Nat} (R:World -> World -> Prop) (hs bars fs order:List Nat) (hm:P.follows .mixedOrders=true) (Ia:(Region.noSelect l.toArray&&order.length == l.length&&Gw l hs bars fs order (List.replicate l.length false).toArray)=true)
  (h:nm P l hs bars fs Q R order (List.replicate l.length false).toArray a w.drew):(Code.region id l.toArray true).wp P Q a w:=by
 simp only [Bool.and_eq_true,beq_iff_eq] at Ia;refine wp_region_any hm (SF (bars:=bars) (S:=R w.drew) _ _ _ _ ?_);have h2:=h Ia.1.1 Ia.2;have e:Array.replicate l.toArray.size false=(List.replicate l.length false).toArray:=by simp
 rw [Ia.1.2] at h2;rw [e]
 simpa [wpB] using h2
theorem zBe (M:uc R) {order:List Nat} (h:∀ W,R w W -> nm P l hs bars fs Q R order ta a W):nm P l hs bars fs Q R order ta a w:=h w (M.refl w)
theorem RT (M:uc R) {order:List Nat} (h:∀ W,Hid (W=w) -> R w W -> nm P l hs bars fs Q R order ta a W):nm P l hs bars fs Q R order ta a w:=h w rfl (M.refl w)
theorem MT (h:Q .normal a w):nm P l hs bars fs Q R [] ta a w:=fun _ Ia=>⟨by simpa [Gw] using Ia,h⟩
theorem yB (h:Gw l hs bars fs (i :: rest) ta=true):i<l.length /\ (Region.ready .any l.toArray ta).contains i=true /\
  (hs.contains i=true -> Region.ready .any l.toArray ta=[i]) /\
  (hs.contains i=false -> Region.free .any l.toArray ta i=true /\ i ∉ bars /\ (Yb bars ta=true \/ fs.contains i=true \/ ∀ b∈bars,iy l b i=true)) /\ Gw l hs bars fs rest (ta.setIfInBounds i true)=true:=by
 unfold Gw at h;simp only [Bool.and_eq_true,decide_eq_true_eq] at h;obtain ⟨⟨⟨h1,h2⟩,h3⟩,h4⟩:=h;refine ⟨h1,h2,fun h6=>?_,fun h6=>?_,h4⟩
 ·rw [if_pos h6] at h3
  simpa using h3
 ·rw [if_neg (by rw [h6];exact Bool.noConfusion)] at h3
  simp only [Bool.and_eq_true,Bool.not_eq_true',Bool.or_eq_true,List.all_eq_true] at h3;refine ⟨h3.1.1,fun hm=>?_,by rcases h3.2 with (h | h) | h;exact .inl h;exact .inr (.inl h);exact .inr (.inr h)⟩
  have:=h3.1.2;simp [hm] at this
theorem OT {v:Value} (M:uc R) (hh:hs.contains i=false) (hf:fs.contains i=false) (ho:l[i]?=some o) (hw:Region.wanted o (yielded l.toArray a.tmps)=true) (hQ:∀ c a w,Q (.panic c) (a.put o.dst v) w -> Q (.panic c) a w)
  (Xb:∀ w',(Yb bars ta=false -> R w w') -> (execOp a.eval o).run P w'= .ok (.value v) w') (h:nm P l hs bars fs Q R rest (ta.setIfInBounds i true) (a.put o.dst v) w):nm P l hs bars fs Q R (i :: rest) ta a w:=by
 intro hn Ia;obtain ⟨h1,h2,-,h4,h5⟩:=yB Ia;obtain ⟨f1,f2,f3⟩:=h4 hh;have Cf:l.toArray[i]?=some o:=by rw [List.getElem?_toArray];exact ho
 cases hp:Yb bars ta
 ·refine Ww (T:=R w) Cf (Region.noSelect_spec hn) hQ f2 (.inr ⟨fun _ h=>h,fun b hb ob hob=>LF hob ?_⟩) _ _ _ _ (.inr hp) (Region.free_spec Cf f1) (by simpa using h2) (.inl ⟨hw,fun w' hR=>Xb w' fun _=>hR⟩) (M.refl w) (fun _=>M.refl w) (h hn h5)
  rcases f3 with f3 | f3 | f3
  ·rw [hp] at f3;cases f3
  ·rw [hf] at f3;cases f3
  ·exact f3 b hb
 ·exact Ww (T:=fun _=>True) Cf (Region.noSelect_spec hn) hQ f2 (.inl fun _=>trivial) _ _ _ _ (.inl fun _=>trivial) (Region.free_spec Cf f1) (by simpa using h2) (.inl ⟨hw,fun w' _=>Xb w' fun h=>by rw [hp] at h;cases h⟩) trivial (fun _=>M.refl w) (h hn h5)
theorem NT {v:Value} (M:uc R) (hh:hs.contains i=false) (ho:l[i]?=some o) (hw:Region.wanted o (yielded l.toArray a.tmps)=true) (hQ:∀ c a w,Q (.panic c) (a.put o.dst v) w -> Q (.panic c) a w)
  (Xb:∀ w',(execOp a.eval o).run P w'= .ok (.value v) w') (h:nm P l hs bars fs Q R rest (ta.setIfInBounds i true) (a.put o.dst v) w):nm P l hs bars fs Q R (i :: rest) ta a w:=by
 intro hn Ia;obtain ⟨h1,h2,-,h4,h5⟩:=yB Ia;obtain ⟨f1,f2,-⟩:=h4 hh;have Cf:l.toArray[i]?=some o:=by rw [List.getElem?_toArray];exact ho
 exact Ww (T:=fun _=>True) Cf (Region.noSelect_spec hn) hQ f2 (.inl fun _=>trivial) _ _ _ _ (.inl fun _=>trivial) (Region.free_spec Cf f1) (by simpa using h2) (.inl ⟨hw,fun w' _=>Xb w'⟩) trivial (fun _=>M.refl w) (h hn h5)
theorem QT (M:uc R) (hh:hs.contains i=false) (ho:l[i]?=some o) (hw:Region.wanted o (yielded l.toArray a.tmps)=false) (hQ:∀ c a w,Q (.panic c) (a.put o.dst undef) w -> Q (.panic c) a w)
  (h:nm P l hs bars fs Q R rest (ta.setIfInBounds i true) (a.put o.dst undef) w):nm P l hs bars fs Q R (i :: rest) ta a w:=by
 intro hn Ia;obtain ⟨h1,h2,-,h4,h5⟩:=yB Ia;obtain ⟨f1,f2,f3⟩:=h4 hh;have Cf:l.toArray[i]?=some o:=by rw [List.getElem?_toArray];exact ho
 exact Ww (T:=fun _=>True) Cf (Region.noSelect_spec hn) hQ f2 (.inl fun _=>trivial) _ _ _ _ (.inl fun _=>trivial) (Region.free_spec Cf f1) (by simpa using h2) (.inr ⟨hw,rfl⟩) trivial (fun _=>M.refl w) (h hn h5)
theorem CZ {a b:Prop} (h:a) (s:Imp a b:=by
 (repeat ((first | (apply Imp.via (QT (pa) rfl rfl rfl (fun _ _ _ h=>h))) | (apply Imp.via (OT (v:=?_) (pa) rfl rfl rfl rfl (fun _ _ _ h=>h) ?hr);case hr=>(intro w' hR;(first | have yi:=rz ((pa).trans _ _ _ da (hR rfl)) | skip);clear hR;go_simp;try with_reducible rfl)) | (apply Imp.via (NT (v:=?_) (pa) rfl rfl rfl (fun _ _ _ h=>h) ?hr);case hr=>(intro w';go_simp;try with_reducible rfl)));simp only [Act.put,zLa,zLb,zLc]))
 exact Imp.rfl'):b:=s h
theorem VK (M:uc R) (hh:hs.contains i=true) (ho:l[i]?=some o) (hw:Region.wanted o (yielded l.toArray a.tmps)=true)
  (h:o.wp P a w (fun a' w'=>(Yb bars (ta.setIfInBounds i true)=false -> R w w') /\ nm P l hs bars fs Q R rest (ta.setIfInBounds i true) a' w') Q):nm P l hs bars fs Q R (i :: rest) ta a w:=by
 intro hn Ia;obtain ⟨h1,h2,h3,-,h5⟩:=yB Ia;have hr:=h3 hh;refine ⟨fun h0=>absurd (hr ▸ h0) (by simp),fun j hj=>?_⟩
 rw [hr,List.mem_singleton] at hj;subst hj;unfold wpOp;have hi:l.toArray[j]?=some o:=by rw [List.getElem?_toArray];exact ho
 simp only [hi,hw,if_true];refine .inl (Oper.wp_mono (fun a' w' h'=>⟨h'.1,?_⟩) h)
 have hk:=h'.2 hn h5;cases hp:Yb bars (ta.setIfInBounds j true)
 ·exact RF (fun w2 h2=>M.trans _ _ _ (h'.1 hp) h2) _ _ _ _ hk
 ·exact QF _ _ _ _ hp hk
end
theorem sF {w:World} {base n:Nat} {v:Value} {l:List Nat} (h:w.ownsRow base 22 1 v n (Ca l)) (hl:∀ x∈l,x<18446744073709551616):∃ A c,v= .slice A n c /\ RWd w [.slice A n c] l:=by
 obtain ⟨A,c,rfl,-⟩:=Tb h;exact ⟨A,c,rfl,Fh h hl⟩
def wU (L:Va) (a b c:List Nat):Bool :=
 decide (a.length=L.k)&&decide (b.length=L.k+L.block-1)&&decide (c.length=2*L.k-1)&&(a.all fun x=>decide (x<L.p))&&(b.all fun x=>decide (x<L.p))&&(c.all fun x=>decide (x<L.p))
end Go.Proofs.YtjipleoamlmkfaaGreat
namespace Go.Proofs.YtjipleoamlmkfaaGreat
theorem ZN {P:Program} {f:FuncId} {fn:Func} {s:ChangeSpec} {c:OpenClaim}
  (k1:(c.wf (OpenSpec.ofChange s))=true)
  (k2:(laidOutB P)=true)
  (k3:(mapsRowed P)=true)
  (k4:(fn.params.all (P.readableRec ·))=true)
  (k5:(namedTie P c.named s.vars)=true)
  (k6:((c.stops == []))=true)
  (k7:((P.stops == []))=true)
  (k8:((c.knobs == []))=true)
  (k9:((P.stopKnobs == []))=true)
  (k10:((c.inPlace == P.inPlace f))=true)
  (k11:((c.unfollowed == P.unfollowed f))=true)
  (k12:((c.recurses == P.recurses f))=true)
  (Cn:((c.named == P.varsNamed f))=true)
  (k14:((c.maps == (fn.params.toList++s.plain.varTypes P).any (P.mapsRec ·)))=true)
  (yH:((c.ifaces == (fn.params.toList++s.plain.varTypes P).any (P.ifacesRec ·)))=true)
  (k16:((c.mapsOut == P.mapsAmong fn.resultTypes.toList))=true)
  (k17:((c.loops == (fn.params.toList++s.plain.varTypes P).any (P.loopsFrom ·)))=true)
  (k18:((c.wideKeys == (fn.params.toList++s.plain.varTypes P++fn.resultTypes.toList).any (P.wideKeysFrom ·)))=true)
  (k19:(s.vars.all (P.varReadable ·))=true)
  (k20:(fn.resultTypes.all (fun t=>P.readableRec t&&decide (t<P.types.size)))=true)
  (AH:((c.ifacesOut == fn.resultTypes.toList.any (P.ifacesRec ·)))=true)
  (k22:((c.loopsOut == fn.resultTypes.toList.any (P.loopsFrom ·)))=true)
  (k23:((c.plainKeys == P.plainKeys))=true)
  (k24:(c.shortTexts.isNone)=true)
  (k25:(P.stopsHeard)=true)
  (PH:(P.mayEnter)=true)
  (k27:((c.lifted == P.liftsFinal))=true)
  (aO:((P.make == some c.make))=true)
  (k29:((c.kinds == (if c.domain.isEmpty then [] else fn.params.toList.map fun t=>match P.underlying t with | some (.int k)=>some k | _=>none)))=true)
  (k30:((c.pinned == c.pinnedBy))=true)
  (k31:((c.veiled == (fn.params.toList++s.plain.varTypes P++fn.resultTypes.toList).any (P.veiledRec ·)))=true)
  (k32:(c.veiledFits P fn.params.toList (fn.params.toList++s.plain.varTypes P++fn.resultTypes.toList))=true)
  : joinedFacts P f fn s c=true:=by
 unfold joinedFacts;simp only [Bool.and_eq_true];exact ⟨⟨⟨⟨⟨⟨⟨⟨⟨⟨⟨⟨⟨⟨⟨⟨⟨⟨⟨⟨⟨⟨⟨⟨⟨⟨⟨⟨⟨⟨⟨k1,k2⟩,k3⟩,k4⟩,k5⟩,k6⟩,k7⟩,k8⟩,k9⟩,k10⟩,k11⟩,k12⟩,Cn⟩,k14⟩,yH⟩,k16⟩,k17⟩,k18⟩,k19⟩,k20⟩,AH⟩,k22⟩,k23⟩,k24⟩,k25⟩,PH⟩,k27⟩,aO⟩,k29⟩,k30⟩,k31⟩,k32⟩
end Go.Proofs.YtjipleoamlmkfaaGreat
