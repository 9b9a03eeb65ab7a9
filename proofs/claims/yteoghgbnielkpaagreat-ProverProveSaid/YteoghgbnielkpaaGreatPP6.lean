/- A part of the proof. No condition. -/
import Derived.Test.YteoghgbnielkpaaGreatPP5

set_option maxRecDepth 100000
set_option maxHeartbeats 8000000
set_option linter.unusedVariables false
set_option linter.unusedSimpArgs false
namespace Go.Proofs.YteoghgbnielkpaaGreat
open Go.RowKit
open Tryz
open Go renaming World->vu, Value->vw, Addr->vx, TypeId->vy, Calls->vA
open Go.Value renaming int->vd, slice->ve, agg->vf
open Go.IntKind renaming u64->vo, i64->vq
open Go.Ending renaming returned->vn
open Go.RowKit renaming Below->vz
open Go.Act renaming put->vF
open Option renaming none->vB, some->vD
def zI (l:List (Int × Nat)) (j:Nat):Int:=if j=0 then -1 else (l.getD (j-1) (0,0)).1
theorem zEE {p:Nat} {n:Int} {l:List (Int × Nat)} {j:Nat} (hb:∀ k<j,xu p n l k=false) :
  xu p n l j=(decide ((l.getD j (0,0)).1 <= zI l j)||decide (n <= (l.getD j (0,0)).1)||(l.getD j (0,0)).2 == 0||decide (p <= (l.getD j (0,0)).2)):=by
 have h1:-1 <= zI l j:=by
  unfold zI;split
  ·omega
  ·have h:=hb (j-1) zO
   unfold xu at h;simp only [Bool.or_eq_false_iff,Ly] at h;omega
 unfold xu;have e:(decide ((l.getD j (0,0)).1<0)||(decide (0<j)&&decide ((l.getD j (0,0)).1 <= (l.getD (j-1) (0,0)).1)))=decide ((l.getD j (0,0)).1 <= zI l j):=by
  rw [Bool.eq_iff_iff];simp only [Bool.or_eq_true,pe,My];unfold zI at h1 |-;split
  ·omega
  ·rename_i h0
   rw [Gb h0] at h1;omega
 rw [<- e];cases decide ((l.getD j (0,0)).1<0) <;> cases decide (n <= (l.getD j (0,0)).1) <;> simp
theorem vX (p:Nat) (pub n:Int) (rows:vw) (A:Option vx) (len c:Nat) (l:List (Int × Nat)) (w:vu) (hl:RLin w [ve A len c] l) (hs:slc rows) :
  vA prog 277 #[Xc p pub n rows,ve A len c] w fun e w'=>e=vn (.bool (Cj p n l)) /\ vz w.1.size w w':=by
 obtain ⟨A',n',c',he,hlen,Nd,Be,Na⟩:=hl;simp at he
 obtain ⟨rfl,rfl,rfl⟩:=he;obtain ⟨As,ns,cs,rfl⟩:=hs;subst hlen;unfold Xc;obtain ⟨kt,da⟩:=zN w 25 #[vd vo p,vd vq pub,vd vq n,ve As ns cs];have g0:(l.length:Int) <= 9223372036854775807:=by
  have h4:=Be;simp [maxLen] at h4
  omega
 go_enter func277,ntmps277
 go_wp2_with fail
 generalize w.alloc _=w1 at kt da |-;go_loopw [5,10] (fun u i wr=>∃ (j:Nat) (la:Int),j <= l.length /\ i=vd vq j /\ u=vd vq la /\ Hid (la=zI l j) /\ Blk wr w.1.size 25 #[vd vo p,vd vq pub,vd vq n,ve As ns cs] /\ vz w.1.size w wr /\ Hid (∀ k<j,xu p n l k=false))
  (fun _ i _=>l.length-(intOf i).toNat)
 case atStart=>exact ⟨0,-1,Qb _,rfl,rfl,rfl,kt,da,fun k hk=>zO⟩
 case round =>
  clear kt da;obtain ⟨j,la,hj,rfl,rfl,HLA,kt,da,HB⟩:=hrel;by_cases ya:j<l.length
  ·have HL:=zH ya
   obtain ⟨b,q,rfl⟩:=Na.base zO zO;have iz:=Na.below JF da;obtain ⟨c1,c2⟩:=RLin.at_ iz ya;have dc:=Bg _ _ c1;simp only at dc;have g1:(0:Int)<=j:=by omega
   have g2:(j:Int)<l.length:=by omega
   have HD:=zH (zEE HB.out);have iJ:=zH (show (l.getD j (0,0)).1=zI l (j+1) by simp [zI])
   rw [<- HLA.out] at HD;revert c1 c2 HD iJ
   generalize (l.getD j (0,0)).1=x;generalize (l.getD j (0,0)).2=y;intro c1 c2 HD iJ;have ct:=kt.cell;have lt:=kt.lt;clear Na iz HLA;by_cases z1:x <= la
   ·have d1:=xc z1
    go_wp2_with fail
    go_ret
    exact ⟨by rw [BB HL.out (HD.out.trans (by simp [d1]))];rfl,da.alloc da.size _⟩
   ·have d1:=Xb z1
    by_cases z2:n <= x
    ·have d2:=xc z2
     go_wp2_with fail
     go_ret
     exact ⟨by rw [BB HL.out (HD.out.trans (by simp [d1,d2]))];rfl,da.alloc da.size _⟩
    ·have d2:=Xb z2
     by_cases z4:y=0
     ·have HY:=zH z4
      subst z4;go_wp2_with fail
      go_ret
      exact ⟨by rw [BB HL.out (HD.out.trans (by simp [d1,d2]))];rfl,da.alloc da.size _⟩
     ·have d4:((y:Int) == 0)=false:=by rw [Ke];omega
      have d4':(y == 0)=false:=by rw [Ke];exact z4
      by_cases z5:p <= y
      ·have d5:decide ((p:Int)<=y)=true:=xc zO
       have d5':=xc z5;go_wp2_with fail
       go_ret
       exact ⟨by rw [BB HL.out (HD.out.trans (by simp [d1,d2,d4',d5']))];rfl,da.alloc da.size _⟩
      ·have d5:decide ((p:Int)<=y)=false:=Xb zO
       have d5':=Xb z5;have HE:=zH (show xu p n l j=false from HD.out.trans (by simp [d1,d2,d4',d5']))
       clear d4' d5';go_wp2_with fail
       go_roundw
       case rel=>exact ⟨j+1,x,zO,by go_num,rfl,iJ.out,kt.alloc _,da.alloc da.size _,rV HB.out HE.out⟩
       case measure=>simp [intOf];omega
  ·obtain rfl:l.length=j:=by omega
   go_wp2;go_ret
   exact ⟨by rw [P6 HB.out];rfl,da⟩
theorem zF3 (p:Nat) (pub vars:Int) (rows:vw) (r:sc) (x y z:vw) (w:vu) (hx:RLin w [x] r.a) (hy:RLin w [y] r.b) (hz:RLin w [z] r.c) (hs:slc rows) :
  vA prog 211 #[Xc p pub vars rows,vf #[x,y,z]] w fun e w'=>e=vn (.bool (Cp p vars r)) /\ vz w.1.size w w':=by
 obtain ⟨A1,n1,c1,rfl⟩:=RSl.slc hx;obtain ⟨A2,n2,c2,rfl⟩:=RSl.slc hy;obtain ⟨A3,n3,c3,rfl⟩:=RSl.slc hz;have HX:=zH (fun w' (hb:vz w.1.size w w')=>vX p pub vars rows _ _ _ r.a w' (Ph _ _ _ _ hb hx) hs)
 have HY:=zH (fun w' (hb:vz w.1.size w w')=>vX p pub vars rows _ _ _ r.b w' (Ph _ _ _ _ hb hy) hs)
 have HZ:=zH (fun w' (hb:vz w.1.size w w')=>vX p pub vars rows _ _ _ r.c w' (Ph _ _ _ _ hb hz) hs)
 obtain ⟨As,ns,cs,rfl⟩:=hs;have hR:Cp p vars r=(Cj p vars r.a&&Cj p vars r.b&&Cj p vars r.c):=rfl;rw [hR];clear hR hx hy hz;generalize Cj p vars r.a=b1 at *;generalize Cj p vars r.b=b2 at *;generalize Cj p vars r.c=b3 at *;unfold Xc at *;obtain ⟨kt,kr,da,-⟩:=Xf w 25 211 #[vd vo p,vd vq pub,vd vq vars,ve As ns cs] #[ve A1 n1 c1,ve A2 n2 c2,ve A3 n3 c3];go_enter func211,ntmps211
 go_wp2_with fail
 generalize (w.alloc _).alloc _=w0 at kt kr da |-;refine (HX.out _ da).mono ?_;rintro e w1 ⟨rfl,Oa⟩;replace kt:=pa kt Oa;replace kr:=pa kr Oa;replace da:=ta da Oa;clear Oa;have ct:=kt.cell;have cr:=kr.cell;cases b1
 ·go_wp2
  go_ret
  exact ⟨rfl,da⟩
 go_wp2_with fail
 refine (HY.out _ da).mono ?_;rintro e w2 ⟨rfl,Fa⟩;replace kt:=pa kt Fa;replace kr:=pa kr Fa;replace da:=ta da Fa;clear Fa ct cr;have ct:=kt.cell;have cr:=kr.cell;cases b2
 ·go_wp2
  go_ret
  exact ⟨rfl,da⟩
 go_wp2_with fail
 refine (HZ.out _ da).mono ?_;rintro e w3 ⟨rfl,Ra⟩;go_wp2;go_ret
 exact ⟨zS,ta da Ra⟩
theorem zC6 (p:Nat) (w:vu) (hp:jc p=false) :
  vA prog 214 #[fv p] w fun e w'=>e=vn (.bool false) /\ vz w.1.size w w':=by
 unfold jc at hp;simp only [Bool.or_eq_false_iff,Ke] at hp;obtain ⟨⟨⟨⟨⟨⟨h1,h2⟩,h3⟩,h4⟩,h5⟩,h6⟩,h7⟩:=hp;have d1:((p:Int) == 17)=false:=by rw [Ke];omega
 have d2:((p:Int) == 97)=false:=by rw [Ke];omega
 have d3:((p:Int) == 193)=false:=by rw [Ke];omega
 have d4:((p:Int) == 257)=false:=by rw [Ke];omega
 have d5:((p:Int) == 12289)=false:=by rw [Ke];omega
 have d6:((p:Int) == 65537)=false:=by rw [Ke];omega
 have d7:((p:Int) == 18446744069414584321)=false:=by rw [Ke];omega
 clear h1 h2 h3 h4 h5 h6 h7;unfold fv;go_enter func214,ntmps214
 go_wp2_with fail
 go_ret
 exact ⟨rfl,(Kb _ _).alloc zR _⟩
theorem zC7 (p:Nat) (w:vu):vA prog 214 #[fv p] w fun e w'=>e=vn (.bool (jc p)) /\ vz w.1.size w w':=by
 cases h:jc p
 ·exact zC6 p w h
 ·exact qv p w h
theorem zF5 (p:Nat) (pub vars:Int) (rows:vw) (w:vu) (hs:slc rows) :
  vA prog 210 #[Xc p pub vars rows] w fun e w'=>e=vn (.bool (jc p&&!decide (pub<0)&&!decide (vars <= pub)&&!decide (65536<vars))) /\ vz w.1.size w w':=by
 have HV:=zH (fun w=>zC7 p w)
 obtain ⟨As,ns,cs,rfl⟩:=hs;generalize jc p=b0 at *;unfold Xc fv at *;obtain ⟨kt,da⟩:=zN w 25 #[vd vo p,vd vq pub,vd vq vars,ve As ns cs];go_enter func210,ntmps210
 go_wp2_with fail
 generalize w.alloc _=w0 at kt da |-;refine (HV.out _).mono ?_;rintro e w1 ⟨rfl,Oa⟩;replace kt:=pa kt Oa;replace da:=ta da Oa;clear Oa;have ct:=kt.cell;cases b0
 ·go_wp2
  go_ret
  exact ⟨rfl,da⟩
 by_cases z1:pub<0
 ·have d1:decide (0 <= pub)=false:=Xb zO
  have e1:=xc z1;go_wp2;go_ret
  exact ⟨by simp [e1],da⟩
 have d1:decide (0 <= pub)=true:=xc zO;have e1:=Xb z1;by_cases z2:vars <= pub
 ·have d2:decide (pub<vars)=false:=Xb zO
  have e2:=xc z2;go_wp2;go_ret
  exact ⟨by simp [e2],da⟩
 have d2:decide (pub<vars)=true:=xc zO;have e2:=Xb z2;by_cases z3:65536<vars
 ·have d3:decide (vars <= 65536)=false:=Xb zO
  have e3:=xc z3;go_wp2;go_ret
  exact ⟨by simp [e3],da⟩
 have d3:decide (vars <= 65536)=true:=xc zO;have e3:=Xb z3;go_wp2;go_ret
 exact ⟨by simp [e1,e2,e3],da⟩
theorem iQ (p:Nat) (pub vars:Int) (A:Option vx) (n c:Nat) (rows:List sc) (w:vu) (hr:RSl 3 yg w [ve A n c] rows) :
  vA prog 115 #[Xc p pub vars (ve A n c)] w fun e w'=>e=vn (.bool (Jd p pub vars rows)) /\ vz w.1.size w w':=by
 have HS:=zH (fun w=>zF5 p pub vars (ve A n c) w ⟨_,_,_,rfl⟩)
 have HR:=zH (fun r x y z w hx hy hz=>zF3 p pub vars (ve A n c) r x y z w hx hy hz ⟨_,_,_,rfl⟩)
 obtain ⟨A',n',c',he,hlen,Nd,Be,Na⟩:=hr;simp at he
 obtain ⟨rfl,rfl,rfl⟩:=he;subst hlen;have g0:(rows.length:Int) <= 9223372036854775807:=by
  have h4:=Be;simp [maxLen] at h4
  omega
 have E:=zH (show Jd p pub vars rows=((jc p&&!decide (pub<0)&&!decide (vars <= pub)&&!decide (65536<vars))&&!decide ((16384:Int)<rows.length)&&rows.all (Cp p vars)) from rfl)
 revert HS E
 generalize Jd p pub vars rows=ans;generalize (jc p&&!decide (pub<0)&&!decide (vars <= pub)&&!decide (65536<vars))=b0;intro HS E;unfold Xc at *;obtain ⟨kt,da⟩:=zN w 25 #[vd vo p,vd vq pub,vd vq vars,ve A rows.length c];go_enter func115,ntmps115
 go_wp2_with fail
 generalize w.alloc _=w0 at kt da |-;refine (HS.out _).mono ?_;rintro e w1 ⟨rfl,Oa⟩;replace kt:=pa kt Oa;replace da:=ta da Oa;clear Oa;have ct:=kt.cell;cases b0
 ·go_wp2
  go_ret
  exact ⟨by rw [E.out];simp,da⟩
 by_cases z4:(16384:Int)<rows.length
 ·have d4:=xc z4
  go_wp2;go_ret
  exact ⟨by rw [E.out];simp [d4],da⟩
 have d4:=Xb z4;have E2:=zH (show ans=rows.all (Cp p vars) by rw [E.out,d4];simp)
 clear E;go_wp2_with fail
 clear ct;go_loopw [17] (fun i wr=>∃ j:Nat,j <= rows.length /\ i=vd vq j /\ Blk wr w.1.size 25 #[vd vo p,vd vq pub,vd vq vars,ve A rows.length c] /\ vz w.1.size w wr /\ Hid (∀ k<j,∀ h:k<rows.length,Cp p vars rows[k]=true))
  (fun i _=>rows.length-(intOf i).toNat)
 case atStart=>exact ⟨0,Qb _,rfl,kt,da,fun k hk=>zO⟩
 case round =>
  clear kt da;obtain ⟨j,hj,rfl,kt,da,HB⟩:=hrel;by_cases ya:j<rows.length
  ·have HL:=zH ya
   obtain ⟨b,q,rfl⟩:=Na.base zO zO;obtain ⟨cs,-,hc,x,y,z,rfl,ld,qf,Vd⟩:=(Na.below Bh da).get ya;have h0:wr.cell? ⟨b,q+j*3,vB⟩=vD x:=hc 0 zO;have h1:wr.cell? ⟨b,q+j*3+1,vB⟩=vD y:=hc 1 zO;have h2:wr.cell? ⟨b,q+j*3+2,vB⟩=vD z:=hc 2 zO;have i1:(0:Int)<=j:=by omega
   have i2:(j:Int)<rows.length:=by omega
   have dc:=Bg _ _ h0;simp only at dc;have HC:=zH (fun w' (hb:vz wr.1.size wr w')=>HR.out rows[j] x y z w' (Ph _ _ _ _ hb ld) (Ph _ _ _ _ hb qf) (Ph _ _ _ _ hb Vd))
   obtain ⟨A1,n1,c1,rfl⟩:=RSl.slc ld;obtain ⟨A2,n2,c2,rfl⟩:=RSl.slc qf;obtain ⟨A3,n3,c3,rfl⟩:=RSl.slc Vd;have ma:=zA wr (.cells #[ve A1 n1 c1,ve A2 n2 c2,ve A3 n3 c3] 211);have ct:=kt.cell;have lt:=kt.lt;clear hc ld qf Vd;go_wp2_with fail
   refine (HC.out _ ma).mono ?_;rintro e w3 ⟨rfl,Ra⟩;have Ib:=ta ma Ra;replace kt:=pa kt Ib;replace da:=ta da Ib;clear ma Ra Ib h0 h1 h2 ct lt;cases bo:Cp p vars rows[j]
   ·have HO:=zH bo
    clear bo;go_wp2;go_ret
    exact ⟨by rw [E2.out,uE.2 ⟨rows[j],Qe HL.out,fun h=>Bool.noConfusion (HO.out.symm.trans h)⟩];rfl,da⟩
   ·have HO:=zH bo
    clear bo;go_wp2
    go_roundw
    case rel =>
     refine ⟨j+1,zO,by go_num,kt,da,fun k hk h=>?_⟩
     by_cases e:k<j
     ·exact HB.out k e h
     ·obtain rfl:k=j:=by omega
      exact HO.out
    case measure=>simp [intOf];omega
  ·obtain rfl:rows.length=j:=by omega
   go_wp2;go_ret
   exact ⟨by rw [E2.out,oh.2 fun r hr=>by obtain ⟨k,hk,rfl⟩:=Vq hr;exact HB.out k hk hk];rfl,da⟩
theorem iT (n k:Nat) (w:vu) (hn:n <= 1000000000) (hk:0<k) (Dm:k <= 1000000000) :
  vA prog 117 #[vd vq n,vd vq k] w fun e w'=>e=vn (vd vq (((n+k-1) / k:Nat):Int)) /\ w'=w:=by
 have e1:(n:Int)+k=((n+k:Nat):Int):=by omega
 obtain ⟨s,hs⟩:=zEX (n+k);obtain ⟨t,ht⟩:=zEX (n+k-1);obtain ⟨r,hr⟩:=zEX (t / k);have e2:(s:Int)-1=(t:Int):=by omega
 rw [<- hs] at e1;rw [<- ht,<- hr];have e3:(t:Int) / (k:Int)=r:=by rw [hr];rfl
 have e4:(t:Int).tdiv (k:Int)=r:=by rw [hr];rfl
 have e5:=Xd s;have e6:=Xd t;have Mi:r <= t:=by rw [hr];exact GA _ _
 have e7:=Xd r;have q1:(0:Int)<k:=by omega
 have q2:¬((k:Int)=0):=by omega
 have q3:¬(k=0):=by omega
 clear hs ht hr Mi;go_enter func117,ntmps117
 go_wp2_with fail
 go_ret
 exact ⟨rfl,rfl⟩
def FN (bl bw qs:Int):Prop:=bl<2 \/ 256<bl \/ bl.toNat &&& (bl.toNat-1)≠0 \/ qs<1 \/ 64<qs \/ (bw≠1 /\ bw≠2 /\ bw≠4 /\ bw≠8)
theorem zFf {p:Nat} {pub vars:Int} {nr:Nat} {bl bw qs:Int} (h:FN bl bw qs):uz ⟨p,pub,vars,nr,bl,bw,qs⟩=1:=Lb h
theorem zF7 (bl bw qs:Int) (w:vu) (h:FN bl bw qs) :
  vA prog 116 #[vf #[vd vq bl,vd vq bw,vd vq qs]] w fun e w'=>e=vn (.bool false) /\ vz w.1.size w w':=by
 have da:=zA w (.cells #[vd vq bl,vd vq bw,vd vq qs] 27);by_cases hw:bw≠1 /\ bw≠2 /\ bw≠4 /\ bw≠8
 ·obtain ⟨h1,h2,h3,h4⟩:=hw
  have d1:(bw != 1)=true:=by rw [dk];exact h1
  have d2:(bw != 2)=true:=by rw [dk];exact h2
  have d3:(bw != 4)=true:=by rw [dk];exact h3
  have d4:(bw != 8)=true:=by rw [dk];exact h4
  clear h h1 h2 h3 h4;go_enter func116,ntmps116
  go_wp2_with fail
  go_ret
  exact ⟨rfl,da⟩
 have FF:bw=1 \/ bw=2 \/ bw=4 \/ bw=8:=by omega
 by_cases z1:bl<2
 ·have d1:decide (2 <= bl)=false:=Xb zO
  clear h hw;rcases FF with rfl | rfl | rfl | rfl <;>
  ·go_enter func116,ntmps116
   go_wp2_with fail
   go_ret
   exact ⟨rfl,da⟩
 have d1:decide (2 <= bl)=true:=xc zO;by_cases z2:256<bl
 ·have d2:decide (bl <= 256)=false:=Xb zO
  clear h hw;rcases FF with rfl | rfl | rfl | rfl <;>
  ·go_enter func116,ntmps116
   go_wp2_with fail
   go_ret
   exact ⟨rfl,da⟩
 have d2:decide (bl <= 256)=true:=xc zO;obtain ⟨b,rfl⟩:=jm (show 0 <= bl by omega)
 unfold FN at h;rw [En] at h;have hand:=tR ⟨b,zO⟩ (by show 2 <= b;omega)
 simp only at hand;have i1:(1:Int)<=b:=by omega
 have i2:(0:Int)<=b-1:=by omega
 have i3:(b:Int) <= 256:=by omega
 by_cases z3:b &&& (b-1)=0
 ·rw [z3] at hand
  have hq:¬(1 <= qs /\ qs <= 64):=by omega
  clear h hw z3;by_cases z4:qs<1
  ·have d4:decide (1 <= qs)=false:=Xb zO
   rcases FF with rfl | rfl | rfl | rfl <;>
   ·go_enter func116,ntmps116
    go_wp2_with fail
    go_ret
    exact ⟨rfl,da⟩
  ·have d4:decide (1 <= qs)=true:=xc zO
   have d5:decide (qs <= 64)=false:=Xb zO;rcases FF with rfl | rfl | rfl | rfl <;>
   ·go_enter func116,ntmps116
    go_wp2_with fail
    go_ret
    exact ⟨rfl,da⟩
 ·obtain ⟨v,hv⟩:=zEX (b &&& (b-1))
  rw [<- hv] at hand z3;have d3:((v:Int) == 0)=false:=by rw [Ke];omega
  clear h hw hv z3;rcases FF with rfl | rfl | rfl | rfl <;>
  ·go_enter func116,ntmps116
   go_wp2_with fail
   go_ret
   exact ⟨rfl,da⟩
theorem zF8 (b bw q:Nat) (w:vu) (h0:2 <= b) (h1:b <= 256) (h2:b &&& (b-1)=0) (h3:1 <= q) (h4:q <= 64) (FF:bw=1 \/ bw=2 \/ bw=4 \/ bw=8) :
  vA prog 116 #[vf #[vd vq b,vd vq bw,vd vq q]] w fun e w'=>e=vn (.bool true) /\ vz w.1.size w w':=by
 have hand:=tR ⟨b,zO⟩ (by show 2 <= b;omega)
 simp only at hand;rw [h2] at hand;have i1:(1:Int)<=b:=by omega
 have i2:(0:Int)<=b-1:=by omega
 have i3:(b:Int) <= 256:=by omega
 have d1:decide ((2:Int)<=b)=true:=xc zO;have d2:decide ((b:Int) <= 256)=true:=xc zO;have d4:decide ((1:Int)<=q)=true:=xc zO;have d5:decide ((q:Int) <= 64)=true:=xc zO;clear h0 h1 h2 h3 h4;have da:=zA w (.cells #[vd vq b,vd vq bw,vd vq q] 27);rcases FF with rfl | rfl | rfl | rfl <;>
 ·go_enter func116,ntmps116
  go_wp2_with fail
  go_ret
  exact ⟨rfl,da⟩
section
variable (p:Nat) (pub vars:Int) (A:Option vx) (n c:Nat) (rows:List sc) (bl bw qs:Int) (w:vu)
theorem zFW (hr:RSl 3 yg w [ve A n c] rows) (ht:Jd p pub vars rows=true) (AK:FN bl bw qs) :
  vA prog 55 (Uv p pub vars A n c bl bw qs) w fun e w'=>e=vn (.tuple #[vf Fh,vd vq 1]) /\ vz w.1.size w w':=by
 have HV:=zH (fun w' (hb:vz w.1.size w w')=>iQ p pub vars A n c rows w' (Qg Bh _ _ _ _ hb hr))
 have HP:=zH (fun w=>zF7 bl bw qs w AK)
 rw [ht] at HV;clear hr ht AK;unfold Uv Xc Fh at *;obtain ⟨kt,kx,kz,da,-⟩:=Sw w 25 27 101 #[vd vo p,vd vq pub,vd vq vars,ve A n c] #[vd vq bl,vd vq bw,vd vq qs] #[vd vo 0,vd vq 0,vd vq 0,vd vq 0,vd vq 0,vd vq 0,vd vq 0,vd vq 0,vd vq 0,vd vq 0,vd vq 0];go_enter func55,ntmps55
 go_wp2_with fail
 generalize ((w.alloc _).alloc _).alloc _=w0 at kt kx kz da |-;refine (HV.out _ da).mono ?_;rintro e w1 ⟨rfl,Oa⟩;replace kt:=pa kt Oa;replace kx:=pa kx Oa;replace kz:=pa kz Oa;replace da:=ta da Oa;have cx:=kx.cell;clear Oa;go_wp2_with fail
 refine (HP.out _).mono ?_;rintro e w2 ⟨rfl,Fa⟩;replace kz:=pa kz Fa;replace da:=ta da Fa;clear Fa cx;have cz:=kz.cell;have fz:=kz.frozen;go_wp2_with fail
 obtain ⟨wf,Yc,kW,hW⟩:=SB kz da;rw [Yc];clear Yc cz fz kz da;have c4:=kW.cell;exact Uc (v:=.tuple #[vf #[vd vo 0,vd vq 0,vd vq 0,vd vq 0,vd vq 0,vd vq 0,vd vq 0,vd vq 0,vd vq 0,vd vq 0,vd vq 0],vd vq 1]) (by simp [results,results55,go_sem,c4]) rfl ⟨rfl,hW⟩
end
theorem TN {w:vu} (g i:Nat) (v:vw):w.grownBy (w.setCell ⟨g,i,vB⟩ v) (vD g):=Li (p:=⟨g,i,vB⟩) (mg w _) (.inl rfl) _
def yO (w:vu) (g i:Nat):Nat:=match w.cell? ⟨g,i,vB⟩ with | some (vd _ n)=>n.toNat | _=>0
theorem zFX (p U V:Nat) (A:Option vx) (n c:Nat) (rows:List sc) (b bw q:Nat) (w:vu) (hr:RSl 3 yg w [ve A n c] rows) (ht:Jd p U V rows=true)
  (h0:2 <= b) (h1:b <= 256) (h2:b &&& (b-1)=0) (h3:1 <= q) (h4:q <= 64) (hw:bw=1 \/ bw=2 \/ bw=4 \/ bw=8) :
  vA prog 55 (Uv p U V A n c b bw q) w fun e w'=>TG ⟨p,U,V,rows.length,b,bw,q⟩ e /\ vz w.1.size w w':=by
 have Fb:=LI ht;obtain ⟨Sd,hp⟩:=Cc Fb;have HV:=zH (fun w' (hb:vz w.1.size w w')=>iQ p U V A n c rows w' (Qg Bh _ _ _ _ hb hr))
 have HPa:=zH (fun w=>zF8 b bw q w h0 h1 h2 h3 h4 hw)
 rw [ht] at HV;have nL:U<V /\ V <= 65536 /\ rows.length <= 16384:=by
  unfold Jd at ht;simp only [pe,Mm,Ly] at ht;omega
 obtain ⟨t1,t2,t3⟩:=nL;obtain ⟨A',n',c',he,hlen,Nd,Be,-⟩:=hr;simp at he
 obtain ⟨rfl,rfl,rfl⟩:=he;subst hlen;have hbw8:bw <= 8 /\ 1 <= bw:=by omega
 obtain ⟨k,hk⟩:=zEX (b+q);obtain ⟨kk,Kv⟩:=zEX (2*k);obtain ⟨s,hs⟩:=zEX (V-1-U);obtain ⟨v1,bh⟩:=zEX (V-1);obtain ⟨pm,Vl⟩:=zEX (p-1);have ek:(b:Int)+q=(k:Int):=by omega
 have ek1:=Xd k;have TJ:(2:Int)*k=(kk:Int):=by omega
 have ek3:=Xd kk;have ev:(V:Int)-1=(v1:Int):=by omega
 have ev2:=Xd v1;have es:(v1:Int)-U=(s:Int):=by omega
 have es2:=Xd s;have ep:vo.wrap ((p:Int)-1)=(pm:Int):=by rw [Vl];exact Ku p 1 zO hp
 have ep2:(p:Int)-1=(pm:Int):=by omega
 have ep3:vo.wrap (pm:Int)=pm:=Wk _ zO;have j1:kk <= 640:=by omega
 have j2:6 <= kk:=by omega
 have hb256:vo.wrap (b:Int)=b:=Wk b zO;have HB:=zH (And.intro h0 h1);have HQ:=zH (And.intro h3 h4);have HK:=zH hk;have HS:=zH hs;have HT:=zH (And.intro Fb (And.intro t1 (And.intro t2 t3)));have HP:=zH (show pm=p-1 /\ 17 <= p from ⟨Vl,Sd⟩)
 have HG:=zH (fun N NN hN pk=>U7 (p:=p) (U:=U) (V:=V) (nr:=rows.length) (bw:=bw) (N:=N) (NN:=NN) h0 h1 h2 h3 h4 hw Vl hN pk)
 have oc:=zH h2;have cy:=zH hbw8;have HW:=zH hw;have HKK:=zH (show kk=2*(b+q) by omega)
 have gm:(rows.length:Int) <= 16384:=by omega
 have u1:(rows.length+b-1) / b <= 100000:=jb (GA _ _) zO;have u2:(s+b-1) / b <= 100000:=jb (GA _ _) zO;have HU:=zH (fun w=>iT rows.length b w zO zO zO)
 have Uu:=zH (fun w=>iT s b w zO zO zO)
 obtain ⟨ub,pL⟩:=zEX ((rows.length+b-1) / b);obtain ⟨ua,oL⟩:=zEX ((s+b-1) / b);rw [<- pL] at HU u1;rw [<- oL] at Uu u2;have HUB:=zH pL;have HUA:=zH oL;clear pL oL h0 h1 h2 h3 h4 hk hs Kv Fb hp Sd ht t1 t2 t3 Vl hw hbw8 bh;unfold Uv Xc at *;obtain ⟨kt,kx,kz,da,-⟩:=Sw w 25 27 101 #[vd vo p,vd vq U,vd vq V,ve A rows.length c] #[vd vq b,vd vq bw,vd vq q] #[vd vo 0,vd vq 0,vd vq 0,vd vq 0,vd vq 0,vd vq 0,vd vq 0,vd vq 0,vd vq 0,vd vq 0,vd vq 0];go_enter func55,ntmps55
 go_wp2_with fail
 generalize ((w.alloc _).alloc _).alloc _=w0 at kt kx kz da |-;refine (HV.out _ da).mono ?_;rintro e w1 ⟨rfl,Oa⟩;replace kt:=pa kt Oa;replace kx:=pa kx Oa;replace kz:=pa kz Oa;replace da:=ta da Oa;have cx:=kx.cell;clear Oa;go_wp2_with fail
 refine (HPa.out _).mono ?_;rintro e w2 ⟨rfl,Fa⟩;replace kt:=pa kt Fa;replace kx:=pa kx Fa;replace kz:=pa kz Fa;replace da:=ta da Fa;clear Fa cx;have cx:=kx.cell;have ct:=kt.cell;go_wp2_with fail
 obtain ⟨k6,ma⟩:=zN w2 101 #[vd vo p,vd vq b,vd vq q,vd vq k,vd vq 1,vd vq 0,vd vq 0,vd vq 0,vd vq 0,vd vq 0,vd vq 0];have MK:w.1.size+1+1<w2.1.size:=kz.lt;replace kt:=pa kt ma;replace kx:=pa kx ma;replace kz:=pa kz ma;replace da:=ta da ma;clear ma cx ct;generalize w2.alloc _=w3 at kt kx kz da k6 |-;generalize w2.1.size=g6 at k6 MK |-;go_loopw [35] (fun _ wr=>∃ N:Nat,Hid ((∃ z,N=2^z) /\ N<2*kk) /\ N <= 1280 /\ 0<N /\ Blk wr w.1.size 25 #[vd vo p,vd vq U,vd vq V,ve A rows.length c] /\ Blk wr (w.1.size+1) 27 #[vd vq b,vd vq bw,vd vq q] /\ Blk wr (w.1.size+1+1) 101 #[vd vo 0,vd vq 0,vd vq 0,vd vq 0,vd vq 0,vd vq 0,vd vq 0,vd vq 0,vd vq 0,vd vq 0,vd vq 0] /\ Blk wr g6 101 #[vd vo p,vd vq b,vd vq q,vd vq k,vd vq N,vd vq 0,vd vq 0,vd vq 0,vd vq 0,vd vq 0,vd vq 0] /\ vz w.1.size w wr) (fun _ wr=>1300-yO wr g6 4)
 case atStart=>exact ⟨1,⟨⟨0,rfl⟩,zO⟩,zO,zO,kt,kx,kz,k6,da⟩
 case round =>
  clear kt kx kz k6 da;obtain ⟨N,HN,uf,tf,kt,kx,kz,k6,da⟩:=hrel;have cM:yO wr g6 4=N:=by unfold yO;rw [k6.cell];simp
  by_cases ya:N<kk
  ·have q1:(N:Int)<kk:=by omega
   obtain ⟨N2,hN⟩:=zEX (2*N);have e1:(N:Int)*2=(N2:Int):=by omega
   have e2:=Xd N2;have HN3:Hid ((∃ z,N2=2^z) /\ N2<2*kk):=by
    obtain ⟨⟨z,hz⟩,-⟩:=HN.out;exact ⟨⟨z+1,by rw [hN,hz,Zg,xg]⟩,zO⟩
   have hN4:N2 <= 1280:=by omega
   have pj:0<N2:=by omega
   have Lf:=zH hN;have HCM:=zH cM;clear hN cM;have c6:=k6.cell;have f6:=k6.frozen;go_wp2_with fail
   have hg:=TN (w:=wr) g6 4 (vd vq N2);replace k6:=k6.set_ 4 (vd vq N2);simp at k6
   replace kt:=sf kt hg;replace kx:=sf kx hg;replace kz:=sf kz hg;replace da:=Ee da hg;clear hg c6 f6
   go_roundw
   case rel=>exact ⟨N2,HN3,hN4,pj,kt,kx,kz,k6,da⟩
   case measure =>
    have c2:yO (wr.setCell ⟨g6,4,vB⟩ (vd vq N2)) g6 4=N2:=by unfold yO;rw [k6.cell];simp
    rw [c2,HCM.out];have:=Lf.out;omega
  ·have q1:¬((N:Int)<kk):=by omega
   clear cM;obtain ⟨NN,pk⟩:=zEX (bw*N);have hNNl:NN <= 10240:=by rw [pk];exact Nat.mul_le_mul cy.out.1 uf
   have hNN0:0<NN:=by rw [pk];exact Nat.mul_pos (zQ cy.out) tf
   have e1:(N:Int)*bw=(NN:Int):=by rw [pk,Vh,Rp]
   have e2:=Xd NN;have eN:vo.wrap (NN:Int)=NN:=Wk _ zO;have nS:(∃ z,N=2^z) /\ 2*(b+q) <= N /\ (1 <= 2*(b+q) -> N<2*(2*(b+q))):=by
    have h:=HN.out;rw [HKK.out] at h;exact ⟨h.1,by rw [<- HKK.out];omega,fun _=>h.2⟩
   replace HG:=zH (HG.out _ _ nS pk);have CG:Hid (∃ z,NN=2^z):=by
    obtain ⟨z,hz⟩:=nS.1;rcases HW.out with h | h | h | h <;> rw [pk,h,hz]
    ·exact ⟨z,zO⟩
    ·exact ⟨z+1,by rw [Zg,xg]⟩
    ·exact ⟨z+2,by rw [Nat.pow_add,xg]⟩
    ·exact ⟨z+3,by rw [Nat.pow_add,xg]⟩
   have HNK:Hid (2*k <= NN):=by
    have h1:N <= NN:=by rw [pk];exact Nat.le_mul_of_pos_left _ (zQ cy.out)
    have:=nS.2.1;have:=HK.out;show 2*k <= NN
    omega
   clear nS HN pk uf tf ya;have Uz:Hid (∀ {er:Int},(if pm%b≠0 \/ pm%NN≠0 \/ pm <= NN then (7:Int) else if 1024<NN then 3 else 0)=er -> er=uz ⟨p,U,V,rows.length,b,bw,q⟩):=fun h=>h.symm.trans (HG.out.2).symm
   have c6:=k6.cell;have f6:=k6.frozen;have cx:=kx.cell;have lx:=kx.lt;go_upto_region 7 with fail
   have hg:=TN (w:=wr) g6 4 (vd vq NN);replace k6:=k6.set_ 4 (vd vq NN);simp at k6
   replace kt:=sf kt hg;replace kx:=sf kx hg;replace kz:=sf kz hg;replace da:=Ee da hg;clear hg c6 f6 cx lx e1 e2;generalize wr.setCell _ _=w4 at kt kx kz k6 da |-;have c6:=k6.cell;have ct:=kt.cell;have cz:=kz.cell;have fz:=kz.frozen;have q1:(0:Int)<b:=by have:=HB.out;omega
   have q2:¬((b:Int)=0):=by omega
   have q3:¬(b=0):=by omega
   have q4:(0:Int)<NN:=by omega
   have q5:¬((NN:Int)=0):=by omega
   have q6:¬(NN=0):=by omega
   have r1:(pm:Int)%(b:Int)=((pm%b:Nat):Int):=rfl;have r2:(pm:Int)%(NN:Int)=((pm%NN:Nat):Int):=rfl;have r3:(pm:Int).tmod (b:Int)=((pm%b:Nat):Int):=rfl;have r4:(pm:Int).tmod (NN:Int)=((pm%NN:Nat):Int):=rfl;obtain ⟨x1,ld⟩:=zEX (pm%b);obtain ⟨x2,yf⟩:=zEX (pm%NN);rw [<- ld] at r1 r3;rw [<- yf] at r2 r4;have Wu:=zH ld.symm;have Wg:=zH yf.symm;clear ld yf;have fin:∀ (er:Int),er=7 \/ er=3 -> er=uz ⟨p,U,V,rows.length,b,bw,q⟩ -> TG ⟨p,U,V,rows.length,b,bw,q⟩ (vn (.tuple #[vf Fh,vd vq er])):=fun er h h'=>⟨_,_,rfl, .inl ⟨zO,rfl,h'⟩⟩
   have VB:=zH fin;clear fin;have KW:=zH (SB kz da);by_cases z1:x1=0
   ·subst z1
    by_cases z2:x2=0
    ·subst z2
     by_cases z3:pm <= NN
     ·have y1:decide ((pm:Int)<=NN)=true:=xc zO
      have y2:decide (pm <= NN)=true:=xc z3;go_wp2_with fail
      obtain ⟨wf,Yc,kW,hW⟩:=KW.out;rw [Yc];clear Yc cz fz KW;have c4:=kW.cell;exact Uc (v:=.tuple #[vf Fh,vd vq 7]) (by simp [results,results55,go_sem,c4,Fh]) rfl ⟨VB.out 7 (.inl rfl) (Uz.out (by rw [Lb (.inr (.inr z3))])),hW⟩
     ·have y1:decide ((pm:Int)<=NN)=false:=Xb zO
      have y2:decide (pm <= NN)=false:=Xb z3;by_cases z4:1024<NN
      ·have y3:decide ((1024:Int)<NN)=true:=xc zO
       have y4:decide (1024<NN)=true:=xc z4;go_wp2_with fail
       obtain ⟨wf,Yc,kW,hW⟩:=KW.out;rw [Yc];clear Yc cz fz KW;have c4:=kW.cell;exact Uc (v:=.tuple #[vf Fh,vd vq 3]) (by simp [results,results55,go_sem,c4,Fh]) rfl ⟨VB.out 3 (.inr rfl) (Uz.out (by rw [Gb (by rw [Wu.out,Wg.out];omega),Lb z4])),hW⟩
      ·have y3:decide ((1024:Int)<NN)=false:=Xb zO
       have y4:decide (1024<NN)=false:=Xb z4;have HZ3:=zH z3;have HZ4:=zH z4;have f6:=k6.frozen;have l6:=k6.lt;have n1:w.1.size≠g6:=by omega
       clear KW cz fz VB;go_upto_region 14 with fail
       have hg:w4.grownBy ((w4.setCell ⟨g6,5,vB⟩ (vd vq s)).setCell ⟨g6,6,vB⟩ (vd vq rows.length)) (vD g6):=by
        iterate 2 refine Li ?_ (.inl rfl) _
        exact mg w4 _
       replace k6:=(k6.set_ 5 (vd vq s)).set_ 6 (vd vq rows.length);simp at k6
       replace kt:=sf kt hg;replace kx:=sf kx hg;replace kz:=sf kz hg;replace da:=Ee da hg;clear hg c6 f6 ct l6;generalize (w4.setCell _ _).setCell _ _=w5 at kt kx kz k6 da |-;have c6:=k6.cell;have f6:=k6.frozen;have l6:=k6.lt;go_wp2_with fail
       refine (Uu.out _).mono ?_;rintro e w6 ⟨rfl,rfl⟩;go_upto_region 15 with fail
       have hg:=TN (w:=w6) g6 7 (vd vq ua);replace k6:=k6.set_ 7 (vd vq ua);simp at k6
       replace kt:=sf kt hg;replace kx:=sf kx hg;replace kz:=sf kz hg;replace da:=Ee da hg;clear hg c6 f6 l6;generalize w6.setCell _ _=w7 at kt kx kz k6 da |-;go_wp2_with fail
       go_loopw [8] (fun y wr=>∃ (i:Nat) (x1 x2 x3:Int),1 <= i /\ i <= 4 /\ y=vd vq i /\ Hid ((1<i -> x1=ub) /\ (2<i -> x2=ub) /\ (3<i -> x3=ub)) /\ Blk wr (w.1.size+1+1) 101 #[vd vo 0,vd vq 0,vd vq 0,vd vq 0,vd vq 0,vd vq 0,vd vq 0,vd vq 0,vd vq 0,vd vq 0,vd vq 0] /\ Blk wr g6 101 #[vd vo p,vd vq b,vd vq q,vd vq k,vd vq NN,vd vq s,vd vq rows.length,vd vq ua,vd vq x1,vd vq x2,vd vq x3] /\ vz w.1.size w wr) (fun y _=>4-(intOf y).toNat)
       case atStart=>exact ⟨1,0,0,0,zO,zO,rfl,⟨zO,zO,zO⟩,kz,k6,da⟩
       case round =>
        clear kt kx kz k6 da;obtain ⟨i,x1,x2,x3,Zn,hi4,rfl,Js,kz,k6,da⟩:=hrel;have c6:=k6.cell;have f6:=k6.frozen;have l6:=k6.lt;by_cases ya:i<4
        ·have hi:i=1 \/ i=2 \/ i=3:=by omega
         rcases hi with rfl | rfl | rfl
         ·go_wp2_with fail
          refine (HU.out _).mono ?_;rintro e w8 ⟨rfl,rfl⟩;go_wp2_with fail
          have hg:=TN (w:=w8) g6 8 (vd vq ub);replace k6:=k6.set_ 8 (vd vq ub);simp at k6
          replace kz:=sf kz hg;replace da:=Ee da hg;clear hg c6 f6 l6
          go_roundw
          case rel=>exact ⟨2,(ub:Int),x2,x3,zO,zO,rfl,⟨by have:=Js.out;omega,by have:=Js.out;omega,by have:=Js.out;omega⟩,kz,k6,da⟩
          case measure=>simp [intOf]
         ·go_wp2_with fail
          refine (HU.out _).mono ?_;rintro e w8 ⟨rfl,rfl⟩;go_wp2_with fail
          have hg:=TN (w:=w8) g6 9 (vd vq ub);replace k6:=k6.set_ 9 (vd vq ub);simp at k6
          replace kz:=sf kz hg;replace da:=Ee da hg;clear hg c6 f6 l6
          go_roundw
          case rel=>exact ⟨3,x1,(ub:Int),x3,zO,zO,rfl,⟨by have:=Js.out;omega,by have:=Js.out;omega,by have:=Js.out;omega⟩,kz,k6,da⟩
          case measure=>simp [intOf]
         ·go_wp2_with fail
          refine (HU.out _).mono ?_;rintro e w8 ⟨rfl,rfl⟩;go_wp2_with fail
          have hg:=TN (w:=w8) g6 10 (vd vq ub);replace k6:=k6.set_ 10 (vd vq ub);simp at k6
          replace kz:=sf kz hg;replace da:=Ee da hg;clear hg c6 f6 l6
          go_roundw
          case rel=>exact ⟨4,x1,x2,(ub:Int),zO,zO,rfl,⟨by have:=Js.out;omega,by have:=Js.out;omega,by have:=Js.out;omega⟩,kz,k6,da⟩
          case measure=>simp [intOf]
        ·obtain rfl:i=4:=by omega
         obtain ⟨e1,e2,e3⟩:=Js.out;obtain rfl:=e1 zO;obtain rfl:=e2 zO;obtain rfl:=e3 zO;have cz:=kz.cell;have fz:=kz.frozen;have lz:=kz.lt;clear Js e1 e2 e3;go_wp2_with fail
         obtain ⟨wf,Yc,kW,hW⟩:=kG kz da p b q k NN s rows.length ua ub ub ub;rw [Yc];clear Yc cz fz c6 f6 kz da lz l6;have c4:=kW.cell;have HL:Ad ⟨p,b,q,k,NN,s,rows.length,ua,ub⟩:=by
          have hB:=HB.out;have hQ:=HQ.out;have hT:=HT.out;refine ⟨hT.1,hB.1,hB.2,hQ.1,hQ.2,HK.out,CG.out,by show NN <= 1024;have:=HZ4.out;omega,by have:=HS.out;show s <= 65536;omega,hT.2.2.2,u2,u1,oc.out,?_,?_,?_,HNK.out,HUA.out,HUB.out⟩
          ·show (p-1)%b=0
           rw [<- HP.out.1];exact Wu.out
          ·show (p-1)%NN=0
           rw [<- HP.out.1];exact Wg.out
          ·show NN<p-1
           rw [<- HP.out.1];have:=HZ3.out;omega
         have Fo:yy ⟨p,b,q,k,NN,s,rows.length,ua,ub⟩ ⟨p,U,V,rows.length,b,bw,q⟩:=by
          have e1:((V:Int)-1-(U:Int)).toNat=s:=by have:=HS.out;have:=HT.out;omega
          refine ⟨rfl,?_,(Uz.out (by rw [Gb (by rw [Wu.out,Wg.out];have:=HZ3.out;omega),Gb HZ4.out])).symm,by show (0:Int) <= U;omega,by have:=HT.out;show (U:Int)<V;omega⟩
          have e5:NewIn.n ⟨p,U,V,rows.length,b,bw,q⟩=NN:=HG.out.1.symm;unfold qX;simp only [En,e1];rw [e5,HK.out,HUA.out,HUB.out]
         exact Uc (v:=.tuple #[vf (Ub ⟨p,b,q,k,NN,s,rows.length,ua,ub⟩),vd vq 0]) (by simp [results,results55,go_sem,c4,Ub]) rfl ⟨⟨_,_,rfl, .inr ⟨rfl,_,HL,Fo,rfl⟩⟩,hW⟩
    ·have y1:((x2:Int) != 0)=true:=by rw [dk];omega
     have y2:(x2 != 0)=true:=by rw [dk];exact z2
     go_wp2_with fail
     obtain ⟨wf,Yc,kW,hW⟩:=KW.out;rw [Yc];clear Yc cz fz KW;have c4:=kW.cell;exact Uc (v:=.tuple #[vf Fh,vd vq 7]) (by simp [results,results55,go_sem,c4,Fh]) rfl ⟨VB.out 7 (.inl rfl) (Uz.out (by rw [Lb (.inr (.inl (by rw [Wg.out];exact z2)))])),hW⟩
   ·have y1:((x1:Int) != 0)=true:=by rw [dk];omega
    have y2:(x1 != 0)=true:=by rw [dk];exact z1
    go_wp2_with fail
    obtain ⟨wf,Yc,kW,hW⟩:=KW.out;rw [Yc];clear Yc cz fz KW;have c4:=kW.cell;exact Uc (v:=.tuple #[vf Fh,vd vq 7]) (by simp [results,results55,go_sem,c4,Fh]) rfl ⟨VB.out 7 (.inl rfl) (Uz.out (by rw [Lb (.inl (by rw [Wu.out];exact z1))])),hW⟩
theorem zFV (p:Nat) (pub vars:Int) (A:Option vx) (n c:Nat) (rows:List sc) (bl bw qs:Int) (w:vu) (hr:RSl 3 yg w [ve A n c] rows) (ht:Jd p pub vars rows=true) :
  vA prog 55 (Uv p pub vars A n c bl bw qs) w fun e w'=>TG ⟨p,pub,vars,rows.length,bl,bw,qs⟩ e /\ vz w.1.size w w':=by
 by_cases AK:FN bl bw qs
 ·exact (zFW p pub vars A n c rows bl bw qs w hr ht AK).mono fun _ _ h=>⟨⟨_,_,h.1, .inl ⟨zD,rfl,(zFf AK).symm⟩⟩,h.2⟩
 ·have jo:0 <= pub /\ pub<vars:=by
   have h:=ht;unfold Jd at h;simp only [pe,Mm,Ly] at h;omega
  unfold FN at AK;obtain ⟨U,rfl⟩:=jm jo.1;obtain ⟨V,rfl⟩:=jm (show 0 <= vars by omega)
  obtain ⟨b,rfl⟩:=jm (show 0 <= bl by omega)
  obtain ⟨q,rfl⟩:=jm (show 0 <= qs by omega)
  obtain ⟨v,rfl⟩:=jm (show 0 <= bw by omega)
  rw [En] at AK;exact zFX p U V A n c rows b v q w hr ht zO zO zO zO zO zO
def wm (l:List Nat) (n p:Nat):Bool:=decide (l.length=n)&&l.all fun x=>decide (x<p)
theorem zCR (x p B:Nat) (w:vu) (hc:w.cell? ⟨B,0,vB⟩=vD (vd vo p)) :
  vA prog 213 #[vd vo x, .pointer (vD ⟨B,0,vB⟩)] w fun e w'=>e=vn (.bool (decide (p <= x))) /\ vz w.1.size w w':=by
 obtain ⟨v,hv⟩:=zEX (decide (p <= x));have e1:decide ((p:Int)<=x)=v:=by rw [hv];by_cases h:p <= x <;> simp [h]
 rw [<- hv];have HV:=zH hv.symm;clear hv;go_enter func213,ntmps213
 go_wp2_with fail
 go_ret
 exact ⟨by first | rfl | (simp [HV.out]),Kb _ _⟩
theorem zBV {l:List Nat} {p i:Nat} (h:(l.take i).all (fun x=>decide (x<p))=true) (hi:i<l.length) (hx:¬p <= l.getD i 0):(l.take (i+1)).all (fun x=>decide (x<p))=true:=by
 rw [DI l i hi,List.all_append,h];have:decide (l.getD i 0<p)=true:=xc zO;rw [List.all_cons,this]
 rfl
theorem zBU {l:List Nat} {p i:Nat} (hi:i<l.length) (hx:p <= l.getD i 0):l.all (fun x=>decide (x<p))=false:=by
 rw [uE];refine ⟨l.getD i 0,?_,by rw [decide_eq_true_iff];omega⟩
 rw [Hc,Ec hi];exact Qe _
theorem zD0 (A:Option vx) (n c p B:Nat) (l:List Nat) (w:vu) (hl:RWd w [ve A n c] l) (hc:w.cell? ⟨B,0,vB⟩=vD (vd vo p)) :
  vA prog 278 #[ve A n c, .func (.func 213) #[] #[.pointer (vD ⟨B,0,vB⟩)]] w fun e w'=>∃ r:Int,e=vn (vd vq r) /\ decide (0 <= r)=!(l.all fun x=>decide (x<p)) /\ vz w.1.size w w':=by
 obtain ⟨rfl,h1,h2,ya,Na⟩:=Pb hl;have gm:=ti h1 h2;have lB:B<w.1.size:=Bg _ _ hc;have HX:=zH (fun x w' (hb:vz w.1.size w w')=>zCR x p B w' ((hb.cell (p:=⟨B,0,vB⟩) lB).trans hc))
 clear hl h1 h2 ya hc lB;obtain ⟨ans,ha⟩:=zEX (!(l.all fun x=>decide (x<p)))
 rw [<- ha];have HA:=zH ha;clear ha;go_enter func278,ntmps278
 go_wp2_with fail
 go_loopw [5,8] (fun _ y wr=>∃ i:Nat,i <= l.length /\ y=vd vq i /\ Hid ((l.take i).all (fun x=>decide (x<p))=true) /\ vz w.1.size w wr) (fun _ y _=>l.length-(intOf y).toNat)
 case atStart=>exact ⟨0,Qb _,rfl,rfl,Kb _ _⟩
 case round =>
  obtain ⟨i,hi,rfl,HT,tb⟩:=hrel;by_cases ya:i<l.length
  ·have g1:(0:Int)<=i:=by omega
   have g2:(i:Int)<l.length:=by omega
   obtain ⟨b,q,rfl,dc,hc⟩:=Hf (Na.below tb) ya;by_cases hx:p <= l.getD i 0
   ·have HF:=zH (show ans=true by rw [HA.out,zBU ya hx];rfl)
    have HC:=zH (by have:=HX.out (l.getD i 0) wr tb;rw [xc hx] at this;exact this)
    generalize l.getD i 0=z at *;clear hx HT;go_wp2_with fail
    refine HC.out.mono ?_;rintro e w1 ⟨rfl,Oa⟩;go_wp2;go_ret
    exact ⟨_,rfl,by rw [HF.out];exact xc g1,ta tb Oa⟩
   ·have qy:=zH (zBV HT.out ya hx)
    have HC:=zH (by have:=HX.out (l.getD i 0) wr tb;rw [Xb hx] at this;exact this)
    generalize l.getD i 0=z at *;clear hx HT;go_wp2_with fail
    refine HC.out.mono ?_;rintro e w1 ⟨rfl,Oa⟩;replace tb:=ta tb Oa;clear hc Oa dc;go_wp2
    go_roundw
    case rel=>exact ⟨i+1,zO,by go_num,qy.out,tb⟩
    case measure=>simp [intOf];omega
  ·obtain rfl:i=l.length:=by omega
   have HF:=zH (show ans=false by rw [HA.out];have:=HT.out;rw [By] at this;rw [this];rfl)
   go_wp2;go_ret
   exact ⟨_,rfl,by rw [HF.out];rfl,tb⟩
theorem zCt (A:Option vx) (n c p B:Nat) (l:List Nat) (w:vu) (hl:RWd w [ve A n c] l) (hc:w.cell? ⟨B,0,vB⟩=vD (vd vo p)) :
  vA prog 212 #[ve A n c, .func (.func 213) #[] #[.pointer (vD ⟨B,0,vB⟩)]] w fun e w'=>e=vn (.bool (!(l.all fun x=>decide (x<p)))) /\ vz w.1.size w w':=by
 have HI:=zH (zD0 A n c p B l w hl hc);clear hl hc;generalize (!(l.all fun x=>decide (x<p)))=ans at *
 go_enter func212,ntmps212
 go_wp2_with fail
 refine HI.out.mono ?_;rintro e w1 ⟨r,rfl,hr,Oa⟩;go_wp2;go_ret
 exact ⟨by first | rfl | (simp [hr]),Oa⟩
theorem QO (A:Option vx) (n c m p:Nat) (l:List Nat) (w:vu) (hl:RWd w [ve A n c] l) :
  vA prog 120 #[ve A n c,vd vq m,vd vo p] w fun e w'=>e=vn (.bool (wm l m p)) /\ vz w.1.size w w':=by
 obtain ⟨kb,Uy⟩:=zN w 22 #[vd vo p];have HC:=zH (zCt A n c p w.1.size l (w.alloc (.cells #[vd vo p] 22)) (Wa Uy hl) (by rw [kb.cell];rfl))
 obtain ⟨rfl,h1,h2,ya,Na⟩:=Pb hl;clear hl h1 h2 ya Na kb;have HE:=zH (show wm l m p=(decide (l.length=m)&&l.all fun x=>decide (x<p)) from rfl)
 by_cases hm:l.length=m
 ·have HF:=zH (show wm l m p=l.all fun x=>decide (x<p) by rw [HE.out,xc hm];rfl)
  have t1:((l.length:Int)==m)=true:=by rw [Qo];omega
  rw [HF.out];clear hm HF HE;generalize l.length=n at *;generalize (l.all fun x=>decide (x<p))=v at *
  go_enter func120,ntmps120
  go_wp2_with fail
  refine HC.out.mono ?_;rintro e w1 ⟨rfl,Oa⟩;go_wp2;go_ret
  exact ⟨by cases v <;> rfl,ta Uy Oa⟩
 ·have HF:=zH (show wm l m p=false by rw [HE.out,Xb hm];rfl)
  have t1:((l.length:Int)==m)=false:=by rw [Ke];omega
  rw [HF.out];clear hm HF HE HC;generalize l.length=n at *;go_enter func120,ntmps120
  go_wp2_with fail
  go_ret
  exact ⟨rfl,Uy⟩
def sO (x:NewIn) (e:Ending):Prop:=∃ (y0 y1 y2 y3 y4 y5 y6 y7 y8 y9 Eg:Int) (b s:Bool),e=vn (.tuple #[vf #[vd vo y0,vd vq y1,vd vq y2,vd vq y3,vd vq y4,vd vq y5,vd vq y6,vd vq y7,vd vq y8,vd vq y9,vd vq Eg], .bool b, .bool s]) /\ (b=true -> ∃ L,Ad L /\ yy L x /\ L.n <= 64 /\ L.a+3*L.b <= 40 /\ #[vd vo y0,vd vq y1,vd vq y2,vd vq y3,vd vq y4,vd vq y5,vd vq y6,vd vq y7,vd vq y8,vd vq y9,vd vq Eg]=Ub L)
theorem u6 {y0 y1 y2 y3 y4 y5 y6 y7 y8 y9 Eg:Int} {L:Tb} (h:#[vd vo y0,vd vq y1,vd vq y2,vd vq y3,vd vq y4,vd vq y5,vd vq y6,vd vq y7,vd vq y8,vd vq y9,vd vq Eg]=Ub L):y0=L.p /\ y1=L.block /\ y2=L.queries /\ y3=L.k /\ y4=L.n /\ y5=L.secret /\ y6=L.rows /\ y7=L.a /\ y8=L.b /\ y9=L.b /\ Eg=L.b:=by
 simpa [Ub] using h
structure NU (p:Nat) (pub vars:Int) (rows:List sc) (ws:List Nat) (s:Bool):Prop where
 tab:Jd p pub vars rows=true
 asg:Qj p vars ws=true
 small:mR rows
 few:rows.length <= 12
 sat:RB p rows ws=s
theorem zG9 (p:Nat) (pub vars:Int) (A B:Option vx) (n c m d:Nat) (rows:List sc) (ws:List Nat) (bl bw qs:Int) (pd xe:Int) (real:Bool) (w:vu) (hr:RSl 3 yg w [ve A n c] rows) (hw:RWd w [ve B m d] ws) (hp:p<18446744073709551616) :
  vA prog 13 #[vf #[vd vo p,vd vq pub,vd vq vars,ve A n c,vd vq bl,vd vq bw,vd vq qs,ve B m d,vd vo pd, .bool real,vd vo xe]] w fun e w'=>(sO ⟨p,pub,vars,rows.length,bl,bw,qs⟩ e /\ (∀ v s,e=vn (.tuple #[v, .bool true, .bool s]) -> NU p pub vars rows ws s)) /\ vz w.1.size w w':=by
 have HR:=zH (fun w' (hb:vz w.1.size w w')=>zG8 12 p pub vars A B n c m d rows ws bl bw qs w' (Qg Bh _ _ _ _ hb hr) (Wa hb hw) hp)
 have HS:=zH (fun ht ha w' (hb:vz w.1.size w w')=>zHd p pub vars A B n c m d rows ws w' (Qg Bh _ _ _ _ hb hr) (Wa hb hw) ht ha)
 obtain ⟨A',n',c',he,-⟩:=hr;simp at he
 obtain ⟨rfl,rfl,rfl⟩:=he;have da:vz w.1.size w ((w.alloc (.cells #[vd vo p,vd vq pub,vd vq vars,ve A n c,vd vq bl,vd vq bw,vd vq qs,ve B m d,vd vo pd, .bool real,vd vo xe] 32)).alloc (.cells #[vd vo 0,vd vq 0,vd vq 0,vd vq 0,vd vq 0,vd vq 0,vd vq 0,vd vq 0,vd vq 0,vd vq 0,vd vq 0] 35)):=((Kb _ w).alloc zR _).alloc zS _;go_enter func13,ntmps13
 go_wp2_with fail
 refine (HR.out _ da).mono ?_;rintro e w1 ⟨⟨mN,nL⟩,hb⟩;obtain ⟨k1,k2,Rb⟩:=WN hb;have l2:=k2.lt;clear hb;obtain ⟨y0,y1,y2,y3,y4,y5,y6,y7,y8,y9,Eg,b,rfl,hL⟩:=mN;cases b
 ·have HE:=zH (show sO ⟨p,pub,vars,rows.length,bl,bw,qs⟩ (vn (.tuple #[vf #[vd vo y0,vd vq y1,vd vq y2,vd vq y3,vd vq y4,vd vq y5,vd vq y6,vd vq y7,vd vq y8,vd vq y9,vd vq Eg], .bool false, .bool false])) from ⟨_,_,_,_,_,_,_,_,_,_,_,_,_,rfl,fun h=>by cases h⟩)
  clear hL nL;obtain ⟨c2,f2⟩:=k2.cells';go_wp2_with fail
  obtain ⟨wf,Yc,xL,ZA⟩:=kG k2 Rb y0 y1 y2 y3 y4 y5 y6 y7 y8 y9 Eg;rw [Yc];clear Yc;have kW:=xL.alloc (.cells #[vd vo y0,vd vq y1,vd vq y2,vd vq y3,vd vq y4,vd vq y5,vd vq y6,vd vq y7,vd vq y8,vd vq y9,vd vq Eg] 35);have hW:=ZA.alloc ZA.size (.cells #[vd vo y0,vd vq y1,vd vq y2,vd vq y3,vd vq y4,vd vq y5,vd vq y6,vd vq y7,vd vq y8,vd vq y9,vd vq Eg] 35);have Xq:=kW.cell;exact Uc (v:=.tuple #[vf #[vd vo y0,vd vq y1,vd vq y2,vd vq y3,vd vq y4,vd vq y5,vd vq y6,vd vq y7,vd vq y8,vd vq y9,vd vq Eg], .bool false, .bool false]) (by simp [results,results13,go_sem,Xq]) rfl ⟨⟨HE.out,fun v s h=>by simp at h⟩,hW⟩
 ·obtain ⟨L,Fb,jK,hLL⟩:=hL rfl
  obtain ⟨rfl,rfl,rfl,rfl,rfl,rfl,rfl,rfl,rfl,rfl,rfl⟩:=u6 hLL;have HT:=zH (nL _ rfl);have HO:=zH Fb;have HLp:=zH jK;have na:=Fb.a;have nb:=Fb.b;clear hL nL Fb jK hLL;obtain ⟨c1,f1⟩:=k1.cells';obtain ⟨c2,f2⟩:=k2.cells';by_cases z1:64<L.n
  ·have HE:=zH (show sO ⟨p,pub,vars,rows.length,bl,bw,qs⟩ (vn (.tuple #[vf #[vd vo L.p,vd vq L.block,vd vq L.queries,vd vq L.k,vd vq L.n,vd vq L.secret,vd vq L.rows,vd vq L.a,vd vq L.b,vd vq L.b,vd vq L.b], .bool false, .bool false])) from ⟨_,_,_,_,_,_,_,_,_,_,_,_,_,rfl,fun h=>by cases h⟩)
   have d1:decide ((64:Int)<L.n)=true:=xc zO;have d2:decide (64<L.n)=true:=xc z1;go_wp2_with fail
   obtain ⟨wf,Yc,xL,ZA⟩:=dY k2 Rb L;rw [Yc];clear Yc;have kW:=xL.alloc (.cells #[vd vo L.p,vd vq L.block,vd vq L.queries,vd vq L.k,vd vq L.n,vd vq L.secret,vd vq L.rows,vd vq L.a,vd vq L.b,vd vq L.b,vd vq L.b] 35);have hW:=ZA.alloc ZA.size (.cells #[vd vo L.p,vd vq L.block,vd vq L.queries,vd vq L.k,vd vq L.n,vd vq L.secret,vd vq L.rows,vd vq L.a,vd vq L.b,vd vq L.b,vd vq L.b] 35);have Xq:=kW.cell;exact Uc (v:=.tuple #[vf #[vd vo L.p,vd vq L.block,vd vq L.queries,vd vq L.k,vd vq L.n,vd vq L.secret,vd vq L.rows,vd vq L.a,vd vq L.b,vd vq L.b,vd vq L.b], .bool false, .bool false]) (by simp [results,results13,go_sem,Xq]) rfl ⟨⟨HE.out,fun v s h=>by simp at h⟩,hW⟩
  ·have d1:decide ((64:Int)<L.n)=false:=Xb zO
   have d2:decide (64<L.n)=false:=Xb z1;have tA:=zH (fun w=>zAh L.p L.block L.queries L.k L.n L.secret L.rows L.a L.b L.b L.b w na nb nb nb)
   revert tA
   generalize hT:L.a+L.b+L.b+L.b=T;intro tA;by_cases z2:40<T
   ·have HE:=zH (show sO ⟨p,pub,vars,rows.length,bl,bw,qs⟩ (vn (.tuple #[vf #[vd vo L.p,vd vq L.block,vd vq L.queries,vd vq L.k,vd vq L.n,vd vq L.secret,vd vq L.rows,vd vq L.a,vd vq L.b,vd vq L.b,vd vq L.b], .bool false, .bool false])) from ⟨_,_,_,_,_,_,_,_,_,_,_,_,_,rfl,fun h=>by cases h⟩)
    have d3:decide ((40:Int)<T)=true:=xc zO;have d4:decide (40<T)=true:=xc z2;have HTT:=zH hT;clear hT;go_wp2_with fail
    refine (tA.out _).mono ?_;rintro e w3 ⟨rfl,Ra⟩;have ot:=(k2.alloc (.cells #[vd vo L.p,vd vq L.block,vd vq L.queries,vd vq L.k,vd vq L.n,vd vq L.secret,vd vq L.rows,vd vq L.a,vd vq L.b,vd vq L.b,vd vq L.b] 35)).below Ra zT;have Oh:=(k1.alloc (.cells #[vd vo L.p,vd vq L.block,vd vq L.queries,vd vq L.k,vd vq L.n,vd vq L.secret,vd vq L.rows,vd vq L.a,vd vq L.b,vd vq L.b,vd vq L.b] 35)).below Ra zT;have pD:=(Blk.new w1 35 #[vd vo L.p,vd vq L.block,vd vq L.queries,vd vq L.k,vd vq L.n,vd vq L.secret,vd vq L.rows,vd vq L.a,vd vq L.b,vd vq L.b,vd vq L.b]).below Ra zS;have WV:=ta (Rb.alloc Rb.size _) Ra;have l3:w.1.size+1<w3.1.size:=ot.lt;have l4:w.1.size<w3.1.size:=by omega
    have l5:w1.1.size<w3.1.size:=pD.lt;have n1:w1.1.size≠w.1.size+1:=by omega
    clear c1 f1 c2 f2 k1 k2 Rb Ra;obtain ⟨c1,f1⟩:=Oh.cells';obtain ⟨c2,f2⟩:=ot.cells';obtain ⟨c5,f5⟩:=pD.cells';go_wp2;obtain ⟨wf,Yc,kW,hW⟩:=dY ot WV L;rw [Yc];clear Yc;have Xq:=kW.cell;exact Uc (v:=.tuple #[vf #[vd vo L.p,vd vq L.block,vd vq L.queries,vd vq L.k,vd vq L.n,vd vq L.secret,vd vq L.rows,vd vq L.a,vd vq L.b,vd vq L.b,vd vq L.b], .bool false, .bool false]) (by simp [results,results13,go_sem,Xq]) rfl ⟨⟨HE.out,fun v s h=>by simp at h⟩,hW⟩
   ·have HE:=zH (show ∀ s,sO ⟨p,pub,vars,rows.length,bl,bw,qs⟩ (vn (.tuple #[vf #[vd vo L.p,vd vq L.block,vd vq L.queries,vd vq L.k,vd vq L.n,vd vq L.secret,vd vq L.rows,vd vq L.a,vd vq L.b,vd vq L.b,vd vq L.b], .bool true, .bool s])) from fun s=>⟨_,_,_,_,_,_,_,_,_,_,_,_,_,rfl,fun _=>⟨L,HO.out,HLp.out,zO,zO,rfl⟩⟩)
    have d3:decide ((40:Int)<T)=false:=Xb zO;have d4:decide (40<T)=false:=Xb z2;have HTT:=zH hT;clear hT;go_wp2_with fail
    refine (tA.out _).mono ?_;rintro e w3 ⟨rfl,Ra⟩;have ot:=(k2.alloc (.cells #[vd vo L.p,vd vq L.block,vd vq L.queries,vd vq L.k,vd vq L.n,vd vq L.secret,vd vq L.rows,vd vq L.a,vd vq L.b,vd vq L.b,vd vq L.b] 35)).below Ra zT;have Oh:=(k1.alloc (.cells #[vd vo L.p,vd vq L.block,vd vq L.queries,vd vq L.k,vd vq L.n,vd vq L.secret,vd vq L.rows,vd vq L.a,vd vq L.b,vd vq L.b,vd vq L.b] 35)).below Ra zT;have pD:=(Blk.new w1 35 #[vd vo L.p,vd vq L.block,vd vq L.queries,vd vq L.k,vd vq L.n,vd vq L.secret,vd vq L.rows,vd vq L.a,vd vq L.b,vd vq L.b,vd vq L.b]).below Ra zS;have WV:=ta (Rb.alloc Rb.size _) Ra;have l3:w.1.size+1<w3.1.size:=ot.lt;have l4:w.1.size<w3.1.size:=by omega
    have l5:w1.1.size<w3.1.size:=pD.lt;have n1:w1.1.size≠w.1.size+1:=by omega
    clear c1 f1 c2 f2 k1 k2 Rb Ra;obtain ⟨c1,f1⟩:=Oh.cells';obtain ⟨c2,f2⟩:=ot.cells';obtain ⟨c5,f5⟩:=pD.cells';go_wp2;refine Pd (Ji (w.1.size+1)) [7,8] [0,1,2,3,4,5,6,7,8,9,10] zK zK ?_;refine oe (de (w.1.size+1)) ?_;intro Wc Ga ja;refine Hk ?_;have hwc:vz w.1.size w Wc:=by rw [Ga.out];exact WV.drew
    have kwc:=ot.drew;rw [<- Ga.out] at kwc;refine oM (de (w.1.size+1)) rfl rfl rfl (fun _=>by go_simp <;> rfl) ((HS.out HT.out.1 HT.out.2.1 _ hwc).mono ?_)
    rintro e w4 ⟨rfl,Ib⟩;refine ⟨_,rfl,VS Ib,?_⟩;replace ja:=(de (w.1.size+1)).trans _ _ _ ja (VS Ib);refine zPU ?_;replace kwc:=pa kwc Ib;replace hwc:=ta hwc Ib;clear c1 f1 c2 f2 c5 f5 Oh ot pD;obtain ⟨c2,f2⟩:=kwc.cells';refine ke (de (w.1.size+1)) rfl rfl rfl ?_;go_simp;refine ⟨zHQ _ (vd vo L.p) (vd vq L.block) (vd vq L.queries) (vd vq L.k) (vd vq L.n) (vd vq L.secret) (vd vq L.rows) (vd vq L.a) (vd vq L.b) (vd vq L.b) (vd vq L.b),?_⟩;obtain ⟨wf,Yc,kW,hW⟩:=dY kwc hwc L;rw [Yc];clear Yc ja Ga c2 f2;have ja:=(de (w.1.size+1)).refl wf;refine Hk ?_;refine Vc ?_;go_wp2;have Xq:=kW.cell;exact Uc (v:=.tuple #[vf #[vd vo L.p,vd vq L.block,vd vq L.queries,vd vq L.k,vd vq L.n,vd vq L.secret,vd vq L.rows,vd vq L.a,vd vq L.b,vd vq L.b,vd vq L.b], .bool true, .bool (RB p rows ws)]) (by simp [results,results13,go_sem,Xq]) rfl ⟨⟨HE.out _,fun v s h=>by
     simp at h
     exact ⟨HT.out.1,HT.out.2.1,HT.out.2.2.1,by have:=HT.out.2.2.2;omega,h.2⟩⟩,hW⟩
theorem zBS {l:List Nat} {p j:Nat} (hj:j<l.length) (h:p <= l.getD j 0):l.all (fun x=>decide (x<p))=false:=by
 refine uE.2 ⟨l[j],Qe hj,?_⟩;simp [Hc,Ec hj] at h
 simp
 omega
theorem zBT {l:List Nat} {p:Nat} (h:∀ k<l.length,l.getD k 0<p):l.all (fun x=>decide (x<p))=true:=by
 refine oh.2 fun x hx=>?_
 obtain ⟨k,hk,rfl⟩:=Vq hx;have:=h k hk;simp [Hc,Ec hk] at this
 simpa using this
theorem ext_lt {l:List Nat} {p j:Nat} (h:∀ k<j,l.getD k 0<p) (hj:¬p <= l.getD j 0):∀ k<j+1,l.getD k 0<p:=fun k hk=>by
 rcases Zj k j with h1 | h1
 ·exact h k h1
 ·have e:k=j:=by omega
  rw [e];omega
theorem Ti {w:vu} {A:Option vx} {n c:Nat} {l:List Nat} (h:RWd w [ve A n c] l):n=l.length /\ n <= c /\ c <= maxLen /\ (∀ x∈l,x<18446744073709551616) /\ Rd w 1 A n (Qa l):=by
 obtain ⟨A',n',c',he,h1,h2,h3,h4⟩:=h;simp at he
 obtain ⟨rfl,rfl,rfl⟩:=he;have:=h3.len1;rw [qt] at this;exact ⟨this.symm,h1,h2,h4,h3⟩
theorem DY {w:vu} {A:Option vx} {l:List Nat} (h:Rd w 1 A l.length (Qa l)) {j:Nat} (hj:j<l.length):∃ b q,A=vD ⟨b,q,vB⟩ /\ b<w.1.size /\ w.cell? ⟨b,q+j,vB⟩=vD (vd vo ((l.getD j 0:Nat):Int)):=by
 obtain ⟨b,q,e,hb,hc⟩:=gG h zO;refine ⟨b,q,e,hb,?_⟩;rw [hc j hj,cH hj,Hc,Ec hj]
 rfl
theorem LL {n c:Nat} (h1:n <= c) (h2:c <= maxLen):(n:Int) <= 9223372036854775807:=by
 simp [maxLen] at h2
 omega
theorem zB3 (A:Option vx) (n c:Nat) (l:List Nat) (p:Nat) (w:vu) (hl:RWd w [ve A n c] l) :
  vA prog 56 #[ve A n c,vd vo p] w fun e w'=>e=vn (.bool (l.all (fun x=>decide (x<p)))) /\ w=w':=by
 obtain ⟨rfl,h1,h2,-,Na⟩:=Ti hl;have gm:=LL h1 h2;clear hl h1 h2;go_enter func56,ntmps56
 go_wp2_with fail
 go_loop [9] (fun i=>∃ j:Nat,j <= l.length /\ i=vd vq j /\ Hid (∀ k<j,l.getD k 0<p)) (fun i=>l.length-(intOf i).toNat)
 case atStart=>exact ⟨0,Qb _,rfl,fun k hk=>zO⟩
 case round =>
  obtain ⟨j,hj,rfl,HB⟩:=hrel;by_cases ya:j<l.length
  ·obtain ⟨b,q,rfl,dc,hc⟩:=DY Na ya
   have HL:=zH ya;have g1:(0:Int)<=j:=by omega
   have g2:(j:Int)<l.length:=by omega
   revert hc
   generalize hy:l.getD j 0=y;intro hc;have HY:=zH hy;clear hy Na;by_cases z:p <= y
   ·have HZ:=zH (zBS (p:=p) ya (by rw [HY.out];exact z))
    have d1:decide ((p:Int)<=y)=true:=xc zO;go_wp2;go_ret
    exact ⟨by rw [HZ.out];rfl,rfl⟩
   ·have HZ:=zH (ext_lt HB.out (by rw [HY.out];exact z))
    have d1:decide ((p:Int)<=y)=false:=Xb zO;go_wp2
    go_round
    case rel=>exact ⟨j+1,zO,by go_num,HZ.out⟩
    case measure=>simp [intOf];omega
  ·have e:j=l.length:=by omega
   have HA:=zH (zBT (l:=l) (p:=p) (fun k hk=>HB.out k zO))
   clear Na;go_wp2;go_ret
   exact ⟨by rw [HA.out];rfl,rfl⟩
theorem zB4 {j:Nat} (hj:j<64):Lib.bitLen (2^j)=j+1:=by
 obtain ⟨h1,h2,h3⟩:=Lib.bitLenAux_bounds 64 (2^j) (Nat.pow_lt_pow_right zO hj) (Nat.ne_of_gt (Nat.pow_pos zO));have e:Lib.bitLen (2^j)=Lib.bitLenAux 64 (2^j):=rfl;rw [e];generalize Lib.bitLenAux 64 (2^j)=k at *;have h4:=(Nat.pow_lt_pow_iff_right (a:=2) zO).1 h3;have h5:=(Nat.pow_le_pow_iff_right (a:=2) zO).1 h2;omega
theorem AX {j n:Nat} (h:n=2^j) (hn:n <= 1024):j <= 10:=by
 rcases Zj 10 j with h1 | h1
 ·have:2^11 <= 2^j:=Jt zO h1
  omega
 ·exact h1
theorem zED (L:Tb) (j:Nat) (w:vu) (hn:L.n=2^j) (hj:j <= 10) :
  vA prog 191 #[vf (Ub L)] w fun e w'=>e=vn (vd vq j) /\ vz w.1.size w w':=by
 have hN:L.n <= 1024:=by rw [hn];exact Jt (n:=2) zO hj
 have HL:=zH (fun w=>zEA (L.n:Int) w zO zO)
 rw [En,hn,zB4 zO,<- hn] at HL;have e1:vo.wrap (L.n:Int)=L.n:=Wk _ zO;have i1:(j:Int) <= 10:=by omega
 have e2:((j+1:Nat):Int)-1=(j:Int):=by omega
 unfold Ub;clear hn;go_enter func191,ntmps191
 go_wp2_with fail
 refine (HL.out _).mono ?_;rintro e w1 ⟨rfl,rfl⟩;go_wp2;go_ret
 exact ⟨zS,(Kb _ _).alloc zR _⟩
def pY (L:Tb) (j:Nat):Nat:=8*(1+(L.k+(L.k+L.block-1)+(2*L.k-1))+L.queries*(L.a+L.b+L.b+L.b+3+1+j))
theorem zHU (L:Tb) (j:Nat) (w:vu) (hL:Ad L) (hn:L.n=2^j) (hj:j <= 10) :
  vA prog 95 #[vf (Ub L)] w fun e w'=>e=vn (vd vq (pY L j:Nat)) /\ vz w.1.size w w':=by
 have HL:=zH (fun w=>zED L j w hn hj)
 have HT:=zH (fun w=>bT L.p L.block L.queries L.k L.n L.secret L.rows L.a L.b L.b L.b w hL.a hL.b hL.b hL.b)
 have h1:=hL.b1;have h2:=hL.b2;have h3:=hL.q1;have h4:=hL.q2;have h5:=hL.k;have h6:=hL.a;have h7:=hL.b;have i1:(L.k:Int) <= 320:=by omega
 have i2:(1:Int)<=L.k:=by omega
 have i3:(L.block:Int) <= 256:=by omega
 have i4:(j:Int) <= 10:=by omega
 have hS:pY L j=8*(1+(L.k+(L.k+L.block-1)+(2*L.k-1))+L.queries*(L.a+L.b+L.b+L.b+3+1+j)):=rfl;have hT:L.a+L.b+L.b+L.b <= 400000:=by omega
 obtain ⟨T,Qy⟩:=zEX (L.a+L.b+L.b+L.b);rw [<- Qy] at HT hS hT;obtain ⟨T2,hT2⟩:=zEX (T+3+1+j);rw [<- hT2] at hS;have hM:L.queries*T2 <= 64*T2:=zE _ h4;obtain ⟨M,WA⟩:=zEX (L.queries*T2);rw [<- WA] at hS hM;obtain ⟨Z,hZ⟩:=zEX (pY L j);rw [<- hZ] at hS;rw [<- hZ];obtain ⟨X,hX⟩:=zEX (L.k+(L.k+L.block-1)+(2*L.k-1));have e1:(L.k:Int)+((L.k:Int)+L.block-1)+(2*(L.k:Int)-1)=(X:Int):=by omega
 have e2:(T:Int)+3+1+(j:Int)=T2:=by omega
 have e3:(L.queries:Int)*T2=(M:Int):=by rw [WA];exact (Vh _ _).symm
 have e4:(8:Int)*(1+(X:Int)+M)=(Z:Int):=by omega
 have e5:vq.wrap ((T:Int)+3)=(T:Int)+3:=uo _ zO zO;have e6:vq.wrap ((T:Int)+3+1)=(T:Int)+3+1:=uo _ zO zO;have e7:=Xd T2;have i5:(T2:Int) <= 400014:=by omega
 have i6:(M:Int) <= 25600896:=by omega
 have i7:(X:Int) <= 2000:=by omega
 have i8:(T:Int) <= 400000:=by omega
 clear h1 h2 h3 h4 h5 h6 h7 hS hT Qy hT2 hM WA hZ hX hL hn hj;unfold Ub at HL |-;obtain ⟨da,hB⟩:=(zN w 101 #[vd vo L.p,vd vq L.block,vd vq L.queries,vd vq L.k,vd vq L.n,vd vq L.secret,vd vq L.rows,vd vq L.a,vd vq L.b,vd vq L.b,vd vq L.b]).symm;go_enter func95,ntmps95
 go_wp2_with fail
 revert da hB
 generalize w.alloc _=w0;intro da hB;obtain ⟨c0,f0⟩:=hB.cells';have l0:=hB.lt;refine Pd (Rc) [1,5] [0,4,1,2,3,5,6,7] zK zK ?_;refine rM (Da) ?_;intro Wc ja;refine Mc ?_;refine ud Da rfl rfl rfl ((HT.out _).mono ?_);rintro e w1 ⟨rfl,Oa⟩;refine ⟨_,rfl,Oa,?_⟩;replace ja:=zM Da ja (Oa);refine zPU ?_;refine Mc ?_;refine ud Da rfl rfl rfl ((HL.out _).mono ?_);rintro e w2 ⟨rfl,Fa⟩;refine ⟨_,rfl,Fa,?_⟩;replace ja:=zM Da ja (Fa);refine zPU ?_;refine Mc ?_;refine Vc ?_;have Bm:=hB.drew.below ja hB.lt;clear c0 f0;obtain ⟨c0,f0⟩:=Bm.cells';go_wp2;go_ret
 exact ⟨rfl,ta da.drew ja⟩
theorem VU (w:vu):vA prog 32 #[] w fun e w'=>e=vn (.bool true) /\ vz w.1.size w w':=by
 have HS:=zH (zHU ⟨97,2,2,4,8,3,1,2,1⟩ 3 w ⟨rfl,zD,zD,zD,zD,rfl,⟨3,rfl⟩,zD,zD,zD,zD,zD,zD,zD,zD,zD,zD,zD,zD⟩ rfl zD);unfold Ub at HS;simp only at HS;go_enter func32,ntmps32
 go_wp2_with fail
 refine HS.out.mono ?_;rintro e w1 ⟨rfl,hb⟩;go_wp2;go_ret
 exact ⟨rfl,hb⟩
structure BE where
 root:Nat
 code:List Nat
 linear:List Nat
 quad:List Nat
 cols:List (List Nat)
 salts:List Nat
 paths:List (List Nat)
structure PS where
 A1:Option vx
 n1:Nat
 c1:Nat
 A2:Option vx
 n2:Nat
 c2:Nat
 A3:Option vx
 n3:Nat
 c3:Nat
 A4:Option vx
 n4:Nat
 c4:Nat
 A5:Option vx
 n5:Nat
 c5:Nat
 A6:Option vx
 n6:Nat
 c6:Nat
def Im (P:BE) (S:PS):Array vw:=#[vd vo P.root,ve S.A1 S.n1 S.c1,ve S.A2 S.n2 S.c2,ve S.A3 S.n3 S.c3,ve S.A4 S.n4 S.c4,ve S.A5 S.n5 S.c5,ve S.A6 S.n6 S.c6]
structure Mt (w:vu) (P:BE) (S:PS):Prop where
 root:P.root<18446744073709551616
 code:RWd w [ve S.A1 S.n1 S.c1] P.code
 linear:RWd w [ve S.A2 S.n2 S.c2] P.linear
 quad:RWd w [ve S.A3 S.n3 S.c3] P.quad
 cols:RSl 1 RWd w [ve S.A4 S.n4 S.c4] P.cols
 salts:RWd w [ve S.A5 S.n5 S.c5] P.salts
 paths:RSl 1 RWd w [ve S.A6 S.n6 S.c6] P.paths
theorem zz {w w':vu} {P:BE} {S:PS} (h:Mt w P S) (hb:vz w.1.size w w'):Mt w' P S :=
 ⟨h.root,Wa hb h.code,Wa hb h.linear,Wa hb h.quad,Qg rD _ _ _ _ hb h.cols,Wa hb h.salts,Qg rD _ _ _ _ hb h.paths⟩
theorem qn {w:vu} {A:Option vx} {n c:Nat} {ls:List (List Nat)} (h:RSl 1 RWd w [ve A n c] ls):n=ls.length /\ n <= c /\ c <= maxLen /\ RdL w 1 RWd A ls:=by
 obtain ⟨A',n',c',he,hlen,Nd,Be,Na⟩:=h;simp at he
 obtain ⟨rfl,rfl,rfl⟩:=he;exact ⟨hlen.symm,Nd,Be,Na⟩
theorem JL {w:vu} {A:Option vx} {ls:List (List Nat)} (h:RdL w 1 RWd A ls) {j:Nat} (hj:j<ls.length):∃ b q A1 n1 c1,A=vD ⟨b,q,vB⟩ /\ b<w.1.size /\ w.cell? ⟨b,q+j,vB⟩=vD (ve A1 n1 c1) /\ RWd w [ve A1 n1 c1] ls[j]:=by
 obtain ⟨b,q,rfl⟩:=h.base zO zO;obtain ⟨cs,Gi,hc,hr⟩:=h.get hj;have fp:=hr;obtain ⟨A1,n1,c1,rfl,-⟩:=hr;have c0:=hc 0 zO;simp at c0
 exact ⟨b,q,A1,n1,c1,rfl,Bg _ _ c0,c0,fp⟩
structure PartR where
 ptr:vx
 size:Nat
 IL:Nat
theorem zB9:prog.cellsOf 30=8:=by kernel_rfl
theorem zCb:prog.cellsOf 27=3:=by kernel_rfl
structure dU (w:vu) (p:Nat) (pub vars:Int) (A B:Option vx) (n c m d:Nat) (rows:List sc) (ws:List Nat):Prop where
 p:p<18446744073709551616
 rows:RSl 3 yg w [ve A n c] rows
 ws:RWd w [ve B m d] ws
theorem zDt {w:vu} {cs:List vw} (hl:cs.length=8) (h:Fits prog w 30 cs):∃ (p:Nat) (pub vars:Int) (A B:Option vx) (n c m d:Nat) (rows:List sc) (ws:List Nat) (bl bw qs:Int),cs=(CR p pub vars (ve A n c) bl bw qs (ve B m d)).toList /\ dU w p pub vars A B n c m d rows ws:=by
 match cs,hl with
 | [x0,x1,x2,x3,x4,x5,x6,x7],_ =>
  obtain ⟨t,y,ht,h1,h2,h3,h4⟩:=zDp rfl (To (i:=0) underlying30 rfl rfl zCe h);have hx:=To (i:=1) underlying30 rfl rfl zCb h;obtain ⟨a,ha,-⟩:=YM underlying3 (To (i:=0) underlying27 rfl rfl PJ hx);obtain ⟨b,hb,-⟩:=YM underlying3 (To (i:=1) underlying27 rfl rfl PJ hx);obtain ⟨e,he,-⟩:=YM underlying3 (To (i:=2) underlying27 rfl rfl PJ hx);obtain ⟨ws,hw⟩:=zDq underlying28 underlying22 AO (To (i:=2) underlying30 rfl rfl zCg h);simp at ht ha hb he hw
  obtain ⟨rfl,rfl,rfl,rfl⟩:=ht;subst ha hb he;obtain ⟨A,n,c,rfl⟩:=RSl.slc h4;have hw2:=hw;obtain ⟨B,m,d,he,-⟩:=hw;simp at he
  subst he;exact ⟨t.p,t.pub,t.vars,A,B,n,c,m,d,t.rows,ws,a,b,e,rfl,h1,h4,hw2⟩
theorem zCa:prog.cellsOf 32=11:=by kernel_rfl
theorem RWd.slc {w:vu} {v:vw} {l:List Nat} (h:RWd w [v] l):slc v:=by
 obtain ⟨A,n,c,e,-⟩:=h;simp at e
 exact ⟨A,n,c,e⟩
def zp (P:BE):List Nat:=[P.root]++P.code++P.linear++P.quad++P.cols.flatten++P.salts++P.paths.flatten
theorem zFD (w:vu) (base:Nat) (x:vw) (hb:base <= w.1.size):(w.alloc (.cells #[x] 22)).ownsRow base 22 1 (ve (vD ⟨w.1.size,0,vB⟩) 1 1) 1 [x] :=
 ⟨rfl, .inr ⟨w.1.size,1,_,rfl,hb,heap_alloc_new w _,zO,by simp [maxLen],rfl,rfl⟩⟩
theorem CN {W W':vu} {B:Nat} {e:vy} {size:Nat} {v:vw} {n:Nat} {xs:List vw} (h:W.ownsRow B e size v n xs) (hg:W.grownBy W' v.ownBlock) (hB:B <= W.1.size):vz B W W' :=
 dH hg B hB fun g e=>(h.lt g e).1
theorem G3 (ls:List (List Nat)) (k:Nat) (h:k<ls.length):(ls.take (k+1)).flatten=(ls.take k).flatten++ls[k]:=by
 rw [Cy h,List.flatten_append];simp
theorem E3 (ls:List (List Nat)) (k:Nat):(ls.take k).flatten.length <= ls.flatten.length:=by
 have:(ls.take k).flatten++(ls.drop k).flatten=ls.flatten:=by rw [<- List.flatten_append,List.take_append_drop]
 rw [<- this,qh];omega
theorem ZX (A B:Option vx) (n c m d:Nat) (l r:List Nat) (w:vu) (hl:RWd w [ve A n c] l) (hr:RWd w [ve B m d] r) :
  vA prog 68 #[ve A n c,ve B m d] w fun e w'=>e=vn (.bool (decide (l=r))) /\ ∃ k,w'=w.drewN k:=by
 obtain ⟨rfl,h1,h2,-,Na⟩:=Ti hl;obtain ⟨rfl,h3,h4,-,Gm⟩:=Ti hr;have gm:=LL h1 h2;have gr:=LL h3 h4;clear hl hr h1 h2 h3 h4;by_cases z:l.length=r.length
 rotate_left
 ·have d1:((l.length:Int)!=r.length)=true:=by rw [dk];omega
  have HZ:=zH (show decide (l=r)=false from Xb fun e=>z (by rw [e]))
  clear z Na Gm;go_enter func68,ntmps68
  go_wp2;go_ret
  exact ⟨by rw [HZ.out];rfl,0,rfl⟩
 have d1:((l.length:Int)!=r.length)=false:=by rw [Qw];omega
 have HE:=zH z;clear z;go_enter func68,ntmps68
 go_wp2_with fail
 go_loopw [5] (fun i wr=>∃ j kk:Nat,j <= l.length /\ i=vd vq j /\ wr=w.drewN kk /\ Hid (∀ k<j,l.getD k 0=r.getD k 0)) (fun i _=>l.length-(intOf i).toNat)
 case atStart=>exact ⟨0,0,Qb _,rfl,rfl,fun k hk=>zO⟩
 case round =>
  obtain ⟨j,kk,hj,rfl,rfl,HB⟩:=hrel;by_cases ya:j<l.length
  ·have zh:j<r.length:=by rw [<- HE.out];exact ya
   obtain ⟨b,q,rfl,dc,hc⟩:=DY Na ya;obtain ⟨b',q',rfl,il,Un⟩:=DY Gm zh;have HL:=zH ya;have Cn:=zH zh;have g1:(0:Int)<=j:=by omega
   have g2:(j:Int)<l.length:=by omega
   have g3:(j:Int)<r.length:=by omega
   revert hc Un
   generalize hy:l.getD j 0=y;generalize hz:r.getD j 0=z;intro hc Un;have HY:=zH hy;have HZ:=zH hz;clear hy hz Na Gm;by_cases e:y=z
   ·have d2:((y:Int)!=z)=false:=by rw [Qw];omega
    have HYZ:=zH e;clear e;go_wp2_with fail
    go_quiet (fail)
    go_wp2
    go_roundw
    case rel =>
     refine ⟨j+1,_,zO,by go_num,rfl,fun k hk=>?_⟩
     rcases Zj k j with h5 | h5
     ·exact HB.out k h5
     ·have e:k=j:=by omega
      rw [e,HY.out,HZ.out,HYZ.out]
    case measure=>simp [intOf];omega
   ·have d2:((y:Int)!=z)=true:=by rw [dk];omega
    have HF:=zH (show decide (l=r)=false from Xb fun h=>e (by rw [<- HY.out,<- HZ.out,h]))
    clear e;go_wp2_with fail
    go_quiet (fail)
    go_wp2;go_ret
    exact ⟨by rw [HF.out];rfl,_,World.drewN_drewN ..⟩
  ·have e:j=l.length:=by omega
   have HF:=zH (show decide (l=r)=true from xc (List.ext_getElem HE.out fun i h1 h2=>by
    have:=HB.out i zO
    simpa [Hc,Ec h1,Ec h2] using this))
   clear Na Gm;go_wp2;go_ret
   exact ⟨by rw [HF.out];rfl,_,rfl⟩
theorem BN {w:vu} {B m:Nat} {v:vw} {a b c:List Nat} (h:w.ownsRow B 22 1 v m (Qa a++Qa b)) (e:a++b=c):w.ownsRow B 22 1 v m (Qa c):=by
 rw [<- e,bZ];exact h
theorem a8 (P:BE) (S:PS) (w:vu) (h:Mt w P S) (hlen:(zp P).length <= 1000000) :
  vA prog 69 #[vf (Im P S)] w fun e w'=>∃ v n,e=vn v /\ w'.ownsRow w.1.size 22 1 v n (Qa (zp P)) /\ vz w.1.size w w':=by
 have HT:=zH hlen;have E4:=zH (qn h.cols).1;have E6:=zH (qn h.paths).1;have m4:=LL (qn h.cols).2.1 (qn h.cols).2.2.1;have m6:=LL (qn h.paths).2.1 (qn h.paths).2.2.1;clear hlen;have Rb:=zA w (.cells (Im P S) 46);have kb:=Blk.new w 46 (Im P S);unfold Im at *;go_enter func69,ntmps69
 go_upto_region 1 with fail
 revert Rb kb
 generalize w.alloc _=w0;intro Rb kb;have cb:=kb.cell;have hls:w.1.size+1 <= w0.1.size:=kb.lt;have oa:=zFD w0 (w.1.size+1) (vd vo P.root) hls;replace Rb:=Rb.alloc Rb.size (.cells #[vd vo P.root] 22);replace kb:=kb.alloc (.cells #[vd vo P.root] 22);go_upto_region 2 with fail
 clear hls cb;revert oa Rb kb
 generalize w0.alloc _=w1;generalize w0.1.size=g0;intro oa Rb kb;replace oa:w1.ownsRow (w.1.size+1) 22 1 _ _ (Qa [P.root]):=oa;have cb:=kb.cell;go_wp2_with (at_builtin;refine Wd rfl _ _ rfl Qt rfl oa rfl (Ti (zz h Rb).code).2.2.2.2 (De _) ?_ ?_ ?_)
 ·have e1:=oa.1;have e2:=(Ti h.code).1;have e3:=HT.out;rw [qt] at e1;simp only [zp,qh,Yh,List.length_nil] at e3;simp only [qh,Yh,List.length_nil] at e1;omega
 ·have:=Rb.size;have:=kb.lt;omega
 intro v' wn Ua Ma Cb;have hB:=CN oa Ma (zQ kb.lt);replace Rb:=Rb.trans (hB.mono zO);replace kb:=kb.below hB zO;replace oa:wn.ownsRow (w.1.size+1) 22 1 v' _ (Qa ([P.root]++P.code)):=BN Ua zS;clear Ua;clear Ma Cb hB cb;have cb:=kb.cell;go_wp2_with (at_builtin;refine Wd rfl _ _ rfl Qt rfl oa rfl (Ti (zz h Rb).linear).2.2.2.2 (De _) ?_ ?_ ?_)
 ·have e1:=oa.1;have e2:=(Ti h.linear).1;have e3:=HT.out;rw [qt] at e1;simp only [zp,qh,Yh,List.length_nil] at e3;simp only [qh,Yh,List.length_nil] at e1;omega
 ·have:=Rb.size;have:=kb.lt;omega
 intro v' wn Ua Ma Cb;have hB:=CN oa Ma (zQ kb.lt);replace Rb:=Rb.trans (hB.mono zO);replace kb:=kb.below hB zO;replace oa:wn.ownsRow (w.1.size+1) 22 1 v' _ (Qa ([P.root]++P.code++P.linear)):=BN Ua zS;clear Ua;clear Ma Cb hB cb;have cb:=kb.cell;go_wp2_with (at_builtin;refine Wd rfl _ _ rfl Qt rfl oa rfl (Ti (zz h Rb).quad).2.2.2.2 (De _) ?_ ?_ ?_)
 ·have e1:=oa.1;have e2:=(Ti h.quad).1;have e3:=HT.out;rw [qt] at e1;simp only [zp,qh,Yh,List.length_nil] at e3;simp only [qh,Yh,List.length_nil] at e1;omega
 ·have:=Rb.size;have:=kb.lt;omega
 intro v' wn Ua Ma Cb;have hB:=CN oa Ma (zQ kb.lt);replace Rb:=Rb.trans (hB.mono zO);replace kb:=kb.below hB zO;replace oa:wn.ownsRow (w.1.size+1) 22 1 v' _ (Qa ([P.root]++P.code++P.linear++P.quad)):=BN Ua zS;clear Ua;clear Ma Cb hB cb;have cb:=kb.cell;obtain ⟨PRE1,qK⟩:=zEX ([P.root]++P.code++P.linear++P.quad);rw [<- qK] at oa;have UY:=zH qK;clear qK;go_wp2_with fail
 go_loopw [3,4] (fun v i wr=>∃ k m:Nat,k <= S.n4 /\ i=vd vq k /\ wr.ownsRow (w.1.size+1) 22 1 v m (Qa (PRE1++(P.cols.take k).flatten)) /\ vz w.1.size w wr /\ Blk wr w.1.size 46 #[vd vo P.root,ve S.A1 S.n1 S.c1,ve S.A2 S.n2 S.c2,ve S.A3 S.n3 S.c3,ve S.A4 S.n4 S.c4,ve S.A5 S.n5 S.c5,ve S.A6 S.n6 S.c6]) (fun _ i _=>S.n4-(intOf i).toNat)
 case atStart=>exact ⟨0,_,Qb _,rfl,by simpa using oa,Rb,kb⟩
 case round =>
  clear oa Rb kb cb;obtain ⟨k,m,hk,rfl,oa,Rb,kb⟩:=hrel;have cb:=kb.cell;obtain ⟨A0,c0,rfl,-⟩:=Yb oa;by_cases ya:k<S.n4
  ·have zh:k<P.cols.length:=by rw [<- E4.out];exact ya
   obtain ⟨b,q,A1,n1,c1,hA,dc,hc,hr⟩:=JL (qn (zz h Rb).cols).2.2.2 zh;have HL:=zH ya;have Cn:=zH zh;have g1:(0:Int)<=k:=by omega
   have g2:(k:Int)<S.n4:=by omega
   rw [hA] at cb;clear hA;have Ho:=zH (G3 P.cols k zh);have hle:=E3 P.cols (k+1);rw [Ho.out,qh] at hle;obtain ⟨en1,-,-,-,Na⟩:=Ti hr;have Ts:(m+n1)*(8+1) <= 140737488355328:=by
    have e1:=oa.1;have e3:=HT.out;rw [qt] at e1;have e4:=congrArg List.length UY.out;simp only [zp,qh,Yh,List.length_nil] at e3 e4;simp only [qh] at e1;omega
   clear hle en1;go_wp2_with (at_builtin;refine Wd rfl _ _ rfl Qt rfl oa rfl Na (De _) Ts ?_ ?_)
   ·have:=Rb.size;have:=kb.lt;omega
   intro v' wn Ua Ma Cb;have hB:=CN oa Ma (zQ kb.lt);replace Rb:=Rb.trans (hB.mono zO);replace kb:=kb.below hB zO;clear Ma Cb hB cb Ts hc;go_wp2
   go_roundw
   case rel=>exact ⟨k+1,_,zO,by go_num,BN Ua (by rw [Ho.out,zy]),Rb,kb⟩
   case measure=>simp [intOf];omega
  ·have ek:k=P.cols.length:=by rw [<- E4.out];omega
   rw [ek,By,UY.out] at oa;clear ek;go_wp2_with (at_builtin;refine Wd rfl _ _ rfl Qt rfl oa rfl (Ti (zz h Rb).salts).2.2.2.2 (De _) ?_ ?_ ?_)
   ·have e1:=oa.1;have e2:=(Ti h.salts).1;have e3:=HT.out;rw [qt] at e1;simp only [zp,qh,Yh,List.length_nil] at e3;simp only [qh,Yh,List.length_nil] at e1;omega
   ·have:=Rb.size;have:=kb.lt;omega
   intro v' wn Ua Ma Cb;have hB:=CN oa Ma (zQ kb.lt);replace Rb:=Rb.trans (hB.mono zO);replace kb:=kb.below hB zO;replace oa:wn.ownsRow (w.1.size+1) 22 1 v' _ (Qa ([P.root]++P.code++P.linear++P.quad++P.cols.flatten++P.salts)):=BN Ua zS;clear Ua;clear Ma Cb hB cb;have cb:=kb.cell;obtain ⟨PRE2,qK⟩:=zEX ([P.root]++P.code++P.linear++P.quad++P.cols.flatten++P.salts);rw [<- qK] at oa;have VY:=zH qK;clear qK;go_wp2_with fail
   go_loopw [3,5] (fun v i wr=>∃ k m:Nat,k <= S.n6 /\ i=vd vq k /\ wr.ownsRow (w.1.size+1) 22 1 v m (Qa (PRE2++(P.paths.take k).flatten)) /\ vz w.1.size w wr /\ Blk wr w.1.size 46 #[vd vo P.root,ve S.A1 S.n1 S.c1,ve S.A2 S.n2 S.c2,ve S.A3 S.n3 S.c3,ve S.A4 S.n4 S.c4,ve S.A5 S.n5 S.c5,ve S.A6 S.n6 S.c6]) (fun _ i _=>S.n6-(intOf i).toNat)
   case atStart=>exact ⟨0,_,Qb _,rfl,by simpa using oa,Rb,kb⟩
   case round =>
    clear oa Rb kb cb;obtain ⟨k,m,hk,rfl,oa,Rb,kb⟩:=hrel;have cb:=kb.cell;obtain ⟨A0,c0,rfl,-⟩:=Yb oa;by_cases ya:k<S.n6
    ·have zh:k<P.paths.length:=by rw [<- E6.out];exact ya
     obtain ⟨b,q,A1,n1,c1,hA,dc,hc,hr⟩:=JL (qn (zz h Rb).paths).2.2.2 zh;have HL:=zH ya;have Cn:=zH zh;have g1:(0:Int)<=k:=by omega
     have g2:(k:Int)<S.n6:=by omega
     rw [hA] at cb;clear hA;have Ho:=zH (G3 P.paths k zh);have hle:=E3 P.paths (k+1);rw [Ho.out,qh] at hle;obtain ⟨en1,-,-,-,Na⟩:=Ti hr;have Ts:(m+n1)*(8+1) <= 140737488355328:=by
      have e1:=oa.1;have e3:=HT.out;rw [qt] at e1;have e4:=congrArg List.length VY.out;simp only [zp,qh,Yh,List.length_nil] at e3 e4;simp only [qh] at e1;omega
     clear hle en1;go_wp2_with (at_builtin;refine Wd rfl _ _ rfl Qt rfl oa rfl Na (De _) Ts ?_ ?_)
     ·have:=Rb.size;have:=kb.lt;omega
     intro v' wn Ua Ma Cb;have hB:=CN oa Ma (zQ kb.lt);replace Rb:=Rb.trans (hB.mono zO);replace kb:=kb.below hB zO;clear Ma Cb hB cb Ts hc;go_wp2
     go_roundw
     case rel=>exact ⟨k+1,_,zO,by go_num,BN Ua (by rw [Ho.out,zy]),Rb,kb⟩
     case measure=>simp [intOf];omega
    ·have ek:k=P.paths.length:=by rw [<- E6.out];omega
     rw [ek,By,VY.out] at oa;clear ek;go_wp2;go_ret
     exact ⟨_,_,rfl,Hg ((show _ from oa)) zO,Rb⟩
theorem zC4 (p a n:Nat) (w:vu) (hp:jc p=true) (hn:n <= 65536) :
  vA prog 226 #[fv p,vd vo a,vd vq n] w fun e w'=>∃ g,e=vn (ve (vD ⟨g,0,vB⟩) n n) /\ w.1.size <= g /\ Blk w' g 22 (Ya n fun i=>a^i%p) /\ vz w.1.size w w':=by
 obtain ⟨Sd,Vb⟩:=Cc hp;have HV:=zH (fun w=>qv p w hp)
 have HR:=zH (fun w=>mH p a w zO)
 obtain ⟨F,hF⟩:∃ F:Nat -> Nat,F=fun i=>a^i%p:=⟨_,rfl⟩
 obtain ⟨r,hr⟩:=zEX (a%p);have HM:=zH (show ∀ i (w:vu),vA prog 227 #[fv p,vd vo (F i:Int),vd vo r] w fun e w'=>e=vn (vd vo (F (i+1):Int)) /\ vz w.1.size w w' from fun i w=>by
  have:=EV p (a^i%p) (a%p) w hp (Sc _ zO) (Sc _ zO);rw [<- Nat.mul_mod,<- Zg] at this;rw [hF,hr];exact this)
 have H0:=zH (show F 0=1 by rw [hF];show a^0%p=1;rw [Nat.pow_zero];exact Lk zO)
 rw [<- hr] at HR;rw [<- hF];have mk:=Rv n zO;have g0:(0:Int)<=n:=by omega
 have g1:(n:Int) <= 65536:=by omega
 unfold fv at *;obtain ⟨kf,da⟩:=zN w 224 #[vd vo p];clear hp hF hr;go_enter func226,ntmps226
 go_wp2_with fail
 generalize w.alloc _=w1 at kf da |-;refine (HV.out _).mono ?_;rintro e w2 ⟨rfl,Ca⟩;replace kf:=pa kf Ca;replace da:=ta da Ca;clear Ca;have cf:=kf.cell;go_wp2_with fail
 refine (HR.out _).mono ?_;rintro e w3 ⟨rfl,Ca⟩;replace kf:=pa kf Ca;replace da:=ta da Ca;clear Ca cf;go_wp2_with fail
 have kr:=Blk.new w3 22 (Ya n fun _=>0)
 have cD:=zA w3 (.cells (Ya n fun _=>0) 22)
 generalize w3.alloc _=w5 at kr cD |-;have HZ:=zH (jM n F fun _=>0)
 clear mk HR HV;go_loopw [8,28] (fun pw y wr=>∃ i:Nat,i <= n /\ y=vd vq i /\ pw=vd vo (F i:Int) /\ Blk wr w3.1.size 22 (Ya n (Ug F (fun _=>0) i)) /\ vz w3.1.size w3 wr) (fun _ y _=>n-(intOf y).toNat)
 case atStart=>exact ⟨0,Qb _,rfl,by rw [H0.out];rfl,by rw [HZ.out];exact kr,cD⟩
 case round =>
  clear kr cD;obtain ⟨i,hi,rfl,rfl,kr,cD⟩:=hrel;by_cases ya:i<n
  ·have q1:(i:Int)<n:=by omega
   have q2:(0:Int)<=i:=by omega
   have cr:=kr.cell i;rw [PD _ _ ya] at cr;have fr:=kr.frozen;obtain ⟨x,hx⟩:=zEX (F i);obtain ⟨z,hz⟩:=zEX (F (i+1));have HS:=zH (lG (n:=n) (G:=fun _=>0) hx)
   have Kf:=zH (fun w=>by have:=HM.out i w;rw [<- hx,<- hz] at this;exact this)
   have HZ1:=zH hz;rw [<- hx];clear hx hz;have Rg:=pa kf cD;have hlf:=kf.lt;have hg:=Hh (w:=wr) w3.1.size i (vd vo x);have Rf:=kr.set_ i (vd vo x);rw [HS.out] at Rf;have zq:=Rg.grown hg (fun e=>by have:=Nb e;omega)
   have Fa:=cD.trans (om hg cD.size zR);have cf:=zq.cell;go_wp2_with fail
   clear cf hg cr fr Rg;generalize wr.setCell _ _=w6 at Rf zq Fa |-;refine (Kf.out _).mono ?_;rintro e w7 ⟨rfl,Ca⟩;replace Rf:=pa Rf Ca;replace Fa:=ta Fa Ca;go_wp2
   go_roundw
   case rel=>exact ⟨i+1,zO,by go_num,by rw [<- HZ1.out],Rf,Fa⟩
   case measure=>simp [intOf];omega
  ·obtain rfl:i=n:=by omega
   have q1:¬((i:Int)<i):=by omega
   rw [JQ] at kr;go_wp2;go_ret
   exact ⟨_,rfl,da.size,kr,ta da cD⟩
def NC (l:List Oper) (i j:Nat):Bool:=match l[i]?,l[j]? with
 | some x,vD y=>x.apart l.toArray y
 | _,_=>false
def iR (P:Program) (o:Oper) (t:vy) (z:Array vw):Prop:=o.guard=vB /\ ∀ a w,(execOp a o).run P w= .ok (.value (.pointer (vD ⟨w.1.size,0,vB⟩))) (w.alloc (.cells z t))
section
variable {P:Program} {l:List Oper} {hs tail:List Nat} {Q:Exit -> Act -> vu -> Prop} {N j:Nat} {t:vy} {z:Array vw} {rest:List Nat} {i:Nat} {o:Oper} {Ka:Array Bool} {a:Act} {w:vu}
theorem pZ {oj:Oper} (h:NC l i j=true) (ho:l[i]?=vD o) (Sj:l[j]?=vD oj):o.apart l.toArray oj=true:=by
 unfold NC at h;rw [ho,Sj] at h;exact h
end
theorem EN {w:vu} {base:Nat} {e:vy} {size:Nat} {v:vw} {n:Nat} {xs:List vw} {g:Nat} {t:vy} {cs:Array vw} (h:w.ownsRow base e size v n xs) (k:Blk w g t cs) (ht:t≠e):∀ q,v.ownBlock=vD q -> vD g=vD q -> False:=fun q hq hg=>by
 obtain rfl:=Nb hg;obtain ⟨h1,h2⟩:=h;rcases h2 with ⟨rfl,-⟩ | ⟨q,cap,cur,rfl,-,hh,-⟩
 ·cases hq
 ·obtain rfl:q=g:=Nb hq
  unfold Blk at k;rw [hh] at k;cases k
  exact ht rfl
def OL (l:List Oper) (hs bars fs:List Nat):List Nat -> Array Bool -> Bool
 | [],Ka=>(Region.ready .any l.toArray Ka).isEmpty
 | i :: rest,Ka=>decide (i<l.length)&&(Region.ready .any l.toArray Ka).contains i &&
   (if hs.contains i then Region.ready .any l.toArray Ka == [i] else Region.free .any l.toArray Ka i&&!bars.contains i&&(ue bars Ka||fs.contains i||bars.all fun b=>XN l b i))&&OL l hs bars fs rest (Ka.setIfInBounds i true)
def Mz (P:Program) (l:List Oper) (hs bars fs:List Nat) (Q:Exit -> Act -> vu -> Prop) (R:vu -> vu -> Prop) (order:List Nat) (Ka:Array Bool) (a:Act) (w:vu):Prop :=
 Region.noSelect l.toArray=true -> OL l hs bars fs order Ka=true -> wpB P l.toArray Q bars R order.length Ka a w
section
variable {P:Program} {l:List Oper} {hs bars fs:List Nat} {Q:Exit -> Act -> vu -> Prop} {R:vu -> vu -> Prop} {rest:List Nat} {i:Nat} {o:Oper} {Ka:Array Bool} {a:Act} {w:vu}
theorem zBC {id:Nat} (R:vu -> vu -> Prop) (hs bars fs order:List Nat) (hm:P.follows .mixedOrders=true) (Fb:(Region.noSelect l.toArray&&order.length == l.length&&OL l hs bars fs order (List.replicate l.length false).toArray)=true)
  (h:Mz P l hs bars fs Q R order (List.replicate l.length false).toArray a w.drew):(Code.region id l.toArray true).wp P Q a w:=by
 simp only [pe,Qo] at Fb;refine wp_region_any hm (GY (bars:=bars) (S:=R w.drew) _ _ _ _ ?_);have h2:=h Fb.1.1 Fb.2;have e:Array.replicate l.toArray.size false=(List.replicate l.length false).toArray:=by simp
 rw [Fb.1.2] at h2;rw [e]
 simpa [wpB] using h2
theorem zBE (M:Ie R) {order:List Nat} (h:∀ W,Hid (W=w) -> R w W -> Mz P l hs bars fs Q R order Ka a W):Mz P l hs bars fs Q R order Ka a w:=h w rfl (M.refl w)
theorem zBD (h:Q .normal a w):Mz P l hs bars fs Q R [] Ka a w:=fun _ Fb=>⟨by simpa [OL] using Fb,h⟩
theorem SS (h:OL l hs bars fs (i :: rest) Ka=true):i<l.length /\ (Region.ready .any l.toArray Ka).contains i=true /\
  (hs.contains i=true -> Region.ready .any l.toArray Ka=[i]) /\
  (hs.contains i=false -> Region.free .any l.toArray Ka i=true /\ i ∉ bars /\ (ue bars Ka=true \/ fs.contains i=true \/ ∀ b∈bars,XN l b i=true)) /\ OL l hs bars fs rest (Ka.setIfInBounds i true)=true:=by
 unfold OL at h;simp only [pe,My] at h;obtain ⟨⟨⟨h1,h2⟩,h3⟩,h4⟩:=h;refine ⟨h1,h2,fun h6=>?_,fun h6=>?_,h4⟩
 ·rw [Lb h6] at h3
  simpa using h3
 ·rw [Gb (by rw [h6];exact Bool.noConfusion)] at h3
  simp only [pe,Mm,Bool.or_eq_true,oh] at h3;refine ⟨h3.1.1,fun hm=>?_,by rcases h3.2 with (h | h) | h;exact .inl h;exact .inr (.inl h);exact .inr (.inr h)⟩
  have:=h3.1.2;simp [hm] at this
theorem zID {v:vw} (M:Ie R) (hh:hs.contains i=false) (hf:fs.contains i=false) (ho:l[i]?=vD o) (hw:Region.wanted o (yielded l.toArray a.tmps)=true) (hQ:∀ c a w,Q (.panic c) (a.put o.dst v) w -> Q (.panic c) a w)
  (Ld:∀ w',(ue bars Ka=false -> R w w') -> (execOp a.eval o).run P w'= .ok (.value v) w') (h:Mz P l hs bars fs Q R rest (Ka.setIfInBounds i true) (a.put o.dst v) w):Mz P l hs bars fs Q R (i :: rest) Ka a w:=by
 intro hn Fb;obtain ⟨h1,h2,-,h4,h5⟩:=SS Fb;obtain ⟨f1,f2,f3⟩:=h4 hh;have ql:l.toArray[i]?=vD o:=by rw [Hn];exact ho
 cases hp:ue bars Ka
 ·refine mM (T:=R w) ql (Zu hn) hQ f2 (.inr ⟨fun _ h=>h,fun b hb ob hob=>CY hob ?_⟩) _ _ _ _ (.inr hp) (Region.free_spec ql f1) (by simpa using h2) (.inl ⟨hw,fun w' hR=>Ld w' fun _=>hR⟩) (M.refl w) (fun _=>M.refl w) (h hn h5)
  rcases f3 with f3 | f3 | f3
  ·rw [hp] at f3;cases f3
  ·rw [hf] at f3;cases f3
  ·exact f3 b hb
 ·exact mM (T:=fun _=>True) ql (Zu hn) hQ f2 (.inl fun _=>trivial) _ _ _ _ (.inl fun _=>trivial) (Region.free_spec ql f1) (by simpa using h2) (.inl ⟨hw,fun w' _=>Ld w' fun h=>by rw [hp] at h;cases h⟩) trivial (fun _=>M.refl w) (h hn h5)
theorem zIC {v:vw} (M:Ie R) (hh:hs.contains i=false) (ho:l[i]?=vD o) (hw:Region.wanted o (yielded l.toArray a.tmps)=true) (hQ:∀ c a w,Q (.panic c) (a.put o.dst v) w -> Q (.panic c) a w)
  (Ld:∀ w',(execOp a.eval o).run P w'= .ok (.value v) w') (h:Mz P l hs bars fs Q R rest (Ka.setIfInBounds i true) (a.put o.dst v) w):Mz P l hs bars fs Q R (i :: rest) Ka a w:=by
 intro hn Fb;obtain ⟨h1,h2,-,h4,h5⟩:=SS Fb;obtain ⟨f1,f2,-⟩:=h4 hh;have ql:l.toArray[i]?=vD o:=by rw [Hn];exact ho
 exact mM (T:=fun _=>True) ql (Zu hn) hQ f2 (.inl fun _=>trivial) _ _ _ _ (.inl fun _=>trivial) (Region.free_spec ql f1) (by simpa using h2) (.inl ⟨hw,fun w' _=>Ld w'⟩) trivial (fun _=>M.refl w) (h hn h5)
theorem zIE (M:Ie R) (hh:hs.contains i=false) (ho:l[i]?=vD o) (hw:Region.wanted o (yielded l.toArray a.tmps)=false) (hQ:∀ c a w,Q (.panic c) (a.put o.dst undef) w -> Q (.panic c) a w)
  (h:Mz P l hs bars fs Q R rest (Ka.setIfInBounds i true) (a.put o.dst undef) w):Mz P l hs bars fs Q R (i :: rest) Ka a w:=by
 intro hn Fb;obtain ⟨h1,h2,-,h4,h5⟩:=SS Fb;obtain ⟨f1,f2,f3⟩:=h4 hh;have ql:l.toArray[i]?=vD o:=by rw [Hn];exact ho
 exact mM (T:=fun _=>True) ql (Zu hn) hQ f2 (.inl fun _=>trivial) _ _ _ _ (.inl fun _=>trivial) (Region.free_spec ql f1) (by simpa using h2) (.inr ⟨hw,rfl⟩) trivial (fun _=>M.refl w) (h hn h5)
theorem ZT {a b:Prop} (h:a) (s:Imp a b:=by
 (repeat ((first | (apply Imp.via (zIE (Da) rfl rfl rfl (fun _ _ _ h=>h))) | (apply Imp.via (zID (v:=?_) (Da) rfl rfl rfl rfl (fun _ _ _ h=>h) ?hr);case hr=>(intro w' hR;(first | have Us:=YP ((Da).trans _ _ _ ja (hR rfl)) | skip);clear hR;go_simp;try with_reducible rfl)) | (apply Imp.via (zIC (v:=?_) (Da) rfl rfl rfl (fun _ _ _ h=>h) ?hr);case hr=>(intro w';go_simp;try with_reducible rfl)));simp only [vF,zLa,zLb,zLc]))
 exact Imp.rfl'):b:=s h
theorem WT (M:Ie R) (hh:hs.contains i=true) (ho:l[i]?=vD o) (hw:Region.wanted o (yielded l.toArray a.tmps)=true)
  (h:o.wp P a w (fun a' w'=>(ue bars (Ka.setIfInBounds i true)=false -> R w w') /\ Mz P l hs bars fs Q R rest (Ka.setIfInBounds i true) a' w') Q):Mz P l hs bars fs Q R (i :: rest) Ka a w:=by
 intro hn Fb;obtain ⟨h1,h2,h3,-,h5⟩:=SS Fb;have hr:=h3 hh;refine ⟨fun h0=>absurd (hr ▸ h0) zS,fun j hj=>?_⟩
 rw [hr,Ay] at hj;subst hj;unfold wpOp;have hi:l.toArray[j]?=vD o:=by rw [Hn];exact ho
 simp only [hi,hw,if_true];refine .inl (Oper.wp_mono (fun a' w' h'=>⟨h'.1,?_⟩) h)
 have hk:=h'.2 hn h5;cases hp:ue bars (Ka.setIfInBounds j true)
 ·exact FY (fun w2 h2=>M.trans _ _ _ (h'.1 hp) h2) _ _ _ _ hk
 ·exact EY _ _ _ _ hp hk
end
end Go.Proofs.YteoghgbnielkpaaGreat
