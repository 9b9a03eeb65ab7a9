/- A part of the proof. No condition. -/
import Derived.Test.YtodmnanljoaocaaGreatPU3

set_option maxRecDepth 100000
set_option maxHeartbeats 8000000
set_option linter.unusedVariables false
set_option linter.unusedSimpArgs false
namespace Go.Proofs.YtodmnanljoaocaaGreat
open Go.RowKit
open Tryz
open Go renaming World->vv, Value->vw, Addr->vx, TypeId->vy, Calls->vA
open Go.Value renaming int->vd, slice->ve, agg->vf
open Go.IntKind renaming u64->vq, i64->vt
open Go.Ending renaming returned->vn
open Go.RowKit renaming Below->vz
open Go.Act renaming put->vF
open Option renaming none->vB, some->vD
theorem zDL {y0 y1 y2 y3 y4 y5 y6 y7 y8 y9 xu:Int} {L:Xa} (h:#[vd vq y0,vd vt y1,vd vt y2,vd vt y3,vd vt y4,vd vt y5,vd vt y6,vd vt y7,vd vt y8,vd vt y9,vd vt xu]=Eb L):y0=L.p /\ y1=L.block /\ y2=L.queries /\ y3=L.k /\ y4=L.n /\ y5=L.secret /\ y6=L.rows /\ y7=L.a /\ y8=L.b /\ y9=L.b /\ xu=L.b:=by
 simpa [Eb] using h
structure FT (p:Nat) (pub vars:Int) (rows:List Ya) (ws:List Nat) (s:Bool):Prop where
 tab:Ad p pub vars rows=true
 asg:UT p vars ws=true
 small:DL rows
 few:rows.length <= 12
 sat:satB p rows ws=s
def Js (l:List Nat) (n:Int) (p:Nat):Bool:=l.all (fun x=>decide (x<p))&&((l.length:Int) == n)
def xM (ls:List (List Nat)) (m n:Int) (p:Nat):Bool:=ls.all (fun l=>Js l n p)&&((ls.length:Int) == m)
theorem oY {l:List Nat} {p j:Nat} (hj:j<l.length) (h:p <= l.getD j 0):l.all (fun x=>decide (x<p))=false:=by
 refine List.all_eq_false.2 ⟨l[j],pg hj,?_⟩;simp [Gc,Dc hj] at h
 simp
 omega
theorem pY {l:List Nat} {p:Nat} (h:∀ k<l.length,l.getD k 0<p):l.all (fun x=>decide (x<p))=true:=by
 refine Wg.2 fun x hx=>?_
 obtain ⟨k,hk,rfl⟩:=jt hx;have:=h k hk;simp [Gc,Dc hk] at this
 simpa using this
theorem OZ {l:List Nat} {p j:Nat} (h:∀ k<j,l.getD k 0<p) (hj:¬p <= l.getD j 0):∀ k<j+1,l.getD k 0<p:=fun k hk=>by
 rcases Mm k j with h1 | h1
 ·exact h k h1
 ·have e:k=j:=by omega
  rw [e];omega
theorem bN {w:vv} {A:Option vx} {n c:Nat} {l:List Nat} (h:RWd w [ve A n c] l):n=l.length /\ n <= c /\ c <= maxLen /\ (∀ x∈l,x<18446744073709551616) /\ Rd w 1 A n (Qa l):=by
 obtain ⟨A',n',c',he,h1,h2,h3,h4⟩:=h;simp at he
 obtain ⟨rfl,rfl,rfl⟩:=he;have:=h3.len1;rw [pF] at this;exact ⟨this.symm,h1,h2,h4,h3⟩
theorem OS {w:vv} {A:Option vx} {l:List Nat} (h:Rd w 1 A l.length (Qa l)) {j:Nat} (hj:j<l.length):∃ b q,A=vD ⟨b,q,vB⟩ /\ b<w.1.size /\ w.cell? ⟨b,q+j,vB⟩=vD (vd vq ((l.getD j 0:Nat):Int)):=by
 obtain ⟨b,q,e,hb,hc⟩:=MC h zO;refine ⟨b,q,e,hb,?_⟩;rw [hc j hj,bJ hj,Gc,Dc hj]
 rfl
theorem rF {n c:Nat} (h1:n <= c) (h2:c <= maxLen):(n:Int) <= 9223372036854775807:=by
 simp [maxLen] at h2
 omega
theorem BY (A:Option vx) (n c:Nat) (l:List Nat) (p:Nat) (w:vv) (hl:RWd w [ve A n c] l) :
  vA prog 66 #[ve A n c,vd vq p] w fun e w'=>e=vn (.bool (l.all (fun x=>decide (x<p)))) /\ w=w':=by
 obtain ⟨rfl,h1,h2,-,Ka⟩:=bN hl;have gm:=rF h1 h2;clear hl h1 h2;go_enter func66,ntmps66
 go_wp2_with fail
 go_loop [9] (fun i=>∃ j:Nat,j <= l.length /\ i=vd vt j /\ Hid (∀ k<j,l.getD k 0<p)) (fun i=>l.length-(intOf i).toNat)
 case atStart=>exact ⟨0,Rb _,rfl,fun k hk=>zO⟩
 case round =>
  obtain ⟨j,hj,rfl,HB⟩:=hrel;by_cases ta:j<l.length
  ·obtain ⟨b,q,rfl,Zb,hc⟩:=OS Ka ta
   have HL:=zH ta;have g1:(0:Int)<=j:=by omega
   have g2:(j:Int)<l.length:=by omega
   revert hc
   generalize hy:l.getD j 0=y;intro hc;have HY:=zH hy;clear hy Ka;by_cases z:p <= y
   ·have HZ:=zH (oY (p:=p) ta (by rw [HY.out];exact z))
    have d1:decide ((p:Int)<=y)=true:=Qb zO;go_wp2;go_ret
    exact ⟨by rw [HZ.out];rfl,rfl⟩
   ·have HZ:=zH (OZ HB.out (by rw [HY.out];exact z))
    have d1:decide ((p:Int)<=y)=false:=Ib zO;go_wp2
    go_round
    case rel=>exact ⟨j+1,zO,by go_num,HZ.out⟩
    case measure=>simp [intOf];omega
  ·have e:j=l.length:=by omega
   have HA:=zH (pY (l:=l) (p:=p) (fun k hk=>HB.out k zO))
   clear Ka;go_wp2;go_ret
   exact ⟨by rw [HA.out];rfl,rfl⟩
theorem zBw {j:Nat} (hj:j<64):Lib.bitLen (2^j)=j+1:=by
 obtain ⟨h1,h2,h3⟩:=Lib.bitLenAux_bounds 64 (2^j) (Nat.pow_lt_pow_right zO hj) (Nat.ne_of_gt (Nat.pow_pos zO));have e:Lib.bitLen (2^j)=Lib.bitLenAux 64 (2^j):=rfl;rw [e];generalize Lib.bitLenAux 64 (2^j)=k at *;have h4:=(Nat.pow_lt_pow_iff_right (a:=2) zO).1 h3;have h5:=(Nat.pow_le_pow_iff_right (a:=2) zO).1 h2;omega
theorem V7 {j n:Nat} (h:n=2^j) (hn:n <= 1024):j <= 10:=by
 rcases Mm 10 j with h1 | h1
 ·have:2^11 <= 2^j:=QB zO h1
  omega
 ·exact h1
theorem zDU (L:Xa) (j:Nat) (w:vv) (hn:L.n=2^j) (hj:j <= 10) :
  vA prog 214 #[vf (Eb L)] w fun e w'=>e=vn (vd vt j) /\ vz w.1.size w w':=by
 have hN:L.n <= 1024:=by rw [hn];exact QB (n:=2) zO hj
 have HL:=zH (fun w=>zDR (L.n:Int) w zO zO)
 rw [Dn,hn,zBw zO,<- hn] at HL;have e1:vq.wrap (L.n:Int)=L.n:=Kk _ zO;have i1:(j:Int) <= 10:=by omega
 have e2:((j+1:Nat):Int)-1=(j:Int):=by omega
 unfold Eb;clear hn;go_enter func214,ntmps214
 go_wp2_with fail
 refine (HL.out _).mono ?_;rintro e w1 ⟨rfl,rfl⟩;go_wp2;go_ret
 exact ⟨zS,(Bb _ _).alloc zR _⟩
structure Yg where
 root:Nat
 code:List Nat
 linear:List Nat
 quad:List Nat
 cols:List (List Nat)
 salts:List Nat
 paths:List (List Nat)
structure PS where
 A1:Option vx
 n1:Nat
 c1:Nat
 A2:Option vx
 n2:Nat
 c2:Nat
 A3:Option vx
 n3:Nat
 c3:Nat
 A4:Option vx
 n4:Nat
 c4:Nat
 A5:Option vx
 n5:Nat
 c5:Nat
 A6:Option vx
 n6:Nat
 c6:Nat
def Hf (P:Yg) (S:PS):Array vw:=#[vd vq P.root,ve S.A1 S.n1 S.c1,ve S.A2 S.n2 S.c2,ve S.A3 S.n3 S.c3,ve S.A4 S.n4 S.c4,ve S.A5 S.n5 S.c5,ve S.A6 S.n6 S.c6]
structure Pm (w:vv) (P:Yg) (S:PS):Prop where
 root:P.root<18446744073709551616
 code:RWd w [ve S.A1 S.n1 S.c1] P.code
 linear:RWd w [ve S.A2 S.n2 S.c2] P.linear
 quad:RWd w [ve S.A3 S.n3 S.c3] P.quad
 cols:RSl 1 RWd w [ve S.A4 S.n4 S.c4] P.cols
 salts:RWd w [ve S.A5 S.n5 S.c5] P.salts
 paths:RSl 1 RWd w [ve S.A6 S.n6 S.c6] P.paths
theorem gS {w w':vv} {P:Yg} {S:PS} (h:Pm w P S) (hb:vz w.1.size w w'):Pm w' P S :=
 ⟨h.root,Sa hb h.code,Sa hb h.linear,Sa hb h.quad,jg xC _ _ _ _ hb h.cols,Sa hb h.salts,jg xC _ _ _ _ hb h.paths⟩
theorem yM {w:vv} {A:Option vx} {n c:Nat} {ls:List (List Nat)} (h:RSl 1 RWd w [ve A n c] ls):n=ls.length /\ n <= c /\ c <= maxLen /\ RdL w 1 RWd A ls:=by
 obtain ⟨A',n',c',he,hlen,Ce,Eg,Ka⟩:=h;simp at he
 obtain ⟨rfl,rfl,rfl⟩:=he;exact ⟨hlen.symm,Ce,Eg,Ka⟩
theorem jW {w:vv} {A:Option vx} {ls:List (List Nat)} (h:RdL w 1 RWd A ls) {j:Nat} (hj:j<ls.length):∃ b q A1 n1 c1,A=vD ⟨b,q,vB⟩ /\ b<w.1.size /\ w.cell? ⟨b,q+j,vB⟩=vD (ve A1 n1 c1) /\ RWd w [ve A1 n1 c1] ls[j]:=by
 obtain ⟨b,q,rfl⟩:=h.base zO zO;obtain ⟨cs,ki,hc,hr⟩:=h.get hj;have iq:=hr;obtain ⟨A1,n1,c1,rfl,-⟩:=hr;have c0:=hc 0 zO;simp at c0
 exact ⟨b,q,A1,n1,c1,rfl,Af _ _ c0,c0,iq⟩
theorem zCA (P:Yg) (S:PS) (w:vv) (h:Pm w P S) :
  vA prog 18 #[vf (Hf P S)] w fun e w'=>zBc e /\ vz w.1.size w w':=by
 obtain ⟨e4,f4,g4,r4⟩:=yM h.cols;obtain ⟨e6,f6,g6,r6⟩:=yM h.paths;have m4:=rF f4 g4;have m6:=rF f6 g6;have E4:=zH e4;have E6:=zH e6;clear e4 e6 f4 f6 g4 g6 h;unfold Hf;obtain ⟨ba,hB⟩:=(zN w 47 #[vd vq P.root,ve S.A1 S.n1 S.c1,ve S.A2 S.n2 S.c2,ve S.A3 S.n3 S.c3,ve S.A4 S.n4 S.c4,ve S.A5 S.n5 S.c5,ve S.A6 S.n6 S.c6]).symm;go_enter func18,ntmps18
 go_upto_block 0 with fail
 revert ba hB
 generalize w.alloc _=w0;intro ba hB;have WK:=r4.below xC ba;have XK:=r6.below xC ba;have c0:=hB.cell;have l0:=hB.lt;clear r4 r6 hB
 go_cut [3] (fun t wx=>(∃ z:Int,t=vd vt z) /\ w0=wx)
 case first =>
  go_wp2_with fail
  go_loop [3,4] (fun t i=>∃ (j:Nat) (z:Int),j <= S.n4 /\ i=vd vt j /\ t=vd vt z) (fun _ i=>S.n4-(intOf i).toNat)
  case atStart=>exact ⟨0,_,Rb _,rfl,rfl⟩
  case round =>
   obtain ⟨j,z,hj,rfl,rfl⟩:=hrel;by_cases ta:j<S.n4
   ·by_cases hz:z <= 4000
    ·obtain ⟨b,q,A1,n1,c1,hA,Zb,hc,-⟩:=jW WK (show j<P.cols.length by rw [<- E4.out];exact ta)
     have d1:=Qb hz;have g1:(0:Int)<=j:=by omega
     have g2:(j:Int)<S.n4:=by omega
     rw [hA] at c0;clear hz WK XK;go_wp2_with fail
     go_round
     case rel=>exact ⟨j+1,_,zO,by go_num,rfl⟩
     case measure=>simp [intOf];omega
    ·have d1:=Ib hz
     clear WK XK;go_wp2_with fail
     go_meet
     exact ⟨⟨_,rfl⟩,rfl⟩
   ·clear WK XK
    go_wp2_with fail
    go_meet
    exact ⟨⟨_,rfl⟩,rfl⟩
 case rest =>
  obtain ⟨⟨z0,rfl⟩,rfl⟩:=hcut;go_wp2_with fail
  go_loop [3,5] (fun t i=>∃ (j:Nat) (z:Int),j <= S.n6 /\ i=vd vt j /\ t=vd vt z) (fun _ i=>S.n6-(intOf i).toNat)
  case atStart=>exact ⟨0,_,Rb _,rfl,rfl⟩
  case round =>
   obtain ⟨j,z,hj,rfl,rfl⟩:=hrel;by_cases ta:j<S.n6
   ·by_cases hz:z <= 4000
    ·obtain ⟨b,q,A1,n1,c1,hA,Zb,hc,-⟩:=jW XK (show j<P.paths.length by rw [<- E6.out];exact ta)
     have d1:=Qb hz;have g1:(0:Int)<=j:=by omega
     have g2:(j:Int)<S.n6:=by omega
     rw [hA] at c0;clear hz WK XK;go_wp2_with fail
     go_round
     case rel=>exact ⟨j+1,_,zO,by go_num,rfl⟩
     case measure=>simp [intOf];omega
    ·have d1:=Ib hz
     clear WK XK;go_wp2_with fail
     go_ret
     exact ⟨⟨_,rfl⟩,ba⟩
   ·clear WK XK
    go_wp2_with fail
    go_ret
    exact ⟨⟨_,rfl⟩,ba⟩
def Nq:Nat:=18446744069414584321
def Is (L:Xa) (j:Nat) (P:Yg):Bool :=
 !(decide (Nq <= P.root))&&(Js P.code (L.k:Int) L.p&&(Js P.linear ((L.k+L.block-1:Nat):Int) L.p&&(Js P.quad ((2*L.k-1:Nat):Int) L.p &&
  (xM P.cols (L.queries:Int) ((L.a+L.b+L.b+L.b+3:Nat):Int) L.p&&(Js P.salts (L.queries:Int) Nq&&xM P.paths (L.queries:Int) (j:Int) Nq)))))
theorem zDx:(prog.info? 239).map (fun i=>(i.zero,i.size,i.bytes))=vD (vD (vf #[.pointer vB,vd vt 0,vd vq 0]),3,24):=by kernel_rfl
theorem mU:Lr prog 234 239 3 24 (vf #[.pointer vB,vd vt 0,vd vq 0]):=by
 obtain ⟨i0,hi,Wj,Zd,Gg⟩:=info_parts zDx;exact ⟨underlying234,⟨i0,hi,Wj,Zd,Gg⟩,rfl,zO⟩
structure Hn where
 ptr:vx
 size:Nat
 lim:Nat
def Kr (l:List Hn):List vw:=l.flatMap fun x=>[.pointer (vD x.ptr),vd vt x.size,vd vq x.lim]
theorem FW (l m:List Hn):Kr (l++m)=Kr l++Kr m:=by simp [Kr]
theorem K7 (l:List Hn):(Kr l).length=l.length*3:=by
 induction l with
 | nil=>rfl
 | cons x l ih=>simp [Kr] at ih |-;omega
def Jr (L:Xa) (g:Nat):List Hn:=[⟨⟨g,1,vB⟩,L.k,L.p⟩,⟨⟨g,2,vB⟩,L.k+L.block-1,L.p⟩,⟨⟨g,3,vB⟩,2*L.k-1,L.p⟩]
def Cj (b q n size lim:Nat):List Hn:=(List.range n).map fun i=>⟨⟨b,q+i,vB⟩,size,lim⟩
theorem G7 (b q n size lim:Nat):Cj b q (n+1) size lim=Cj b q n size lim++[⟨⟨b,q+n,vB⟩,size,lim⟩]:=by simp [Cj,OB]
def Ww (L:Xa) (j g b4 q4 b6 q6:Nat):List Hn :=
 Jr L g++Cj b4 q4 L.queries (L.a+L.b+L.b+L.b+3) L.p++[⟨⟨g,5,vB⟩,L.queries,Nq⟩]++Cj b6 q6 L.queries j Nq
theorem zEZ (w:vv) (base:Nat) (x1 x2 x3 x4 x5 x6 x7 x8 x9:vw) (hb:base <= w.1.size) :
  (w.alloc (.cells #[x1,x2,x3,x4,x5,x6,x7,x8,x9] 239)).ownsRow base 239 3 (ve (vD ⟨w.1.size,0,vB⟩) 3 3) 3 [x1,x2,x3,x4,x5,x6,x7,x8,x9] :=
 ⟨rfl, .inr ⟨w.1.size,3,_,rfl,hb,heap_alloc_new w _,zO,by simp [maxLen],rfl,rfl⟩⟩
theorem GN {B:Nat} {w0 w1 w2:vv} (h1:vz B w0 w1) (h2:vz w1.1.size w1 w2) (hB:B <= w1.1.size:=by omega):vz B w0 w2:=h1.trans (h2.mono hB)
theorem zW {w W:vv} {base:Nat} {e:vy} {size:Nat} {v:vw} {n:Nat} {xs:List vw} (hW:Hid (W=w.drew)) (h:w.ownsRow base e size v n xs):W.ownsRow base e size v n xs:=by rw [hW.out];exact h
theorem ZT {B:Nat} {w0 w W:vv} (hW:Hid (W=w.drew)) (h:vz B w0 w):vz B w0 W:=by rw [hW.out];exact h.drew
theorem RR {w:vv} {base:Nat} {e:vy} {size:Nat} {v:vw} {n:Nat} {xs:List vw} (h:w.ownsRow base e size v n xs) (hn:0<n):∃ r c,v=ve (vD ⟨r,0,vB⟩) n c /\ base <= r /\ r<w.1.size:=by
 rcases h.2 with ⟨-,h0⟩ | ⟨r,c,cur,hv,hb,hh,-⟩
 ·omega
 ·exact ⟨r,c,hv,hb,(Ky.1 hh).1⟩
theorem TW (w:vv) (x y z:vw) (t:vy):Rd (w.alloc (.cells #[x,y,z] t)) 3 (vD ⟨w.1.size,0,vB⟩) 1 [x,y,z]:=by
 refine ⟨rfl,fun _=>⟨_,rfl,fun j u hj=>?_⟩⟩
 match j,hj with
 | 0,hj=>simp at hj;subst hj;simp [Addr.add]
 | 1,hj=>simp at hj;subst hj;simp [Addr.add]
 | 2,hj=>simp at hj;subst hj;simp [Addr.add]
theorem uW (a:vx) (n m:Int):∀ u∈[Value.pointer (vD a),vd vt n,vd vq m],u.oneCell'=true:=by
 intro u hu;simp at hu
 rcases hu with rfl | rfl | rfl <;> rfl
theorem zFw (L:Xa) (P:Yg) (S:PS) (g:Nat) (w:vv) (kg:Blk w g 47 (Hf P S)) (h:¬(S.n4=L.queries /\ S.n6=L.queries)) :
  vA prog 135 #[vf (Eb L), .pointer (vD ⟨g,0,vB⟩)] w fun e w'=>e=vn (ve vB 0 0) /\ vz w.1.size w w':=by
 unfold Eb;unfold Hf at kg;obtain ⟨ba,kl⟩:=(zN w 121 #[vd vq L.p,vd vt L.block,vd vt L.queries,vd vt L.k,vd vt L.n,vd vt L.secret,vd vt L.rows,vd vt L.a,vd vt L.b,vd vt L.b,vd vt L.b]).symm;have Ek:=ma kg ba;by_cases z:S.n4=L.queries
 ·have d1:((S.n4:Int)!=L.queries)=false:=by rw [fw];omega
  have d2:((S.n6:Int)!=L.queries)=true:=by rw [Fh];omega
  clear z h;go_enter func135,ntmps135
  go_wp2_with fail
  revert ba kl Ek
  generalize w.alloc _=w0;intro ba kl Ek;have c0:=kl.cell;have cg:=Ek.cell;have l0:=kl.lt;have lg:=Ek.lt;refine Yc (yc) [] [0,1,2,3,4,5,6,7,8,9,10,11,12,13,14,15,16,17] zK zK ?_;refine aG (ya) ?_;intro Wc da;refine dc ?_;refine Ec ?_;go_wp2;go_ret
  exact ⟨rfl,pa ba.drew da⟩
 ·have d1:((S.n4:Int)!=L.queries)=true:=by rw [Fh];omega
  clear z h;go_enter func135,ntmps135
  go_wp2_with fail
  revert ba kl Ek
  generalize w.alloc _=w0;intro ba kl Ek;have c0:=kl.cell;have cg:=Ek.cell;have l0:=kl.lt;have lg:=Ek.lt;refine Yc (yc) [] [0,1,2,3,4,5,6,7,8,9,10,11,12,13,14,15,16,17] zK zK ?_;refine aG (ya) ?_;intro Wc da;refine dc ?_;refine Ec ?_;go_wp2;go_ret
  exact ⟨rfl,pa ba.drew da⟩
theorem zFu (L:Xa) (j:Nat) (P:Yg) (S:PS) (g b4 q4 b6 q6:Nat) (w:vv) (hL:ed L) (hn:L.n=2^j) (hj:j <= 10) (kg:Blk w g 47 (Hf P S)) (h4:S.n4=L.queries) (h6:S.n6=L.queries)
  (hg:g<w.1.size) (gE:S.A4=vD ⟨b4,q4,vB⟩) (iE:S.A6=vD ⟨b6,q6,vB⟩) (Xr:S.n4 <= S.c4 /\ S.c4 <= maxLen) (mC:S.n6 <= S.c6 /\ S.c6 <= maxLen) :
  vA prog 135 #[vf (Eb L), .pointer (vD ⟨g,0,vB⟩)] w fun e w'=>∃ v n,e=vn v /\ w'.ownsRow w.1.size 239 3 v n (Kr (Ww L j g b4 q4 b6 q6)) /\ vz w.1.size w w':=by
 have HLv:=zH (fun w=>zDU L j w hn hj)
 have HT:=zH (fun w=>UR L.p L.block L.queries L.k L.n L.secret L.rows L.a L.b L.b L.b w hL.a hL.b hL.b hL.b)
 have b1:=hL.b1;have b2:=hL.b2;have b3:=hL.q1;have b5:=hL.q2;have b6':=hL.k;have hT:L.a+L.b+L.b+L.b <= 400000:=by have:=hL.a;have:=hL.b;omega
 have HP:Hid (Ww L j g b4 q4 b6 q6=Jr L g++Cj b4 q4 L.queries (L.a+L.b+L.b+L.b+3) L.p++[⟨⟨g,5,vB⟩,L.queries,Nq⟩]++Cj b6 q6 L.queries j Nq):=rfl;rw [HP.out];clear HP;revert HT hT
 generalize L.a+L.b+L.b+L.b=T;intro HT hT;have e3:vt.wrap ((T:Int)+3)=((T+3:Nat):Int):=by rw [Sl _ zO zO];omega
 have e4:(T:Int)+3=((T+3:Nat):Int):=by omega
 have e5:vt.wrap ((T+3:Nat):Int)=((T+3:Nat):Int):=Sl _ zO zO;have eX1:vt.wrap ((L.k:Int)+L.block)=(L.k:Int)+L.block:=Sl _ zO zO;have eX2:vt.wrap ((L.k:Int)+L.block-1)=((L.k+L.block-1:Nat):Int):=by rw [Sl _ zO zO];omega
 have eX3:(L.k:Int)+L.block-1=((L.k+L.block-1:Nat):Int):=by omega
 have eX4:vt.wrap ((L.k+L.block-1:Nat):Int)=((L.k+L.block-1:Nat):Int):=Sl _ zO zO;have eY1:vt.wrap (2*(L.k:Int))=2*(L.k:Int):=Sl _ zO zO;have eY2:vt.wrap (2*(L.k:Int)-1)=((2*L.k-1:Nat):Int):=by rw [Sl _ zO zO];omega
 have eY3:2*(L.k:Int)-1=((2*L.k-1:Nat):Int):=by omega
 have eY4:vt.wrap ((2*L.k-1:Nat):Int)=((2*L.k-1:Nat):Int):=Sl _ zO zO;have HP3:Hid (Jr L g=[⟨⟨g,1,vB⟩,L.k,L.p⟩,⟨⟨g,2,vB⟩,L.k+L.block-1,L.p⟩,⟨⟨g,3,vB⟩,2*L.k-1,L.p⟩]):=rfl;revert e3 e4 e5 eX2 eX3 eX4 eY2 eY3 eY4 HP3
 generalize T+3=T3;generalize L.k+L.block-1=x;generalize 2*L.k-1=y;intro e3 e4 e5 eX2 eX3 eX4 eY2 eY3 eY4 HP3;have d1:((S.n4:Int)!=L.queries)=false:=by rw [fw];omega
 have d2:((S.n6:Int)!=L.queries)=false:=by rw [fw];omega
 have H4:=zH h4;have H6:=zH h6;have HQ:=zH b5;clear b1 b2 b3 b5 b6' hL hn hj hT h4 h6;unfold Eb at HLv |-;unfold Hf at kg;rw [gE,iE] at kg;obtain ⟨ba,kl⟩:=(zN w 121 #[vd vq L.p,vd vt L.block,vd vt L.queries,vd vt L.k,vd vt L.n,vd vt L.secret,vd vt L.rows,vd vt L.a,vd vt L.b,vd vt L.b,vd vt L.b]).symm;have Ek:=ma kg ba;clear kg gE iE;go_enter func135,ntmps135
 go_wp2_with fail
 revert ba kl Ek
 generalize w.alloc _=w0;intro ba kl Ek;have c0:=kl.cell;have cg:=Ek.cell;have l0:=kl.lt;have lg:=Ek.lt;refine Yc (yc) [] [0,1,2,3,4,5,6,7,8,9,10,11,12,13,14,15,16,17] zK zK ?_;refine aG (ya) ?_;intro Wc da;refine dc ?_;refine Ec ?_;replace kl:=kl.drew.below da kl.lt;replace Ek:=Ek.drew.below da Ek.lt;replace ba:=pa ba.drew da;clear c0 cg l0 lg da;have c0:=kl.cell;have cg:=Ek.cell;have l0:=kl.lt;have lg:=Ek.lt;go_wp2_with fail
 refine Yc (yc) [30] [0,1,2,3,4,5,6,7,8,9,10,11,12,13,14,15,16,17,18,19,20,21,22,23,24,25,26,27,28,29,30,31] zK zK ?_;refine aG (ya) ?_;intro Wc da;refine dc ?_;refine Bd (ya) rfl rfl rfl ?_;go_simp;refine ⟨(Bb _ _).alloc zR _,?_⟩;have zm:w.1.size+1 <= Wc.1.size:=by have:=Below.size da;simp at this;omega
 have oa:=zEZ Wc (w.1.size+1) (.pointer (vD ⟨g,1,vB⟩)) (vd vt L.k) (vd vq L.p) (.pointer (vD ⟨g,2,vB⟩)) (vd vt x) (vd vq L.p) (.pointer (vD ⟨g,3,vB⟩)) (vd vt y) (vd vq L.p) zm;replace da:=ya.trans _ _ _ da ((Bb Wc.1.size Wc).alloc zR (.cells #[.pointer (vD ⟨g,1,vB⟩),vd vt L.k,vd vq L.p, .pointer (vD ⟨g,2,vB⟩),vd vt x,vd vq L.p, .pointer (vD ⟨g,3,vB⟩),vd vt y,vd vq L.p] 239));clear zm;revert oa da
 refine zPU ?_
 generalize Wc.alloc _=w2;generalize Wc.1.size=gr;intro oa da;refine dc ?_;refine Ec ?_;replace kl:=kl.drew.below da kl.lt;replace Ek:=Ek.drew.below da Ek.lt;replace ba:=pa ba.drew da;clear c0 cg l0 lg da;have c0:=kl.cell;have cg:=Ek.cell;have jy:w.1.size+1 <= w2.1.size:=kl.lt;have YJ:g<w.1.size:=hg;have Wl:Hid ([.pointer (vD ⟨g,1,vB⟩),vd vt L.k,vd vq L.p, .pointer (vD ⟨g,2,vB⟩),vd vt x,vd vq L.p, .pointer (vD ⟨g,3,vB⟩),vd vt y,vd vq L.p]=Kr (Jr L g)):=by rw [HP3.out];rfl
 rw [Wl.out] at oa;have m4:=rF Xr.1 Xr.2;have m6:=rF mC.1 mC.2;clear Xr mC Wl HP3;go_wp2_with fail
 go_loopw [5,62] (fun v i wr=>∃ k:Nat,k <= S.n4 /\ i=vd vt k /\ wr.ownsRow (w.1.size+1) 239 3 v (3+k) (Kr (Jr L g++Cj b4 q4 k T3 L.p)) /\ vz (w.1.size+1) w2 wr) (fun _ i _=>S.n4-(intOf i).toNat)
 case atStart=>exact ⟨0,Rb _,rfl,by simpa [Cj] using oa,Bb _ _⟩
 case round =>
  clear oa c0 cg;obtain ⟨k,hk,rfl,oa,Oe⟩:=hrel;obtain ⟨r,cr,rfl,Uf,Vi⟩:=RR oa zO;have MH:=kl.below Oe zO;have kg':=Ek.below Oe zO;have c0:=MH.cell;have cg:=kg'.cell;have l0:=MH.lt;have lg:=kg'.lt;have n1:w.1.size≠r:=by omega
  have n2:g≠r:=by omega
  by_cases ta:k<S.n4
  ·have g1:(0:Int)<=k:=by omega
   have g2:(k:Int)<S.n4:=by omega
   go_wp2_with fail
   refine Yc (Kj r) [8,13,14] [0,1,2,3,4,5,6,7,10,11,8,9,12,13,14,15] zK zK ?_;refine Td (Gd r) ?_;intro Wc Ca da;replace oa:=zW Ca oa;replace Oe:=ZT Ca Oe;clear Ca;refine Lk ?_;refine pd (Gd r) rfl rfl rfl ((HT.out _).mono ?_);rintro e w4 ⟨rfl,Ub⟩;refine ⟨_,rfl,CC Ub,?_⟩;replace da:=zM (Gd r) da (CC Ub);refine zPU ?_;replace oa:=yb oa Ub zR;have rO:w.1.size+1 <= Wc.1.size:=by have:=Oe.size;omega
   replace Oe:=GN Oe Ub rO;clear Ub rO;refine Lk ?_;refine Bd (Gd r) rfl rfl rfl ?_;go_simp;refine ⟨CC ((Bb _ _).alloc zR _),?_⟩;have ja:=zA w4 (.cells #[.pointer (vD ⟨b4,q4+k,vB⟩),vd vt T3,vd vq L.p] 239);have Ka:=TW w4 (.pointer (vD ⟨b4,q4+k,vB⟩)) (vd vt T3) (vd vq L.p) 239;replace da:=zM (Gd r) da (CC ja);replace oa:=yb oa ja zR;replace Oe:=GN Oe ja (zQ Oe.size);have zm:w.1.size+1 <= (w4.alloc (.cells #[.pointer (vD ⟨b4,q4+k,vB⟩),vd vt T3,vd vq L.p] 239)).1.size:=by have:=Oe.size;omega
   revert Ka da oa Oe zm
   refine zPU ?_
   generalize w4.alloc _=We;generalize w4.1.size=ge;intro Ka da oa Oe zm;refine Bd (Gd r) rfl rfl rfl ?_;refine Iv _ _ rfl mU rfl oa rfl Ka (uW _ _ _) (by have:=H4.out;have:=HQ.out;omega) zm ?_
   intro v' wn Va Ja tb;refine ⟨Ja,?_⟩;replace da:=zM (Gd r) da Ja;replace Oe:=Oe.trans (ND Ja (w.1.size+1) zm (fun z hz=>by have Gg:r=z:=Pb hz;omega))
   refine zPU ?_
   refine Lk ?_;refine Ec ?_;go_wp2
   go_roundw
   case rel =>
    refine ⟨k+1,zO,by go_num,?_,Oe⟩
    rw [G7,<- Jx,FW];exact Va
   case measure=>simp [intOf];omega
  ·have ek:k=S.n4:=by omega
   have pD:Hid (Jr L g++Cj b4 q4 k T3 L.p=Jr L g++Cj b4 q4 L.queries T3 L.p):=by rw [ek,H4.out];rfl
   rw [pD.out] at oa;clear pD;have EK:=zH ek;clear ek;go_wp2_with fail
   refine Yc (Kj r) [7,8] [0,1,2,3,4,5,6,7,8,9] zK zK ?_;refine Td (Gd r) ?_;intro Wc Ca da;replace oa:=zW Ca oa;replace Oe:=ZT Ca Oe;clear Ca;refine Lk ?_;refine Bd (Gd r) rfl rfl rfl ?_;go_simp;refine ⟨CC ((Bb _ _).alloc zR _),?_⟩;have ja:=zA Wc (.cells #[.pointer (vD ⟨g,5,vB⟩),vd vt L.queries,vd vq 18446744069414584321] 239);have Ka:=TW Wc (.pointer (vD ⟨g,5,vB⟩)) (vd vt L.queries) (vd vq 18446744069414584321) 239;replace da:=zM (Gd r) da (CC ja);replace oa:=yb oa ja zR;replace Oe:=GN Oe ja (zQ Oe.size);have zm:w.1.size+1 <= (Wc.alloc (.cells #[.pointer (vD ⟨g,5,vB⟩),vd vt L.queries,vd vq 18446744069414584321] 239)).1.size:=by have:=Oe.size;omega
   revert Ka da oa Oe zm
   refine zPU ?_
   generalize Wc.alloc _=We;generalize Wc.1.size=ge;intro Ka da oa Oe zm;refine Bd (Gd r) rfl rfl rfl ?_;refine Iv _ _ rfl mU rfl oa rfl Ka (uW _ _ _) (by have:=H4.out;have:=HQ.out;have:=EK.out;omega) zm ?_
   intro v' wn Va Ja tb;refine ⟨Ja,?_⟩;replace da:=zM (Gd r) da Ja;replace Oe:=Oe.trans (ND Ja (w.1.size+1) zm (fun z hz=>by have Gg:r=z:=Pb hz;omega))
   refine zPU ?_
   refine Lk ?_;refine Ec ?_;obtain ⟨PRE,MU⟩:=zEX (Jr L g++Cj b4 q4 L.queries T3 L.p++[(⟨⟨g,5,vB⟩,L.queries,Nq⟩:Hn)]);have N1:wn.ownsRow (w.1.size+1) 239 3 v' (3+k+1) (Kr PRE):=by rw [MU,FW];exact Va
   have HPRE:=zH MU;clear oa Va da Ja tb Ka zm c0 cg n1 n2 l0 lg MH kg' MU;have gF:=kl.below Oe zO;have kg2:=Ek.below Oe zO;have c0:=gF.cell;have cg:=kg2.cell;go_wp2_with fail
   go_loopw [5,95] (fun v i wr=>∃ k2:Nat,k2 <= S.n6 /\ i=vd vt k2 /\ wr.ownsRow (w.1.size+1) 239 3 v (3+k+1+k2) (Kr (PRE++Cj b6 q6 k2 j Nq)) /\ vz (w.1.size+1) w2 wr) (fun _ i _=>S.n6-(intOf i).toNat)
   case atStart=>exact ⟨0,Rb _,rfl,by simpa [Cj] using N1,Oe⟩
   case round =>
    clear N1 c0 cg Oe gF kg2;obtain ⟨k2,Cw,rfl,oa,Oe⟩:=hrel;clear Uf Vi;obtain ⟨r,cr2,rfl,Uf,Vi⟩:=RR oa zO;have MH:=kl.below Oe zO;have kg':=Ek.below Oe zO;have c0:=MH.cell;have cg:=kg'.cell;have l0:=MH.lt;have lg:=kg'.lt;have n1:w.1.size≠r:=by omega
    have n2:g≠r:=by omega
    by_cases Bm:k2<S.n6
    ·have g1:(0:Int)<=k2:=by omega
     have g2:(k2:Int)<S.n6:=by omega
     go_wp2_with fail
     refine Yc (Kj r) [8,10,11] [0,1,2,3,4,5,6,7,8,9,10,11,12] zK zK ?_;refine Td (Gd r) ?_;intro Wc Ca da;replace oa:=zW Ca oa;replace Oe:=ZT Ca Oe;clear Ca;refine Lk ?_;refine pd (Gd r) rfl rfl rfl ((HLv.out _).mono ?_);rintro e w4 ⟨rfl,Ub⟩;refine ⟨_,rfl,CC Ub,?_⟩;replace da:=zM (Gd r) da (CC Ub);refine zPU ?_;replace oa:=yb oa Ub zR;have rO:w.1.size+1 <= Wc.1.size:=by have:=Oe.size;omega
     replace Oe:=GN Oe Ub rO;clear Ub rO;refine Lk ?_;refine Bd (Gd r) rfl rfl rfl ?_;go_simp;refine ⟨CC ((Bb _ _).alloc zR _),?_⟩;have ja:=zA w4 (.cells #[.pointer (vD ⟨b6,q6+k2,vB⟩),vd vt j,vd vq 18446744069414584321] 239);have Ka:=TW w4 (.pointer (vD ⟨b6,q6+k2,vB⟩)) (vd vt j) (vd vq 18446744069414584321) 239;replace da:=zM (Gd r) da (CC ja);replace oa:=yb oa ja zR;replace Oe:=GN Oe ja (zQ Oe.size);have zm:w.1.size+1 <= (w4.alloc (.cells #[.pointer (vD ⟨b6,q6+k2,vB⟩),vd vt j,vd vq 18446744069414584321] 239)).1.size:=by have:=Oe.size;omega
     revert Ka da oa Oe zm
     refine zPU ?_
     generalize w4.alloc _=We;generalize w4.1.size=ge;intro Ka da oa Oe zm;refine Bd (Gd r) rfl rfl rfl ?_;refine Iv _ _ rfl mU rfl oa rfl Ka (uW _ _ _) (by have:=H4.out;have:=HQ.out;have:=EK.out;have:=H6.out;omega) zm ?_
     intro v' wn Va Ja tb;refine ⟨Ja,?_⟩;replace da:=zM (Gd r) da Ja;replace Oe:=Oe.trans (ND Ja (w.1.size+1) zm (fun z hz=>by have Gg:r=z:=Pb hz;omega))
     refine zPU ?_
     refine Lk ?_;refine Ec ?_;go_wp2
     go_roundw
     case rel =>
      refine ⟨k2+1,zO,by go_num,?_,Oe⟩
      rw [G7,<- Jx,FW];exact Va
     case measure=>simp [intOf];omega
    ·have UD:k2=S.n6:=by omega
     have pD:Hid (PRE++Cj b6 q6 k2 j Nq=Jr L g++Cj b4 q4 L.queries T3 L.p++[(⟨⟨g,5,vB⟩,L.queries,Nq⟩:Hn)]++Cj b6 q6 L.queries j Nq):=by rw [UD,H6.out,HPRE.out];rfl
     rw [pD.out] at oa;clear pD UD;go_wp2;go_ret
     exact ⟨_,_,rfl,Bh oa zO,ba.trans (Oe.mono zO)⟩
def rQ (P:Yg):List (List Nat):=[P.code,P.linear,P.quad]++P.cols++[P.salts]++P.paths
def zy (x:Hn) (l:List Nat):Bool:=((l.length:Int)==x.size)&&l.all (fun n=>decide (n<x.lim))
def Qu (ps:List Hn) (ls:List (List Nat)):Bool:=(List.zip ps ls).all fun z=>zy z.1 z.2
theorem ZR (x:Hn) (l:List Nat):zy x l=Js l (x.size:Int) x.lim:=by unfold zy Js;rw [Bool.and_comm]
theorem RT {a b:List Hn} {c d:List (List Nat)} (h:a.length=c.length):Qu (a++b) (c++d)=(Qu a c&&Qu b d):=by
 unfold Qu;rw [List.zip_append h,List.all_append]
theorem lY {ps:List Hn} {ls:List (List Nat)} (h:ps.length=ls.length) (hg:∀ i (h1:i<ps.length) (h2:i<ls.length),zy ps[i] ls[i]=true):Qu ps ls=true:=by
 unfold Qu;rw [Wg];intro z hz;obtain ⟨i,hi,rfl⟩:=jt hz;have h1:i<ps.length:=by simp at hi;omega
 have h2:i<ls.length:=by simp at hi;omega
 simpa using hg i h1 h2
theorem kY {ps:List Hn} {ls:List (List Nat)} {i:Nat} (h1:i<ps.length) (h2:i<ls.length) (hg:zy ps[i] ls[i]=false):Qu ps ls=false:=by
 unfold Qu;rw [List.all_eq_false];refine ⟨(ps[i],ls[i]),?_,by rw [hg];exact Bool.noConfusion⟩
 have:(List.zip ps ls)[i]'zT=(ps[i],ls[i]):=by simp
 rw [<- this];exact pg _
theorem CW (b q n size lim:Nat):(Cj b q n size lim).length=n:=by simp [Cj]
theorem jY (b q size lim:Nat) (ls:List (List Nat)):Qu (Cj b q ls.length size lim) ls=ls.all (fun l=>Js l (size:Int) lim):=by
 cases h:ls.all (fun l=>Js l (size:Int) lim) with
 | true =>
  refine lY (CW _ _ _ _ _) fun i h1 h2=>?_
  rw [ZR];have:=Wg.1 h ls[i] (pg h2)
  simpa [Cj] using this
 | false =>
  obtain ⟨l,hl,hb⟩:=List.all_eq_false.1 h;obtain ⟨i,hi,rfl⟩:=jt hl;refine kY (i:=i) (by rw [CW];exact hi) hi ?_
  rw [ZR];have Hh:Js ls[i] (size:Int) lim=false:=by simpa using hb
  simpa [Cj] using Hh
theorem zBl (x:Hn) (l:List Nat):Qu [x] [l]=zy x l:=by simp [Qu]
theorem zBk (L:Xa) (g:Nat) (a b c:List Nat):Qu (Jr L g) [a,b,c]=(Js a (L.k:Int) L.p&&(Js b ((L.k+L.block-1:Nat):Int) L.p&&Js c ((2*L.k-1:Nat):Int) L.p)):=by
 simp only [Qu,Jr,List.zip_cons_cons,List.zip_nil_right,List.all_cons,List.all_nil,Bool.and_true,ZR]
theorem zFT (L:Xa) (j g b4 q4 b6 q6:Nat) (P:Yg) (h4:P.cols.length=L.queries) (h6:P.paths.length=L.queries) (hr:decide (Nq <= P.root)=false) :
  Is L j P=Qu (Ww L j g b4 q4 b6 q6) (rQ P):=by
 unfold Ww rQ Is;rw [RT,RT,RT]
 ·rw [<- h4,jY,h4,<- h6,jY,h6,zBl,ZR,zBk,hr]
  unfold xM;rw [h4,h6];simp only [beq_self_eq_true,Bool.and_true,Bool.not_false,Bool.true_and,Bool.and_assoc]
 ·simp [Jr]
 ·simp [Jr,Cj,h4]
 ·simp [Jr,Cj,h4]
theorem zFR {L:Xa} {j:Nat} {P:Yg} (h:¬(P.cols.length=L.queries /\ P.paths.length=L.queries)):Is L j P=false:=by
 by_cases h4:P.cols.length=L.queries
 ·have h6:((P.paths.length:Int)==L.queries)=false:=by rw [Je];omega
  simp [Is,xM,h6]
 ·have h6:((P.cols.length:Int)==L.queries)=false:=by rw [Je];omega
  simp [Is,xM,h6]
theorem zFU {L:Xa} {j:Nat} {P:Yg} (h:decide (Nq <= P.root)=true):Is L j P=false:=by
 unfold Is;rw [h]
 rfl
def YP (w:vv) (x:Hn) (l:List Nat):Prop:=∃ b o A n c,x.ptr=⟨b,o,vB⟩ /\ w.cell? ⟨b,o,vB⟩=vD (ve A n c) /\ RWd w [ve A n c] l
def BL (w:vv) (ps:List Hn) (ls:List (List Nat)):Prop:=ps.length=ls.length /\ ∀ i (h1:i<ps.length) (h2:i<ls.length),YP w ps[i] ls[i]
theorem F7 {w w':vv} {x:Hn} {l:List Nat} (h:YP w x l) (hb:vz w.1.size w w'):YP w' x l:=by
 obtain ⟨b,o,A,n,c,e,hc,hr⟩:=h;exact ⟨b,o,A,n,c,e,ry hb hc,Sa hb hr⟩
theorem DW {w:vv} {a b:List Hn} {c d:List (List Nat)} (h:BL w a c) (k:BL w b d):BL w (a++b) (c++d):=by
 refine ⟨by rw [Pp,Pp,h.1,k.1],fun i h1 h2=>?_⟩
 rcases Mm i a.length with hi | hi
 ·rw [yz hi,yz (by rw [<- h.1];exact hi)]
  exact h.2 i hi (by rw [<- h.1];exact hi)
 ·rw [FD hi,FD (by rw [<- h.1];exact hi)]
  have e:i-a.length=i-c.length:=by rw [h.1]
  have:=k.2 (i-a.length) (by simp at h1;omega) (by rw [Pp] at h2;rw [h.1];have:=h.1;omega)
  simpa [e] using this
theorem H7 {w:vv} {b q size lim:Nat} {ls:List (List Nat)} (h:RdL w 1 RWd (vD ⟨b,q,vB⟩) ls):BL w (Cj b q ls.length size lim) ls:=by
 refine ⟨CW _ _ _ _ _,fun i h1 h2=>?_⟩
 obtain ⟨b',q',A,n,c,hA,-,hc,hr⟩:=jW h h2
 injection hA with hA
 injection hA with e1 e2
 subst e1;subst e2;exact ⟨b,q+i,A,n,c,by simp [Cj],hc,hr⟩
theorem zFv {w:vv} {L:Xa} {j g b4 q4 b6 q6:Nat} {P:Yg} {S:PS} (kg:Blk w g 47 (Hf P S)) (h:Pm w P S) (h4:P.cols.length=L.queries) (h6:P.paths.length=L.queries) (gE:S.A4=vD ⟨b4,q4,vB⟩) (iE:S.A6=vD ⟨b6,q6,vB⟩) :
  BL w (Ww L j g b4 q4 b6 q6) (rQ P):=by
 have r4:=(yM h.cols).2.2.2;have r6:=(yM h.paths).2.2.2;rw [gE] at r4;rw [iE] at r6;have one:∀ (i:Nat) (s lim:Nat) (l:List Nat) (A:Option vx) (n c:Nat),(Hf P S)[i]?=vD (ve A n c) -> RWd w [ve A n c] l -> YP w ⟨⟨g,i,vB⟩,s,lim⟩ l :=
  fun i s lim l A n c hi hr=>⟨g,i,A,n,c,rfl,(kg.cell i).trans hi,hr⟩
 refine DW (DW (DW ?_ ?_) ?_) ?_
 ·refine ⟨rfl,fun i h1 h2=>?_⟩
  match i,h1 with
  | 0,_=>exact one 1 _ _ _ _ _ _ rfl h.code
  | 1,_=>exact one 2 _ _ _ _ _ _ rfl h.linear
  | 2,_=>exact one 3 _ _ _ _ _ _ rfl h.quad
 ·rw [<- h4];exact H7 r4
 ·refine ⟨rfl,fun i h1 h2=>?_⟩
  match i,h1 with
  | 0,_=>exact one 5 _ _ _ _ _ _ rfl h.salts
 ·rw [<- h6];exact H7 r6
theorem J7:∀ (l:List Hn) (k:Nat) (h:k<l.length),(Kr l)[k*3]?=vD (.pointer (vD l[k].ptr)) /\ (Kr l)[k*3+1]?=vD (vd vt (l[k].size:Int)) /\ (Kr l)[k*3+2]?=vD (vd vq (l[k].lim:Int))
 | x :: l,0,_=>⟨rfl,rfl,rfl⟩
 | x :: l,k+1,h=>by
  have:=J7 l k (by simpa using h)
  have e:Kr (x :: l)=[.pointer (vD x.ptr),vd vt x.size,vd vq x.lim]++Kr l:=rfl;rw [e];refine ⟨?_,?_,?_⟩
  ·rw [FG zT]
   have e1:(k+1)*3 - [Value.pointer (vD x.ptr),vd vt x.size,vd vq x.lim].length=k*3:=by simp;omega
   rw [e1];exact this.1
  ·rw [FG zT]
   have e1:(k+1)*3+1 - [Value.pointer (vD x.ptr),vd vt x.size,vd vq x.lim].length=k*3+1:=by simp;omega
   rw [e1];exact this.2.1
  ·rw [FG zT]
   have e1:(k+1)*3+2 - [Value.pointer (vD x.ptr),vd vt x.size,vd vq x.lim].length=k*3+2:=by simp;omega
   rw [e1];exact this.2.2
theorem C7 (L:Xa) (j:Nat) (P:Yg) (S:PS) (w:vv) (hL:ed L) (hn:L.n=2^j) (hj:j <= 10) (h:Pm w P S) :
  vA prog 115 #[vf (Eb L),vf (Hf P S)] w fun e w'=>e=vn (.bool (Is L j P)) /\ vz w.1.size w w':=by
 have ba:vz w.1.size w ((w.alloc (.cells (Eb L) 121)).alloc (.cells (Hf P S) 47)):=((Bb _ w).alloc zR _).alloc zS _;have kg:Blk ((w.alloc (.cells (Eb L) 121)).alloc (.cells (Hf P S) 47)) (w.1.size+1) 47 (Hf P S):=by
  have:=Blk.new (w.alloc (.cells (Eb L) 121)) 47 (Hf P S)
  simpa using this
 have Xd:=gS h ba;obtain ⟨e4,a4,m4,r4⟩:=yM h.cols;obtain ⟨e6,a6,m6,r6⟩:=yM h.paths;by_cases z:S.n4=L.queries /\ S.n6=L.queries
 rotate_left
 ·have HZ:=zH (zFR (L:=L) (j:=j) (P:=P) (by rw [<- e4,<- e6];exact z))
  have HP:=zH (zFw L P S (w.1.size+1) _ kg z);clear z e4 a4 m4 r4 e6 a6 m6 r6 Xd kg h hn hj hL;unfold Eb Hf at *;have oV:=fun (w:vv) (a:Option vx) (n c:Nat)=>Lib.run_eql_slice_nil (P:=prog) w 234 239 a n c 0 0 underlying234
  go_enter func115,ntmps115
  go_wp2_with fail
  refine HP.out.mono ?_;rintro e w1 ⟨rfl,hb⟩;go_wp2;go_ret
  exact ⟨by rw [HZ.out];rfl,pa ba hb⟩
 obtain ⟨z4,z6⟩:=z;have hq:=hL.q1;obtain ⟨b4,q4,gE⟩:=r4.base zO zO;obtain ⟨b6,q6,iE⟩:=r6.base zO zO;have HP:=zH (zFu L j P S (w.1.size+1) b4 q4 b6 q6 _ hL hn hj kg z4 z6 kg.lt gE iE ⟨a4,m4⟩ ⟨a6,m6⟩);have Uj:=zFv (L:=L) (j:=j) kg Xd (by rw [<- e4];exact z4) (by rw [<- e6];exact z6) gE iE
 cases hr:decide (Nq <= P.root)
 rotate_left
 ·have HZ:=zH (zFU (L:=L) (j:=j) (P:=P) hr)
  have d1:decide ((18446744069414584321:Int)<=P.root)=true:=Qb (by have:=of_decide_eq_true hr;unfold Nq at this;omega)
  have d2:decide (18446744069414584321 <= P.root)=true:=hr;clear hr Uj gE iE z4 z6 e4 a4 m4 r4 e6 a6 m6 r6 Xd h hq hL hn hj;have Kh:0<(Ww L j (w.1.size+1) b4 q4 b6 q6).length:=by simp [Ww,Jr]
  generalize Ww L j (w.1.size+1) b4 q4 b6 q6=ps at *;unfold Eb Hf at *;have oV:=fun (w:vv) (a:Option vx) (n c:Nat)=>Lib.run_eql_slice_nil (P:=prog) w 234 239 a n c 0 0 underlying234
  go_enter func115,ntmps115
  go_wp2_with fail
  refine HP.out.mono ?_;rintro e w1 ⟨v,n,rfl,oa,hb⟩;have kg1:=ma kg hb;have cg:=kg1.cell;clear kg;have Dk:0<n:=by have:=oa.1;rw [K7] at this;omega
  obtain ⟨r,cr,rfl,Uf,Vi⟩:=RR oa Dk;go_wp2;go_ret
  exact ⟨by rw [HZ.out];rfl,pa ba hb⟩
 have HZ:=zH (zFT L j (w.1.size+1) b4 q4 b6 q6 P (by rw [<- e4];exact z4) (by rw [<- e6];exact z6) hr)
 have d1:decide ((18446744069414584321:Int)<=P.root)=false:=Ib (by have:=of_decide_eq_false hr;unfold Nq at this;omega)
 have d2:decide (18446744069414584321 <= P.root)=false:=hr;have Kh:0<(Ww L j (w.1.size+1) b4 q4 b6 q6).length:=by simp [Ww,Jr]
 have Ll:(Ww L j (w.1.size+1) b4 q4 b6 q6).length <= 200:=by have:=hL.q2;simp [Ww,Jr,Cj];omega
 rw [HZ.out];clear HZ hr gE iE z4 z6 e4 a4 m4 r4 e6 a6 m6 r6 Xd h hq hL hn hj;generalize Ww L j (w.1.size+1) b4 q4 b6 q6=ps at *;generalize rQ P=ls at *;unfold Eb Hf at *;have oV:=fun (w:vv) (a:Option vx) (n c:Nat)=>Lib.run_eql_slice_nil (P:=prog) w 234 239 a n c 0 0 underlying234
 go_enter func115,ntmps115
 go_wp2_with fail
 refine HP.out.mono ?_;rintro e w1 ⟨v,n,rfl,oa,hb⟩;have kg1:=ma kg hb;have cg:=kg1.cell;have hps1:BL w1 ps ls:=⟨Uj.1,fun i h1 h2=>F7 (Uj.2 i h1 h2) hb⟩
 replace ba:=pa ba hb;clear kg kg1 Uj HP hb;have Dk:n=ps.length:=by have:=oa.1;rw [K7] at this;omega
 obtain ⟨r,cr,rfl,Uf,Vi⟩:=RR oa zO;have jK:∀ i u,(Kr ps)[i]?=vD u -> w1.cell? ⟨r,i,vB⟩=vD u:=fun i u hu=>by
  obtain ⟨ad,e,hc⟩:=(Rd.of_own oa).2 zO
  injection e with e
  subst e;have:=hc i u hu
  simpa [yt] using this
 have mN:=zH jK;clear jK oa;subst Dk;have Xl:=zH hps1;clear hps1;have gm:(ps.length:Int) <= 200:=by omega
 go_wp2_with fail
 go_loopw [19] (fun i wr=>∃ k:Nat,k <= ps.length /\ i=vd vt k /\ vz w1.1.size w1 wr /\ Hid (∀ i (h1:i<ps.length) (h2:i<ls.length),i<k -> zy ps[i] ls[i]=true)) (fun i _=>ps.length-(intOf i).toNat)
 case atStart=>exact ⟨0,Rb _,rfl,Bb _ _,fun i h1 h2 h3=>zO⟩
 case round =>
  clear cg;obtain ⟨k,hk,rfl,Wa,HG⟩:=hrel;by_cases ta:k<ps.length
  ·have Bm:k<ls.length:=by rw [<- Xl.out.1];exact ta
   obtain ⟨b,o,A,nn,cc,eptr,hc,Zm⟩:=F7 (Xl.out.2 k ta Bm) Wa;obtain ⟨u0,u1,u2⟩:=J7 ps k ta;have c0:=ry Wa (mN.out _ _ u0);have c1:=ry Wa (mN.out _ _ u1);have c2:=ry Wa (mN.out _ _ u2);rw [eptr] at c0;clear u0 u1 u2;have iN:Hid (zy ps[k] ls[k]=(((ls[k].length:Int) == (ps[k].size:Int))&&ls[k].all (fun n=>decide (n<ps[k].lim)))):=rfl
   have HB:=zH (fun w (h:RWd w [ve A nn cc] ls[k])=>BY A nn cc ls[k] ps[k].lim w h)
   have ij:=zH ta;have Fo:=zH Bm;obtain ⟨enn,hcc1,hcc2,-,-⟩:=bN Zm;have gnn:=rF hcc1 hcc2;have ENN:=zH enn;clear enn hcc1 hcc2 eptr;have YX:=zH (fun (hh:zy ps[k] ls[k]=false)=>kY ta Bm hh)
   have MI:=zH (fun (hh:zy ps[k] ls[k]=true)=>(fun i (h1:i<ps.length) (h2:i<ls.length) (h3:i<k+1)=>(by
    rcases Mm i k with h5 | h5
    ·exact HG.out i h1 h2 h5
    ·have e:i=k:=by omega
     subst e;exact hh:zy ps[i] ls[i]=true)))
   revert c1 c2 iN HB
   generalize ps[k].size=size;generalize ps[k].lim=lim;generalize Dg:ls[k].all (fun n=>decide (n<lim))=bb
   intro c1 c2 iN HB;clear Dg;have lb:b<wr.1.size:=Af _ _ hc;have lr:r<wr.1.size:=Af _ _ c0;have g1:(0:Int)<=k:=by omega
   have g2:(k:Int)<ps.length:=by omega
   obtain ⟨ja,kx⟩:=(zN wr 239 #[.pointer (vD ⟨b,o,vB⟩),vd vt size,vd vq lim]).symm;by_cases zs:nn=size
   rotate_left
   ·have y1:((nn:Int)!=size)=true:=by rw [Fh];omega
    have HF:=zH (YX.out (iN.out.trans (by rw [<- ENN.out,show ((nn:Int)==size)=false by rw [Je];omega];rfl)))
    clear zs;go_wp2_with fail
    replace Zm:=Sa ja Zm;replace hc:=ry ja hc;replace Wa:=pa Wa ja;replace lb:b<(wr.alloc (.cells #[.pointer (vD ⟨b,o,vB⟩),vd vt size,vd vq lim] 239)).1.size:=Af _ _ hc;clear c0 c1 c2 lr ja;revert kx Zm hc Wa lb
    generalize wr.alloc _=w7;generalize wr.1.size=gx;intro kx Zm hc Wa lb;have cx:=kx.cell;have lx:=kx.lt;refine Yc (yc) [15] [0,1,2,3,4,5,6,7,8,9,10,11,12,13,14,15,16,17] zK zK ?_;refine aG (ya) ?_;intro Wc da;refine dc ?_;refine Ec ?_;go_wp2;go_ret
    exact ⟨by rw [HF.out];rfl,pa (pa ba Wa.drew) da⟩
   have y1:((nn:Int)!=size)=false:=by rw [fw];omega
   have AI:=zH (show zy ps[k] ls[k]=bb from iN.out.trans (by rw [<- ENN.out,show ((nn:Int)==size)=true by rw [Qk];omega];rfl))
   clear zs iN;go_wp2_with fail
   replace Zm:=Sa ja Zm;replace hc:=ry ja hc;replace Wa:=pa Wa ja;replace lb:b<(wr.alloc (.cells #[.pointer (vD ⟨b,o,vB⟩),vd vt size,vd vq lim] 239)).1.size:=Af _ _ hc;clear c0 c1 c2 lr ja;revert kx Zm hc Wa lb
   generalize wr.alloc _=w7;generalize wr.1.size=gx;intro kx Zm hc Wa lb;have cx:=kx.cell;have lx:=kx.lt;refine Yc (yc) [15] [0,1,2,3,4,5,6,7,8,9,10,11,12,13,14,15,16,17] zK zK ?_;refine aG (ya) ?_;intro Wc da;refine dc ?_;refine pd ya rfl rfl rfl ((HB.out _ (Sa da Zm)).mono ?_);rintro e w8 ⟨rfl,rfl⟩;refine ⟨_,rfl,ya.refl _,?_⟩;replace da:=zM ya da (ya.refl _);refine zPU ?_;cases bb
   ·have HF:=zH (YX.out AI.out)
    refine dc ?_;refine Ec ?_;go_wp2;go_ret
    exact ⟨by rw [HF.out];rfl,pa (pa ba Wa.drew) da⟩
   ·refine dc ?_
    refine Ec ?_;go_wp2
    go_roundw
    case rel=>exact ⟨k+1,zO,by go_num,pa Wa.drew da,MI.out AI.out⟩
    case measure=>simp [intOf];omega
  ·have HT:=zH (lY Xl.out.1 fun i h1 h2=>HG.out i h1 h2 zO)
   go_wp2;go_ret
   exact ⟨by rw [HT.out];rfl,pa ba Wa⟩
theorem zBC:prog.cellsOf 30=8:=by kernel_rfl
theorem zBE:prog.cellsOf 27=3:=by kernel_rfl
theorem JY:prog.cellsOf 39=1:=by kernel_rfl
structure XS (w:vv) (p:Nat) (pub vars:Int) (A B:Option vx) (n c m d:Nat) (rows:List Ya) (ws:List Nat):Prop where
 p:p<18446744073709551616
 rows:RSl 3 Ue w [ve A n c] rows
 ws:RWd w [ve B m d] ws
theorem zCP {w:vv} {cs:List vw} (hl:cs.length=8) (h:Fits prog w 30 cs):∃ (p:Nat) (pub vars:Int) (A B:Option vx) (n c m d:Nat) (rows:List Ya) (ws:List Nat) (bl bw qs:Int),cs=(GY p pub vars (ve A n c) bl bw qs (ve B m d)).toList /\ XS w p pub vars A B n c m d rows ws:=by
 match cs,hl with
 | [x0,x1,x2,x3,x4,x5,x6,x7],_ =>
  obtain ⟨t,y,ht,h1,h2,h3,h4⟩:=zCL rfl (Pj (i:=0) underlying30 rfl rfl zBI h);have hx:=Pj (i:=1) underlying30 rfl rfl zBE h;obtain ⟨a,ha,-⟩:=WL Cz (Pj (i:=0) underlying27 rfl rfl hJ hx);obtain ⟨b,hb,-⟩:=WL Cz (Pj (i:=1) underlying27 rfl rfl hJ hx);obtain ⟨e,he,-⟩:=WL Cz (Pj (i:=2) underlying27 rfl rfl hJ hx);obtain ⟨ws,hw⟩:=sJ Bz Qx Tx (Pj (i:=2) underlying30 rfl rfl LL h);simp at ht ha hb he hw
  obtain ⟨rfl,rfl,rfl,rfl⟩:=ht;subst ha hb he;obtain ⟨A,n,c,rfl⟩:=RSl.slc h4;have hw2:=hw;obtain ⟨B,m,d,he,-⟩:=hw;simp at he
  subst he;exact ⟨t.p,t.pub,t.vars,A,B,n,c,m,d,t.rows,ws,a,b,e,rfl,h1,h4,hw2⟩
theorem zBD:prog.cellsOf 63=11:=by kernel_rfl
theorem zBF:prog.cellsOf 47=7:=by kernel_rfl
theorem YZ {w:vv} {cs:List vw} (h:Fits prog w 39 cs):∃ l,RSl 1 RWd w cs l :=
 yU 1 (R:=RWd) underlying39 LL (fun _ _ hf=>sJ Bz Qx Tx hf) h
theorem RWd.slc {w:vv} {v:vw} {l:List Nat} (h:RWd w [v] l):slc v:=by
 obtain ⟨A,n,c,e,-⟩:=h;simp at e
 exact ⟨A,n,c,e⟩
theorem zCR {w:vv} {cs:List vw} (hl:cs.length=7) (h:Fits prog w 47 cs):∃ P S,cs=(Hf P S).toList /\ Pm w P S:=by
 match cs,hl with
 | [x0,x1,x2,x3,x4,x5,x6],_ =>
  obtain ⟨a,ha,ja⟩:=XL Qx (Pj (i:=0) underlying47 rfl rfl Tx h);obtain ⟨l1,h1⟩:=sJ Bz Qx Tx (Pj (i:=1) underlying47 rfl rfl LL h);obtain ⟨l2,h2⟩:=sJ Bz Qx Tx (Pj (i:=2) underlying47 rfl rfl LL h);obtain ⟨l3,h3⟩:=sJ Bz Qx Tx (Pj (i:=3) underlying47 rfl rfl LL h);obtain ⟨l4,h4⟩:=YZ (Pj (i:=4) underlying47 rfl rfl JY h);obtain ⟨l5,h5⟩:=sJ Bz Qx Tx (Pj (i:=5) underlying47 rfl rfl LL h);obtain ⟨l6,h6⟩:=YZ (Pj (i:=6) underlying47 rfl rfl JY h);simp at ha h1 h2 h3 h4 h5 h6
  subst ha;obtain ⟨A1,n1,c1,rfl⟩:=RWd.slc h1;obtain ⟨A2,n2,c2,rfl⟩:=RWd.slc h2;obtain ⟨A3,n3,c3,rfl⟩:=RWd.slc h3;obtain ⟨A4,n4,c4,rfl⟩:=RSl.slc h4;obtain ⟨A5,n5,c5,rfl⟩:=RWd.slc h5;obtain ⟨A6,n6,c6,rfl⟩:=RSl.slc h6;exact ⟨⟨a,l1,l2,l3,l4,l5,l6⟩,⟨A1,n1,c1,A2,n2,c2,A3,n3,c3,A4,n4,c4,A5,n5,c5,A6,n6,c6⟩,rfl,ja,h1,h2,h3,h4,h5,h6⟩
def WR (w:vv) (g:Nat) (bd:Nat × Nat) (l:List Nat) (f:Bool):Prop :=
 ∃ (A:Option vx) (n c p:Nat) (L:List Nat),Blk w g 307 #[ve A n c,vd vt p, .bool f] /\ Rd w 1 A n (U8 L) /\ ((∀ ad,A=vD ad -> bd.1 <= ad.block /\ ad.block<bd.2) /\ bd.2 <= g) /\ (p <= n /\ n <= c) /\ n <= 10000000 /\ L.drop p=l /\ ∀ x∈L,x<256
theorem zHg (A B:Option vx) (n c m d:Nat) (l r:List Nat) (w:vv) (hl:RWd w [ve A n c] l) (hr:RWd w [ve B m d] r) :
  vA prog 78 #[ve A n c,ve B m d] w fun e w'=>e=vn (.bool (decide (l=r))) /\ ∃ k,w'=w.drewN k:=by
 obtain ⟨rfl,h1,h2,-,Ka⟩:=bN hl;obtain ⟨rfl,h3,h4,-,Ym⟩:=bN hr;have gm:=rF h1 h2;have gr:=rF h3 h4;clear hl hr h1 h2 h3 h4;by_cases z:l.length=r.length
 rotate_left
 ·have d1:((l.length:Int)!=r.length)=true:=by rw [Fh];omega
  have HZ:=zH (show decide (l=r)=false from Ib fun e=>z (by rw [e]))
  clear z Ka Ym;go_enter func78,ntmps78
  go_wp2;go_ret
  exact ⟨by rw [HZ.out];rfl,0,rfl⟩
 have d1:((l.length:Int)!=r.length)=false:=by rw [fw];omega
 have HE:=zH z;clear z;go_enter func78,ntmps78
 go_wp2_with fail
 go_loopw [5] (fun i wr=>∃ j kk:Nat,j <= l.length /\ i=vd vt j /\ wr=w.drewN kk /\ Hid (∀ k<j,l.getD k 0=r.getD k 0)) (fun i _=>l.length-(intOf i).toNat)
 case atStart=>exact ⟨0,0,Rb _,rfl,rfl,fun k hk=>zO⟩
 case round =>
  obtain ⟨j,kk,hj,rfl,rfl,HB⟩:=hrel;by_cases ta:j<l.length
  ·have Bm:j<r.length:=by rw [<- HE.out];exact ta
   obtain ⟨b,q,rfl,Zb,hc⟩:=OS Ka ta;obtain ⟨b',q',rfl,Un,So⟩:=OS Ym Bm;have HL:=zH ta;have Fo:=zH Bm;have g1:(0:Int)<=j:=by omega
   have g2:(j:Int)<l.length:=by omega
   have g3:(j:Int)<r.length:=by omega
   revert hc So
   generalize hy:l.getD j 0=y;generalize hz:r.getD j 0=z;intro hc So;have HY:=zH hy;have HZ:=zH hz;clear hy hz Ka Ym;by_cases e:y=z
   ·have d2:((y:Int)!=z)=false:=by rw [fw];omega
    have HYZ:=zH e;clear e;go_wp2_with fail
    go_quiet (fail)
    go_wp2
    go_roundw
    case rel =>
     refine ⟨j+1,_,zO,by go_num,rfl,fun k hk=>?_⟩
     rcases Mm k j with h5 | h5
     ·exact HB.out k h5
     ·have e:k=j:=by omega
      rw [e,HY.out,HZ.out,HYZ.out]
    case measure=>simp [intOf];omega
   ·have d2:((y:Int)!=z)=true:=by rw [Fh];omega
    have HF:=zH (show decide (l=r)=false from Ib fun h=>e (by rw [<- HY.out,<- HZ.out,h]))
    clear e;go_wp2_with fail
    go_quiet (fail)
    go_wp2;go_ret
    exact ⟨by rw [HF.out];rfl,_,World.drewN_drewN ..⟩
  ·have e:j=l.length:=by omega
   have HF:=zH (show decide (l=r)=true from Qb (List.ext_getElem HE.out fun i h1 h2=>by
    have:=HB.out i zO
    simpa [Gc,Dc h1,Dc h2] using this))
   clear Ka Ym;go_wp2;go_ret
   exact ⟨by rw [HF.out];rfl,_,rfl⟩
def UB (l:List Oper) (i j:Nat):Bool:=match l[i]?,l[j]? with
 | some x,vD y=>x.apart l.toArray y
 | _,_=>false
def SP (P:Program) (o:Oper) (t:vy) (z:Array vw):Prop:=o.guard=vB /\ ∀ a w,(execOp a o).run P w= .ok (.value (.pointer (vD ⟨w.1.size,0,vB⟩))) (w.alloc (.cells z t))
section
variable {P:Program} {l:List Oper} {hs tail:List Nat} {Q:Exit -> Act -> vv -> Prop} {N j:Nat} {t:vy} {z:Array vw} {rest:List Nat} {i:Nat} {o:Oper} {Ea:Array Bool} {a:Act} {w:vv}
theorem vY {oj:Oper} (h:UB l i j=true) (ho:l[i]?=vD o) (mi:l[j]?=vD oj):o.apart l.toArray oj=true:=by
 unfold UB at h;rw [ho,mi] at h;exact h
end
theorem JM {w:vv} {base:Nat} {e:vy} {size:Nat} {v:vw} {n:Nat} {xs:List vw} {g:Nat} {t:vy} {cs:Array vw} (h:w.ownsRow base e size v n xs) (k:Blk w g t cs) (ht:t≠e):∀ q,v.ownBlock=vD q -> vD g=vD q -> False:=fun q hq hg=>by
 obtain rfl:=Pb hg;obtain ⟨h1,h2⟩:=h;rcases h2 with ⟨rfl,-⟩ | ⟨q,cap,cur,rfl,-,hh,-⟩
 ·cases hq
 ·obtain rfl:q=g:=Pb hq
  unfold Blk at k;rw [hh] at k;cases k
  exact ht rfl
def PK (l:List Oper) (hs bars fs:List Nat):List Nat -> Array Bool -> Bool
 | [],Ea=>(Region.ready .any l.toArray Ea).isEmpty
 | i :: rest,Ea=>decide (i<l.length)&&(Region.ready .any l.toArray Ea).contains i &&
   (if hs.contains i then Region.ready .any l.toArray Ea == [i] else Region.free .any l.toArray Ea i&&!bars.contains i&&(ye bars Ea||fs.contains i||bars.all fun b=>aN l b i))&&PK l hs bars fs rest (Ea.setIfInBounds i true)
def Gv (P:Program) (l:List Oper) (hs bars fs:List Nat) (Q:Exit -> Act -> vv -> Prop) (R:vv -> vv -> Prop) (order:List Nat) (Ea:Array Bool) (a:Act) (w:vv):Prop :=
 Region.noSelect l.toArray=true -> PK l hs bars fs order Ea=true -> wpB P l.toArray Q bars R order.length Ea a w
section
variable {P:Program} {l:List Oper} {hs bars fs:List Nat} {Q:Exit -> Act -> vv -> Prop} {R:vv -> vv -> Prop} {rest:List Nat} {i:Nat} {o:Oper} {Ea:Array Bool} {a:Act} {w:vv}
theorem SS {id:Nat} (R:vv -> vv -> Prop) (hs bars fs order:List Nat) (hm:P.follows .mixedOrders=true) (jb:(Region.noSelect l.toArray&&order.length == l.length&&PK l hs bars fs order (List.replicate l.length false).toArray)=true)
  (h:Gv P l hs bars fs Q R order (List.replicate l.length false).toArray a w.drew):(Code.region id l.toArray true).wp P Q a w:=by
 simp only [Pd,Qk] at jb;refine wp_region_any hm (JX (bars:=bars) (S:=R w.drew) _ _ _ _ ?_);have h2:=h jb.1.1 jb.2;have e:Array.replicate l.toArray.size false=(List.replicate l.length false).toArray:=by simp
 rw [jb.1.2] at h2;rw [e]
 simpa [wpB] using h2
theorem zA6 (M:Wd R) {order:List Nat} (h:∀ W,R w W -> Gv P l hs bars fs Q R order Ea a W):Gv P l hs bars fs Q R order Ea a w:=h w (M.refl w)
theorem zA7 (M:Wd R) {order:List Nat} (h:∀ W,Hid (W=w) -> R w W -> Gv P l hs bars fs Q R order Ea a W):Gv P l hs bars fs Q R order Ea a w:=h w rfl (M.refl w)
theorem TS (h:Q .normal a w):Gv P l hs bars fs Q R [] Ea a w:=fun _ jb=>⟨by simpa [PK] using jb,h⟩
theorem FR (h:PK l hs bars fs (i :: rest) Ea=true):i<l.length /\ (Region.ready .any l.toArray Ea).contains i=true /\
  (hs.contains i=true -> Region.ready .any l.toArray Ea=[i]) /\
  (hs.contains i=false -> Region.free .any l.toArray Ea i=true /\ i ∉ bars /\ (ye bars Ea=true \/ fs.contains i=true \/ ∀ b∈bars,aN l b i=true)) /\ PK l hs bars fs rest (Ea.setIfInBounds i true)=true:=by
 unfold PK at h;simp only [Pd,Ru] at h;obtain ⟨⟨⟨h1,h2⟩,h3⟩,h4⟩:=h;refine ⟨h1,h2,fun h6=>?_,fun h6=>?_,h4⟩
 ·rw [Gb h6] at h3
  simpa using h3
 ·rw [mb (by rw [h6];exact Bool.noConfusion)] at h3
  simp only [Pd,uo,ZA,Wg] at h3;refine ⟨h3.1.1,fun hm=>?_,by rcases h3.2 with (h | h) | h;exact .inl h;exact .inr (.inl h);exact .inr (.inr h)⟩
  have:=h3.1.2;simp [hm] at this
theorem zIm {v:vw} (M:Wd R) (hh:hs.contains i=false) (hf:fs.contains i=false) (ho:l[i]?=vD o) (hw:Region.wanted o (yielded l.toArray a.tmps)=true) (hQ:∀ c a w,Q (.panic c) (a.put o.dst v) w -> Q (.panic c) a w)
  (Rc:∀ w',(ye bars Ea=false -> R w w') -> (execOp a.eval o).run P w'= .ok (.value v) w') (h:Gv P l hs bars fs Q R rest (Ea.setIfInBounds i true) (a.put o.dst v) w):Gv P l hs bars fs Q R (i :: rest) Ea a w:=by
 intro hn jb;obtain ⟨h1,h2,-,h4,h5⟩:=FR jb;obtain ⟨f1,f2,f3⟩:=h4 hh;have Vk:l.toArray[i]?=vD o:=by rw [im];exact ho
 cases hp:ye bars Ea
 ·refine pL (T:=R w) Vk (Nr hn) hQ f2 (.inr ⟨fun _ h=>h,fun b hb ob hob=>EX hob ?_⟩) _ _ _ _ (.inr hp) (Region.free_spec Vk f1) (by simpa using h2) (.inl ⟨hw,fun w' hR=>Rc w' fun _=>hR⟩) (M.refl w) (fun _=>M.refl w) (h hn h5)
  rcases f3 with f3 | f3 | f3
  ·rw [hp] at f3;cases f3
  ·rw [hf] at f3;cases f3
  ·exact f3 b hb
 ·exact pL (T:=fun _=>True) Vk (Nr hn) hQ f2 (.inl fun _=>trivial) _ _ _ _ (.inl fun _=>trivial) (Region.free_spec Vk f1) (by simpa using h2) (.inl ⟨hw,fun w' _=>Rc w' fun h=>by rw [hp] at h;cases h⟩) trivial (fun _=>M.refl w) (h hn h5)
theorem zIl {v:vw} (M:Wd R) (hh:hs.contains i=false) (ho:l[i]?=vD o) (hw:Region.wanted o (yielded l.toArray a.tmps)=true) (hQ:∀ c a w,Q (.panic c) (a.put o.dst v) w -> Q (.panic c) a w)
  (Rc:∀ w',(execOp a.eval o).run P w'= .ok (.value v) w') (h:Gv P l hs bars fs Q R rest (Ea.setIfInBounds i true) (a.put o.dst v) w):Gv P l hs bars fs Q R (i :: rest) Ea a w:=by
 intro hn jb;obtain ⟨h1,h2,-,h4,h5⟩:=FR jb;obtain ⟨f1,f2,-⟩:=h4 hh;have Vk:l.toArray[i]?=vD o:=by rw [im];exact ho
 exact pL (T:=fun _=>True) Vk (Nr hn) hQ f2 (.inl fun _=>trivial) _ _ _ _ (.inl fun _=>trivial) (Region.free_spec Vk f1) (by simpa using h2) (.inl ⟨hw,fun w' _=>Rc w'⟩) trivial (fun _=>M.refl w) (h hn h5)
theorem zIn (M:Wd R) (hh:hs.contains i=false) (ho:l[i]?=vD o) (hw:Region.wanted o (yielded l.toArray a.tmps)=false) (hQ:∀ c a w,Q (.panic c) (a.put o.dst undef) w -> Q (.panic c) a w)
  (h:Gv P l hs bars fs Q R rest (Ea.setIfInBounds i true) (a.put o.dst undef) w):Gv P l hs bars fs Q R (i :: rest) Ea a w:=by
 intro hn jb;obtain ⟨h1,h2,-,h4,h5⟩:=FR jb;obtain ⟨f1,f2,f3⟩:=h4 hh;have Vk:l.toArray[i]?=vD o:=by rw [im];exact ho
 exact pL (T:=fun _=>True) Vk (Nr hn) hQ f2 (.inl fun _=>trivial) _ _ _ _ (.inl fun _=>trivial) (Region.free_spec Vk f1) (by simpa using h2) (.inr ⟨hw,rfl⟩) trivial (fun _=>M.refl w) (h hn h5)
theorem qI {a b:Prop} (h:a) (s:Imp a b:=by
 (repeat ((first | (apply Imp.via (zIn (ya) rfl rfl rfl (fun _ _ _ h=>h))) | (apply Imp.via (zIm (v:=?_) (ya) rfl rfl rfl rfl (fun _ _ _ h=>h) ?hr);case hr=>(intro w' hR;(first | have Yq:=wM ((ya).trans _ _ _ da (hR rfl)) | skip);clear hR;go_simp;try with_reducible rfl)) | (apply Imp.via (zIl (v:=?_) (ya) rfl rfl rfl (fun _ _ _ h=>h) ?hr);case hr=>(intro w';go_simp;try with_reducible rfl)));simp only [vF,zLa,zLb,zLc]))
 exact Imp.rfl'):b:=s h
theorem pI (M:Wd R) (hh:hs.contains i=true) (ho:l[i]?=vD o) (hw:Region.wanted o (yielded l.toArray a.tmps)=true)
  (h:o.wp P a w (fun a' w'=>(ye bars (Ea.setIfInBounds i true)=false -> R w w') /\ Gv P l hs bars fs Q R rest (Ea.setIfInBounds i true) a' w') Q):Gv P l hs bars fs Q R (i :: rest) Ea a w:=by
 intro hn jb;obtain ⟨h1,h2,h3,-,h5⟩:=FR jb;have hr:=h3 hh;refine ⟨fun h0=>absurd (hr ▸ h0) zS,fun j hj=>?_⟩
 rw [hr,zz] at hj;subst hj;unfold wpOp;have hi:l.toArray[j]?=vD o:=by rw [im];exact ho
 simp only [hi,hw,if_true];refine .inl (Oper.wp_mono (fun a' w' h'=>⟨h'.1,?_⟩) h)
 have hk:=h'.2 hn h5;cases hp:ye bars (Ea.setIfInBounds j true)
 ·exact IX (fun w2 h2=>M.trans _ _ _ (h'.1 hp) h2) _ _ _ _ hk
 ·exact GX _ _ _ _ hp hk
end
def SN (A:Option vx) (c t m:Nat):vw:=ve (if c=t then A else Option.map (fun x=>x.add t) A) (m-t) (c-t)
theorem zHx (L:Xa) (A:Option vx) (n c x y z:Nat) (w:vv) (hL:ed L) (hx:x=L.a) (hy:y=L.a+L.b) (hz:z=L.a+L.b+L.b) (hn:z <= n) (Ce:n <= c) (hm:c <= maxLen) :
  vA prog 259 #[vf (Eb L),ve A n c] w fun e w'=>e=vn (.tuple #[ve A x c,SN A c x y,SN A c y z,SN A c z n]) /\ vz w.1.size w w':=by
 have Ew:=hL.a;have Fw:=hL.b;have gm:(c:Int) <= 9223372036854775807:=by
  simp [maxLen] at hm
  omega
 have e1:(L.a:Int)+L.b=(y:Int):=by omega
 have e2:=Ud y;have e3:(y:Int)+L.b=(z:Int):=by omega
 have e4:=Ud z;have i0:(0:Int)<=x:=by omega
 have i1:(x:Int)<=y:=by omega
 have i2:(y:Int)<=z:=by omega
 have i3:(z:Int)<=n:=by omega
 have i4:(n:Int)<=c:=by omega
 have i5:(x:Int)<=c:=by omega
 have i6:(y:Int)<=c:=by omega
 have i7:(z:Int)<=c:=by omega
 have i8:(0:Int)<=y:=by omega
 have i9:(0:Int)<=z:=by omega
 obtain ⟨kl,ba⟩:=zN w 121 #[vd vq L.p,vd vt L.block,vd vt L.queries,vd vt L.k,vd vt L.n,vd vt L.secret,vd vt L.rows,vd vt L.a,vd vt L.b,vd vt L.b,vd vt L.b];clear hL Ew Fw hn hy hz Ce hm;subst hx;unfold Eb SN;obtain ⟨B1,dC⟩:=zEX ((if c=L.a then A else Option.map (fun x=>x.add L.a) A))
 obtain ⟨B2,SG⟩:=zEX ((if c=y then A else Option.map (fun x=>x.add y) A))
 obtain ⟨B3,hB3⟩:=zEX ((if c=z then A else Option.map (fun x=>x.add z) A))
 obtain ⟨n1,Fg⟩:=zEX (y-L.a);obtain ⟨n2,Tf⟩:=zEX (z-y);obtain ⟨n3,Kt⟩:=zEX (n-z);obtain ⟨c1,yd⟩:=zEX (c-L.a);obtain ⟨c2,Rf⟩:=zEX (c-y);obtain ⟨c3,uj⟩:=zEX (c-z);rw [<- dC,<- SG,<- hB3,<- Fg,<- Tf,<- Kt,<- yd,<- Rf,<- uj];have HX:=zH (And.intro dC (And.intro SG (And.intro hB3 (And.intro Fg (And.intro Tf (And.intro Kt (And.intro yd (And.intro Rf uj))))))));clear dC SG hB3 Fg Tf Kt yd Rf uj;go_enter func259,ntmps259
 go_upto_region 1 with fail
 generalize w.alloc _=w1 at kl ba |-;have cl:=kl.cell;go_upto_region 4 with fail
 refine Yc (yc) [] [0,1,2,3,4,5,6,7,8,9,10,11,12,13,14,15,16,17] zK zK ?_;refine Td (ya) ?_;intro Wc Ca da;have Ma:=Lf Ca;refine dc ?_;refine Ec ?_;obtain ⟨dC,SG,hB3,Fg,Tf,Kt,yd,Rf,uj⟩:=HX.out;rw [<- dC,<- SG,<- hB3,<- Fg,<- Tf,<- Kt,<- yd,<- Rf,<- uj];clear dC SG hB3 Fg Tf Kt yd Rf uj;go_wp2;exact Tc (v:=.tuple #[ve A L.a c,ve B1 n1 c1,ve B2 n2 c2,ve B3 n3 c3]) (by simp [results,results259,go_sem]) rfl ⟨rfl,pa ba Ma⟩
def Hz (l:List Nat) (n p:Nat):Bool:=decide (l.length=n)&&l.all fun x=>decide (x<p)
theorem zBp {l:List Nat} {p i:Nat} (h:(l.take i).all (fun x=>decide (x<p))=true) (hi:i<l.length) (hx:¬p <= l.getD i 0):(l.take (i+1)).all (fun x=>decide (x<p))=true:=by
 rw [yC l i hi,List.all_append,h];have:decide (l.getD i 0<p)=true:=Qb zO;rw [List.all_cons,this]
 rfl
theorem zBo {l:List Nat} {p i:Nat} (hi:i<l.length) (hx:p <= l.getD i 0):l.all (fun x=>decide (x<p))=false:=by
 rw [List.all_eq_false];refine ⟨l.getD i 0,?_,by rw [decide_eq_true_iff];omega⟩
 rw [Gc,Dc hi];exact pg _
theorem zBy (x p B:Nat) (w:vv) (hc:w.cell? ⟨B,0,vB⟩=vD (vd vq p)) :
  vA prog 257 #[vd vq x, .pointer (vD ⟨B,0,vB⟩)] w fun e w'=>e=vn (.bool (decide (p <= x))) /\ vz w.1.size w w':=by
 obtain ⟨v,hv⟩:=zEX (decide (p <= x));have e1:decide ((p:Int)<=x)=v:=by rw [hv];by_cases h:p <= x <;> simp [h]
 rw [<- hv];have HV:=zH hv.symm;clear hv;go_enter func257,ntmps257
 go_wp2_with fail
 go_ret
 exact ⟨by first | rfl | (simp [HV.out]),Bb _ _⟩
theorem zBv (A:Option vx) (n c p B:Nat) (l:List Nat) (w:vv) (hl:RWd w [ve A n c] l) (hc:w.cell? ⟨B,0,vB⟩=vD (vd vq p)) :
  vA prog 265 #[ve A n c, .func (.func 257) #[] #[.pointer (vD ⟨B,0,vB⟩)]] w fun e w'=>∃ r:Int,e=vn (vd vt r) /\ decide (0 <= r)=!(l.all fun x=>decide (x<p)) /\ vz w.1.size w w':=by
 obtain ⟨rfl,h1,h2,ta,Ka⟩:=Mb hl;have gm:=Mh h1 h2;have lB:B<w.1.size:=Af _ _ hc;have HX:=zH (fun x w' (hb:vz w.1.size w w')=>zBy x p B w' ((hb.cell (p:=⟨B,0,vB⟩) lB).trans hc))
 clear hl h1 h2 ta hc lB;obtain ⟨ans,ha⟩:=zEX (!(l.all fun x=>decide (x<p)))
 rw [<- ha];have HA:=zH ha;clear ha;go_enter func265,ntmps265
 go_wp2_with fail
 go_loopw [5,8] (fun _ y wr=>∃ i:Nat,i <= l.length /\ y=vd vt i /\ Hid ((l.take i).all (fun x=>decide (x<p))=true) /\ vz w.1.size w wr) (fun _ y _=>l.length-(intOf y).toNat)
 case atStart=>exact ⟨0,Rb _,rfl,rfl,Bb _ _⟩
 case round =>
  obtain ⟨i,hi,rfl,HT,Wa⟩:=hrel;by_cases ta:i<l.length
  ·have g1:(0:Int)<=i:=by omega
   have g2:(i:Int)<l.length:=by omega
   obtain ⟨b,q,rfl,Zb,hc⟩:=Ve (Ka.below Wa) ta;by_cases hx:p <= l.getD i 0
   ·have HF:=zH (show ans=true by rw [HA.out,zBo ta hx];rfl)
    have HC:=zH (by have:=HX.out (l.getD i 0) wr Wa;rw [Qb hx] at this;exact this)
    generalize l.getD i 0=z at *;clear hx HT;go_wp2_with fail
    refine HC.out.mono ?_;rintro e w1 ⟨rfl,La⟩;go_wp2;go_ret
    exact ⟨_,rfl,by rw [HF.out];exact Qb g1,pa Wa La⟩
   ·have zx:=zH (zBp HT.out ta hx)
    have HC:=zH (by have:=HX.out (l.getD i 0) wr Wa;rw [Ib hx] at this;exact this)
    generalize l.getD i 0=z at *;clear hx HT;go_wp2_with fail
    refine HC.out.mono ?_;rintro e w1 ⟨rfl,La⟩;replace Wa:=pa Wa La;clear hc La Zb;go_wp2
    go_roundw
    case rel=>exact ⟨i+1,zO,by go_num,zx.out,Wa⟩
    case measure=>simp [intOf];omega
  ·obtain rfl:i=l.length:=by omega
   have HF:=zH (show ans=false by rw [HA.out];have:=HT.out;rw [List.take_length] at this;rw [this];rfl)
   go_wp2;go_ret
   exact ⟨_,rfl,by rw [HF.out];rfl,Wa⟩
theorem zBu (A:Option vx) (n c p B:Nat) (l:List Nat) (w:vv) (hl:RWd w [ve A n c] l) (hc:w.cell? ⟨B,0,vB⟩=vD (vd vq p)) :
  vA prog 220 #[ve A n c, .func (.func 257) #[] #[.pointer (vD ⟨B,0,vB⟩)]] w fun e w'=>e=vn (.bool (!(l.all fun x=>decide (x<p)))) /\ vz w.1.size w w':=by
 have HI:=zH (zBv A n c p B l w hl hc);clear hl hc;generalize (!(l.all fun x=>decide (x<p)))=ans at *
 go_enter func220,ntmps220
 go_wp2_with fail
 refine HI.out.mono ?_;rintro e w1 ⟨r,rfl,hr,La⟩;go_wp2;go_ret
 exact ⟨by first | rfl | (simp [hr]),La⟩
theorem oQ (L:Xa) (A:Option vx) (n c:Nat) (l:List Nat) (w:vv) (hl:RWd w [ve A n c] l) :
  vA prog 197 #[vf (Eb L),ve A n c] w fun e w'=>e=vn (.bool (l.all fun x=>decide (x<L.p))) /\ vz w.1.size w w':=by
 unfold Eb;obtain ⟨kb,hba⟩:=zN w 121 #[vd vq L.p,vd vt L.block,vd vt L.queries,vd vt L.k,vd vt L.n,vd vt L.secret,vd vt L.rows,vd vt L.a,vd vt L.b,vd vt L.b,vd vt L.b];have HC:=zH (zBu A n c L.p w.1.size l (w.alloc (.cells #[vd vq L.p,vd vt L.block,vd vt L.queries,vd vt L.k,vd vt L.n,vd vt L.secret,vd vt L.rows,vd vt L.a,vd vt L.b,vd vt L.b,vd vt L.b] 121)) (Sa hba hl) (by rw [kb.cell];rfl))
 clear hl kb;generalize (l.all fun x=>decide (x<L.p))=v at *
 go_enter func197,ntmps197
 go_wp2_with fail
 refine HC.out.mono ?_;rintro e w1 ⟨rfl,La⟩;go_wp2;go_ret
 exact ⟨by cases v <;> rfl,pa hba La⟩
def cE (L:Xa) (a b c:List Nat):Bool :=
 decide (a.length=L.k)&&decide (b.length=L.k+L.block-1)&&decide (c.length=2*L.k-1)&&(a.all fun x=>decide (x<L.p))&&(b.all fun x=>decide (x<L.p))&&(c.all fun x=>decide (x<L.p))
theorem XZ (L:Xa) (A B C:Option vx) (n1 c1 n2 c2 n3 c3:Nat) (a b c:List Nat) (w:vv) (hL:ed L) (ha:RWd w [ve A n1 c1] a) (hb:RWd w [ve B n2 c2] b) (hc:RWd w [ve C n3 c3] c) (hn:n1=a.length /\ n2=b.length /\ n3=c.length) :
  vA prog 192 #[vf (Eb L),ve A n1 c1,ve B n2 c2,ve C n3 c3] w fun e w'=>e=vn (.bool (cE L a b c)) /\ vz w.1.size w w':=by
 obtain ⟨rfl,rfl,rfl⟩:=hn;have La:=hL.b1;have Da:=hL.b2;have Xm:=hL.q1;have Ot:=hL.q2;have hk:=hL.k;have HA:=zH (fun w' (h:vz w.1.size w w')=>oQ L A a.length c1 a w' (Sa h ha))
 have HB:=zH (fun w' (h:vz w.1.size w w')=>oQ L B b.length c2 b w' (Sa h hb))
 have HC:=zH (fun w' (h:vz w.1.size w w')=>oQ L C c.length c3 c w' (Sa h hc))
 obtain ⟨t1,tA⟩:=zEX (L.k+L.block);obtain ⟨t2,EH⟩:=zEX (L.k+L.block-1);obtain ⟨t3,ht3⟩:=zEX (2*L.k);obtain ⟨t4,ht4⟩:=zEX (2*L.k-1);have e1:(L.k:Int)+L.block=(t1:Int):=by omega
 have e2:=Ud t1;have e3:(t1:Int)-1=(t2:Int):=by omega
 have e4:=Ud t2;have e5:(2:Int)*L.k=(t3:Int):=by omega
 have e6:=Ud t3;have e7:(t3:Int)-1=(t4:Int):=by omega
 have e8:=Ud t4;have HE:=zH (show cE L a b c=(decide (a.length=L.k)&&decide (b.length=t2)&&decide (c.length=t4)&&(a.all fun x=>decide (x<L.p))&&(b.all fun x=>decide (x<L.p))&&(c.all fun x=>decide (x<L.p))) by rw [EH,ht4];rfl)
 clear tA EH ht3 ht4 La Da Xm Ot hk hL ha hb hc;generalize (a.all fun x=>decide (x<L.p))=b1 at *
 generalize (b.all fun x=>decide (x<L.p))=b2 at *
 generalize (c.all fun x=>decide (x<L.p))=b3 at *
 obtain ⟨R,hR⟩:=zEX (cE L a b c);rw [<- hR] at HE |-;clear hR;generalize a.length=n1 at *;generalize b.length=n2 at *;generalize c.length=n3 at *;unfold Eb at *;obtain ⟨kl,ba⟩:=zN w 121 #[vd vq L.p,vd vt L.block,vd vt L.queries,vd vt L.k,vd vt L.n,vd vt L.secret,vd vt L.rows,vd vt L.a,vd vt L.b,vd vt L.b,vd vt L.b];by_cases h1:n1=L.k
 rotate_left
 ·have d1:((n1:Int)!=L.k)=true:=by simp;omega
  have HF:=zH (show R=false by rw [HE.out,Ib h1];rfl)
  clear h1 HE HA HB HC;go_enter func192,ntmps192
  go_wp2;go_ret
  exact ⟨by rw [HF.out];rfl,ba⟩
 have d1:((n1:Int)!=L.k)=false:=by simp;omega
 by_cases h2:n2=t2
 rotate_left
 ·have d2:((n2:Int)!=t2)=true:=by simp;omega
  have HF:=zH (show R=false by rw [HE.out,Ib h2];simp)
  clear h1 h2 HE HA HB HC;go_enter func192,ntmps192
  go_wp2;go_ret
  exact ⟨by rw [HF.out];rfl,ba⟩
 have d2:((n2:Int)!=t2)=false:=by simp;omega
 by_cases h3:n3=t4
 rotate_left
 ·have d3:((n3:Int)!=t4)=true:=by simp;omega
  have HF:=zH (show R=false by rw [HE.out,Ib h3];simp)
  clear h1 h2 h3 HE HA HB HC;go_enter func192,ntmps192
  go_wp2;go_ret
  exact ⟨by rw [HF.out];rfl,ba⟩
 have d3:((n3:Int)!=t4)=false:=by simp;omega
 have HF:=zH (show R=(b1&&b2&&b3) by rw [HE.out,Qb h1,Qb h2,Qb h3];rfl)
 clear h1 h2 h3 HE;go_enter func192,ntmps192
 go_wp2_with fail
 generalize w.alloc _=w1 at kl ba |-;refine (HA.out _ ba).mono ?_;rintro e w2 ⟨rfl,ra⟩;replace kl:=ma kl ra;replace ba:=pa ba ra;clear ra;cases b1
 ·go_wp2
  go_ret
  exact ⟨by rw [HF.out];rfl,ba⟩
 have cl:=kl.cell;go_wp2_with fail
 refine (HB.out _ ba).mono ?_;rintro e w3 ⟨rfl,ra⟩;replace kl:=ma kl ra;replace ba:=pa ba ra;clear ra cl;cases b2
 ·go_wp2
  go_ret
  exact ⟨by rw [HF.out];rfl,ba⟩
 have cl:=kl.cell;go_wp2_with fail
 refine (HC.out _ ba).mono ?_;rintro e w4 ⟨rfl,ra⟩;go_wp2;go_ret
 exact ⟨by rw [HF.out];simp,pa ba ra⟩
end Go.Proofs.YtodmnanljoaocaaGreat
