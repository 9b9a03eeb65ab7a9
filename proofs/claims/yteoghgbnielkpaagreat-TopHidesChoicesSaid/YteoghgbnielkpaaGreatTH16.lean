/- A part of the proof. No condition. -/
import Derived.Test.YteoghgbnielkpaaGreatTH14
import Derived.Test.YteoghgbnielkpaaGreatTH13
import Derived.Test.YteoghgbnielkpaaGreatTH11
import Derived.Test.YteoghgbnielkpaaGreatTH15

set_option maxRecDepth 100000
set_option maxHeartbeats 8000000
set_option linter.unusedVariables false
set_option linter.unusedSimpArgs false
namespace Go.Proofs.YteoghgbnielkpaaGreat
open Go.RowKit Go.Maps
open Tryz
open Go renaming World->vw, Value->vx, Addr->vy, TypeId->vz, Calls->vB
open Go.Value renaming int->vd, slice->ve, agg->vf
open Go.IntKind renaming u64->vn, i64->vq
open Go.Ending renaming returned->vl
open Go.RowKit renaming Below->vA
open Go.World renaming setCell->vF
open Go.Act renaming put->vG
open Option renaming none->vD, some->vE
structure cG (p:Nat) (pub vars:Int) (rows:List Ya):Prop where
 pl:p<18446744073709551616
 pubI:0 <= pub /\ pub<9223372036854775808
 varI:0 <= vars /\ vars<9223372036854775808
 n:rows.length <= 16384
 sides:∀ r∈rows,∀ k,k<3 -> (Nc r k).length <= 100000
 terms:∀ r∈rows,∀ k,k<3 -> ∀ t∈Nc r k,0 <= t.1 /\ t.1<9223372036854775808 /\ t.2<18446744073709551616
 len:(mu p pub vars rows).length <= 1000000
theorem zAK {p:Nat} {pub vars:Int} {rows:List Ya} (h:cG p pub vars rows):∀ x∈mu p pub vars rows,x<18446744073709551616:=fun x hx=>by
 have h1:=h.pl;have h2:=h.pubI;have h3:=h.varI;have h4:=h.n;unfold mu at hx;rcases uq.1 hx with hx | hx
 ·simp only [Xg,List.not_mem_nil,or_false] at hx
  omega
 ·obtain ⟨r,hr,hx⟩:=List.mem_flatMap.1 hx
  have key:∀ k,k<3 -> x∈jA (Nc r k) -> x<18446744073709551616:=fun k hk hx=>by
   unfold jA tI at hx;rcases Xg.1 hx with rfl | hx
   ·have:=h.sides r hr k hk
    omega
   ·obtain ⟨t,ht,hx⟩:=List.mem_flatMap.1 hx
    have:=h.terms r hr k hk t ht;simp only [Xg,List.not_mem_nil,or_false] at hx;omega
  unfold NJ at hx;rcases uq.1 hx with hx | hx
  ·rcases uq.1 hx with hx | hx
   ·exact key 0 (by decide) hx
   ·exact key 1 (by decide) hx
  ·exact key 2 (by decide) hx
theorem zAM (i:Nat):4+700000*i+200001*3 <= 4+700000*(i+1):=by omega
theorem zCS {α:Type} {l:List α} {i:Nat} (d:α) (h:i<l.length):l.getD i d∈l:=by
 rw [Jb,oc h];exact wg h
theorem zGm (w:vw) (x y:Nat) (t:vz):Rd (w.alloc (.cells #[vd vn x,vd vn y] t)) 1 (vE ⟨w.1.size,0,vD⟩) 2 (Ia [x,y]) :=
 Rd.of_own (e:=t) (base:=w.1.size) (c:=2) ⟨rfl, .inr ⟨w.1.size,2,_,rfl,zR,heap_alloc_new w _,zR,by simp [maxLen],rfl,rfl⟩⟩
theorem J2 (w:vw) (x y z u:Nat) (t:vz):(w.alloc (.cells #[vd vn x,vd vn y,vd vn z,vd vn u] t)).ownsRow w.1.size t 1 (ve (vE ⟨w.1.size,0,vD⟩) 4 4) 4 (Ia [x,y,z,u]) :=
 ⟨rfl, .inr ⟨w.1.size,4,_,rfl,zR,heap_alloc_new w _,zR,by simp [maxLen],rfl,rfl⟩⟩
theorem zDQ (p:Nat) (pub vars:Int) (A:Option vy) (R c:Nat) (rows:List Ya) (w:vw) (hr:RSl 3 oe w [ve A R c] rows) (hD:cG p pub vars rows) (ib:Zc p pub vars rows=true) :
  vB prog 132 #[sc p pub vars (ve A R c)] w fun e w'=>e=vl (vd vn (Xf p pub vars rows:Int)) /\ vA w.1.size w w':=by
 have HV:=zH (fun w1 (hb:vA w.1.size w w1)=>by have:=WL p pub vars A R c rows w1 (Dg Bg _ _ _ _ hb hr);rw [ib] at this;exact this)
 have HH:=zH (fun A1 n1 c1 w1 (h1:RWd w1 [ve A1 n1 c1] (mu p pub vars rows))=>dU 21 A1 n1 c1 (mu p pub vars rows) w1 h1 (by simp [mu]) hD.len)
 have Cm:Xf p pub vars rows=Xn 21 (mu p pub vars rows):=by unfold Xf;rw [Qa ib]
 rw [Cm];obtain ⟨A',n',c',he,zg,He,yf,Ma⟩:=hr;simp at he
 obtain ⟨rfl,rfl,rfl⟩:=he;obtain ⟨pb,rfl⟩:=Kk hD.pubI.1;obtain ⟨vr,rfl⟩:=Kk hD.varI.1;have uc:=hD.pubI.2;have Ni:=hD.varI.2;have hRn:R <= 16384:=by rw [<- zg];exact hD.n
 have hDp:=hD.pl;have y1:vn.wrap (pb:Int)=pb:=by rw [Ei];omega
 have y2:vn.wrap (vr:Int)=vr:=by rw [Ei];omega
 have y3:vn.wrap (R:Int)=R:=by rw [Ei];omega
 have kt:=Blk.new w 25 #[vd vn p,vd vq pb,vd vq vr,ve A R c];have da:vA w.1.size w (w.alloc (.cells #[vd vn p,vd vq pb,vd vq vr,ve A R c] 25)):=(za _ _).alloc zR _;have HR:=zH zg;have HS:=zH hD.sides;have HT:=zH hD.terms;have Xl:Hid (∀ x∈mu p pb vr rows,x<18446744073709551616):=zH (zAK hD);clear Cm zg He yf ib uc Ni hD hDp;unfold sc at *;go_enter func132,ntmps132
 go_wp2_with fail
 generalize w.alloc _=w0 at kt da |-;refine (HV.out w0 da).mono ?_;rintro e w1 ⟨rfl,Ca⟩;replace kt:=ia kt Ca;replace da:=ma da Ca;clear Ca HV;have ct:=kt.cell;have lt:=kt.lt;have Uj:=J2 w1 p pb vr R 22;have Hz:=(za w1.1.size w1).alloc zR (.cells #[vd vn p,vd vn pb,vd vn vr,vd vn R] 22);obtain ⟨PR,hPR⟩:=zEX (CI p pb vr rows);have Tw:=zH (show PR 0=[p,pb,vr,R] by rw [hPR,<- HR.out];simp [CI])
 have HPN:=zH (show ∀ i (h:i<rows.length),PR (i+1)=bM (PR i) rows[i] 3 from fun i h=>by rw [hPR];exact zEA p pb vr rows h)
 have HPF:=zH (show PR R=mu p pb vr rows by rw [hPR,<- HR.out];exact zEz p pb vr rows)
 clear hPR;go_upto_region 5 with fail
 generalize w1.alloc _=w2 at Uj Hz |-;clear ct lt kt;go_loopw [29,3] (fun y v wr=>∃ i:Nat,i <= R /\ y=vd vq i /\ wr.ownsRow w1.1.size 22 1 v (PR i).length (Ia (PR i)) /\ (PR i).length <= 4+700000*i /\ vA w1.1.size w1 wr) (fun y _ _=>R-(intOf y).toNat)
 case atStart=>exact ⟨0,Lb _,rfl,by rw [Tw.out];exact Uj,by rw [Tw.out];simp,Hz⟩
 case round =>
  clear Uj Hz;obtain ⟨i,hi,rfl,xa,hle,hb⟩:=hrel;by_cases ra:i<R
  ·have q1:(i:Int)<R:=by omega
   have q2:(0:Int)<=i:=by omega
   have Qp:i<rows.length:=by rw [HR.out];exact ra
   obtain ⟨b,q,rfl⟩:=Ma.base (by omega) (by omega)
   obtain ⟨cs,-,hc,x,y,z,rfl,Yc,de,Nd⟩:=Ma.get Qp;have fj:=ma da hb;have Fb:=mf _ _ ((hc 0 (by omega)).trans (show [x,y,z][0]?=vE x from rfl))
   have h0:=(fj.cell (p:=⟨b,q+i*3+0,vD⟩) Fb).trans (hc 0 (by omega))
   have h1:=(fj.cell (p:=⟨b,q+i*3+1,vD⟩) Fb).trans (hc 1 (by omega))
   have h2:=(fj.cell (p:=⟨b,q+i*3+2,vD⟩) Fb).trans (hc 2 (by omega))
   rw [Nat.add_zero] at h0;simp only [List.getElem?_cons_zero,List.getElem?_cons_succ] at h0 h1 h2;have JD:=zH (show ∀ k,k<3 -> RLin w [if k=0 then x else if k=1 then y else z] (Nc rows[i] k) from fun k hk=>by
    unfold Nc;rcases (show k=0 \/ k=1 \/ k=2 by omega) with h | h | h <;> subst h
    ·exact Yc
    ·exact de
    ·exact Nd)
   have Zy:=zH (fun k hk=>HS.out rows[i] (wg Qp) k hk)
   have HTi:=zH (fun k hk=>HT.out rows[i] (wg Qp) k hk)
   obtain ⟨PS,hPS⟩:=zEX (bM (PR i) rows[i]);have UI:=zH (show PR (i+1)=PS 3 by rw [hPS];exact HPN.out i Qp)
   obtain ⟨sd,uC⟩:=zEX (Nc rows[i]);have tq:=zH (show PS 0=PR i by rw [hPS];rfl)
   have HSN:=zH (show ∀ j,PS (j+1)=PS j++jA (sd j) from fun j=>by rw [hPS,uC];rfl)
   rw [<- uC] at Zy HTi JD;obtain ⟨A1,n1,c1,rfl⟩:=RSl.slc Yc;obtain ⟨A2,n2,c2,rfl⟩:=RSl.slc de;obtain ⟨A3,n3,c3,rfl⟩:=RSl.slc Nd;have ja:=(za wr.1.size wr).alloc zR (.cells #[ve A1 n1 c1,ve A2 n2 c2,ve A3 n3 c3] 211);have Wb:=zH ra;clear hc Yc de Nd hPS uC fj Qp ra;have Gb:=mf _ _ h0;go_wp2_with fail
   go_loopw [40,3] (fun y v wr=>∃ j:Nat,j <= 3 /\ y=vd vq j /\ wr.ownsRow w1.1.size 22 1 v (PS j).length (Ia (PS j)) /\ (PS j).length <= 4+700000*i+200001*j /\ vA w1.1.size w1 wr) (fun y _ _=>3-(intOf y).toNat)
   case atStart=>exact ⟨0,by omega,rfl,by rw [tq.out];exact Xb xa ja zR,by rw [tq.out];omega,hb.trans (ja.mono hb.size)⟩
   case round =>
    clear xa hb h0 h1 h2 ja Gb hle;obtain ⟨j,hj,rfl,xa,hle,hb⟩:=hrel;by_cases Sk:j<3
    ·have q3:(j:Int)<3:=by omega
     have q4:(0:Int)<=j:=by omega
     have Uk:=JD.out j Sk;have ix:=fun w=>kO (w:=w) (x:=ve A1 n1 c1) (y:=ve A2 n2 c2) (z:=ve A3 n3 c3) Sk
     obtain ⟨sel,If⟩:=zEX ((if j=0 then ve A1 n1 c1 else if j=1 then ve A2 n2 c2 else ve A3 n3 c3))
     rw [<- If] at Uk ix;have HTj:=zH (HTi.out j Sk);have hsj:=Zy.out j Sk;have HSNj:=zH (HSN.out j);obtain ⟨ts,ZE⟩:=zEX (sd j);rw [<- ZE] at Uk HTj hsj HSNj;clear If ZE;obtain ⟨As,ns,je,rfl⟩:=RSl.slc Uk;obtain ⟨A',n',c',he,zg,He,ah,Sq⟩:=Uk;simp at he
     obtain ⟨rfl,rfl,rfl⟩:=he;have gns:=Tl He ah;have hns:ns <= 100000:=by omega
     have y4:vn.wrap (ns:Int)=ns:=by rw [Ei];omega
     have ED:=zH zg;obtain ⟨PT,hPT⟩:=zEX (rA (PS j) ts);have HT0:=zH (show PS j++[ns]=PT 0 by rw [hPT,zED,ED.out])
     have HTN:=zH (show ∀ t,t<ns -> PT (t+1)=PT t++[(ts.getD t (0,0)).1.toNat,(ts.getD t (0,0)).2] from fun t h=>by rw [hPT];exact zEC _ _ (by rw [ED.out];exact h))
     have HTF:=zH (show PT ns=PS (j+1) by rw [hPT,HSNj.out,<- ED.out];exact zEB _ _)
     have HTL:=zH (show ∀ t,t <= ns -> (PT t).length=(PS j).length+1+2*t from fun t h=>by rw [hPT];exact zCw _ _ (by rw [ED.out];exact h))
     have ay:(PT 0).length=(PS j).length+1:=HTL.out 0 (Lb _);clear hPT zg He ah hsj;go_wp2_with (at_builtin;refine oh rfl _ _ rfl Hp rfl (xa.alloc _) rfl (Ku _ _ _) (Ck [ns]) (by omega) (by simp;have:=hb.size;omega) ?_)
     intro v' wn Kb Va Zb;have ja:=(za wr.1.size wr).alloc zR (.cells #[vd vn ns] 22);have hB:=Sl (xa.alloc _) Va (by simp;have:=hb.size;omega)
     replace hb:=(zx hb ja hb.size).trans hB;replace xa:wn.ownsRow w1.1.size 22 1 v' ((PS j).length+1) (Ia (PT 0)):=dA (b:=[ns]) Kb HT0.out;clear Kb Va Zb ja hB;rw [<- ay] at xa;have hle0:(PT 0).length <= 4+700000*i+200001*j+1:=by omega
     have Ry:=zH hle;have Qt:=zH ay;clear hle ay;go_wp2_with fail
     go_loopw [51,3] (fun y v wr=>∃ t:Nat,t <= ns /\ y=vd vq t /\ wr.ownsRow w1.1.size 22 1 v (PT t).length (Ia (PT t)) /\ vA w1.1.size w1 wr) (fun y _ _=>ns-(intOf y).toNat)
     case atStart=>exact ⟨0,Lb _,rfl,xa,hb⟩
     case round =>
      clear xa hb hle0;obtain ⟨t,ht,rfl,xa,hb⟩:=hrel;by_cases Qv:t<ns
      ·have q5:(t:Int)<ns:=by omega
       have q6:(0:Int)<=t:=by omega
       have jy:t<ts.length:=by rw [ED.out];exact Qv
       obtain ⟨b',q',rfl⟩:=Sq.base (by omega) (by omega)
       have fj:=ma da hb;obtain ⟨Es,rz⟩:=RLin.at_ (Sq.below lF fj) jy;have Io:=mf _ _ Es;simp only at Io;obtain ⟨Mi,Ni,zC⟩:=HTj.out _ (zCS (0,0) jy);have az:=zH (HTN.out t Qv);have hlen:(PT t).length <= 100000000000:=by
        rw [HTL.out t ht];have:=Ry.out;omega
       have hlen1:(PT (t+1)).length=(PT t).length+2:=by rw [az.out];simp
       revert Es rz Mi Ni zC az
       generalize ts.getD t (0,0)=tm;obtain ⟨v0,co⟩:=tm;intro Es rz Mi Ni zC az;simp only at Es rz Mi Ni zC;obtain ⟨v1,rfl⟩:=Kk Mi;have y5:vn.wrap (v1:Int)=v1:=by rw [Ei];omega
       have HTt2:=zH (show PT (t+1)=PT t++[v1,co] by rw [az.out];simp)
       have HTN1:=zH Qv;have UD:=(za wr.1.size wr).alloc zR (.cells #[vd vq v1,vd vn co] 208);have yy:=Xb xa UD zR;have hsz1:=hb.size;clear Mi Ni zC az fj jy Qv;have kt9:=Blk.new wr 208 #[vd vq v1,vd vn co];go_upto_region 14 with fail
       generalize wr.alloc _=w9 at UD yy kt9 |-;have c9:=kt9.cell;have l9:=kt9.lt;have Lq:=hb.trans (UD.mono hsz1);have al2:=(za w9.1.size w9).alloc zR (.cells #[vd vn v1,vd vn co] 22);have hsz9:=Lq.size;go_wp2_with (at_builtin;refine oh rfl _ _ rfl Hp rfl (yy.alloc _) rfl (zGm _ _ _ _) (Ck [v1,co]) (by omega) (by simp;omega) ?_)
       intro v' wn Kb Va Zb;have ji:=(Lq.trans (al2.mono hsz9)).trans (Sl (yy.alloc _) Va (by simp;omega))
       have hownn:wn.ownsRow w1.1.size 22 1 v' (PT (t+1)).length (Ia (PT (t+1))):=by
        rw [hlen1];exact dA (b:=[v1,co]) Kb HTt2.out.symm
       clear Kb Va Zb Lq al2 UD yy kt9 c9 l9;go_wp2
       go_roundw
       case rel=>exact ⟨t+1,HTN1.out,by go_num,hownn,ji⟩
       case measure=>have:=HTN1.out;simp [intOf];omega
      ·obtain rfl:ns=t:=by omega
       rw [HTF.out] at xa;have Rj:(PS (j+1)).length <= 4+700000*i+200001*(j+1):=by
        rw [<- HTF.out,HTL.out ns zR];have:=Ry.out;omega
       go_wp2
       go_roundw
       case rel=>exact ⟨j+1,Sk,by go_num,xa,Rj,hb⟩
       case measure=>simp [intOf];omega
    ·obtain rfl:j=3:=by omega
     rw [<- UI.out] at xa hle;have IS:(PR (i+1)).length <= 4+700000*(i+1):=jb hle (zAM i);go_wp2
     go_roundw
     case rel=>exact ⟨i+1,Wb.out,by go_num,xa,IS,hb⟩
     case measure=>have:=Wb.out;simp [intOf];omega
  ·obtain rfl:R=i:=by omega
   rw [HPF.out] at xa;obtain ⟨Av,cv,rfl,-⟩:=ud xa;have hw:=Om xa Xl.out;have HC:=zH (HH.out _ _ _ wr hw);have Fb:=ma da hb;clear hw xa hle;go_wp2_with fail
   refine HC.out.mono ?_;rintro e w5 ⟨rfl,Wa⟩;replace Fb:=ma Fb Wa;go_wp2;go_ret
   exact ⟨rfl,Fb⟩
theorem mL {n:Nat} (h:2 <= n):Fo n=2^((n-1).log2+1) /\ n <= Fo n /\ ∀ j,j<(n-1).log2+1 -> 2^j<n:=by
 have h0:n-1≠0:=by omega
 have h1:=Nat.log2_self_le h0;have h2:=@Nat.lt_log2_self (n-1);refine ⟨rfl,by unfold Fo;omega,fun j hj=>?_⟩
 have:=Zr (show 0<2 by decide) (show j <= (n-1).log2 by omega)
 omega
theorem NO {L:Ra} (h:Rb L) {n:Nat} (h2:2 <= n) (hn:n <= L.n):dk L.p (Fo n) /\ Fo n <= L.n:=by
 obtain ⟨e,-,hj⟩:=mL h2;obtain ⟨t,ht⟩:=h.n;have Wd:=h.n2;have hle:(n-1).log2+1 <= t:=by
  rcases Hg t ((n-1).log2+1) with q | q
  ·have:=hj t q;omega
  ·exact q
 have IS:Fo n <= L.n:=by rw [e,ht];exact Zr (by decide) hle
 refine ⟨⟨by rw [e];exact Nat.one_le_two_pow,by omega,⟨_,e⟩,?_⟩,IS⟩
 have hd:Fo n∣L.n:=by rw [e,ht];exact Nat.pow_dvd_pow 2 hle
 exact Nat.mod_eq_zero_of_dvd (Nat.dvd_trans hd (Nat.dvd_of_mod_eq_zero h.nd))
def oA (p K al:Nat) (F:Nat -> Nat) (R:Nat -> Nat -> Nat):Nat -> Nat -> Nat
 | 0=>F
 | i+1=>mn p (Eg p al (i+1)) (oA p K al F R i) (R i) K
def pA (p len:Nat) (F:Nat -> Nat) (D:Nat -> Nat -> Nat):Nat -> Nat -> Nat
 | 0=>F
 | i+1=>mn p 1 (pA p len F D i) (D i) len
def By (p K len be:Nat) (F:Nat -> Nat) (D Z:Nat -> Nat -> Nat):Nat -> Nat -> Nat
 | 0=>F
 | j+1=>mn p (Rf p (Eg p be (j+1))) (mn p (Eg p be (j+1)) (By p K len be F D Z j) (D j) len) (Z j) K
theorem ZM {p s t:Nat} (hp:0<p) {F G:Nat -> Nat} (h:∀ k,F k<p) (k:Nat):mn p s F G t k<p:=by
 unfold mn Ch;split
 ·exact ic _ hp
 ·exact h k
theorem mP {p K al:Nat} (hp:0<p) {F:Nat -> Nat} {R:Nat -> Nat -> Nat} (h:∀ k,F k<p):∀ i k,oA p K al F R i k<p
 | 0=>h
 | i+1=>ZM hp (mP hp h i)
theorem nP {p len:Nat} (hp:0<p) {F:Nat -> Nat} {D:Nat -> Nat -> Nat} (h:∀ k,F k<p):∀ i k,pA p len F D i k<p
 | 0=>h
 | i+1=>ZM hp (nP hp h i)
theorem aM {p K len be:Nat} (hp:0<p) {F:Nat -> Nat} {D Z:Nat -> Nat -> Nat} (h:∀ k,F k<p):∀ j k,By p K len be F D Z j k<p
 | 0=>h
 | j+1=>ZM hp (ZM hp (aM hp h j))
def Hw (g1 g2 g3:Nat) (w w':vw):Prop:=vA 0 w w' /\ ∀ b,b<w.1.size -> b≠g1 -> b≠g2 -> b≠g3 -> w'.1[b]?=w.1[b]?
theorem zA8 (g1 g2 g3:Nat) (w:vw):Hw g1 g2 g3 w w:=⟨za _ _,fun _ _ _ _ _=>rfl⟩
theorem Az {g1 g2 g3:Nat} {a b c:vw} (x:Hw g1 g2 g3 a b) (y:Hw g1 g2 g3 b c):Hw g1 g2 g3 a c :=
 ⟨x.1.trans y.1,fun k h h1 h2 h3=>(y.2 k (Sd h x.1.size) h1 h2 h3).trans (x.2 k h h1 h2 h3)⟩
theorem bH {g1 g2 g3:Nat} {a b:vw} (x:vA a.1.size a b):Hw g1 g2 g3 a b:=⟨x.mono (Lb _),fun k h _ _ _=>x.block k h⟩
theorem DB {g1 g2 g3:Nat} {a b:vw} {u:Nat} (x:a.grownBy b (vE u)) (hu:u=g1 \/ u=g2 \/ u=g3):Hw g1 g2 g3 a b :=
 ⟨qz x 0 (Lb _) (fun _ _=>Lb _),fun k h h1 h2 h3=>x.block k h (fun e=>by
  have e1:=db e;rcases hu with e2 | e2 | e2
  ·exact h1 (e1.trans e2)
  ·exact h2 (e1.trans e2)
  ·exact h3 (e1.trans e2))⟩
theorem jL {g1 g2 g3 b:Nat} {w w':vw} {t:vz} {cs:Array vx} (k:Blk w b t cs) (x:Hw g1 g2 g3 w w') (h1:b≠g1) (h2:b≠g2) (h3:b≠g3):Blk w' b t cs:=by
 have hl:=k.lt;unfold Blk at *;rw [x.2 b hl h1 h2 h3];exact k
theorem ex3_to {g1 g2 g3 B:Nat} {a b c:vw} (qH:vA B a b) (x:Hw g1 g2 g3 b c) (hB:B <= b.1.size) (h1:B <= g1) (h2:B <= g2) (h3:B <= g3):vA B a c :=
 qH.trans ⟨x.1.os,x.1.tape,x.1.output,x.1.size,fun k hk=>x.2 k (by omega) (by omega) (by omega) (by omega)⟩
theorem kJ {g1 g2 g3 g base n c:Nat} {w w':vw} {e:vz} {q:Nat} {xs:List vx} (h:w.ownsRow base e 1 (ve (vE ⟨g,q,vD⟩) n c) n xs) (x:Hw g1 g2 g3 w w') (h1:g≠g1) (h2:g≠g2) (h3:g≠g3):w'.ownsRow base e 1 (ve (vE ⟨g,q,vD⟩) n c) n xs:=by
 obtain ⟨k1,k2⟩:=h;refine ⟨k1,?_⟩;rcases k2 with k2 | ⟨g',cap,cur,hv,Il,hh,r⟩
 ·exact Or.inl k2
 ·have he:g=g':=by
   injection hv with e1
   injection e1 with e1
   injection e1
  subst he;exact Or.inr ⟨g,cap,cur,hv,Il,by rw [x.2 g (Pu.1 hh).1 h1 h2 h3];exact hh,r⟩
def GM (N:Nat) (w w':vw):Prop:=w.1.size <= w'.1.size /\ ∀ b,N <= b -> b<w.1.size -> w'.1[b]?=w.1[b]?
theorem WD {N:Nat} {a b:vw} (x:vA a.1.size a b):GM N a b:=⟨x.size,fun k _ h=>x.block k h⟩
theorem V9 {g1 g2 g3 N:Nat} {a b:vw} (x:Hw g1 g2 g3 a b) (h1:g1<N) (h2:g2<N) (h3:g3<N):GM N a b:=⟨x.1.size,fun k hk h=>x.2 k h (by omega) (by omega) (by omega)⟩
theorem cN {g N:Nat} {a b:vw} (x:a.grownBy b (vE g)) (h1:g<N):GM N a b:=⟨x.size,fun k hk h=>x.block k h (fun e=>by have:=db e;omega)⟩
def yK (N K:Nat) (w:vw) (CS:Array vx) (i:Nat) (F:Nat -> Nat -> Nat):Prop:=∀ k,k<i -> ∃ g,CS[k]?=vE (ve (vE ⟨g,0,vD⟩) K K) /\ N <= g /\ Blk w g 22 (Oa K (F k))
theorem Zu {N K:Nat} {w w':vw} {CS:Array vx} {i:Nat} {F:Nat -> Nat -> Nat} (h:yK N K w CS i F) (x:GM N w w'):yK N K w' CS i F:=fun k hk=>by
 obtain ⟨g,h1,h2,h3⟩:=h k hk;refine ⟨g,h1,h2,?_⟩;have hl:=h3.lt;unfold Blk at *;rw [x.2 g h2 hl];exact h3
theorem zAh {N K:Nat} {w:vw} {CS:Array vx} {i g:Nat} {F:Nat -> Nat -> Nat} (h:yK N K w CS i F) (hi:i<CS.size) (hg:N <= g) (k:Blk w g 22 (Oa K (F i))):yK N K w (CS.setIfInBounds i (ve (vE ⟨g,0,vD⟩) K K)) (i+1) F:=fun j hj=>by
 by_cases e:i=j
 ·subst e
  exact ⟨g,by simp [hi],hg,k⟩
 ·obtain ⟨u,h1,h2⟩:=h j (by omega)
  exact ⟨u,by rw [Array.getElem?_setIfInBounds_ne e];exact h1,h2⟩
theorem VK (w:vw) (t1 t2 t3 t4:vz) (je Ef Ij iE:Array vx) :
  Blk ((((w.alloc (.cells je t1)).alloc (.cells Ef t2)).alloc (.cells Ij t3)).alloc (.cells iE t4)) w.1.size t1 je /\ Blk ((((w.alloc (.cells je t1)).alloc (.cells Ef t2)).alloc (.cells Ij t3)).alloc (.cells iE t4)) (w.1.size+1) t2 Ef /\ Blk ((((w.alloc (.cells je t1)).alloc (.cells Ef t2)).alloc (.cells Ij t3)).alloc (.cells iE t4)) (w.1.size+1+1) t3 Ij /\ Blk ((((w.alloc (.cells je t1)).alloc (.cells Ef t2)).alloc (.cells Ij t3)).alloc (.cells iE t4)) (w.1.size+1+1+1) t4 iE /\
   vA w.1.size w ((((w.alloc (.cells je t1)).alloc (.cells Ef t2)).alloc (.cells Ij t3)).alloc (.cells iE t4)) /\ ((((w.alloc (.cells je t1)).alloc (.cells Ef t2)).alloc (.cells Ij t3)).alloc (.cells iE t4)).1.size=w.1.size+4:=by
 obtain ⟨h1,h2,h3,h4,h5⟩:=rn w t1 t2 t3 je Ef Ij;refine ⟨h1.alloc _,h2.alloc _,h3.alloc _,?_,h4.alloc (by omega) _,by simp⟩
 have:=Blk.new (((w.alloc (.cells je t1)).alloc (.cells Ef t2)).alloc (.cells Ij t3)) t4 iE;rw [h5] at this;exact this
theorem Y1 {w:vw} {base g n:Nat} {F:Nat -> Nat} (k:Blk w g 22 (Oa n F)) (hb:base <= g) (hn:n <= maxLen):w.ownsRow base 22 1 (ve (vE ⟨g,0,vD⟩) n n) n (Ia ((List.range n).map F)):=by
 have hl:(Ia ((List.range n).map F)).length=n:=by simp [Ia]
 refine ⟨by rw [hl];omega, .inr ⟨g,n,Oa n F,rfl,hb,k,zR,hn,by simp [Oa],?_⟩⟩
 rw [wv,List.take_of_length_le (by rw [hl];omega)]
theorem YK {L:Ra} {r:List (List Nat)} {co li qu sa:List Nat} (h:Gs L r co li qu sa=true) :
  r.length=L.a+L.b+L.b+L.b /\ (∀ x∈r,x.length=L.queries /\ ∀ y∈x,y<L.p) /\ (co.length=L.k /\ ∀ y∈co,y<L.p) /\ (li.length=L.k+L.block-2 /\ ∀ y∈li,y<L.p) /\ (qu.length=L.block+2*L.queries-1 /\ ∀ y∈qu,y<L.p):=by
 unfold Gs Jh at h;simp only [Cc,Xd,Bo] at h;exact ⟨h.1,h.2.1,h.2.2.1,h.2.2.2.1,h.2.2.2.2.1⟩
theorem AP (l:List Nat) (n:Nat) (h:l.length=n):(List.range n).map (fun k=>l.getD k 0)=l:=by
 subst h;refine tF (by simp) fun i hi=>?_
 simp at hi
 rw [Yk,Qa hi]
theorem zAL (p:Nat) (pub vars:Int) (rows:List Ya):Xf p pub vars rows<18446744073709551616:=by
 unfold Xf;split
 ·exact zq (xM _ _)
 ·decide
theorem XR {F:Nat -> Prop} {N g:Nat} (hg:F g):∀ (xs:List vx) (w:vw),zi F N w (Wn w g xs 0):=fun xs w=>go xs 0 w
where
 go:∀ (xs:List vx) (k:Nat) (w:vw),zi F N w (Wn w g xs k)
  | [],_,w=>(Jc F N).refl w
  | x :: r,k,w=>(Jc F N).trans _ _ _ (show zi F N w (w.setCell ⟨g,k,vD⟩ x) from cY hg x) (go r (k+1) _)
structure oB (O:Ga) (k:Nat):Prop where
 fair:IM O
 ans:Wl O
 le:Lc O k
 st:O.st<18446744073709551616
theorem zBV {O:Ga} (h:O.st<18446744073709551616) (lab:Nat) (el:List Nat):(Dc O lab el).st<18446744073709551616:=by
 unfold Dc;split
 ·split
  ·exact h
  ·split
   ·exact ic _ (by decide)
   ·exact h
 ·exact h
theorem zFc {O:Ga} {k:Nat} (h:oB O k) (lab:Nat) (el:List Nat):oB (Dc O lab el) (k+1):=⟨zBm h.fair lab el,TN h.ans lab el,Yp h.le lab el,zBV h.st lab el⟩
structure GQ (s:Tr) (k c:Nat):Prop where
 o:oB s.O k
 st:s.st<18446744073709551616
 ct:s.ct <= c
theorem zGa {s:Tr} {k c:Nat} (h:GQ s k c) (tag:Nat) (l:List Nat):GQ (Yg s tag l) (k+1) 0:=⟨zFc h.o _ _,zq (Iz h.o.ans _ _),zR⟩
def xx (L:Ra) (m r:List (List Nat)) (i:Nat):Nat -> Nat:=Fu L (m.getD i []) (r.getD i [])
def yq (L:Ra) (m r:List (List Nat)) (i:Nat):List Nat:=(List.range L.k).map (xx L m r i)
def tB (L:Ra) (cs m r:List (List Nat)) (i:Nat):Nat -> Nat :=
 iA L.p (Fo (L.k+L.block-1)) ((L.k+L.block-1-1).log2+1) ((List.range L.block).map (Im L.p L.block L.block.log2 (cs.getD i []))) (yq L m r i)
def yx (L:Ra) (m r:List (List Nat)) (j:Nat):Nat -> Nat :=
 iA L.p (Fo (2*L.k-1)) ((2*L.k-1-1).log2+1) (yq L m r (L.a+j)) (yq L m r (L.a+L.b+j))
def VD (L:Ra) (m r:List (List Nat)) (j:Nat):Nat -> Nat:=xx L m r (L.a+L.b+L.b+j)
def wtF (p:Nat) (cs:List (List Nat)) (i:Nat):List Nat:=(List.range (cs.getD i []).length).map (lO p (cs.getD i []) 1)
def dp (p:Nat) (cs:List (List Nat)):List (List Nat):=(List.range cs.length).map (wtF p cs)
theorem cX (L:Ra) (pu Ka:Nat) (rows:List Ya):(Xh L pu Ka rows).length=L.a+L.b+L.b+L.b:=by
 unfold Xh Gp;rw [ov,ov,ov,ov];simp [Pk,ef]
theorem mN {L:Ra} {pu Ka:Nat} {rows:List Ya}:∀ r∈Xh L pu Ka rows,r.length=L.block:=fun r h=>by
 unfold Xh at h;obtain ⟨i,k,-,-,rfl⟩:=pN h;simp [Bq]
def Jf (L:Ra) (m r:List (List Nat)):List (List Nat):=(List.range m.length).map (GU L m r)
def oz (L:Ra) (m r:List (List Nat)) (co:List Nat) (al:Nat):List Nat:=zy (xq L.p co (ju L.p (Jf L m r) al m.length)) L.k
def tx (L:Ra) (cs m r:List (List Nat)) (li:List Nat):List Nat:=zy (xq L.p (bg L li) (wt L.p (Jf L m r) (dp L.p cs) m.length)) (L.k+L.block-1)
def ux (L:Ra) (m r:List (List Nat)) (qu:List Nat) (be:Nat):List Nat:=zy (xq L.p (ow L qu) (Un L.p L.a L.b (Jf L m r) be L.b)) (2*L.k-1)
structure Zt (L:Ra) (m r:List (List Nat)):Prop where
 ml:m.length=L.a+L.b+L.b+L.b
 rl:r.length=m.length
 mr:∀ x∈m,x.length=L.block
 rr:∀ x∈r,x.length=L.queries
theorem nE {l:List (List Nat)} {P:List Nat -> Prop} (h:∀ x∈l,P x) {i:Nat} (hi:i<l.length):P (l.getD i []):=by
 rw [gS hi];exact h _ (wg hi)
theorem cD {L:Ra} (hL:Rb L) {m r:List (List Nat)} (h:Zt L m r) {i:Nat} (hi:i<m.length):(Jf L m r).getD i []=yq L m r i:=by
 have e:(Jf L m r).getD i []=GU L m r i:=by
  rw [Jf,Jb,Yt,dz hi]
  rfl
 have h1:=nE h.mr hi;have h2:=nE h.rr (show i<r.length by rw [h.rl];exact hi)
 rw [e,GU,zFm hL h1 h2,fA,h2,<- hL.k]
 rfl
theorem G6 (L:Ra) (m r:List (List Nat)):(Jf L m r).length=m.length:=by simp [Jf]
theorem FU {L:Ra} (hL:Rb L) {m r:List (List Nat)} (h:Zt L m r):∀ x∈Jf L m r,x.length=L.k:=fun x hx=>by
 obtain ⟨i,hi,rfl⟩:=uo hx;rw [G6] at hi;have e:=cD hL h hi;rw [gS (by rw [G6];exact hi)] at e
 rw [e];simp [yq]
theorem c7 (p a b c:Nat):((a+b)%p+c%p)%p=(a+(b+c%p)%p)%p:=by
 rw [Nat.mod_add_mod,Nat.add_mod_mod a,Nat.add_assoc]
theorem YM {p s t k:Nat} {F G:Nat -> Nat} (h:k<t):mn p s F G t k=(F k+s*G k%p)%p:=by
 unfold mn Ch;rw [Qa h]
theorem u9 {p s t k:Nat} {F G:Nat -> Nat} (h:¬k<t):mn p s F G t k=F k:=by
 unfold mn Ch;rw [La h]
theorem bX {L:Ra} (hL:Rb L) {m r:List (List Nat)} (h:Zt L m r) {co:List Nat} (hc:co.length=L.k) (ra:∀ y∈co,y<L.p) (al:Nat) :
  (List.range L.k).map (oA L.p L.k al (fun k=>co.getD k 0) (xx L m r) m.length)=oz L m r co al:=by
 have hp:=Nb hL.p;have hl:(oz L m r co al).length=L.k:=by
  rw [oz,WJ];have h1:=sx L.p co (ju L.p (Jf L m r) al m.length);have h2:=YW (p:=L.p) (al:=al) (fun x hx=>Nat.le_of_eq (FU hL h x hx)) m.length
  omega
 refine tF (by rw [hl];simp) fun k hk=>?_
 simp at hk
 rw [Yk,Qa hk,oz,VJ,du];have key:∀ i,i <= m.length -> oA L.p L.k al (fun k=>co.getD k 0) (xx L m r) i k=(co.getD k 0+(ju L.p (Jf L m r) al i).getD k 0)%L.p:=fun i=>by
  induction i with
  | zero =>
   intro _;rw [oA,ju];exact (Fj (by simpa using zv (by omega) ra k)).symm
  | succ i ih =>
   intro hi;rw [oA,YM hk,ih (by omega),ju,du,II,cD hL h (by omega),yq,Yk,Qa hk,Fe (Eg L.p al (i+1)),c7]
 exact key _ zR
theorem CV {L:Ra} (hL:Rb L) {cs:List (List Nat)} (Gf:∀ x∈cs,x.length=L.block) {i:Nat} (hi:i<cs.length):(dp L.p cs).getD i []=(List.range L.block).map (Im L.p L.block L.block.log2 (cs.getD i [])):=by
 obtain ⟨hlen,j,hj⟩:=oy hL;have yu:L.block.log2=j:=by rw [hj];exact Nat.log2_two_pow
 have h1:=nE Gf hi;have e:(dp L.p cs).getD i []=wtF L.p cs i:=by
  rw [dp,Jb,Yt,dz hi]
  rfl
 rw [e,wtF,h1];refine Uu fun k hk=>?_
 have PE:=Uh.1 hk;rw [JY (j:=j) _ hL.p (by rw [h1];exact hlen) (by rw [h1];exact hj) (by omega),h1,yu]
theorem RT {p:Nat} (hp:0<p) (a b:List Nat) (k:Nat):(Bk p a b).getD k 0<p:=zv hp (fun _ h=>zC4 hp h) k
theorem T9 {L:Ra} (hL:Rb L) {cs m r:List (List Nat)} (h:Zt L m r) (Gf:∀ x∈cs,x.length=L.block) (Mh:cs.length=m.length) {i k:Nat} (hi:i<m.length) (hk:k<L.k+L.block-1) :
  tB L cs m r i k=(Bk L.p ((dp L.p cs).getD i []) ((Jf L m r).getD i [])).getD k 0:=by
 have hp:=Nb hL.p;have Ca:=hL.b1;have Us:=hL.k;have og:=hL.nk;have pj:=hL.q1;have h2:2 <= L.k+L.block-1:=by omega
 obtain ⟨hM,-⟩:=NO hL h2 (by omega)
 obtain ⟨e,hle,-⟩:=mL h2;rw [CV hL Gf (by omega),cD hL h hi]
 unfold tB;refine Cg.eq (p:=L.p) (IZ hL.p hM e _ _ (by simp;omega) (by simp [yq];omega) k (by omega)) (JZ (by omega) _ _ _) (RT (by omega) _ _ _)
theorem oZ {L:Ra} (hL:Rb L) {cs m r:List (List Nat)} (h:Zt L m r) (Gf:∀ x∈cs,x.length=L.block) (Mh:cs.length=m.length) {li:List Nat} (hl:li.length=L.k+L.block-2) (ra:∀ y∈li,y<L.p) :
  (List.range (L.k+L.block-1)).map (pA L.p (L.k+L.block-1) (fun k=>(bg L li).getD k 0) (tB L cs m r) m.length)=tx L cs m r li:=by
 have hp:=Nb hL.p;have Ca:=hL.b1;have Us:=hL.k;have pj:=hL.q1;have ij:(bg L li).length=L.k+L.block-1:=by rw [bg,jf];omega
 have hmlt:∀ k,(bg L li).getD k 0<L.p:=fun k=>by
  cases k with
  | zero=>exact NL (by omega) _ _
  | succ k=>exact zv (by omega) ra k
 have jF:∀ x∈dp L.p cs,x.length <= L.block:=fun x hx=>by
  obtain ⟨i,hi,rfl⟩:=ld.1 hx;rw [wtF,fk,nm,nE Gf (Uh.1 hi)];exact zR
 have zg:(tx L cs m r li).length=L.k+L.block-1:=by
  rw [tx,WJ];have h1:=sx L.p (bg L li) (wt L.p (Jf L m r) (dp L.p cs) m.length);have h2:=iZ (p:=L.p) (fun x hx=>Nat.le_of_eq (FU hL h x hx)) jF m.length
  omega
 refine tF (by rw [zg];simp) fun k hk=>?_
 simp at hk
 rw [Yk,Qa (by omega),tx,VJ,du]
 have key:∀ i,i <= m.length -> pA L.p (L.k+L.block-1) (fun k=>(bg L li).getD k 0) (tB L cs m r) i k=((bg L li).getD k 0+(wt L.p (Jf L m r) (dp L.p cs) i).getD k 0)%L.p:=fun i=>by
  induction i with
  | zero =>
   intro _;rw [pA,wt];exact (Fj (by simpa using hmlt k)).symm
  | succ i ih =>
   intro hi;rw [pA,YM (by omega),ih (by omega),wt,du,T9 hL h Gf Mh (by omega) (by omega),Nat.one_mul,c7]
   rw [Fj (RT (p:=L.p) (by omega) _ _ _)]
 exact key _ zR
theorem U9 {L:Ra} (hL:Rb L) {m r:List (List Nat)} (h:Zt L m r) {j k:Nat} (hj:j<L.b) (hk:k<2*L.k-1) :
  yx L m r j k=(Bk L.p ((Jf L m r).getD (L.a+j) []) ((Jf L m r).getD (L.a+L.b+j) [])).getD k 0:=by
 have hp:=Nb hL.p;have Ca:=hL.b1;have Us:=hL.k;have og:=hL.nk;have pj:=hL.q1;have ij:=h.ml;have h2:2 <= 2*L.k-1:=by omega
 obtain ⟨hM,-⟩:=NO hL h2 (by omega)
 obtain ⟨e,hle,-⟩:=mL h2;rw [cD hL h (by omega),cD hL h (by omega)]
 unfold yx;refine Cg.eq (p:=L.p) (IZ hL.p hM e _ _ (by simp [yq];omega) (by simp [yq];omega) k (by omega)) (JZ (by omega) _ _ _) (RT (by omega) _ _ _)
theorem uB {p:Nat} (a b:Nat):Cg p ((a*b%p:Nat):Int) ((a:Int)*b):=(Cg.mod _).trans (Cg.of_eq (ig _ _))
theorem TG {p:Nat} (a b:Nat):Cg p (((a+b)%p:Nat):Int) ((a:Int)+b):=(Cg.mod _).trans (Cg.of_eq (Al _ _))
theorem gap_cg {p:Nat} (hp:1<p) (a b:List Nat) (k:Nat):Cg p ((MF p a b).getD k 0:Int) ((a.getD k 0:Int)-(b.getD k 0:Int)):=by
 rw [MF,du,II];refine (TG _ _).trans ?_;have h1:=(uB (p:=p) (b.getD k 0) (Rf p 1)).trans (Cg.rfl'.mul (UC p 1 (by omega)))
 refine (Cg.rfl'.add h1).trans (Cg.of_eq ?_);have:(((1:Nat):Int))=1:=rfl;rw [this,Int.mul_neg,Int.mul_one]
 rfl
theorem E5 {L:Ra} (hL:Rb L) {m r:List (List Nat)} (h:Zt L m r) {qu:List Nat} (hq:qu.length=L.block+2*L.queries-1) (be:Nat) :
  (List.range (2*L.k-1)).map (By L.p L.k (2*L.k-1) be (gg L.p L.block qu qu.length) (yx L m r) (VD L m r) L.b)=ux L m r qu be:=by
 have hp:=Nb hL.p;have Ca:=hL.b1;have Us:=hL.k;have pj:=hL.q1;have ij:=h.ml;have hql:(ow L qu).length=2*L.k-1:=by rw [vP hL hq,bD,fk,nm];omega
 have zg:(ux L m r qu be).length=2*L.k-1:=by
  rw [ux,WJ];have h1:=sx L.p (ow L qu) (Un L.p L.a L.b (Jf L m r) be L.b);have h2:=D5 (p:=L.p) (a:=L.a) (b:=L.b) (be:=be) (fun x hx=>Nat.le_of_eq (FU hL h x hx)) L.b
  omega
 refine tF (by rw [zg];simp) fun k hk=>?_
 simp at hk
 rw [Yk,Qa hk,ux,VJ,du];have key:∀ j,j <= L.b -> Cg L.p (By L.p L.k (2*L.k-1) be (gg L.p L.block qu qu.length) (yx L m r) (VD L m r) j k:Int) (((ow L qu).getD k 0:Int)+((Un L.p L.a L.b (Jf L m r) be j).getD k 0:Int)):=fun j=>by
  induction j with
  | zero =>
   intro _;rw [By,Un,vP hL hq,bD,Yk,Qa (by omega)]
   exact Cg.of_eq (by simp)
  | succ j ih =>
   intro hj;have ih:=ih (by omega)
   have hz:VD L m r j k=if k<L.k then ((Jf L m r).getD (L.a+L.b+L.b+j) []).getD k 0 else VD L m r j k:=by
    split
    ·rename_i hkL
     rw [cD hL h (by omega),yq,Yk,Qa hkL]
     rfl
    ·rfl
   obtain ⟨F,hF⟩:=zEX (By L.p L.k (2*L.k-1) be (gg L.p L.block qu qu.length) (yx L m r) (VD L m r) j);obtain ⟨P,hP⟩:=zEX (Eg L.p be (j+1));rw [<- hF] at ih;rw [By,Un,du,II,<- hF,<- hP,jH];have hG:=gap_cg (p:=L.p) (by omega) (Bk L.p ((Jf L m r).getD (L.a+j) []) ((Jf L m r).getD (L.a+L.b+j) [])) ((Jf L m r).getD (L.a+L.b+L.b+j) []) k
   rw [<- U9 hL h (by omega) hk] at hG
   generalize ((MF L.p (Bk L.p ((Jf L m r).getD (L.a+j) []) ((Jf L m r).getD (L.a+L.b+j) [])) ((Jf L m r).getD (L.a+L.b+L.b+j) [])).getD k 0)=G at hG |-;have hR:Cg L.p ((((ow L qu).getD k 0:Nat):Int)+((((Un L.p L.a L.b (Jf L m r) be j).getD k 0+G*P%L.p)%L.p:Nat):Int)) ((((ow L qu).getD k 0:Nat):Int)+(((Un L.p L.a L.b (Jf L m r) be j).getD k 0:Nat):Int)+(G:Int)*P):=by
    refine (Cg.rfl'.add ((TG _ _).trans (Cg.rfl'.add (uB _ _)))).trans (Cg.of_eq ?_);omega
   refine Cg.trans ?_ hR.symm;have h1:Cg L.p ((mn L.p P F (yx L m r j) (2*L.k-1) k:Nat):Int) ((F k:Int)+(P:Int)*(yx L m r j k:Int)):=by
    rw [YM hk];exact (TG _ _).trans (Cg.rfl'.add (uB _ _))
   by_cases hkL:k<L.k
   ·rw [Qa hkL] at hz
    rw [YM hkL];refine (TG _ _).trans ?_;refine (h1.add ((uB _ _).trans ((UC L.p P (by omega)).mul Cg.rfl'))).trans ?_
    rw [hz];refine ((ih.add Cg.rfl').add Cg.rfl').trans ?_;refine Cg.trans (Cg.of_eq ?_) (Cg.rfl'.add (hG.mul Cg.rfl').symm)
    grind
   ·rw [u9 hkL]
    refine h1.trans ?_;have sj:((Jf L m r).getD (L.a+L.b+L.b+j) []).getD k 0=0:=oJ (by rw [cD hL h (by omega)];simp [yq];omega)
    rw [sj] at hG;refine (ih.add Cg.rfl').trans ?_;refine Cg.trans (Cg.of_eq ?_) (Cg.rfl'.add (hG.mul Cg.rfl').symm)
    grind
 refine Cg.eq (p:=L.p) ((key _ zR).trans ?_) (aM (by omega) (fun k=>rD (by omega) _ _ _) _ _) (ic _ (by omega))
 exact (TG _ _).symm
theorem vW {L:Ra} (hL:Rb L) {cs m r:List (List Nat)} (h:Zt L m r) (Gf:∀ x∈cs,x.length=L.block) (Mh:cs.length=m.length) {co li qu:List Nat} (hc:co.length=L.k /\ ∀ y∈co,y<L.p) (hl:li.length=L.k+L.block-2 /\ ∀ y∈li,y<L.p) (hq:qu.length=L.block+2*L.queries-1) (al be:Nat) :
  yv L (oz L m r co al) (tx L cs m r li) (ux L m r qu be)=true:=by
 have hp:=Nb hL.p;rw [<- bX hL h hc.1 hc.2,<- oZ hL h Gf Mh hl.1 hl.2,<- E5 hL h hq];unfold yv;simp only [fk,nm,decide_true,Bool.true_and,Cc,Xd,Bo,ld,Uh];refine ⟨⟨?_,?_⟩,?_⟩
 ·rintro x ⟨k,-,rfl⟩
  exact mP (by omega) (fun k=>zv (by omega) hc.2 k) _ _
 ·rintro x ⟨k,-,rfl⟩
  refine nP (by omega) (fun k=>?_) _ _
  cases k with
  | zero=>exact NL (by omega) _ _
  | succ k=>exact zv (by omega) hl.2 k
 ·rintro x ⟨k,-,rfl⟩
  exact aM (by omega) (fun k=>rD (by omega) _ _ _) _ _
def Er (f:Nat -> Nat) (n:Nat):List (List Nat):=(List.range n).map fun k=>[f k]
def AA (p a b:Nat):Nat:=(a+Rf p b)%p
def uz (L:Ra) (cs:List (List Nat)) (al be:Nat) (a b c:List Nat) (x:Nat) (v:List Nat):List Nat :=
 [AA L.p (Xc L.p a x) (Xc L.p (ju L.p (Er (fun k=>v.getD k 0) v.length) al v.length) 0),
  AA L.p (Xc L.p b x) (Xc L.p (wt L.p (Er (fun k=>v.getD k 0) v.length) (Er (fun k=>Xc L.p ((dp L.p cs).getD k []) x) v.length) v.length) 0),
  AA L.p (Xc L.p c x) (Xc L.p (Un L.p L.a L.b (Er (fun k=>v.getD k 0) v.length) be L.b) 0)]
theorem gK {f:Nat -> Nat} {n k:Nat} (h:k<n):(Er f n).getD k []=[f k]:=by
 rw [Er,Jb,Yt,dz h]
 rfl
theorem iJ (v:Nat) (x:Int):Sc [v] x=(v:Int):=by
 show 0+(v:Int)*x^0=_
 rw [Int.pow_zero];omega
theorem JF {p:Nat} (hp:0<p) (a b:Nat):Cg p (AA p a b:Int) ((a:Int)-b) :=
 (TG _ _).trans ((Cg.rfl'.add (UC p b hp)).trans (Cg.of_eq (by omega)))
theorem zA7 {p:Nat} (hp:1<p) (a b:List Nat) (x:Int):Cg p (Sc (MF p a b) x) (Sc a x-Sc b x):=by
 unfold MF;refine (jE a _ x).trans ((Cg.rfl'.add ((CN b _ x).trans ((UC p 1 (by omega)).mul Cg.rfl'))).trans (Cg.of_eq ?_))
 rw [show (((1:Nat):Int))=1 from rfl,Int.neg_mul,bn]
 omega
theorem jR {p:Nat} (rows:List (List Nat)) (al:Nat) (x:Int):∀ i,Cg p (Sc (ju p rows al i) x) (Na (fun j=>(Eg p al (j+1):Int)*Sc (rows.getD j []) x) i)
 | 0=>Cg.rfl'
 | i+1=>by
  rw [ju,Na];exact (jE _ _ x).trans ((jR rows al x i).add (CN _ _ x))
theorem CT {p:Nat} (rows ws:List (List Nat)) (x:Int):∀ i,Cg p (Sc (wt p rows ws i) x) (Na (fun j=>Sc (ws.getD j []) x*Sc (rows.getD j []) x) i)
 | 0=>Cg.rfl'
 | i+1=>by
  rw [wt,Na];exact (jE _ _ x).trans ((CT rows ws x i).add (DR _ _ x))
theorem tU {p:Nat} (hp:1<p) (a b:Nat) (rows:List (List Nat)) (be:Nat) (x:Int):∀ i,Cg p (Sc (Un p a b rows be i) x) (Na (fun j=>(Eg p be (j+1):Int)*(Sc (rows.getD (a+j) []) x*Sc (rows.getD (a+b+j) []) x-Sc (rows.getD (a+b+b+j) []) x)) i)
 | 0=>Cg.rfl'
 | i+1=>by
  rw [Un,Na];refine (jE _ _ x).trans ((tU hp a b rows be x i).add ((CN _ _ x).trans (Cg.rfl'.mul ?_)));unfold jH;refine (zA7 hp _ _ x).trans ?_;obtain ⟨c,hc⟩:=DR (p:=p) (rows.getD (a+i) []) (rows.getD (a+b+i) []) x;exact ⟨c,by rw [<- hc];omega⟩
theorem aX {p:Nat} (f:Nat -> Nat) (al n:Nat):Cg p (Xc p (ju p (Er f n) al n) 0:Int) (Na (fun j=>(Eg p al (j+1):Int)*(f j:Int)) n):=by
 refine (Dq _).trans ((jR _ _ _ _).trans (ui _ fun j hj=>?_))
 rw [gK hj,iJ];exact Cg.rfl'
theorem nZ {p:Nat} (f g:Nat -> Nat) (n:Nat):Cg p (Xc p (wt p (Er f n) (Er g n) n) 0:Int) (Na (fun j=>(g j:Int)*(f j:Int)) n):=by
 refine (Dq _).trans ((CT _ _ _ _).trans (ui _ fun j hj=>?_))
 rw [gK hj,gK hj,iJ,iJ];exact Cg.rfl'
theorem xP {p:Nat} (hp:1<p) {a b n:Nat} (hn:a+b+b+b=n) (f:Nat -> Nat) (be:Nat):Cg p (Xc p (Un p a b (Er f n) be b) 0:Int) (Na (fun j=>(Eg p be (j+1):Int)*((f (a+j):Int)*(f (a+b+j):Int)-(f (a+b+b+j):Int))) b):=by
 refine (Dq _).trans ((tU hp _ _ _ _ _ _).trans (ui _ fun j hj=>?_))
 rw [gK (by omega),gK (by omega),gK (by omega),iJ,iJ,iJ]
 exact Cg.rfl'
def dE (p al:Nat) (f:Nat -> Nat) (e:Nat):Nat -> Nat
 | 0=>e
 | j+1=>AA p (dE p al f e j) (Eg p al (j+1)*f j%p)
def eE (p:Nat) (d f:Nat -> Nat) (e:Nat):Nat -> Nat
 | 0=>e
 | j+1=>AA p (eE p d f e j) (d j*f j%p)
def jv (p a b be:Nat) (f:Nat -> Nat) (e:Nat):Nat -> Nat
 | 0=>e
 | j+1=>AA p (jv p a b be f e j) (Eg p be (j+1)*AA p (f (a+j)*f (a+b+j)%p) (f (a+b+b+j))%p)
theorem LF {p:Nat} (hp:0<p) (a b:Nat):AA p a b<p:=ic _ hp
theorem ZU {p:Nat} {a b t u:Int} {x y:Int} (h:Cg p a (b-t)) (h2:Cg p x (a-y)) (h3:Cg p y u):Cg p x (b-(t+u)):=by
 obtain ⟨c,hc⟩:=h;obtain ⟨d,hd⟩:=h2;obtain ⟨e,he⟩:=h3;exact ⟨c+d-e,by rw [Int.mul_sub,Int.mul_add,<- hc,<- hd,<- he];omega⟩
theorem UW {p:Nat} (hp:0<p) (al:Nat) (f:Nat -> Nat) (e:Nat):∀ j,Cg p (dE p al f e j:Int) ((e:Int)-Na (fun j=>(Eg p al (j+1):Int)*(f j:Int)) j)
 | 0=>Cg.of_eq (by rw [dE,Na];omega)
 | j+1=>by
  rw [dE,Na];exact ZU (UW hp al f e j) (JF hp _ _) (uB _ _)
theorem VW {p:Nat} (hp:0<p) (d f:Nat -> Nat) (e:Nat):∀ j,Cg p (eE p d f e j:Int) ((e:Int)-Na (fun j=>(d j:Int)*(f j:Int)) j)
 | 0=>Cg.of_eq (by rw [eE,Na];omega)
 | j+1=>by
  rw [eE,Na];exact ZU (VW hp d f e j) (JF hp _ _) (uB _ _)
theorem WW {p:Nat} (hp:0<p) (a b be:Nat) (f:Nat -> Nat) (e:Nat):∀ j,Cg p (jv p a b be f e j:Int) ((e:Int)-Na (fun j=>(Eg p be (j+1):Int)*((f (a+j):Int)*(f (a+b+j):Int)-(f (a+b+b+j):Int))) j)
 | 0=>Cg.of_eq (by rw [jv,Na];omega)
 | j+1=>by
  rw [jv,Na];refine ZU (WW hp a b be f e j) (JF hp _ _) ((uB _ _).trans (Cg.rfl'.mul ((JF hp _ _).trans ?_)));obtain ⟨c,hc⟩:=uB (p:=p) (f (a+j)) (f (a+b+j));exact ⟨c,by rw [<- hc];omega⟩
def PI (L:Ra) (x:Nat):List Nat:=(List.range L.block).map (Im L.p L.block L.block.log2 ((List.range L.block).map fun i=>x^i%L.p))
theorem oR {p:Nat} (a b:List Nat):∀ k,Cg p (nu p a b k:Int) (Na (fun m=>(a.getD m 0:Int)*(b.getD m 0:Int)) k)
 | 0=>Cg.rfl'
 | k+1=>by
  rw [nu,Na];refine (TG _ _).trans ((oR a b k).add ((uB _ _).trans ((Cg.mod _).mul (Cg.mod _))))
theorem zAV {L:Ra} (hL:Rb L) {cs:List (List Nat)} (Gf:∀ x∈cs,x.length=L.block) {j:Nat} (hj:j<cs.length) (x:Nat):Cg L.p (nu L.p (cs.getD j []) (PI L x) L.block:Int) (Xc L.p ((dp L.p cs).getD j []) x:Int):=by
 obtain ⟨hlen,t,ht⟩:=oy hL;have yu:L.block=2^L.block.log2:=by rw [ht,Nat.log2_two_pow]
 refine (oR _ _ _).trans ?_;refine Cg.trans ?_ (Dq _).symm;rw [CV hL Gf hj,<- aH _ _ (n:=L.block) (by simp),uv]
 obtain ⟨v,hv⟩:∃ v:Int,v=((ye L.p L.block^(L.p-2)%L.p:Nat):Int):=⟨_,rfl⟩;obtain ⟨s,hs⟩:∃ s:Int,s=((L.block^(L.p-2)%L.p:Nat):Int):=⟨_,rfl⟩;obtain ⟨c,hc⟩:∃ c:Nat -> Int,c=fun m=>(((cs.getD j []).getD m 0:Nat):Int):=⟨_,rfl⟩
 have hA:Cg L.p (Na (fun m=>((cs.getD j []).getD m 0:Int)*((PI L x).getD m 0:Int)) L.block) (Na (fun m=>Na (fun k=>c m*(s*((x:Int)^k*(v^m)^k))) L.block) L.block):=by
  refine ui _ fun m hm=>?_
  rw [PI,Yk,Qa hm];refine (Cg.rfl'.mul (mO _ hL.p hlen yu hm)).trans ?_;rw [<- hv,<- hs,uv,Ey,Ey];refine ui _ fun k hk=>?_
  rw [Yk,Qa hk,hc];refine Cg.rfl'.mul (Cg.rfl'.mul (Cg.mul ?_ Cg.rfl'));exact (Cg.mod _).trans (Cg.of_eq (xp _ _))
 have hB:Cg L.p (Na (fun k=>Fs ((List.range L.block).map (Im L.p L.block L.block.log2 (cs.getD j []))) k*(x:Int)^k) L.block) (Na (fun k=>Na (fun m=>c m*(s*((x:Int)^k*(v^m)^k))) L.block) L.block):=by
  refine ui _ fun k hk=>?_
  rw [Fs,Yk,Qa hk];refine ((mO _ hL.p hlen yu hk).mul Cg.rfl').trans ?_;rw [<- hv,<- hs,uv,Ey,Yj,Ey];refine ui _ fun m _=>Cg.of_eq ?_
  rw [hc,<- ph,<- ph,Fe m k]
  grind
 refine hA.trans (Cg.trans (Cg.of_eq ?_) hB.symm);exact CA (fun m k=>c m*(s*((x:Int)^k*(v^m)^k))) L.block L.block
theorem zAC {L:Ra} (hL:Rb L) {cs:List (List Nat)} (Gf:∀ x∈cs,x.length=L.block) (al be:Nat) (a b c:List Nat) (x:Nat) {v:List Nat} (hv:v.length=L.a+L.b+L.b+L.b) (Mh:cs.length=v.length) :
  [dE L.p al (fun k=>v.getD k 0) (Xc L.p a x) v.length,eE L.p (fun j=>nu L.p (cs.getD j []) (PI L x) L.block) (fun k=>v.getD k 0) (Xc L.p b x) v.length,jv L.p L.a L.b be (fun k=>v.getD k 0) (Xc L.p c x) L.b]=uz L cs al be a b c x v:=by
 have hp:=Nb hL.p;have l0:∀ e,e<L.p -> ∀ j,dE L.p al (fun k=>v.getD k 0) e j<L.p:=fun e he j=>by
  cases j with
  | zero=>exact he
  | succ j=>exact LF (by omega) _ _
 have l1:∀ d e,e<L.p -> ∀ j,eE L.p d (fun k=>v.getD k 0) e j<L.p:=fun d e he j=>by
  cases j with
  | zero=>exact he
  | succ j=>exact LF (by omega) _ _
 have l2:∀ e,e<L.p -> ∀ j,jv L.p L.a L.b be (fun k=>v.getD k 0) e j<L.p:=fun e he j=>by
  cases j with
  | zero=>exact he
  | succ j=>exact LF (by omega) _ _
 unfold uz
 congr 1
 ·refine Cg.eq (p:=L.p) ((UW (by omega) _ _ _ _).trans (Cg.trans ?_ (JF (by omega) _ _).symm)) (l0 _ (ou (by omega) _ _) _) (LF (by omega) _ _)
  obtain ⟨d,hd⟩:=aX (p:=L.p) (fun k=>v.getD k 0) al v.length
  exact ⟨d,by rw [<- hd];omega⟩
 congr 1
 ·refine Cg.eq (p:=L.p) ((VW (by omega) _ _ _ _).trans (Cg.trans ?_ (JF (by omega) _ _).symm)) (l1 _ _ (ou (by omega) _ _) _) (LF (by omega) _ _)
  have h1:Cg L.p (Xc L.p (wt L.p (Er (fun k=>v.getD k 0) v.length) (Er (fun k=>Xc L.p ((dp L.p cs).getD k []) x) v.length) v.length) 0:Int) (Na (fun j=>((Xc L.p ((dp L.p cs).getD j []) x:Nat):Int)*((v.getD j 0:Nat):Int)) v.length):=nZ (p:=L.p) (fun k=>v.getD k 0) (fun k=>Xc L.p ((dp L.p cs).getD k []) x) v.length
  have h2:Cg L.p (Na (fun j=>((nu L.p (cs.getD j []) (PI L x) L.block:Nat):Int)*((v.getD j 0:Nat):Int)) v.length) (Na (fun j=>((Xc L.p ((dp L.p cs).getD j []) x:Nat):Int)*((v.getD j 0:Nat):Int)) v.length) :=
   ui _ fun j hj=>(zAV hL Gf (by omega) x).mul Cg.rfl'
  obtain ⟨d,hd⟩:=h1;obtain ⟨e,he⟩:=h2;exact ⟨d-e,by rw [Int.mul_sub,<- hd,<- he];omega⟩
 congr 1
 ·refine Cg.eq (p:=L.p) ((WW (by omega) _ _ _ _ _ _).trans (Cg.trans ?_ (JF (by omega) _ _).symm)) (l2 _ (ou (by omega) _ _) _) (LF (by omega) _ _)
  obtain ⟨d,hd⟩:=xP (p:=L.p) (by omega) hv.symm (fun k=>v.getD k 0) be
  exact ⟨d,by rw [<- hd];omega⟩
theorem C3 {w:vw} {g:Nat} {O:Ga} {F:Nat -> Prop} (h:OrcAt w g O F) (L:Ra) (hL:Rb L) (p:Nat) (pub vars:Int) (T B:Option vy) (R cT m d:Nat) (rows:List Ya) (l:List Nat) (hr:RSl 3 oe w [ve T R cT] rows) (hD:cG p pub vars rows) (ib:Zc p pub vars rows=true)
  (hl:RWd w [ve B m d] l) (hO:Lc O 1000000) (hm:l.length <= 90000) :
  vB prog 61 #[.pointer (vE ⟨g,0,vD⟩),vf (Db L),sc p pub vars (ve T R cT),ve B m d] w fun e w' =>
   e=vl (vf #[vd vn ((qe O L (Xf p pub vars rows) l).st:Int),vd vn 0]) /\ ∃ F',OrcAt w' g (qe O L (Xf p pub vars rows) l).O F' /\ Moved F F' w w':=by
 obtain ⟨kl,kt,kr,da,tb⟩:=rn w 101 25 129 (Db L) #[vd vn p,vd vq pub,vd vq vars,ve T R cT] #[vd vn 0,vd vn 0];have HDg:=zH (fun w1 (hb:vA w.1.size w w1)=>zDQ p pub vars T R cT rows w1 (Dg Bg _ _ _ _ hb hr) hD ib)
 obtain ⟨ij,Mv,hmx2,Li,Vz⟩:=Qb hl;obtain ⟨dg,Lz⟩:=zEX (Xf p pub vars rows);have hdl:dg<18446744073709551616:=by rw [Lz];exact zAL _ _ _ _
 rw [<- Lz] at HDg |-;have b1:=hL.b2;have b2:=hL.n2;have b3:=hL.q2;have z1:vn.wrap (L.block:Int)=L.block:=by rw [Ei];omega
 have z2:vn.wrap (L.n:Int)=L.n:=by rw [Ei];omega
 have z3:vn.wrap (L.queries:Int)=L.queries:=by rw [Ei];omega
 have Xl:=zH (show ∀ x∈dg :: L.block :: L.n :: L.queries :: l,x<18446744073709551616 from Zi hdl (Zi (by omega) (Zi (by omega) (Zi (by omega) Li))))
 have Fg:=zH (show (dg :: L.block :: L.n :: L.queries :: l).length <= 100000 by simp;omega)
 have Yw:=zH Vz;have Nr:=zH h;have HO:=zH hO;obtain ⟨S',tE⟩:∃ S',S'=qe O L dg l:=⟨_,rfl⟩;have Vg:=zH (show Pd O 18 (20 :: 1 :: dg :: L.block :: L.n :: L.queries :: l)=S'.st by rw [tE];rfl)
 have Xm:=zH (show Dc O 18 (20 :: 1 :: dg :: L.block :: L.n :: L.queries :: l)=S'.O by rw [tE];rfl)
 rw [<- tE];have hm':m <= 90000:=by omega
 have nF:∀ b,w.1.size <= b -> ¬F b:=fun b hb e=>by have:=h.lt b e;omega
 have lr0:w.1.size+2<w.1.size+3:=Nat.lt_succ_self _;clear hl hO hm ij Mv hmx2 Li Vz tE Lz hdl hr hD ib b1 b2 b3 h tb;unfold Db sc at *;go_enter func61,ntmps61
 go_upto_region 1 with fail
 generalize ((w.alloc _).alloc _).alloc _=w1 at kl kt kr da |-;obtain ⟨NQ,Zh⟩:=zEX (w1.1.size);have cl:=kl.cell;have ct:=kt.cell;have ll:=kl.lt;have lt:=kt.lt;have KR:=zH kr;have HB:=zH da;clear kl kt kr da Zh;refine Cd (Tb) [1,11] [0,2,3,4,5,6,7,8,9,10,1,11,12] (by kernel_rfl) (by kernel_rfl) ?_
 refine De (pa) ?_;intro Wc Ha ea;have Sg:=zH (show vA w.1.size w Wc by rw [Ha.out];exact HB.out.drew)
 have Fi:=zH (show Blk Wc _ _ _ by rw [Ha.out];exact KR.out.drew)
 clear Ha HB KR;refine Ob ?_;refine Gc (pa) rfl rfl rfl (fun _=>by go_simp <;> rfl) ((HDg.out Wc Sg.out).mono ?_)
 rintro e wD ⟨rfl,ta⟩;refine ⟨_,rfl,ta,?_⟩;replace ea:=(pa).trans _ _ _ ea (ta);refine zPU ?_;replace Sg:=zH (ma Sg.out ta);replace Fi:=zH (Fi.out.below ta Fi.out.lt);have hWD:=Fi.out.lt;clear ta;refine Ob ?_;refine Ye (pa) rfl rfl rfl ?_;go_simp;have ja:=(za wD.1.size wD).alloc zR (.cells #[vd vn dg,vd vn L.block,vd vn L.n,vd vn L.queries] 22);have xa:=J2 wD dg L.block L.n L.queries 22;refine ⟨ja,?_⟩;replace ea:=pa.trans _ _ _ ea ja;replace Sg:=zH (ma Sg.out ja);replace Fi:=zH (Fi.out.below ja Fi.out.lt)
 refine zPU ?_
 have Rx:=ja.size;generalize wD.alloc _=wP at ja xa Sg Fi ea Rx |-;have hgA:=Sg.out.size;refine Ob ?_;refine Qc ?_;clear ea cl ct ja;generalize wD.1.size=gA at xa Rx hWD |-;go_wp2_with fail
 refine (zF1 20 wP).mono ?_;rintro e w3 ⟨rfl,Ua⟩;replace Sg:=zH (ma Sg.out Ua);replace Fi:=zH (Fi.out.below Ua Fi.out.lt);replace xa:=Xb xa Ua zR;have hbase3:=jb Rx Ua.size;have Ma:=Yw.out.below Sg.out;clear Ua Rx hgA;go_wp2_with (at_builtin;refine oh rfl _ _ rfl Hp rfl xa rfl Ma (Ck _) (by omega) (by omega) ?_)
 intro v' w4 QS Va Zb;have zb:=Sl xa Va (by omega)
 have Du:=Fi.out.below zb hWD;have HB4:=zH (Sg.out.trans (zb.mono (by omega)))
 have hkr:=iI (l:=dg :: L.block :: L.n :: L.queries :: l) (dA (c:=dg :: L.block :: L.n :: L.queries :: l) QS rfl) Xl.out;have Ni:∃ A' c',v'=ve A' (4+m) c':=by obtain ⟨A',c',e,-⟩:=ud QS;exact ⟨A',c',e⟩
 obtain ⟨Av,cv,rfl⟩:=Ni;have My:=zH (dV (Nr.out.below HB4.out) 20 0 1 Av (4+m) cv (dg :: L.block :: L.n :: L.queries :: l) hkr Fg.out (by decide) (by decide) HO.out)
 have KR4:=zH Du;have zh:=nF (w.1.size+2) (Nat.le_add_right _ _);clear zb hkr QS xa Ma Va Zb Sg Fi Du hbase3;go_wp2_with fail
 refine My.out.mono ?_;rintro _ w5 ⟨rfl,F',h5,m5⟩;rw [Xm.out] at h5;simp only [Vg.out];have k5:=KR4.out.moved m5 zh;have n5:=fe m5 KR4.out.lt zh;have hs5:=vM (x:=vd vn S'.st) (y:=vd vn 0) (gr:=w.1.size+2) ((zd (F:=F) HB4.out).trans m5) (Nat.le_add_right _ _) h5 n5 k5;have hc5:=k5.cell;have hf5:=k5.frozen;clear h5 m5 k5;go_wp2_with fail
 obtain ⟨s1,s2,s3⟩:=hs5;generalize (w5.setCell _ _).setCell _ _=w6 at s1 s2 s3 |-;have c6:=s3.cell;clear hc5 hf5;exact ed (by simp [results,results61,go_sem,c6]) rfl ⟨rfl,F',s1,s2⟩
theorem zCb:(prog.info? 238).map (fun i=>(i.zero,i.size,i.bytes))=vE (vE (.pointer vD),1,8):=by kernel_rfl
theorem zB4 {w:vw} {g i:Nat} (h:i<3):(Instr.index 239 (vf #[.pointer (vE ⟨g,0,vD⟩), .pointer (vE ⟨g,1,vD⟩), .pointer (vE ⟨g,2,vD⟩)]) (vd vq i)).run prog w= .ok (.pointer (vE ⟨g,i,vD⟩)) w:=by
 obtain ⟨i0,hi,-,hs,-⟩:=info_parts zCb;rcases (show i=0 \/ i=1 \/ i=2 by omega) with rfl | rfl | rfl <;> simp [Instr.index,run_underlying underlying239,asIntOf,part,Result.andThen,isAgg,run_underlying underlying238,sizeOf,typeInfo,hi,hs]
def tz (s:Tr):Nat -> Tr
 | 0=>s
 | k+1=>Ic (tz s k)
theorem eR (s:Tr):∀ k,(tz s k).st=s.st
 | 0=>rfl
 | k+1=>eR s k
theorem dR (s:Tr):∀ k,(tz s k).ct=s.ct+k
 | 0=>rfl
 | k+1=>by show (tz s k).ct+1=_;rw [dR s k];omega
theorem G3 {w:vw} {g:Nat} {O:Ga} {F:Nat -> Prop} (h:OrcAt w g O F) (st ct:Nat) (Gd:st<18446744073709551616) (L:Ra) (hp:0<L.p) (uc:L.p<18446744073709551616) (root:Nat) (hr:root<18446744073709551616) (hO:Lc O 900000) :
  vB prog 64 #[.pointer (vE ⟨g,0,vD⟩),vf #[vd vn st,vd vn ct],vf (Db L),vd vn root] w fun e w' =>
   e=vl (.tuple #[vf #[vd vn ((Si ⟨O,st,ct⟩ L.p root).al:Int),vd vn ((Si ⟨O,st,ct⟩ L.p root).rh:Int),vd vn ((Si ⟨O,st,ct⟩ L.p root).be:Int)],vf #[vd vn ((te ⟨O,st,ct⟩ root).st:Int),vd vn 3]]) /\
   ∃ F',OrcAt w' g (te ⟨O,st,ct⟩ root).O F' /\ Moved F F' w w':=by
 obtain ⟨ks,kl,kc,kr,da,tb⟩:=VK w 129 101 136 129 #[vd vn st,vd vn ct] (Db L) #[vd vn 0,vd vn 0,vd vn 0] #[vd vn 0,vd vn 0];have Cv:=h.ok.ans;have Xl:=zH (show ∀ x∈[root],x<18446744073709551616 from Zi hr (fun _ h=>nomatch h))
 obtain ⟨nh,gO⟩:=zEX (Pd O 18 [st,2,root]);have Vg:=zH gO;have Jl:=zH (show nh<18446744073709551616 by rw [gO];exact zq (Iz Cv 18 _))
 obtain ⟨a,ha⟩:=zEX (Yg ⟨O,st,ct⟩ 2 [root]);have Gz:a.st=nh:=by rw [ha,gO];rfl
 have ha2:a.ct=0:=by rw [ha];rfl
 obtain ⟨OO,hOO⟩:∃ OO:Nat -> Ga,OO=fun k=>(tz a k).O:=⟨_,rfl⟩
 obtain ⟨V,hV⟩:∃ V:Nat -> Nat,V=fun k=>Ep (tz a k)%L.p:=⟨_,rfl⟩
 have HO0:=zH (show Dc O 18 [st,2,root]=OO 0 by rw [hOO,ha];rfl)
 have HON:=zH (show ∀ k,Dc (OO k) 19 [nh,k]=OO (k+1) from fun k=>by rw [hOO,<- Gz,<- eR a k];show _=Dc _ 19 [(tz a k).st,(tz a k).ct];rw [dR,ha2,Mk])
 have Wr:=zH (show ∀ k,Pd (OO k) 19 [nh,k]%L.p=V k from fun k=>by rw [hV,hOO,<- Gz,<- eR a k];show _=Pd _ 19 [(tz a k).st,(tz a k).ct]%L.p;rw [dR,ha2,Mk])
 have Ry:=zH (show ∀ k,Lc (OO k) (900001+k) from fun k=>by
  induction k with
  | zero=>rw [<- HO0.out];exact Yp hO 18 _
  | succ k ih=>rw [<- HON.out k];exact Yp ih 19 _)
 have Nt:=zH (show Si ⟨O,st,ct⟩ L.p root=⟨V 0,V 1,V 2⟩ by unfold Si;rw [<- ha,hV];rfl)
 have Qy:=zH (show (te ⟨O,st,ct⟩ root).st=nh /\ (te ⟨O,st,ct⟩ root).O=OO 3 by unfold te;rw [<- ha,hOO,<- Gz];exact ⟨rfl,rfl⟩)
 rw [Nt.out,Qy.out.1,Qy.out.2];have Nr:=zH h;have HO:=zH hO;have Wg:=zH Gd;have HP:=zH (And.intro hp uc);have nF:∀ b,w.1.size <= b -> ¬F b:=fun b hb e=>by have:=h.lt b e;omega
 clear gO ha Gz ha2 hOO hV h hO Gd hr hp uc Cv;unfold Db at *;go_enter func64,ntmps64
 go_upto_region 2 with fail
 generalize (((w.alloc _).alloc _).alloc _).alloc _=w1 at ks kl kc kr da tb |-;have kx:=Blk.new w1 136 #[vd vn 0,vd vn 0,vd vn 0];have Hz:=(za w1.1.size w1).alloc zR (.cells #[vd vn 0,vd vn 0,vd vn 0] 136);replace ks:=ia ks Hz;replace kl:=ia kl Hz;replace kc:=ia kc Hz;replace kr:=ia kr Hz;replace da:=ma da Hz;have Em:w1.1.size=w.1.size+4:=tb;generalize w1.alloc _=w2 at ks kl kc kr kx da |-;rw [Em] at kx;obtain ⟨gx,yS⟩:=zEX (w.1.size+4);rw [<- yS] at kx |-;have Ej:=zH yS;have lx2:=kx.lt;clear Hz Em tb yS;have ja:=(za w2.1.size w2).alloc zR (.cells #[vd vn root] 22);have kp:=Blk.new w2 22 #[vd vn root];have My:=zH (dV (Nr.out.below (ma da ja)) st ct 2 (vE ⟨w2.1.size,0,vD⟩) 1 1 [root] (DJ (l:=[root]) kp rfl Xl.out (by simp [maxLen])) (by simp) Wg.out (by decide) (Ue HO.out (by decide)))
 have HB3:=zH (ma da ja);have cs:=ks.cell;have lss:=ks.lt;have KS:=zH (ia ks ja);have KL:=zH (ia kl ja);have KC:=zH (ia kc ja);have KR:=zH (ia kr ja);have KX:=zH (ia kx ja);clear kp ja ks kl kc kr kx da lx2;go_wp2_with fail
 refine My.out.mono ?_;rintro _ w3 ⟨rfl,F1,h3,m3⟩;simp only [<- Vg.out];rw [HO0.out] at h3;have ks:=KS.out.moved m3 (nF _ zR);have kl:=KL.out.moved m3 (nF _ (Nat.le_add_right _ _));have kc:=KC.out.moved m3 (nF _ (by omega))
 have kr:=KR.out.moved m3 (nF _ (by omega))
 have kx:=KX.out.moved m3 (nF _ (by rw [Ej.out];exact Nat.le_add_right _ _))
 have mm:=(zd (F:=F) HB3.out).trans m3;have yt:∀ b,w.1.size <= b -> b<w.1.size+5 -> ¬F1 b:=fun b h1 h2=>fe m3 (Sd h2 (by have:=KX.out.lt;rw [Ej.out] at this;exact this)) (nF b h1)
 have ngx:w.1.size+3<gx:=by rw [Ej.out];exact Nat.lt_succ_self _
 have n0:=yt _ zR (by omega)
 have HO4:=zH ((h3.set n0 (vd vn nh) (i:=0)).set n0 (vd vn 0) (i:=1));have HM4:=zH (tg (tg mm zR 0 (vd vn nh)) zR 1 (vd vn 0));have NF1:=zH yt;have cl:=kl.cell;clear h3 mm m3 n0 yt My HB3 KS KL KC KR KX cs lss cl;have cs_:=ks.cell;have fs_:=ks.frozen;have ksS:=FF [vd vn nh,vd vn 0] ks rfl;have klS:=(fD (g:=w.1.size) (by omega) [vd vn nh,vd vn 0] 0 w3).trans kl
 have kcS:=(fD (g:=w.1.size) (by omega) [vd vn nh,vd vn 0] 0 w3).trans kc
 have krS:=(fD (g:=w.1.size) (by omega) [vd vn nh,vd vn 0] 0 w3).trans kr
 have kxS:=(fD (g:=w.1.size) (by omega) [vd vn nh,vd vn 0] 0 w3).trans kx
 have hsS:w3.1.size <= (Wn w3 (w.1.size) [vd vn nh,vd vn 0] 0).1.size:=by simp [Wn,vF]
 simp only [Wn,Mk] at ksS klS kcS krS kxS hsS
 try simp only [Nat.reduceAdd] at ksS klS kcS krS kxS hsS
 have xQ:=zH ksS;have vQ:=zH klS;have uQ:=zH kcS;have wQ:=zH krS;have yQ:=zH kxS;have PV:=zH hsS;clear ksS klS kcS krS kxS ks kl kc kr kx hsS;go_wp2_with fail
 generalize vF (vF (w3) _ _) _ _=w4 at xQ vQ uQ wQ yQ PV HO4 HM4 |-;clear cs_ fs_;have ks:Blk w4 _ _ _:=xQ.out;have kl:Blk w4 _ _ _:=vQ.out;have kc:Blk w4 _ _ _:=uQ.out;have kr:Blk w4 _ _ _:=wQ.out;have kx:Blk w4 _ _ _:=yQ.out;clear xQ vQ uQ wQ yQ;clear PV;go_loopw [23] (fun y wr=>∃ (i:Nat) (F2:Nat -> Prop),i <= 3 /\ y=vd vq i /\ OrcAt wr g (OO i) F2 /\ Moved F F2 w wr /\ Blk wr w.1.size 129 #[vd vn nh,vd vn i] /\ Blk wr (w.1.size+1) 101 #[vd vn L.p,vd vq L.block,vd vq L.queries,vd vq L.k,vd vq L.n,vd vq L.secret,vd vq L.rows,vd vq L.a,vd vq L.b,vd vq L.b,vd vq L.b] /\ Blk wr (w.1.size+2) 136 #[vd vn 0,vd vn 0,vd vn 0] /\ Blk wr (w.1.size+3) 129 #[vd vn 0,vd vn 0] /\ Blk wr gx 136 (Oa 3 fun k=>if k<i then V k else 0) /\ (∀ b,w.1.size <= b -> b<w.1.size+5 -> ¬F2 b)) (fun y _=>3-(intOf y).toNat)
 case atStart=>exact ⟨0,F1,by decide,rfl,HO4.out,HM4.out,ks,kl,kc,kr,kx,NF1.out⟩
 case round =>
  clear ks kl kc kr kx HO4 HM4;obtain ⟨i,F2,hi,rfl,h4,m4,ks,kl,kc,kr,kx,zh⟩:=hrel;by_cases ra:i<3
  ·have q1:(0:Int)<=i:=by omega
   have q2:(i:Int)<3:=by omega
   have ix:=fun w=>zB4 (w:=w) (g:=gx) ra
   have Wb:=zH ra;obtain ⟨hp,uc⟩:=HP.out;have HC:=zH (D7 h4 nh i L.p hp uc Jl.out (by omega) (Ue (Ry.out i) (by omega)))
   obtain ⟨i1,Np⟩:=zEX (i+1);rw [<- Np] at HC;have Ru:=zH Np;have cs:=ks.cell;have cl:=kl.cell;have H4:=zH h4;clear Np;clear ra hp uc h4;go_wp2_with fail
   refine HC.out.mono ?_;rintro _ w5 ⟨rfl,F3,h5,m5⟩;rw [HON.out i,<- Ru.out] at h5;simp only [Wr.out i];have k5s:=ks.moved m5 (zh _ zR (by omega))
   have k5l:=kl.moved m5 (zh _ (by omega) (by omega))
   have k5c:=kc.moved m5 (zh _ (by omega) (by omega))
   have k5r:=kr.moved m5 (zh _ (by omega) (by omega))
   have k5x:=kx.moved m5 (zh _ (by omega) (by rw [Ej.out];omega))
   have PC:∀ b,w.1.size <= b -> b<w.1.size+5 -> ¬F3 b:=fun b h1 h2=>fe m5 (Sd h2 (by have:=kx.lt;rw [Ej.out] at this;exact this)) (zh b h1 h2)
   have n30:=PC _ zR (by omega)
   have n3x:=PC gx (by omega) (by rw [Ej.out];omega)
   have mm:=m4.trans m5;have H6:=zH (((h5.set n3x (vd vn (V i:Int)) (i:=i)).set n30 (vd vn nh) (i:=0)).set n30 (vd vn i1) (i:=1));have M6:=zH (tg (tg (tg mm (show w.1.size <= gx by omega) i (vd vn (V i:Int))) zR 0 (vd vn nh)) zR 1 (vd vn i1))
   have kx6:=((k5x.set_ i (vd vn (V i:Int))).far (p:=⟨w.1.size,0,vD⟩) (show gx≠w.1.size by omega) (vd vn nh)).far (p:=⟨w.1.size,1,vD⟩) (show gx≠w.1.size by omega) (vd vn i1)
   rw [Hq,iK,<- Ru.out] at kx6;have KX6:=zH kx6;have KS6:=zH (aE (k5s.far (p:=⟨gx,i,vD⟩) (show w.1.size≠gx by omega) (vd vn (V i:Int))) 0 1 (vd vn nh) (vd vn i1))
   have KL6:=zH (((k5l.far (p:=⟨gx,i,vD⟩) (show w.1.size+1≠gx by omega) (vd vn (V i:Int))).far (p:=⟨w.1.size,0,vD⟩) (show w.1.size+1≠w.1.size by omega) (vd vn nh)).far (p:=⟨w.1.size,1,vD⟩) (show w.1.size+1≠w.1.size by omega) (vd vn i1))
   have KC6:=zH (((k5c.far (p:=⟨gx,i,vD⟩) (show w.1.size+2≠gx by omega) (vd vn (V i:Int))).far (p:=⟨w.1.size,0,vD⟩) (show w.1.size+2≠w.1.size by omega) (vd vn nh)).far (p:=⟨w.1.size,1,vD⟩) (show w.1.size+2≠w.1.size by omega) (vd vn i1))
   have KR6:=zH (((k5r.far (p:=⟨gx,i,vD⟩) (show w.1.size+3≠gx by omega) (vd vn (V i:Int))).far (p:=⟨w.1.size,0,vD⟩) (show w.1.size+3≠w.1.size by omega) (vd vn nh)).far (p:=⟨w.1.size,1,vD⟩) (show w.1.size+3≠w.1.size by omega) (vd vn i1))
   have NF3:=zH PC;have ah:=k5x.cell i;rw [Ff _ Wb.out] at ah;have tc:=k5x.frozen;have Gf:=k5s.cell;have hfs:=k5s.frozen;have nex:w.1.size≠gx:=by omega
   clear h5 m5 mm m4 kx6 k5s k5l k5c k5r k5x PC n30 n3x zh ks kl kc kr kx cs cl HC H4;go_wp2;generalize ((w5.setCell ⟨gx,i,vD⟩ _).setCell _ _).setCell _ _=w6 at H6 M6 KX6 KS6 KL6 KC6 KR6 |-;have ks7:Blk w6 w.1.size 129 #[vd vn nh,vd vn i1]:=by simpa using KS6.out
   clear ah tc Gf hfs
   go_roundw
   case rel=>exact ⟨i1,F3,by rw [Ru.out];exact Wb.out,by rw [Ru.out];go_num,H6.out,M6.out,ks7,KL6.out,KC6.out,KR6.out,KX6.out,NF3.out⟩
   case measure=>have:=Wb.out;simp [intOf];omega
  ·obtain rfl:i=3:=by omega
   have qt:Blk wr gx 136 #[vd vn (V 0:Int),vd vn (V 1:Int),vd vn (V 2:Int)]:=kx;have Qi:Blk wr w.1.size 129 #[vd vn nh,vd vn 3]:=ks;obtain ⟨NQ,Zh⟩:=zEX (wr.1.size);have lx:gx<NQ:=by rw [Zh];exact qt.lt
   have l1:w.1.size<NQ:=by rw [Zh];exact Qi.lt
   obtain ⟨Vr,hVr⟩:∃ Vr:Nat -> Prop,Vr=fun b=>b=w.1.size+2 \/ b=w.1.size+3:=⟨_,rfl⟩
   have v1:¬Vr w.1.size:=by rw [hVr];omega
   have v2:¬Vr gx:=by rw [hVr];omega
   have Ym:=zH (show Vr (w.1.size+2) by rw [hVr];exact .inl rfl)
   have HV3:=zH (show Vr (w.1.size+3) by rw [hVr];exact .inr rfl)
   have cs:=Qi.cell;have cx:=qt.cell;have KC:=zH kc;have KR:=zH kr;have H5:=zH h4;have M5:=zH m4;have n2:=zh (w.1.size+2) (by omega) (by omega)
   have n3:=zh (w.1.size+3) (by omega) (by omega)
   have Ci:=zH Zh;clear ks Qi kl kc kr kx qt hVr h4 m4 Zh zh hi;go_upto_region 8 with fail
   refine tK (Vr) (FG) (NQ) [2,3] [0,1] [] [2,3] (by kernel_rfl) (iB _) (by kernel_rfl) ?_
   refine wK ?_;intro Wc Ha ea;have mc:Hid (Tm Vr NQ FG Wc):=zH (by rw [Ha.out,Ci.out];exact ⟨zR,fun _ h=>h.elim,fun _ _ h=>h.elim⟩)
   have KC2:=zH (show Blk Wc _ _ _ by rw [Ha.out];exact KC.out.drew)
   have Fi:=zH (show Blk Wc _ _ _ by rw [Ha.out];exact KR.out.drew)
   have H6:=zH (show OrcAt Wc _ _ _ by rw [Ha.out];exact H5.out.drew)
   have M6:=zH (show Moved F F2 w Wc by rw [Ha.out];exact Zv M5.out)
   clear Ha KC KR H5 M5;refine Gw ?_;refine vK [] rfl mc (fun Cz wE Te Jo=>?_)
   clear Jo;unfold Ah
   try simp only [List.foldl]
   replace KC2:=zH (KC2.out.below Te KC2.out.lt);replace Fi:=zH (Fi.out.below Te Fi.out.lt);replace H6:=zH (H6.out.below Te);replace M6:=zH (M6.out.trans (zd Te));replace ea:=(Jc Vr NQ).trans _ _ _ ea (Mj Te mc.out.size);replace mc:=zH (ru mc.out Te)
   refine zPU ?_
   clear Te;have cc:=KC2.out.cell;have fc:=KC2.out.frozen;refine Ir ?_;refine Ye (Jc Vr NQ) rfl rfl rfl ?_;go_simp;refine ⟨XR Ym.out [vd vn (V 0:Int),vd vn (V 1:Int),vd vn (V 2:Int)] _,?_⟩
   refine zPU ?_
   have kc3:=FF [vd vn (V 0:Int),vd vn (V 1:Int),vd vn (V 2:Int)] KC2.out rfl;have Ol:=(fD (g:=w.1.size+2) (b:=w.1.size+3) (by omega) [vd vn (V 0:Int),vd vn (V 1:Int),vd vn (V 2:Int)] 0 wE).trans Fi.out
   simp only [Wn,Mk,Nat.reduceAdd] at kc3 Ol;have h7:=zH (((H6.out.set n2 (vd vn (V 0:Int)) (i:=0)).set n2 (vd vn (V 1:Int)) (i:=1)).set n2 (vd vn (V 2:Int)) (i:=2));have m7:=zH (tg (tg (tg M6.out (show w.1.size <= w.1.size+2 by omega) 0 (vd vn (V 0:Int))) (show w.1.size <= w.1.size+2 by omega) 1 (vd vn (V 1:Int))) (show w.1.size <= w.1.size+2 by omega) 2 (vd vn (V 2:Int)))
   generalize vF (vF (vF wE _ _) _ _) _ _=wG at kc3 Ol h7 m7 |-;have Du:Blk wG _ _ _:=Ol;have cr:=Du.cell;have fr:=Du.frozen;have KC3:=zH kc3;clear kc3 Ol cc fc ea mc H6 M6;have ea:=(Jc Vr NQ).refl wG;refine Ir ?_;refine Ye (Jc Vr NQ) rfl rfl rfl ?_;go_simp;refine ⟨XR HV3.out [vd vn nh,vd vn 3] _,?_⟩
   refine zPU ?_
   refine Qc ?_;have kf:=aE Du 0 1 (vd vn nh) (vd vn 3);have kcf:=(KC3.out.far (p:=⟨w.1.size+3,0,vD⟩) (show w.1.size+2≠w.1.size+3 by omega) (vd vn nh)).far (p:=⟨w.1.size+3,1,vD⟩) (show w.1.size+2≠w.1.size+3 by omega) (vd vn 3)
   have h8:=(h7.out.set n3 (vd vn nh) (i:=0)).set n3 (vd vn 3) (i:=1);have m8:=tg (tg m7.out (show w.1.size <= w.1.size+3 by omega) 0 (vd vn nh)) (show w.1.size <= w.1.size+3 by omega) 1 (vd vn 3)
   generalize vF (vF wG _ _) _ _=wf at kf kcf h8 m8 |-;have cf:=kf.cell;have ccf:=kcf.cell;clear cr fr ea;go_wp2;exact ed (by simp [results,results64,go_sem,cf,ccf]) rfl ⟨rfl,F2,h8,m8⟩
end Go.Proofs.YteoghgbnielkpaaGreat
