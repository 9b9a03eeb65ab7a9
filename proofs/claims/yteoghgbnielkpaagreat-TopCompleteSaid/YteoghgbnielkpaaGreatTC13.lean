/- A part of the proof. No condition. -/
import Derived.Test.YteoghgbnielkpaaGreatTC7
import Derived.Test.YteoghgbnielkpaaGreatTC9
import Derived.Test.YteoghgbnielkpaaGreatTC11
import Derived.Test.YteoghgbnielkpaaGreatTC12

set_option maxRecDepth 100000
set_option maxHeartbeats 8000000
set_option linter.unusedVariables false
set_option linter.unusedSimpArgs false
namespace Go.Proofs.YteoghgbnielkpaaGreat
open Go.RowKit
open Tryz
open Go renaming World->vw, Value->vx, Addr->vy, TypeId->vz, Calls->vB
open Go.Value renaming int->vd, slice->ve
open Go.IntKind renaming u64->vn, i64->vq
open Go.Ending renaming returned->vl
open Go.RowKit renaming Below->vA
open Option renaming none->vD, some->vE
def kL (O:Ha):Prop:=O.ideal=false -> ∀ q∈O.qs,q.ans=rn q.lab q.el
theorem zC0 {qs:List Qn} {lab:Nat} {el:List Nat} {a:Nat} (h:Ve qs lab el=vE a):∃ q∈qs,q.lab=lab /\ q.el=el /\ q.ans=a:=by
 unfold Ve at h;rw [Option.map_eq_some_iff] at h;obtain ⟨q,hq,rfl⟩:=h;have h1:=List.find?_some hq;simp only [Ft,mc,qi] at h1;exact ⟨q,List.mem_of_find?_eq_some hq,h1.1,h1.2,rfl⟩
theorem nZ {O:Ha} (h:kL O) (lab:Nat) (el:List Nat):kL (Pc O lab el):=by
 intro hi;rw [BT] at hi;unfold Pc;split
 ·split
  ·exact h hi
  ·rw [ya (by rw [hi];exact Qy),jE]
   intro q hq;rcases Np.1 hq with hq | hq
   ·exact h hi q hq
   ·rw [Fo] at hq
    subst hq
    rfl
 ·exact h hi
theorem QZ {O:Ha} (h:kL O) (hi:O.ideal=false) (lab:Nat) (el:List Nat):me O lab el=if Xc el then rn lab el else 0:=by
 unfold me;split
 ·split
  ·rename_i a ha
   obtain ⟨q,hq,h1,h2,h3⟩:=zC0 ha;rw [<- h3,h hi q hq,h1,h2]
  ·rw [ya (by rw [hi];exact Qy)]
 ·rfl
structure Tr where
 O:Ha
 st:Nat
 ct:Nat
def Kg (s:Tr) (tag:Nat) (l:List Nat):Tr:=⟨Pc s.O 18 (s.st :: tag :: l),me s.O 18 (s.st :: tag :: l),0⟩
def Mo (s:Tr):Nat:=me s.O 19 [s.st,s.ct]
def uc (s:Tr):Tr:=⟨Pc s.O 19 [s.st,s.ct],s.st,s.ct+1⟩
def Jd (O:Ha) (L:Ma) (dg:Nat) (pub:List Nat):Tr:=Kg ⟨O,20,0⟩ 1 (dg :: L.block :: L.n :: L.queries :: pub)
structure ChR where
 al:Nat
 rh:Nat
 be:Nat
def fj (s:Tr) (p root:Nat):ChR:=⟨Mo (Kg s 2 [root])%p,Mo (uc (Kg s 2 [root]))%p,Mo (uc (uc (Kg s 2 [root])))%p⟩
def Td (s:Tr) (root:Nat):Tr:=uc (uc (uc (Kg s 2 [root])))
def Cl (s:Tr) (all:List Nat) (n q:Nat):List Nat:=Br (Kg s 3 all).O (Kg s 3 all).st 0 n q
def Hi (s:Tr) (all:List Nat) (q:Nat):Ha:=Vb (Kg s 3 all).O 19 (qj (Kg s 3 all).st 0 q)
def ao (w:vw) (g:Nat):List vx -> Nat -> vw
 | [],_=>w
 | x :: r,k=>ao (w.setCell ⟨g,k,vD⟩ x) g r (k+1)
theorem O9 {g:Nat} {t:vz}:∀ (xs:List vx) (k:Nat) (w:vw) (cs:List vx),Blk w g t cs.toArray -> k+xs.length=cs.length -> Blk (ao w g xs k) g t (cs.take k++xs).toArray
 | [],k,w,cs,h,hk=>by
  rw [List.append_nil,WG (by simp at hk;omega)]
  exact h
 | x :: r,k,w,cs,h,hk=>by
  simp only [xg] at hk;have h1:=h.set_ k x;rw [Da] at h1;have:=O9 r (k+1) (w.setCell ⟨g,k,vD⟩ x) (cs.set k x) h1 (by rw [List.length_set];omega)
  have e:(cs.set k x).take (k+1)=cs.take k++[x]:=by
   rw [Su (by rw [List.length_set];omega),List.getElem_set_self,List.take_set_of_le zR]
  rw [e,zx] at this;exact this
theorem dG {g:Nat} {t:vz} {w:vw} {cs:Array vx} (xs:List vx) (h:Blk w g t cs) (hk:xs.length=cs.size):Blk (ao w g xs 0) g t xs.toArray:=by
 have:=O9 xs 0 w cs.toList (by simpa using h) (by simpa using hk)
 simpa using this
theorem mW {g N:Nat} (hg:N <= g):∀ (xs:List vx) (k:Nat) (w:vw),vA N w (ao w g xs k)
 | [],_,w=>Ca _ w
 | x :: r,k,w=>((Ca N w).setCell (p:=⟨g,k,vD⟩) hg x).trans (mW hg r (k+1) _)
theorem pD {g b:Nat} (hb:b≠g):∀ (xs:List vx) (k:Nat) (w:vw),(ao w g xs k).1[b]?=w.1[b]?
 | [],_,_=>rfl
 | x :: r,k,w=>(pD hb r (k+1) _).trans (ug w ⟨g,k,vD⟩ x b hb)
theorem Fs {x:Nat} (h:x<zb):x<18446744073709551616:=by unfold zb at h;omega
structure yG (p:Nat) (pub vars:Int) (rows:List Ua):Prop where
 pl:p<18446744073709551616
 pubI:0 <= pub /\ pub<9223372036854775808
 varI:0 <= vars /\ vars<9223372036854775808
 n:rows.length <= 16384
 sides:∀ r∈rows,∀ k,k<3 -> (Gc r k).length <= 100000
 terms:∀ r∈rows,∀ k,k<3 -> ∀ t∈Gc r k,0 <= t.1 /\ t.1<9223372036854775808 /\ t.2<18446744073709551616
 len:(nu p pub vars rows).length <= 1000000
theorem zCd {p:Nat} {pub vars:Int} {rows:List Ua} (h:yG p pub vars rows):∀ x∈nu p pub vars rows,x<18446744073709551616:=fun x hx=>by
 have h1:=h.pl;have h2:=h.pubI;have h3:=h.varI;have h4:=h.n;unfold nu at hx;rcases Np.1 hx with hx | hx
 ·simp only [Dh,List.not_mem_nil,or_false] at hx
  omega
 ·obtain ⟨r,hr,hx⟩:=List.mem_flatMap.1 hx
  have key:∀ k,k<3 -> x∈rA (Gc r k) -> x<18446744073709551616:=fun k hk hx=>by
   unfold rA ZI at hx;rcases Dh.1 hx with rfl | hx
   ·have:=h.sides r hr k hk
    omega
   ·obtain ⟨t,ht,hx⟩:=List.mem_flatMap.1 hx
    have:=h.terms r hr k hk t ht;simp only [Dh,List.not_mem_nil,or_false] at hx;omega
  unfold yK at hx;rcases Np.1 hx with hx | hx
  ·rcases Np.1 hx with hx | hx
   ·exact key 0 (by decide) hx
   ·exact key 1 (by decide) hx
  ·exact key 2 (by decide) hx
theorem zCf (i:Nat):4+700000*i+200001*3 <= 4+700000*(i+1):=by omega
theorem zEs {α:Type} {l:List α} {i:Nat} (d:α) (h:i<l.length):l.getD i d∈l:=by
 rw [Cb,Xb h];exact zf h
theorem zH0 (w:vw) (x y:Nat) (t:vz):Rd (w.alloc (.cells #[vd vn x,vd vn y] t)) 1 (vE ⟨w.1.size,0,vD⟩) 2 (Oa [x,y]) :=
 Rd.of_own (e:=t) (base:=w.1.size) (c:=2) ⟨rfl, .inr ⟨w.1.size,2,_,rfl,zR,heap_alloc_new w _,zR,by simp [maxLen],rfl,rfl⟩⟩
theorem X6 (w:vw) (x y z u:Nat) (t:vz):(w.alloc (.cells #[vd vn x,vd vn y,vd vn z,vd vn u] t)).ownsRow w.1.size t 1 (ve (vE ⟨w.1.size,0,vD⟩) 4 4) 4 (Oa [x,y,z,u]) :=
 ⟨rfl, .inr ⟨w.1.size,4,_,rfl,zR,heap_alloc_new w _,zR,by simp [maxLen],rfl,rfl⟩⟩
theorem zFu (p:Nat) (pub vars:Int) (A:Option vy) (R c:Nat) (rows:List Ua) (w:vw) (hr:RSl 3 Ud w [ve A R c] rows) (hD:yG p pub vars rows) (Xa:Nc p pub vars rows=true) :
  vB prog 132 #[Tb p pub vars (ve A R c)] w fun e w'=>e=vl (vd vn (Cf p pub vars rows:Int)) /\ vA w.1.size w w':=by
 have HV:=zH (fun w1 (hb:vA w.1.size w w1)=>by have:=NM p pub vars A R c rows w1 (Dg Bg _ _ _ _ hb hr);rw [Xa] at this;exact this)
 have HH:=zH (fun A1 n1 c1 w1 (h1:RWd w1 [ve A1 n1 c1] (nu p pub vars rows))=>gV 21 A1 n1 c1 (nu p pub vars rows) w1 h1 (by simp [nu]) hD.len)
 have Rm:Cf p pub vars rows=rn 21 (nu p pub vars rows):=by unfold Cf;rw [Na Xa]
 rw [Rm];obtain ⟨A',n',c',he,Ng,Ld,Ef,Ra⟩:=hr;simp at he
 obtain ⟨rfl,rfl,rfl⟩:=he;obtain ⟨pb,rfl⟩:=Zk hD.pubI.1;obtain ⟨vr,rfl⟩:=Zk hD.varI.1;have Wd:=hD.pubI.2;have ah:=hD.varI.2;have hRn:R <= 16384:=by rw [<- Ng];exact hD.n
 have hDp:=hD.pl;have y1:vn.wrap (pb:Int)=pb:=by rw [pj];omega
 have y2:vn.wrap (vr:Int)=vr:=by rw [pj];omega
 have y3:vn.wrap (R:Int)=R:=by rw [pj];omega
 have kt:=Blk.new w 25 #[vd vn p,vd vq pb,vd vq vr,ve A R c];have da:vA w.1.size w (w.alloc (.cells #[vd vn p,vd vq pb,vd vq vr,ve A R c] 25)):=(Ca _ _).alloc zR _;have HR:=zH Ng;have HS:=zH hD.sides;have HT:=zH hD.terms;have zm:Hid (∀ x∈nu p pb vr rows,x<18446744073709551616):=zH (zCd hD);clear Rm Ng Ld Ef Xa Wd ah hD hDp;unfold Tb at *;go_enter func132,ntmps132
 go_wp2_with fail
 generalize w.alloc _=w0 at kt da |-;refine (HV.out w0 da).mono ?_;rintro e w1 ⟨rfl,Ia⟩;replace kt:=ja kt Ia;replace da:=pa da Ia;clear Ia HV;have ct:=kt.cell;have lt:=kt.lt;have jk:=X6 w1 p pb vr R 22;have Lz:=(Ca w1.1.size w1).alloc zR (.cells #[vd vn p,vd vn pb,vd vn vr,vd vn R] 22);obtain ⟨PR,hPR⟩:=zEX (iJ p pb vr rows);have nx:=zH (show PR 0=[p,pb,vr,R] by rw [hPR,<- HR.out];simp [iJ])
 have HPN:=zH (show ∀ i (h:i<rows.length),PR (i+1)=TM (PR i) rows[i] 3 from fun i h=>by rw [hPR];exact zGj p pb vr rows h)
 have HPF:=zH (show PR R=nu p pb vr rows by rw [hPR,<- HR.out];exact zGi p pb vr rows)
 clear hPR;go_upto_region 5 with fail
 generalize w1.alloc _=w2 at jk Lz |-;clear ct lt kt;go_loopw [29,3] (fun y v wr=>∃ i:Nat,i <= R /\ y=vd vq i /\ wr.ownsRow w1.1.size 22 1 v (PR i).length (Oa (PR i)) /\ (PR i).length <= 4+700000*i /\ vA w1.1.size w1 wr) (fun y _ _=>R-(intOf y).toNat)
 case atStart=>exact ⟨0,Mb _,rfl,by rw [nx.out];exact jk,by rw [nx.out];simp,Lz⟩
 case round =>
  clear jk Lz;obtain ⟨i,hi,rfl,Aa,hle,hb⟩:=hrel;by_cases ta:i<R
  ·have q1:(i:Int)<R:=by omega
   have q2:(0:Int)<=i:=by omega
   have cq:i<rows.length:=by rw [HR.out];exact ta
   obtain ⟨b,q,rfl⟩:=Ra.base (by omega) (by omega)
   obtain ⟨cs,-,hc,x,y,z,rfl,Zc,Ge,kd⟩:=Ra.get cq;have mh:=pa da hb;have Jb:=Jf _ _ ((hc 0 (by omega)).trans (show [x,y,z][0]?=vE x from rfl))
   have h0:=(mh.cell (p:=⟨b,q+i*3+0,vD⟩) Jb).trans (hc 0 (by omega))
   have h1:=(mh.cell (p:=⟨b,q+i*3+1,vD⟩) Jb).trans (hc 1 (by omega))
   have h2:=(mh.cell (p:=⟨b,q+i*3+2,vD⟩) Jb).trans (hc 2 (by omega))
   rw [ss] at h0;simp only [List.getElem?_cons_zero,List.getElem?_cons_succ] at h0 h1 h2;have VD:=zH (show ∀ k,k<3 -> RLin w [if k=0 then x else if k=1 then y else z] (Gc rows[i] k) from fun k hk=>by
    unfold Gc;rcases (show k=0 \/ k=1 \/ k=2 by omega) with h | h | h <;> subst h
    ·exact Zc
    ·exact Ge
    ·exact kd)
   have dz:=zH (fun k hk=>HS.out rows[i] (zf cq) k hk)
   have HTi:=zH (fun k hk=>HT.out rows[i] (zf cq) k hk)
   obtain ⟨PS,SH⟩:=zEX (TM (PR i) rows[i]);have AJ:=zH (show PR (i+1)=PS 3 by rw [SH];exact HPN.out i cq)
   obtain ⟨sd,zC⟩:=zEX (Gc rows[i]);have Gq:=zH (show PS 0=PR i by rw [SH];rfl)
   have HSN:=zH (show ∀ j,PS (j+1)=PS j++rA (sd j) from fun j=>by rw [SH,zC];rfl)
   rw [<- zC] at dz HTi VD;obtain ⟨A1,n1,c1,rfl⟩:=RSl.slc Zc;obtain ⟨A2,n2,c2,rfl⟩:=RSl.slc Ge;obtain ⟨A3,n3,c3,rfl⟩:=RSl.slc kd;have ma:=(Ca wr.1.size wr).alloc zR (.cells #[ve A1 n1 c1,ve A2 n2 c2,ve A3 n3 c3] 211);have Zb:=zH ta;clear hc Zc Ge kd SH zC mh cq ta;have Gb:=Jf _ _ h0;go_wp2_with fail
   go_loopw [40,3] (fun y v wr=>∃ j:Nat,j <= 3 /\ y=vd vq j /\ wr.ownsRow w1.1.size 22 1 v (PS j).length (Oa (PS j)) /\ (PS j).length <= 4+700000*i+200001*j /\ vA w1.1.size w1 wr) (fun y _ _=>3-(intOf y).toNat)
   case atStart=>exact ⟨0,by omega,rfl,by rw [Gq.out];exact Mc Aa ma zR,by rw [Gq.out];omega,hb.trans (ma.mono hb.size)⟩
   case round =>
    clear Aa hb h0 h1 h2 ma Gb hle;obtain ⟨j,hj,rfl,Aa,hle,hb⟩:=hrel;by_cases Tm:j<3
    ·have q3:(j:Int)<3:=by omega
     have q4:(0:Int)<=j:=by omega
     have yl:=VD.out j Tm;have ix:=fun w=>oP (w:=w) (x:=ve A1 n1 c1) (y:=ve A2 n2 c2) (z:=ve A3 n3 c3) Tm
     obtain ⟨sel,Qf⟩:=zEX ((if j=0 then ve A1 n1 c1 else if j=1 then ve A2 n2 c2 else ve A3 n3 c3))
     rw [<- Qf] at yl ix;have HTj:=zH (HTi.out j Tm);have hsj:=dz.out j Tm;have HSNj:=zH (HSN.out j);obtain ⟨ts,uF⟩:=zEX (sd j);rw [<- uF] at yl HTj hsj HSNj;clear Qf uF;obtain ⟨As,ns,je,rfl⟩:=RSl.slc yl;obtain ⟨A',n',c',he,Ng,Ld,nh,Yq⟩:=yl;simp at he
     obtain ⟨rfl,rfl,rfl⟩:=he;have gns:=um Ld nh;have hns:ns <= 100000:=by omega
     have y4:vn.wrap (ns:Int)=ns:=by rw [pj];omega
     have PD:=zH Ng;obtain ⟨PT,hPT⟩:=zEX (zA (PS j) ts);have HT0:=zH (show PS j++[ns]=PT 0 by rw [hPT,zGm,PD.out])
     have HTN:=zH (show ∀ t,t<ns -> PT (t+1)=PT t++[(ts.getD t (0,0)).1.toNat,(ts.getD t (0,0)).2] from fun t h=>by rw [hPT];exact zGl _ _ (by rw [PD.out];exact h))
     have HTF:=zH (show PT ns=PS (j+1) by rw [hPT,HSNj.out,<- PD.out];exact zGk _ _)
     have HTL:=zH (show ∀ t,t <= ns -> (PT t).length=(PS j).length+1+2*t from fun t h=>by rw [hPT];exact zD5 _ _ (by rw [PD.out];exact h))
     have ly:(PT 0).length=(PS j).length+1:=HTL.out 0 (Mb _);clear hPT Ng Ld nh hsj;go_wp2_with (at_builtin;refine uk rfl _ _ rfl Ls rfl (Aa.alloc _) rfl (Ew _ _ _) (oq [ns]) (by omega) (by simp;have:=hb.size;omega) ?_)
     intro v' wn Rb Wa Dc;have ma:=(Ca wr.1.size wr).alloc zR (.cells #[vd vn ns] 22);have hB:=tp (Aa.alloc _) Wa (by simp;have:=hb.size;omega)
     replace hb:=(AL hb ma hb.size).trans hB;replace Aa:wn.ownsRow w1.1.size 22 1 v' ((PS j).length+1) (Oa (PT 0)):=MF (b:=[ns]) Rb HT0.out;clear Rb Wa Dc ma hB;rw [<- ly] at Aa;have hle0:(PT 0).length <= 4+700000*i+200001*j+1:=by omega
     have Vy:=zH hle;have Rt:=zH ly;clear hle ly;go_wp2_with fail
     go_loopw [51,3] (fun y v wr=>∃ t:Nat,t <= ns /\ y=vd vq t /\ wr.ownsRow w1.1.size 22 1 v (PT t).length (Oa (PT t)) /\ vA w1.1.size w1 wr) (fun y _ _=>ns-(intOf y).toNat)
     case atStart=>exact ⟨0,Mb _,rfl,Aa,hb⟩
     case round =>
      clear Aa hb hle0;obtain ⟨t,ht,rfl,Aa,hb⟩:=hrel;by_cases Wv:t<ns
      ·have q5:(t:Int)<ns:=by omega
       have q6:(0:Int)<=t:=by omega
       have qy:t<ts.length:=by rw [PD.out];exact Wv
       obtain ⟨b',q',rfl⟩:=Yq.base (by omega) (by omega)
       have mh:=pa da hb;obtain ⟨jv,yz⟩:=RLin.at_ (Yq.below EF mh) qy;have Qs:=Jf _ _ jv;simp only at Qs;obtain ⟨Xi,ah,ry⟩:=HTj.out _ (zEs (0,0) qy);have iz:=zH (HTN.out t Wv);have hlen:(PT t).length <= 100000000000:=by
        rw [HTL.out t ht];have:=Vy.out;omega
       have hlen1:(PT (t+1)).length=(PT t).length+2:=by rw [iz.out];simp
       revert jv yz Xi ah ry iz
       generalize ts.getD t (0,0)=tm;obtain ⟨v0,co⟩:=tm;intro jv yz Xi ah ry iz;simp only at jv yz Xi ah ry;obtain ⟨v1,rfl⟩:=Zk Xi;have y5:vn.wrap (v1:Int)=v1:=by rw [pj];omega
       have HTt2:=zH (show PT (t+1)=PT t++[v1,co] by rw [iz.out];simp)
       have HTN1:=zH Wv;have mE:=(Ca wr.1.size wr).alloc zR (.cells #[vd vq v1,vd vn co] 208);have Fy:=Mc Aa mE zR;have hsz1:=hb.size;clear Xi ah ry iz mh qy Wv;have kt9:=Blk.new wr 208 #[vd vq v1,vd vn co];go_upto_region 14 with fail
       generalize wr.alloc _=w9 at mE Fy kt9 |-;have c9:=kt9.cell;have l9:=kt9.lt;have Sq:=hb.trans (mE.mono hsz1);have al2:=(Ca w9.1.size w9).alloc zR (.cells #[vd vn v1,vd vn co] 22);have lP:=Sq.size;go_wp2_with (at_builtin;refine uk rfl _ _ rfl Ls rfl (Fy.alloc _) rfl (zH0 _ _ _ _) (oq [v1,co]) (by omega) (by simp;omega) ?_)
       intro v' wn Rb Wa Dc;have Jh:=(Sq.trans (al2.mono lP)).trans (tp (Fy.alloc _) Wa (by simp;omega))
       have hownn:wn.ownsRow w1.1.size 22 1 v' (PT (t+1)).length (Oa (PT (t+1))):=by
        rw [hlen1];exact MF (b:=[v1,co]) Rb HTt2.out.symm
       clear Rb Wa Dc Sq al2 mE Fy kt9 c9 l9;go_wp2
       go_roundw
       case rel=>exact ⟨t+1,HTN1.out,by go_num,hownn,Jh⟩
       case measure=>have:=HTN1.out;simp [intOf];omega
      ·obtain rfl:ns=t:=by omega
       rw [HTF.out] at Aa;have im:(PS (j+1)).length <= 4+700000*i+200001*(j+1):=by
        rw [<- HTF.out,HTL.out ns zR];have:=Vy.out;omega
       go_wp2
       go_roundw
       case rel=>exact ⟨j+1,Tm,by go_num,Aa,im,hb⟩
       case measure=>simp [intOf];omega
    ·obtain rfl:j=3:=by omega
     rw [<- AJ.out] at Aa hle;have YT:(PR (i+1)).length <= 4+700000*(i+1):=xb hle (zCf i);go_wp2
     go_roundw
     case rel=>exact ⟨i+1,Zb.out,by go_num,Aa,YT,hb⟩
     case measure=>have:=Zb.out;simp [intOf];omega
  ·obtain rfl:R=i:=by omega
   rw [HPF.out] at Aa;obtain ⟨Av,cv,rfl,-⟩:=de Aa;have hw:=yt Aa zm.out;have HC:=zH (HH.out _ _ _ wr hw);have Jb:=pa da hb;clear hw Aa hle;go_wp2_with fail
   refine HC.out.mono ?_;rintro e w5 ⟨rfl,Ya⟩;replace Jb:=pa Jb Ya;go_wp2;go_ret
   exact ⟨rfl,Jb⟩
theorem WL {n:Nat} (h:2 <= n):Ro n=2^((n-1).log2+1) /\ n <= Ro n /\ ∀ j,j<(n-1).log2+1 -> 2^j<n:=by
 have h0:n-1≠0:=by omega
 have h1:=Nat.log2_self_le h0;have h2:=@Nat.lt_log2_self (n-1);refine ⟨rfl,by unfold Ro;omega,fun j hj=>?_⟩
 have:=Io (show 0<2 by decide) (show j <= (n-1).log2 by omega)
 omega
theorem VP {L:Ma} (h:Lb L) {n:Nat} (h2:2 <= n) (hn:n <= L.n):Dk L.p (Ro n) /\ Ro n <= L.n:=by
 obtain ⟨e,-,hj⟩:=WL h2;obtain ⟨t,ht⟩:=h.n;have Vd:=h.n2;have hle:(n-1).log2+1 <= t:=by
  rcases Sg t ((n-1).log2+1) with q | q
  ·have:=hj t q;omega
  ·exact q
 have YT:Ro n <= L.n:=by rw [e,ht];exact Io (by decide) hle
 refine ⟨⟨by rw [e];exact Nat.one_le_two_pow,by omega,⟨_,e⟩,?_⟩,YT⟩
 have hd:Ro n∣L.n:=by rw [e,ht];exact Nat.pow_dvd_pow 2 hle
 exact Nat.mod_eq_zero_of_dvd (Nat.dvd_trans hd (Nat.dvd_of_mod_eq_zero h.nd))
def uA (p K al:Nat) (F:Nat -> Nat) (R:Nat -> Nat -> Nat):Nat -> Nat -> Nat
 | 0=>F
 | i+1=>Nn p (Og p al (i+1)) (uA p K al F R i) (R i) K
def xA (p len:Nat) (F:Nat -> Nat) (D:Nat -> Nat -> Nat):Nat -> Nat -> Nat
 | 0=>F
 | i+1=>Nn p 1 (xA p len F D i) (D i) len
def Iy (p K len be:Nat) (F:Nat -> Nat) (D Z:Nat -> Nat -> Nat):Nat -> Nat -> Nat
 | 0=>F
 | j+1=>Nn p (Zf p (Og p be (j+1))) (Nn p (Og p be (j+1)) (Iy p K len be F D Z j) (D j) len) (Z j) K
theorem PN {p s t:Nat} (hp:0<p) {F G:Nat -> Nat} (h:∀ k,F k<p) (k:Nat):Nn p s F G t k<p:=by
 unfold Nn Ph;split
 ·exact ic _ hp
 ·exact h k
theorem pQ {p K al:Nat} (hp:0<p) {F:Nat -> Nat} {R:Nat -> Nat -> Nat} (h:∀ k,F k<p):∀ i k,uA p K al F R i k<p
 | 0=>h
 | i+1=>PN hp (pQ hp h i)
theorem sQ {p len:Nat} (hp:0<p) {F:Nat -> Nat} {D:Nat -> Nat -> Nat} (h:∀ k,F k<p):∀ i k,xA p len F D i k<p
 | 0=>h
 | i+1=>PN hp (sQ hp h i)
theorem SM {p K len be:Nat} (hp:0<p) {F:Nat -> Nat} {D Z:Nat -> Nat -> Nat} (h:∀ k,F k<p):∀ j k,Iy p K len be F D Z j k<p
 | 0=>h
 | j+1=>PN hp (PN hp (SM hp h j))
def Pw (g1 g2 g3:Nat) (w w':vw):Prop:=vA 0 w w' /\ ∀ b,b<w.1.size -> b≠g1 -> b≠g2 -> b≠g3 -> w'.1[b]?=w.1[b]?
theorem zCH (g1 g2 g3:Nat) (w:vw):Pw g1 g2 g3 w w:=⟨Ca _ _,fun _ _ _ _ _=>rfl⟩
theorem Gz {g1 g2 g3:Nat} {a b c:vw} (x:Pw g1 g2 g3 a b) (y:Pw g1 g2 g3 b c):Pw g1 g2 g3 a c :=
 ⟨x.1.trans y.1,fun k h h1 h2 h3=>(y.2 k (Kc h x.1.size) h1 h2 h3).trans (x.2 k h h1 h2 h3)⟩
theorem yH {g1 g2 g3:Nat} {a b:vw} (x:vA a.1.size a b):Pw g1 g2 g3 a b:=⟨x.mono (Mb _),fun k h _ _ _=>x.block k h⟩
theorem FB {g1 g2 g3:Nat} {a b:vw} {u:Nat} (x:a.grownBy b (vE u)) (hu:u=g1 \/ u=g2 \/ u=g3):Pw g1 g2 g3 a b :=
 ⟨Es x 0 (Mb _) (fun _ _=>Mb _),fun k h h1 h2 h3=>x.block k h (fun e=>by
  have e1:=Za e;rcases hu with e2 | e2 | e2
  ·exact h1 (e1.trans e2)
  ·exact h2 (e1.trans e2)
  ·exact h3 (e1.trans e2))⟩
theorem SL {g1 g2 g3 b:Nat} {w w':vw} {t:vz} {cs:Array vx} (k:Blk w b t cs) (x:Pw g1 g2 g3 w w') (h1:b≠g1) (h2:b≠g2) (h3:b≠g3):Blk w' b t cs:=by
 have hl:=k.lt;unfold Blk at *;rw [x.2 b hl h1 h2 h3];exact k
theorem ex3_to {g1 g2 g3 B:Nat} {a b c:vw} (VH:vA B a b) (x:Pw g1 g2 g3 b c) (hB:B <= b.1.size) (h1:B <= g1) (h2:B <= g2) (h3:B <= g3):vA B a c :=
 VH.trans ⟨x.1.os,x.1.tape,x.1.output,x.1.size,fun k hk=>x.2 k (by omega) (by omega) (by omega) (by omega)⟩
theorem SJ {g1 g2 g3 g base n c:Nat} {w w':vw} {e:vz} {q:Nat} {xs:List vx} (h:w.ownsRow base e 1 (ve (vE ⟨g,q,vD⟩) n c) n xs) (x:Pw g1 g2 g3 w w') (h1:g≠g1) (h2:g≠g2) (h3:g≠g3):w'.ownsRow base e 1 (ve (vE ⟨g,q,vD⟩) n c) n xs:=by
 obtain ⟨k1,k2⟩:=h;refine ⟨k1,?_⟩;rcases k2 with k2 | ⟨g',cap,cur,hv,Lk,hh,r⟩
 ·exact Or.inl k2
 ·have he:g=g':=by
   injection hv with e1
   injection e1 with e1
   injection e1
  subst he;exact Or.inr ⟨g,cap,cur,hv,Lk,by rw [x.2 g (Nt.1 hh).1 h1 h2 h3];exact hh,r⟩
def rN (N:Nat) (w w':vw):Prop:=w.1.size <= w'.1.size /\ ∀ b,N <= b -> b<w.1.size -> w'.1[b]?=w.1[b]?
theorem oE {N:Nat} {a b:vw} (x:vA a.1.size a b):rN N a b:=⟨x.size,fun k _ h=>x.block k h⟩
theorem zBr {g1 g2 g3 N:Nat} {a b:vw} (x:Pw g1 g2 g3 a b) (h1:g1<N) (h2:g2<N) (h3:g3<N):rN N a b:=⟨x.1.size,fun k hk h=>x.2 k h (by omega) (by omega) (by omega)⟩
theorem SN {g N:Nat} {a b:vw} (x:a.grownBy b (vE g)) (h1:g<N):rN N a b:=⟨x.size,fun k hk h=>x.block k h (fun e=>by have:=Za e;omega)⟩
def jL (N K:Nat) (w:vw) (CS:Array vx) (i:Nat) (F:Nat -> Nat -> Nat):Prop:=∀ k,k<i -> ∃ g,CS[k]?=vE (ve (vE ⟨g,0,vD⟩) K K) /\ N <= g /\ Blk w g 22 (Qa K (F k))
theorem Zu {N K:Nat} {w w':vw} {CS:Array vx} {i:Nat} {F:Nat -> Nat -> Nat} (h:jL N K w CS i F) (x:rN N w w'):jL N K w' CS i F:=fun k hk=>by
 obtain ⟨g,h1,h2,h3⟩:=h k hk;refine ⟨g,h1,h2,?_⟩;have hl:=h3.lt;unfold Blk at *;rw [x.2 g h2 hl];exact h3
theorem zBE {N K:Nat} {w:vw} {CS:Array vx} {i g:Nat} {F:Nat -> Nat -> Nat} (h:jL N K w CS i F) (hi:i<CS.size) (hg:N <= g) (k:Blk w g 22 (Qa K (F i))):jL N K w (CS.setIfInBounds i (ve (vE ⟨g,0,vD⟩) K K)) (i+1) F:=fun j hj=>by
 by_cases e:i=j
 ·subst e
  exact ⟨g,by simp [hi],hg,k⟩
 ·obtain ⟨u,h1,h2⟩:=h j (by omega)
  exact ⟨u,by rw [Array.getElem?_setIfInBounds_ne e];exact h1,h2⟩
theorem BL (w:vw) (t1 t2 t3 t4:vz) (je Lf Pj zE:Array vx) :
  Blk ((((w.alloc (.cells je t1)).alloc (.cells Lf t2)).alloc (.cells Pj t3)).alloc (.cells zE t4)) w.1.size t1 je /\ Blk ((((w.alloc (.cells je t1)).alloc (.cells Lf t2)).alloc (.cells Pj t3)).alloc (.cells zE t4)) (w.1.size+1) t2 Lf /\ Blk ((((w.alloc (.cells je t1)).alloc (.cells Lf t2)).alloc (.cells Pj t3)).alloc (.cells zE t4)) (w.1.size+1+1) t3 Pj /\ Blk ((((w.alloc (.cells je t1)).alloc (.cells Lf t2)).alloc (.cells Pj t3)).alloc (.cells zE t4)) (w.1.size+1+1+1) t4 zE /\
   vA w.1.size w ((((w.alloc (.cells je t1)).alloc (.cells Lf t2)).alloc (.cells Pj t3)).alloc (.cells zE t4)) /\ ((((w.alloc (.cells je t1)).alloc (.cells Lf t2)).alloc (.cells Pj t3)).alloc (.cells zE t4)).1.size=w.1.size+4:=by
 obtain ⟨h1,h2,h3,h4,h5⟩:=Sp w t1 t2 t3 je Lf Pj;refine ⟨h1.alloc _,h2.alloc _,h3.alloc _,?_,h4.alloc (by omega) _,by simp⟩
 have:=Blk.new (((w.alloc (.cells je t1)).alloc (.cells Lf t2)).alloc (.cells Pj t3)) t4 zE;rw [h5] at this;exact this
theorem W6 {w:vw} {base g n:Nat} {F:Nat -> Nat} (k:Blk w g 22 (Qa n F)) (hb:base <= g) (hn:n <= maxLen):w.ownsRow base 22 1 (ve (vE ⟨g,0,vD⟩) n n) n (Oa ((List.range n).map F)):=by
 have hl:(Oa ((List.range n).map F)).length=n:=by simp [Oa]
 refine ⟨by rw [hl];omega, .inr ⟨g,n,Qa n F,rfl,hb,k,zR,hn,by simp [Qa],?_⟩⟩
 rw [wv,WG (by rw [hl];omega)]
theorem cO {L:Ma} {r:List (List Nat)} {co li qu sa:List Nat} (h:Jx L r co li qu sa=true) :
  r.length=L.a+L.b+L.b+L.b /\ (∀ x∈r,x.length=L.queries /\ ∀ y∈x,y<L.p) /\ (co.length=L.k /\ ∀ y∈co,y<L.p) /\ (li.length=L.k+L.block-2 /\ ∀ y∈li,y<L.p) /\ (qu.length=L.block+2*L.queries-1 /\ ∀ y∈qu,y<L.p):=by
 unfold Jx tj at h;simp only [mc,fe,Oo] at h;exact ⟨h.1,h.2.1,h.2.2.1,h.2.2.2.1,h.2.2.2.2.1⟩
theorem BQ (l:List Nat) (n:Nat) (h:l.length=n):(List.range n).map (fun k=>l.getD k 0)=l:=by
 subst h;refine LF (by simp) fun i hi=>?_
 simp at hi
 rw [Bl,Na hi]
def Hx (L:Ma) (m r:List (List Nat)) (i:Nat):Nat -> Nat:=Iu L (m.getD i []) (r.getD i [])
def Kq (L:Ma) (m r:List (List Nat)) (i:Nat):List Nat:=(List.range L.k).map (Hx L m r i)
def xB (L:Ma) (cs m r:List (List Nat)) (i:Nat):Nat -> Nat :=
 qA L.p (Ro (L.k+L.block-1)) ((L.k+L.block-1-1).log2+1) ((List.range L.block).map (Xm L.p L.block L.block.log2 (cs.getD i []))) (Kq L m r i)
def Ix (L:Ma) (m r:List (List Nat)) (j:Nat):Nat -> Nat :=
 qA L.p (Ro (2*L.k-1)) ((2*L.k-1-1).log2+1) (Kq L m r (L.a+j)) (Kq L m r (L.a+L.b+j))
def nE (L:Ma) (m r:List (List Nat)) (j:Nat):Nat -> Nat:=Hx L m r (L.a+L.b+L.b+j)
def wtF (p:Nat) (cs:List (List Nat)) (i:Nat):List Nat:=(List.range (cs.getD i []).length).map (pP p (cs.getD i []) 1)
def Fp (p:Nat) (cs:List (List Nat)):List (List Nat):=(List.range cs.length).map (wtF p cs)
theorem vY (L:Ma) (pu La:Nat) (rows:List Ua):(Uh L pu La rows).length=L.a+L.b+L.b+L.b:=by
 unfold Uh Up;rw [qv,qv,qv,qv];simp [ql,yf]
theorem ZN {L:Ma} {pu La:Nat} {rows:List Ua}:∀ r∈Uh L pu La rows,r.length=L.block:=fun r h=>by
 unfold Uh at h;obtain ⟨i,k,-,-,rfl⟩:=dO h;simp [Lq]
def Sf (L:Ma) (m r:List (List Nat)):List (List Nat):=(List.range m.length).map (bW L m r)
def uz (L:Ma) (m r:List (List Nat)) (co:List Nat) (al:Nat):List Nat:=Gy (Jq L.p co (ju L.p (Sf L m r) al m.length)) L.k
def Fx (L:Ma) (cs m r:List (List Nat)) (li:List Nat):List Nat:=Gy (Jq L.p (sg L li) (wt L.p (Sf L m r) (Fp L.p cs) m.length)) (L.k+L.block-1)
def Gx (L:Ma) (m r:List (List Nat)) (qu:List Nat) (be:Nat):List Nat:=Gy (Jq L.p (Dw L qu) (Zn L.p L.a L.b (Sf L m r) be L.b)) (2*L.k-1)
structure au (L:Ma) (m r:List (List Nat)):Prop where
 ml:m.length=L.a+L.b+L.b+L.b
 rl:r.length=m.length
 mr:∀ x∈m,x.length=L.block
 rr:∀ x∈r,x.length=L.queries
theorem DE {l:List (List Nat)} {P:List Nat -> Prop} (h:∀ x∈l,P x) {i:Nat} (hi:i<l.length):P (l.getD i []):=by
 rw [wT hi];exact h _ (zf hi)
theorem nD {L:Ma} (hL:Lb L) {m r:List (List Nat)} (h:au L m r) {i:Nat} (hi:i<m.length):(Sf L m r).getD i []=Kq L m r i:=by
 have e:(Sf L m r).getD i []=bW L m r i:=by
  rw [Sf,Cb,Zt,oz hi]
  rfl
 have h1:=DE h.mr hi;have h2:=DE h.rr (show i<r.length by rw [h.rl];exact hi)
 rw [e,bW,zG5 hL h1 h2,pA,h2,<- hL.k]
 rfl
theorem Y8 (L:Ma) (m r:List (List Nat)):(Sf L m r).length=m.length:=by simp [Sf]
theorem aW {L:Ma} (hL:Lb L) {m r:List (List Nat)} (h:au L m r):∀ x∈Sf L m r,x.length=L.k:=fun x hx=>by
 obtain ⟨i,hi,rfl⟩:=Hm hx;rw [Y8] at hi;have e:=nD hL h hi;rw [wT (by rw [Y8];exact hi)] at e
 rw [e];simp [Kq]
theorem V9 (p a b c:Nat):((a+b)%p+c%p)%p=(a+(b+c%p)%p)%p:=by
 rw [Nat.mod_add_mod,Nat.add_mod_mod a,Nat.add_assoc]
theorem ON {p s t k:Nat} {F G:Nat -> Nat} (h:k<t):Nn p s F G t k=(F k+s*G k%p)%p:=by
 unfold Nn Ph;rw [Na h]
theorem zBa {p s t k:Nat} {F G:Nat -> Nat} (h:¬k<t):Nn p s F G t k=F k:=by
 unfold Nn Ph;rw [ya h]
theorem uY {L:Ma} (hL:Lb L) {m r:List (List Nat)} (h:au L m r) {co:List Nat} (hc:co.length=L.k) (ta:∀ y∈co,y<L.p) (al:Nat) :
  (List.range L.k).map (uA L.p L.k al (fun k=>co.getD k 0) (Hx L m r) m.length)=uz L m r co al:=by
 have hp:=Pb hL.p;have hl:(uz L m r co al).length=L.k:=by
  rw [uz,FK];have h1:=Ex L.p co (ju L.p (Sf L m r) al m.length);have h2:=rY (p:=L.p) (al:=al) (fun x hx=>Nat.le_of_eq (aW hL h x hx)) m.length
  omega
 refine LF (by rw [hl];simp) fun k hk=>?_
 simp at hk
 rw [Bl,Na hk,uz,DK,gu];have key:∀ i,i <= m.length -> uA L.p L.k al (fun k=>co.getD k 0) (Hx L m r) i k=(co.getD k 0+(ju L.p (Sf L m r) al i).getD k 0)%L.p:=fun i=>by
  induction i with
  | zero =>
   intro _;rw [uA,ju];exact (Kj (by simpa using Bv (by omega) ta k)).symm
  | succ i ih =>
   intro hi;rw [uA,ON hk,ih (by omega),ju,gu,oJ,nD hL h (by omega),Kq,Bl,Na hk,ze (Og L.p al (i+1)),V9]
 exact key _ zR
theorem gX {L:Ma} (hL:Lb L) {cs:List (List Nat)} (Pf:∀ x∈cs,x.length=L.block) {i:Nat} (hi:i<cs.length):(Fp L.p cs).getD i []=(List.range L.block).map (Xm L.p L.block L.block.log2 (cs.getD i [])):=by
 obtain ⟨hlen,j,hj⟩:=yy hL;have Au:L.block.log2=j:=by rw [hj];exact rz
 have h1:=DE Pf hi;have e:(Fp L.p cs).getD i []=wtF L.p cs i:=by
  rw [Fp,Cb,Zt,oz hi]
  rfl
 rw [e,wtF,h1];refine pz fun k hk=>?_
 have fF:=Oi.1 hk;rw [U0 (j:=j) _ hL.p (by rw [h1];exact hlen) (by rw [h1];exact hj) (by omega),h1,Au]
theorem SU {p:Nat} (hp:0<p) (a b:List Nat) (k:Nat):(Rk p a b).getD k 0<p:=Bv hp (fun _ h=>zEE hp h) k
theorem zBp {L:Ma} (hL:Lb L) {cs m r:List (List Nat)} (h:au L m r) (Pf:∀ x∈cs,x.length=L.block) (Wh:cs.length=m.length) {i k:Nat} (hi:i<m.length) (hk:k<L.k+L.block-1) :
  xB L cs m r i k=(Rk L.p ((Fp L.p cs).getD i []) ((Sf L m r).getD i [])).getD k 0:=by
 have hp:=Pb hL.p;have Ia:=hL.b1;have Ws:=hL.k;have yg:=hL.nk;have Yj:=hL.q1;have h2:2 <= L.k+L.block-1:=by omega
 obtain ⟨hM,-⟩:=VP hL h2 (by omega)
 obtain ⟨e,hle,-⟩:=WL h2;rw [gX hL Pf (by omega),nD hL h hi]
 unfold xB;refine Cg.eq (p:=L.p) (L5 hL.p hM e _ _ (by simp;omega) (by simp [Kq];omega) k (by omega)) (N5 (by omega) _ _ _) (SU (by omega) _ _ _)
theorem J4 {L:Ma} (hL:Lb L) {cs m r:List (List Nat)} (h:au L m r) (Pf:∀ x∈cs,x.length=L.block) (Wh:cs.length=m.length) {li:List Nat} (hl:li.length=L.k+L.block-2) (ta:∀ y∈li,y<L.p) :
  (List.range (L.k+L.block-1)).map (xA L.p (L.k+L.block-1) (fun k=>(sg L li).getD k 0) (xB L cs m r) m.length)=Fx L cs m r li:=by
 have hp:=Pb hL.p;have Ia:=hL.b1;have Ws:=hL.k;have Yj:=hL.q1;have zj:(sg L li).length=L.k+L.block-1:=by rw [sg,xg];omega
 have hmlt:∀ k,(sg L li).getD k 0<L.p:=fun k=>by
  cases k with
  | zero=>exact yM (by omega) _ _
  | succ k=>exact Bv (by omega) ta k
 have EC:∀ x∈Fp L.p cs,x.length <= L.block:=fun x hx=>by
  obtain ⟨i,hi,rfl⟩:=Ed.1 hx;rw [wtF,Jm,Eo,DE Pf (Oi.1 hi)];exact zR
 have Ng:(Fx L cs m r li).length=L.k+L.block-1:=by
  rw [Fx,FK];have h1:=Ex L.p (sg L li) (wt L.p (Sf L m r) (Fp L.p cs) m.length);have h2:=o4 (p:=L.p) (fun x hx=>Nat.le_of_eq (aW hL h x hx)) EC m.length
  omega
 refine LF (by rw [Ng];simp) fun k hk=>?_
 simp at hk
 rw [Bl,Na (by omega),Fx,DK,gu]
 have key:∀ i,i <= m.length -> xA L.p (L.k+L.block-1) (fun k=>(sg L li).getD k 0) (xB L cs m r) i k=((sg L li).getD k 0+(wt L.p (Sf L m r) (Fp L.p cs) i).getD k 0)%L.p:=fun i=>by
  induction i with
  | zero =>
   intro _;rw [xA,wt];exact (Kj (by simpa using hmlt k)).symm
  | succ i ih =>
   intro hi;rw [xA,ON (by omega),ih (by omega),wt,gu,zBp hL h Pf Wh (by omega) (by omega),Nat.one_mul,V9]
   rw [Kj (SU (p:=L.p) (by omega) _ _ _)]
 exact key _ zR
theorem zBq {L:Ma} (hL:Lb L) {m r:List (List Nat)} (h:au L m r) {j k:Nat} (hj:j<L.b) (hk:k<2*L.k-1) :
  Ix L m r j k=(Rk L.p ((Sf L m r).getD (L.a+j) []) ((Sf L m r).getD (L.a+L.b+j) [])).getD k 0:=by
 have hp:=Pb hL.p;have Ia:=hL.b1;have Ws:=hL.k;have yg:=hL.nk;have Yj:=hL.q1;have zj:=h.ml;have h2:2 <= 2*L.k-1:=by omega
 obtain ⟨hM,-⟩:=VP hL h2 (by omega)
 obtain ⟨e,hle,-⟩:=WL h2;rw [nD hL h (by omega),nD hL h (by omega)]
 unfold Ix;refine Cg.eq (p:=L.p) (L5 hL.p hM e _ _ (by simp [Kq];omega) (by simp [Kq];omega) k (by omega)) (N5 (by omega) _ _ _) (SU (by omega) _ _ _)
theorem zB {p:Nat} (a b:Nat):Cg p ((a*b%p:Nat):Int) ((a:Int)*b):=(Cg.mod _).trans (Cg.of_eq (Uf _ _))
theorem oH {p:Nat} (a b:Nat):Cg p (((a+b)%p:Nat):Int) ((a:Int)+b):=(Cg.mod _).trans (Cg.of_eq (Ml _ _))
theorem gap_cg {p:Nat} (hp:1<p) (a b:List Nat) (k:Nat):Cg p ((kG p a b).getD k 0:Int) ((a.getD k 0:Int)-(b.getD k 0:Int)):=by
 rw [kG,gu,oJ];refine (oH _ _).trans ?_;have h1:=(zB (p:=p) (b.getD k 0) (Zf p 1)).trans (Cg.rfl'.mul (WC p 1 (by omega)))
 refine (Cg.rfl'.add h1).trans (Cg.of_eq ?_);have:(((1:Nat):Int))=1:=rfl;rw [this,Int.mul_neg,Int.mul_one]
 rfl
theorem a8 {L:Ma} (hL:Lb L) {m r:List (List Nat)} (h:au L m r) {qu:List Nat} (hq:qu.length=L.block+2*L.queries-1) (be:Nat) :
  (List.range (2*L.k-1)).map (Iy L.p L.k (2*L.k-1) be (tg L.p L.block qu qu.length) (Ix L m r) (nE L m r) L.b)=Gx L m r qu be:=by
 have hp:=Pb hL.p;have Ia:=hL.b1;have Ws:=hL.k;have Yj:=hL.q1;have zj:=h.ml;have hql:(Dw L qu).length=2*L.k-1:=by rw [xQ hL hq,kD,Jm,Eo];omega
 have Ng:(Gx L m r qu be).length=2*L.k-1:=by
  rw [Gx,FK];have h1:=Ex L.p (Dw L qu) (Zn L.p L.a L.b (Sf L m r) be L.b);have h2:=Z7 (p:=L.p) (a:=L.a) (b:=L.b) (be:=be) (fun x hx=>Nat.le_of_eq (aW hL h x hx)) L.b
  omega
 refine LF (by rw [Ng];simp) fun k hk=>?_
 simp at hk
 rw [Bl,Na hk,Gx,DK,gu];have key:∀ j,j <= L.b -> Cg L.p (Iy L.p L.k (2*L.k-1) be (tg L.p L.block qu qu.length) (Ix L m r) (nE L m r) j k:Int) (((Dw L qu).getD k 0:Int)+((Zn L.p L.a L.b (Sf L m r) be j).getD k 0:Int)):=fun j=>by
  induction j with
  | zero =>
   intro _;rw [Iy,Zn,xQ hL hq,kD,Bl,Na (by omega)]
   exact Cg.of_eq (by simp)
  | succ j ih =>
   intro hj;have ih:=ih (by omega)
   have hz:nE L m r j k=if k<L.k then ((Sf L m r).getD (L.a+L.b+L.b+j) []).getD k 0 else nE L m r j k:=by
    split
    ·rename_i hkL
     rw [nD hL h (by omega),Kq,Bl,Na hkL]
     rfl
    ·rfl
   obtain ⟨F,hF⟩:=zEX (Iy L.p L.k (2*L.k-1) be (tg L.p L.block qu qu.length) (Ix L m r) (nE L m r) j);obtain ⟨P,hP⟩:=zEX (Og L.p be (j+1));rw [<- hF] at ih;rw [Iy,Zn,gu,oJ,<- hF,<- hP,GH];have hG:=gap_cg (p:=L.p) (by omega) (Rk L.p ((Sf L m r).getD (L.a+j) []) ((Sf L m r).getD (L.a+L.b+j) [])) ((Sf L m r).getD (L.a+L.b+L.b+j) []) k
   rw [<- zBq hL h (by omega) hk] at hG
   generalize ((kG L.p (Rk L.p ((Sf L m r).getD (L.a+j) []) ((Sf L m r).getD (L.a+L.b+j) [])) ((Sf L m r).getD (L.a+L.b+L.b+j) [])).getD k 0)=G at hG |-;have hR:Cg L.p ((((Dw L qu).getD k 0:Nat):Int)+((((Zn L.p L.a L.b (Sf L m r) be j).getD k 0+G*P%L.p)%L.p:Nat):Int)) ((((Dw L qu).getD k 0:Nat):Int)+(((Zn L.p L.a L.b (Sf L m r) be j).getD k 0:Nat):Int)+(G:Int)*P):=by
    refine (Cg.rfl'.add ((oH _ _).trans (Cg.rfl'.add (zB _ _)))).trans (Cg.of_eq ?_);omega
   refine Cg.trans ?_ hR.symm;have h1:Cg L.p ((Nn L.p P F (Ix L m r j) (2*L.k-1) k:Nat):Int) ((F k:Int)+(P:Int)*(Ix L m r j k:Int)):=by
    rw [ON hk];exact (oH _ _).trans (Cg.rfl'.add (zB _ _))
   by_cases hkL:k<L.k
   ·rw [Na hkL] at hz
    rw [ON hkL];refine (oH _ _).trans ?_;refine (h1.add ((zB _ _).trans ((WC L.p P (by omega)).mul Cg.rfl'))).trans ?_
    rw [hz];refine ((ih.add Cg.rfl').add Cg.rfl').trans ?_;refine Cg.trans (Cg.of_eq ?_) (Cg.rfl'.add (hG.mul Cg.rfl').symm)
    grind
   ·rw [zBa hkL]
    refine h1.trans ?_;have Kh:((Sf L m r).getD (L.a+L.b+L.b+j) []).getD k 0=0:=XJ (by rw [nD hL h (by omega)];simp [Kq];omega)
    rw [Kh] at hG;refine (ih.add Cg.rfl').trans ?_;refine Cg.trans (Cg.of_eq ?_) (Cg.rfl'.add (hG.mul Cg.rfl').symm)
    grind
 refine Cg.eq (p:=L.p) ((key _ zR).trans ?_) (SM (by omega) (fun k=>DD (by omega) _ _ _) _ _) (ic _ (by omega))
 exact (oH _ _).symm
theorem XX {L:Ma} (hL:Lb L) {cs m r:List (List Nat)} (h:au L m r) (Pf:∀ x∈cs,x.length=L.block) (Wh:cs.length=m.length) {co li qu:List Nat} (hc:co.length=L.k /\ ∀ y∈co,y<L.p) (hl:li.length=L.k+L.block-2 /\ ∀ y∈li,y<L.p) (hq:qu.length=L.block+2*L.queries-1) (al be:Nat) :
  yv L (uz L m r co al) (Fx L cs m r li) (Gx L m r qu be)=true:=by
 have hp:=Pb hL.p;rw [<- uY hL h hc.1 hc.2,<- J4 hL h Pf Wh hl.1 hl.2,<- a8 hL h hq];unfold yv;simp only [Jm,Eo,decide_true,Bool.true_and,mc,fe,Oo,Ed,Oi];refine ⟨⟨?_,?_⟩,?_⟩
 ·rintro x ⟨k,-,rfl⟩
  exact pQ (by omega) (fun k=>Bv (by omega) hc.2 k) _ _
 ·rintro x ⟨k,-,rfl⟩
  refine sQ (by omega) (fun k=>?_) _ _
  cases k with
  | zero=>exact yM (by omega) _ _
  | succ k=>exact Bv (by omega) hl.2 k
 ·rintro x ⟨k,-,rfl⟩
  exact SM (by omega) (fun k=>DD (by omega) _ _ _) _ _
def Hr (f:Nat -> Nat) (n:Nat):List (List Nat):=(List.range n).map fun k=>[f k]
def FA (p a b:Nat):Nat:=(a+Zf p b)%p
def Bz (L:Ma) (cs:List (List Nat)) (al be:Nat) (a b c:List Nat) (x:Nat) (v:List Nat):List Nat :=
 [FA L.p (Lc L.p a x) (Lc L.p (ju L.p (Hr (fun k=>v.getD k 0) v.length) al v.length) 0),
  FA L.p (Lc L.p b x) (Lc L.p (wt L.p (Hr (fun k=>v.getD k 0) v.length) (Hr (fun k=>Lc L.p ((Fp L.p cs).getD k []) x) v.length) v.length) 0),
  FA L.p (Lc L.p c x) (Lc L.p (Zn L.p L.a L.b (Hr (fun k=>v.getD k 0) v.length) be L.b) 0)]
theorem TK {f:Nat -> Nat} {n k:Nat} (h:k<n):(Hr f n).getD k []=[f k]:=by
 rw [Hr,Cb,Zt,oz h]
 rfl
theorem QJ (v:Nat) (x:Int):Ic [v] x=(v:Int):=by
 show 0+(v:Int)*x^0=_
 rw [Int.pow_zero];omega
theorem iG {p:Nat} (hp:0<p) (a b:Nat):Cg p (FA p a b:Int) ((a:Int)-b) :=
 (oH _ _).trans ((Cg.rfl'.add (WC p b hp)).trans (Cg.of_eq (by omega)))
theorem zCG {p:Nat} (hp:1<p) (a b:List Nat) (x:Int):Cg p (Ic (kG p a b) x) (Ic a x-Ic b x):=by
 unfold kG;refine (BE a _ x).trans ((Cg.rfl'.add ((tO b _ x).trans ((WC p 1 (by omega)).mul Cg.rfl'))).trans (Cg.of_eq ?_))
 rw [show (((1:Nat):Int))=1 from rfl,Int.neg_mul,Kn]
 omega
theorem xS {p:Nat} (rows:List (List Nat)) (al:Nat) (x:Int):∀ i,Cg p (Ic (ju p rows al i) x) (Pa (fun j=>(Og p al (j+1):Int)*Ic (rows.getD j []) x) i)
 | 0=>Cg.rfl'
 | i+1=>by
  rw [ju,Pa];exact (BE _ _ x).trans ((xS rows al x i).add (tO _ _ x))
theorem JU {p:Nat} (rows ws:List (List Nat)) (x:Int):∀ i,Cg p (Ic (wt p rows ws i) x) (Pa (fun j=>Ic (ws.getD j []) x*Ic (rows.getD j []) x) i)
 | 0=>Cg.rfl'
 | i+1=>by
  rw [wt,Pa];exact (BE _ _ x).trans ((JU rows ws x i).add (SS _ _ x))
theorem FV {p:Nat} (hp:1<p) (a b:Nat) (rows:List (List Nat)) (be:Nat) (x:Int):∀ i,Cg p (Ic (Zn p a b rows be i) x) (Pa (fun j=>(Og p be (j+1):Int)*(Ic (rows.getD (a+j) []) x*Ic (rows.getD (a+b+j) []) x-Ic (rows.getD (a+b+b+j) []) x)) i)
 | 0=>Cg.rfl'
 | i+1=>by
  rw [Zn,Pa];refine (BE _ _ x).trans ((FV hp a b rows be x i).add ((tO _ _ x).trans (Cg.rfl'.mul ?_)));unfold GH;refine (zCG hp _ _ x).trans ?_;obtain ⟨c,hc⟩:=SS (p:=p) (rows.getD (a+i) []) (rows.getD (a+b+i) []) x;exact ⟨c,by rw [<- hc];omega⟩
theorem tY {p:Nat} (f:Nat -> Nat) (al n:Nat):Cg p (Lc p (ju p (Hr f n) al n) 0:Int) (Pa (fun j=>(Og p al (j+1):Int)*(f j:Int)) n):=by
 refine (Mq _).trans ((xS _ _ _ _).trans (Gi _ fun j hj=>?_))
 rw [TK hj,QJ];exact Cg.rfl'
theorem I4 {p:Nat} (f g:Nat -> Nat) (n:Nat):Cg p (Lc p (wt p (Hr f n) (Hr g n) n) 0:Int) (Pa (fun j=>(g j:Int)*(f j:Int)) n):=by
 refine (Mq _).trans ((JU _ _ _ _).trans (Gi _ fun j hj=>?_))
 rw [TK hj,TK hj,QJ,QJ];exact Cg.rfl'
theorem yQ {p:Nat} (hp:1<p) {a b n:Nat} (hn:a+b+b+b=n) (f:Nat -> Nat) (be:Nat):Cg p (Lc p (Zn p a b (Hr f n) be b) 0:Int) (Pa (fun j=>(Og p be (j+1):Int)*((f (a+j):Int)*(f (a+b+j):Int)-(f (a+b+b+j):Int))) b):=by
 refine (Mq _).trans ((FV hp _ _ _ _ _ _).trans (Gi _ fun j hj=>?_))
 rw [TK (by omega),TK (by omega),TK (by omega),QJ,QJ,QJ]
 exact Cg.rfl'
def uE (p al:Nat) (f:Nat -> Nat) (e:Nat):Nat -> Nat
 | 0=>e
 | j+1=>FA p (uE p al f e j) (Og p al (j+1)*f j%p)
def xE (p:Nat) (d f:Nat -> Nat) (e:Nat):Nat -> Nat
 | 0=>e
 | j+1=>FA p (xE p d f e j) (d j*f j%p)
def Az (p a b be:Nat) (f:Nat -> Nat) (e:Nat):Nat -> Nat
 | 0=>e
 | j+1=>FA p (Az p a b be f e j) (Og p be (j+1)*FA p (f (a+j)*f (a+b+j)%p) (f (a+b+b+j))%p)
theorem jG {p:Nat} (hp:0<p) (a b:Nat):FA p a b<p:=ic _ hp
theorem wW {p:Nat} {a b t u:Int} {x y:Int} (h:Cg p a (b-t)) (h2:Cg p x (a-y)) (h3:Cg p y u):Cg p x (b-(t+u)):=by
 obtain ⟨c,hc⟩:=h;obtain ⟨d,hd⟩:=h2;obtain ⟨e,he⟩:=h3;exact ⟨c+d-e,by rw [Int.mul_sub,Int.mul_add,<- hc,<- hd,<- he];omega⟩
theorem oY {p:Nat} (hp:0<p) (al:Nat) (f:Nat -> Nat) (e:Nat):∀ j,Cg p (uE p al f e j:Int) ((e:Int)-Pa (fun j=>(Og p al (j+1):Int)*(f j:Int)) j)
 | 0=>Cg.of_eq (by rw [uE,Pa];omega)
 | j+1=>by
  rw [uE,Pa];exact wW (oY hp al f e j) (iG hp _ _) (zB _ _)
theorem pY {p:Nat} (hp:0<p) (d f:Nat -> Nat) (e:Nat):∀ j,Cg p (xE p d f e j:Int) ((e:Int)-Pa (fun j=>(d j:Int)*(f j:Int)) j)
 | 0=>Cg.of_eq (by rw [xE,Pa];omega)
 | j+1=>by
  rw [xE,Pa];exact wW (pY hp d f e j) (iG hp _ _) (zB _ _)
theorem qY {p:Nat} (hp:0<p) (a b be:Nat) (f:Nat -> Nat) (e:Nat):∀ j,Cg p (Az p a b be f e j:Int) ((e:Int)-Pa (fun j=>(Og p be (j+1):Int)*((f (a+j):Int)*(f (a+b+j):Int)-(f (a+b+b+j):Int))) j)
 | 0=>Cg.of_eq (by rw [Az,Pa];omega)
 | j+1=>by
  rw [Az,Pa];refine wW (qY hp a b be f e j) (iG hp _ _) ((zB _ _).trans (Cg.rfl'.mul ((iG hp _ _).trans ?_)));obtain ⟨c,hc⟩:=zB (p:=p) (f (a+j)) (f (a+b+j));exact ⟨c,by rw [<- hc];omega⟩
def vJ (L:Ma) (x:Nat):List Nat:=(List.range L.block).map (Xm L.p L.block L.block.log2 ((List.range L.block).map fun i=>x^i%L.p))
theorem DS {p:Nat} (a b:List Nat):∀ k,Cg p (ou p a b k:Int) (Pa (fun m=>(a.getD m 0:Int)*(b.getD m 0:Int)) k)
 | 0=>Cg.rfl'
 | k+1=>by
  rw [ou,Pa];refine (oH _ _).trans ((DS a b k).add ((zB _ _).trans ((Cg.mod _).mul (Cg.mod _))))
theorem zCq {L:Ma} (hL:Lb L) {cs:List (List Nat)} (Pf:∀ x∈cs,x.length=L.block) {j:Nat} (hj:j<cs.length) (x:Nat):Cg L.p (ou L.p (cs.getD j []) (vJ L x) L.block:Int) (Lc L.p ((Fp L.p cs).getD j []) x:Int):=by
 obtain ⟨hlen,t,ht⟩:=yy hL;have Au:L.block=2^L.block.log2:=by rw [ht,rz]
 refine (DS _ _ _).trans ?_;refine Cg.trans ?_ (Mq _).symm;rw [gX hL Pf hj,<- xH _ _ (n:=L.block) (by simp),uv]
 obtain ⟨v,hv⟩:∃ v:Int,v=((Be L.p L.block^(L.p-2)%L.p:Nat):Int):=⟨_,rfl⟩;obtain ⟨s,hs⟩:∃ s:Int,s=((L.block^(L.p-2)%L.p:Nat):Int):=⟨_,rfl⟩;obtain ⟨c,hc⟩:∃ c:Nat -> Int,c=fun m=>(((cs.getD j []).getD m 0:Nat):Int):=⟨_,rfl⟩
 have hA:Cg L.p (Pa (fun m=>((cs.getD j []).getD m 0:Int)*((vJ L x).getD m 0:Int)) L.block) (Pa (fun m=>Pa (fun k=>c m*(s*((x:Int)^k*(v^m)^k))) L.block) L.block):=by
  refine Gi _ fun m hm=>?_
  rw [vJ,Bl,Na hm];refine (Cg.rfl'.mul (rP _ hL.p hlen Au hm)).trans ?_;rw [<- hv,<- hs,uv,Ly,Ly];refine Gi _ fun k hk=>?_
  rw [Bl,Na hk,hc];refine Cg.rfl'.mul (Cg.rfl'.mul (Cg.mul ?_ Cg.rfl'));exact (Cg.mod _).trans (Cg.of_eq (Bo _ _))
 have hB:Cg L.p (Pa (fun k=>Hs ((List.range L.block).map (Xm L.p L.block L.block.log2 (cs.getD j []))) k*(x:Int)^k) L.block) (Pa (fun k=>Pa (fun m=>c m*(s*((x:Int)^k*(v^m)^k))) L.block) L.block):=by
  refine Gi _ fun k hk=>?_
  rw [Hs,Bl,Na hk];refine ((rP _ hL.p hlen Au hk).mul Cg.rfl').trans ?_;rw [<- hv,<- hs,uv,Ly,Jj,Ly];refine Gi _ fun m _=>Cg.of_eq ?_
  rw [hc,<- Ch,<- Ch,ze m k]
  grind
 refine hA.trans (Cg.trans (Cg.of_eq ?_) hB.symm);exact IA (fun m k=>c m*(s*((x:Int)^k*(v^m)^k))) L.block L.block
theorem zB1 {L:Ma} (hL:Lb L) {cs:List (List Nat)} (Pf:∀ x∈cs,x.length=L.block) (al be:Nat) (a b c:List Nat) (x:Nat) {v:List Nat} (hv:v.length=L.a+L.b+L.b+L.b) (Wh:cs.length=v.length) :
  [uE L.p al (fun k=>v.getD k 0) (Lc L.p a x) v.length,xE L.p (fun j=>ou L.p (cs.getD j []) (vJ L x) L.block) (fun k=>v.getD k 0) (Lc L.p b x) v.length,Az L.p L.a L.b be (fun k=>v.getD k 0) (Lc L.p c x) L.b]=Bz L cs al be a b c x v:=by
 have hp:=Pb hL.p;have l0:∀ e,e<L.p -> ∀ j,uE L.p al (fun k=>v.getD k 0) e j<L.p:=fun e he j=>by
  cases j with
  | zero=>exact he
  | succ j=>exact jG (by omega) _ _
 have l1:∀ d e,e<L.p -> ∀ j,xE L.p d (fun k=>v.getD k 0) e j<L.p:=fun d e he j=>by
  cases j with
  | zero=>exact he
  | succ j=>exact jG (by omega) _ _
 have l2:∀ e,e<L.p -> ∀ j,Az L.p L.a L.b be (fun k=>v.getD k 0) e j<L.p:=fun e he j=>by
  cases j with
  | zero=>exact he
  | succ j=>exact jG (by omega) _ _
 unfold Bz
 congr 1
 ·refine Cg.eq (p:=L.p) ((oY (by omega) _ _ _ _).trans (Cg.trans ?_ (iG (by omega) _ _).symm)) (l0 _ (ru (by omega) _ _) _) (jG (by omega) _ _)
  obtain ⟨d,hd⟩:=tY (p:=L.p) (fun k=>v.getD k 0) al v.length
  exact ⟨d,by rw [<- hd];omega⟩
 congr 1
 ·refine Cg.eq (p:=L.p) ((pY (by omega) _ _ _ _).trans (Cg.trans ?_ (iG (by omega) _ _).symm)) (l1 _ _ (ru (by omega) _ _) _) (jG (by omega) _ _)
  have h1:Cg L.p (Lc L.p (wt L.p (Hr (fun k=>v.getD k 0) v.length) (Hr (fun k=>Lc L.p ((Fp L.p cs).getD k []) x) v.length) v.length) 0:Int) (Pa (fun j=>((Lc L.p ((Fp L.p cs).getD j []) x:Nat):Int)*((v.getD j 0:Nat):Int)) v.length):=I4 (p:=L.p) (fun k=>v.getD k 0) (fun k=>Lc L.p ((Fp L.p cs).getD k []) x) v.length
  have h2:Cg L.p (Pa (fun j=>((ou L.p (cs.getD j []) (vJ L x) L.block:Nat):Int)*((v.getD j 0:Nat):Int)) v.length) (Pa (fun j=>((Lc L.p ((Fp L.p cs).getD j []) x:Nat):Int)*((v.getD j 0:Nat):Int)) v.length) :=
   Gi _ fun j hj=>(zCq hL Pf (by omega) x).mul Cg.rfl'
  obtain ⟨d,hd⟩:=h1;obtain ⟨e,he⟩:=h2;exact ⟨d-e,by rw [Int.mul_sub,<- hd,<- he];omega⟩
 congr 1
 ·refine Cg.eq (p:=L.p) ((qY (by omega) _ _ _ _ _ _).trans (Cg.trans ?_ (iG (by omega) _ _).symm)) (l2 _ (ru (by omega) _ _) _) (jG (by omega) _ _)
  obtain ⟨d,hd⟩:=yQ (p:=L.p) (by omega) hv.symm (fun k=>v.getD k 0) be
  exact ⟨d,by rw [<- hd];omega⟩
end Go.Proofs.YteoghgbnielkpaaGreat
