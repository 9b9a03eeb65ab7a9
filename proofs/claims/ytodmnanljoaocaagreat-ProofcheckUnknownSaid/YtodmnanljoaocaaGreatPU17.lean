/- A part of the proof. No condition. -/
import Derived.Test.YtodmnanljoaocaaGreatPU14

set_option maxRecDepth 100000
set_option maxHeartbeats 8000000
set_option linter.unusedVariables false
set_option linter.unusedSimpArgs false
namespace Go.Proofs.YtodmnanljoaocaaGreat
open Go.RowKit Go.Maps
open Tryz
open Go renaming World->vv, Value->vw, Addr->vx, TypeId->vy, Calls->vA
open Go.Value renaming int->vd, slice->ve, agg->vf
open Go.IntKind renaming u64->vq, i64->vt
open Go.Ending renaming returned->vn
open Go.RowKit renaming Below->vz
open Go.World renaming setCell->vE
open Go.Act renaming put->vF
open Option renaming none->vB, some->vD
theorem zBN (f:Nat -> Nat) (n i:Nat) (h:i<n):(He f n (i+1)).take (i+1)=(He f n i).take i++[(He f n (i+1)).getD i 0]:=by
 rw [ID (by rw [zv];exact h),zFI,Gc,Dc (by rw [zv];exact h)]
 rfl
theorem bU (s:Tr):∀ k,(Gh s k).O=kd s.O 19 (Up s.st s.ct k)
 | 0=>rfl
 | k+1=>by
  rw [MY,<- bU s k];show td (Gh s k).O 19 [(Gh s k).st,(Gh s k).ct]=_
  rw [PN,ON]
theorem zBK (s:Tr) (k:Nat):Oq s.O s.st s.ct k=Qr (Gh s k):=by
 unfold Oq Qr;rw [bU,PN,ON]
theorem zAA {s:Tr} {k c:Nat} (h:Qm s k c):∀ i,Qm (Gh s i) (k+i) (c+i)
 | 0=>h
 | i+1=>YM (zAA h i)
theorem xX (s:Tr) (all:List Nat) (n q:Nat) (h:q <= n):xq s all n q=(List.range n).filter fun x=>((He (fun k=>Qr (Gh (Vh s 3 all) k)) n q).take q).contains x:=by
 unfold xq EC;have e:He (Oq (Vh s 3 all).O (Vh s 3 all).st 0) n q=He (fun k=>Qr (Gh (Vh s 3 all) k)) n q:=OY q fun k _=>zBK (Vh s 3 all) k
 rw [e];exact zFN _ n q h
theorem zHO (s:Tr) (all:List Nat) (q:Nat):WA s all q=(Gh (Vh s 3 all) q).O:=(bU (Vh s 3 all) q).symm
theorem KV (l:List Nat) (i x:Nat):(xf (Zf l)).set i (vd vt x)=xf (Zf (l.set i x)):=by simp [xf,Zf,List.map_set]
theorem gU {cur:Array vw} {n:Nat} {xs:List vw} (h:cur.toList.take n=xs) (i:Nat) (v:vw):(cur.setIfInBounds i v).toList.take n=xs.set i v:=by
 rw [Array.toList_setIfInBounds,<- h,List.take_set]
theorem RN {cur:Array vw} {n:Nat} {l:List Nat} (h:cur.toList.take n=xf (Zf l)) {i:Nat} (hi:i<n) (hl:l.length=n):cur[i]?=vD (vd vt ((l.getD i 0:Nat):Int)):=by
 have h1:(cur.toList.take n)[i]?=cur[i]?:=by rw [List.getElem?_take,Gb hi];simp
 rw [<- h1,h,Gc,Dc (show i<l.length by omega)]
 simp [xf,Zf,show i<l.length by omega]
theorem zBY {cur:Array vw} {n i j:Nat} {l:List Nat} (h:cur.toList.take n=xf (Zf l)):((cur.setIfInBounds i (vd vt ((l.getD j 0:Nat):Int))).setIfInBounds j (vd vt ((l.getD i 0:Nat):Int))).toList.take n=xf (Zf (ru l i j)):=by
 rw [gU (gU h i _) j _,KV,KV]
 rfl
theorem zEn (i:Nat):xf (Zf (List.range (i+1)))=xf (Zf (List.range i))++[vd vt i]:=by simp [xf,Zf,OB]
theorem zEm (c:Nat -> Bool) (i:Nat):xf (Zf ((List.range (i+1)).filter c))=xf (Zf ((List.range i).filter c))++(if c i then [vd vt i] else []):=by
 cases h:c i <;> simp [xf,Zf,OB,List.filter_append,h]
theorem zDS (c:Nat -> Bool) (i:Nat):((List.range (i+1)).filter c).length=((List.range i).filter c).length+(if c i then 1 else 0):=by
 cases h:c i <;> simp [OB,List.filter_append,h]
theorem zHN {K:Nat -> Prop} {s:Tr} {k ct:Nat} (h:Qm s k ct) (hk:k <= 800000) (L:Xa) (hL:ed L) (A A1 A2 A3:Option vx) (n c n1 c1 n2 c2 n3 c3:Nat) (l1 l2 l3:List Nat) (w:vv) (hq:Hd K w fun u=>Sd u [ve A n c] s.O.qs)
  (h1:RWd w [ve A1 n1 c1] l1) (h2:RWd w [ve A2 n2 c2] l2) (h3:RWd w [ve A3 n3 c3] l3) (hlen:(l1++l2++l3).length <= 100000) :
  vA prog 46 #[vf (tl s (ve A n c)),vf (Eb L),vf #[ve A1 n1 c1,ve A2 n2 c2,ve A3 n3 c3]] w fun e w'=>∃ A' n' c' v,e=vn (.tuple #[v,vf (tl (Gh (Vh s 3 (l1++l2++l3)) L.queries) (ve A' n' c'))]) /\
   w'.ownsRow w.1.size 3 1 v L.queries (xf (Zf (xq s (l1++l2++l3) L.n L.queries))) /\
   Hd (fun b=>K b \/ w.1.size <= b) w' (fun u=>Sd u [ve A' n' c'] (Gh (Vh s 3 (l1++l2++l3)) L.queries).O.qs) /\ vz w.1.size w w':=by
 obtain ⟨ks,kl,ka,kr,ba,db⟩:=dJ w 108 38 116 108 (tl s (ve A n c)) (Eb L) #[ve A1 n1 c1,ve A2 n2 c2,ve A3 n3 c3] #[.bool false,vd vq 0,vd vt 0,ve vB 0 0,ve vB 0 0,ve vB 0 0,vd vq 0,vd vq 0];obtain ⟨q1,-,-,e1,r1⟩:=Mb h1;obtain ⟨q2,-,-,e2,r2⟩:=Mb h2;obtain ⟨q3,-,-,e3,r3⟩:=Mb h3;have hle:n1+n2+n3 <= 100000:=by simp at hlen;omega
 obtain ⟨all,Dg⟩:=zEX (l1++l2++l3);have ao:∀ x∈all,x<18446744073709551616:=fun x hx=>by
  rw [Dg,Lq,Lq] at hx;rcases hx with (hx | hx) | hx
  ·exact e1 x hx
  ·exact e2 x hx
  ·exact e3 x hx
 obtain ⟨a,ha⟩:=zEX (Vh s 3 all);have zq:=zH (fun A1 n1 c1 w1 (hb:vz w.1.size w w1) (h1:RWd w1 [ve A1 n1 c1] all)=>by have:=dY (K:=fun b=>K b /\ b<w.1.size) h (Cb hk zD) A A1 n c n1 c1 3 all w1 (Za (zk hq) (Yb hb)) h1 zD (by rw [Dg];exact hlen);rw [<- ha] at this;exact this)
 have TA:=zH (show Qm a (k+1) 0 by rw [ha];exact ES h 3 all)
 have fG:=zH Dg;have xg:=zH ao;have R1:=zH r1;have R2:=zH r2;have R3:=zH r3;have Dq:=zH hL;have HTP:=zH (xX s all L.n L.queries (by have:=hL.nk;have:=hL.k;omega))
 rw [<- ha] at HTP;have Cx:=zH (show (xq s all L.n L.queries).length=L.queries from bW _ _ _ _ _ (by have:=hL.nk;have:=hL.k;omega))
 obtain ⟨Tq,cV⟩:∃ f:Nat -> Nat,f=fun k=>Qr (Gh a k):=⟨_,rfl⟩
 rw [<- cV] at HTP;have HF:=zH cV;clear cV;rw [<- Dg,<- ha];clear hq h1 h2 h3 hlen q1 q2 q3 e1 e2 e3 r1 r2 r3 ao Dg ha hL h db;unfold tl Eb at *;go_enter func46,ntmps46
 go_upto_region 2 with fail
 generalize (((w.alloc _).alloc _).alloc _).alloc _=w1 at ks kl ka kr ba |-;have ca:=ka.cell;have kh:w1.ownsRow w1.1.size 22 1 (ve vB 0 0) 0 []:=⟨rfl, .inl ⟨rfl,rfl⟩⟩;have Ff:=R1.out.below ba;go_wp2_with (at_builtin;refine fe rfl _ _ rfl Ag rfl kh rfl Ff (Gf _) zO zR ?_)
 intro v2 w2 gu Xz Cw;have Da:=Ee kh Xz zR;have l0:w.1.size<w1.1.size:=Az (Ou _ 3) kr.lt;have l1:w.1.size+1<w1.1.size:=gg (Nat.add_lt_add_left (by decide:1<3) _) kr.lt
 have l2:w.1.size+2<w1.1.size:=gg (Nat.add_lt_add_left (by decide:2<3) _) kr.lt
 have l3:w.1.size+3<w1.1.size:=kr.lt;have Nc:w.1.size <= w1.1.size:=Nat.le_of_lt l0;have sz2:=Da.size;replace ks:=ma ks Da;replace kl:=ma kl Da;replace ka:=ma ka Da;replace kr:=ma kr Da;replace ba:=pa ba Da;clear ca kh Ff Xz Cw Da;have ca:=ka.cell;have Wk:=R2.out.below ba;go_wp2_with (at_builtin;refine fe rfl _ _ rfl Ag rfl gu rfl Wk (Gf _) zO (by exact sz2) ?_)
 intro v3 w3 rq ov hk3;have Ta:=Ee gu ov sz2;have ks3:=ks.below Ta l0;have NH:=kl.below Ta l1;have ka3:=ka.below Ta l2;have Cm:=kr.below Ta l3;have KJ:=ba.trans (Ta.mono Nc);have cI:=Cb sz2 Ta.size;clear ca gu Wk ov hk3 ks kl ka kr ba Ta sz2;have ca:=ka3.cell;have Kw:=R3.out.below KJ;go_wp2_with (at_builtin;refine fe rfl _ _ rfl Ag rfl rq rfl Kw (Gf _) zO (by exact cI) ?_)
 intro v4 w4 Yj Xn hk4;have Ub:=Ee rq Xn cI;have ks:=ks3.below Ub l0;have kl:=NH.below Ub l1;have kr:=Cm.below Ub l3;have ba:=KJ.trans (Ub.mono Nc);have sz4:=Cb cI Ub.size;have Dm:w4.ownsRow w1.1.size 22 1 v4 (n1+n2+n3) (Qa all):=by
  rw [fG.out]
  simpa [Qa,Jx] using Yj
 obtain ⟨Av,cv,rfl,-⟩:=mc Dm;have HC:=zH (zq.out Av (n1+n2+n3) cv w4 ba (Yf Dm xg.out));have W4:=zH (show w.1.size+4 <= w4.1.size from kr.lt)
 clear ca rq Kw Xn hk4 Ub ks3 NH ka3 Cm KJ Yj Dm cI sz4 l0 l1 l2 l3 Nc hle zq R1 R2 R3;have cs:=ks.cell;go_wp2_with fail
 refine HC.out.mono ?_;rintro e w5 ⟨A2,m2,Nj,rfl,Rj,Da⟩;replace ks:=ma ks Da;replace kl:=ma kl Da;replace kr:=ma kr Da;replace ba:=pa ba Da;have Tz:=Y0 Rj W4.out;clear Da Rj HC cs;have iw:=ks.cell;have mw:=ks.frozen;have gh:=ug [.bool a.O.ideal,vd vq a.O.st,vd vt a.O.dr,ve A2 m2 Nj,ve vB 0 0,ve vB 0 0,vd vq a.st,vd vq a.ct] ks rfl;have eh:=(If (g:=w.1.size) zO [.bool a.O.ideal,vd vq a.O.st,vd vt a.O.dr,ve A2 m2 Nj,ve vB 0 0,ve vB 0 0,vd vq a.st,vd vq a.ct] 0 w5).trans kl;have fh:=(If (g:=w.1.size) zO [.bool a.O.ideal,vd vq a.O.st,vd vt a.O.dr,ve A2 m2 Nj,ve vB 0 0,ve vB 0 0,vd vq a.st,vd vq a.ct] 0 w5).trans kr;have Ei:=ak (xs:=[.bool a.O.ideal,vd vq a.O.st,vd vt a.O.dr,ve A2 m2 Nj,ve vB 0 0,ve vB 0 0,vd vq a.st,vd vq a.ct]) (g:=w.1.size) ba zO;have xE:=Za Tz (sj (g:=w.1.size) (fun h=>h.elim (fun h=>by have:=h.2;omega) (fun h=>zO)) [.bool a.O.ideal,vd vq a.O.st,vd vt a.O.dr,ve A2 m2 Nj,ve vB 0 0,ve vB 0 0,vd vq a.st,vd vq a.ct] w5)
 have bh:w5.1.size <= (Cc w5 (w.1.size) [.bool a.O.ideal,vd vq a.O.st,vd vt a.O.dr,ve A2 m2 Nj,ve vB 0 0,ve vB 0 0,vd vq a.st,vd vq a.ct] 0).1.size:=by simp [Cc,vE]
 simp only [Cc,yf] at gh eh fh Ei xE bh
 try simp only [Nat.reduceAdd] at gh eh fh Ei xE bh
 have mj:=zH gh;have jj:=zH eh;have kj:=zH fh;have yl:=zH Ei;have RI:=zH xE;have Cn:=zH bh;clear gh eh fh Ei xE ks kl kr ba Tz bh;go_upto_region 6 with fail
 generalize vE (vE (vE (vE (vE (vE (vE (vE (w5) _ _) _ _) _ _) _ _) _ _) _ _) _ _) _ _=w6 at mj jj kj yl RI Cn  |-;clear iw mw;have ks:Blk w6 _ _ _:=mj.out;have kl:Blk w6 _ _ _:=jj.out;have kr:Blk w6 _ _ _:=kj.out;have ba:=yl.out;have Tz:=RI.out;clear mj jj kj yl RI;have hd6:=zk Tz;have W6:=zH (show w.1.size+4 <= w6.1.size from kr.lt)
 have HMK:=zH (fun w=>zEb L.n (zQ Dq.out.n2) w)
 have KS6:=zH ks;have Eh:=zH kr;have ng:=zH ba;have Hm:=zH hd6;have Gn:=zH kl;clear ks kr ba hd6 Tz Cn kl W4;go_wp2_with fail
 go_loopw [9,10] (fun v y wr=>∃ i:Nat,i <= L.n /\ y=vd vt i /\ wr.ownsRow w6.1.size 3 1 v i (xf (Zf (List.range i))) /\ vz w6.1.size w6 wr) (fun _ y _=>L.n-(intOf y).toNat)
 case atStart=>exact ⟨0,Rb _,rfl,⟨rfl, .inl ⟨rfl,rfl⟩⟩,Bb _ _⟩
 case round =>
  obtain ⟨i,hi,rfl,oa,Wa⟩:=hrel;have kl:=Gn.out.below Wa Gn.out.lt;have cl:=kl.cell;have n2:=Dq.out.n2;by_cases ta:i<L.n
  ·have g2:(i:Int)<L.n:=by omega
   have HNX:=zH (zEn i);go_wp2_with (at_builtin;refine fe rfl _ _ rfl VN rfl (oa.alloc _) rfl (mh _ _ _) (tW [(i:Int)]) zO (by simp;have:=Wa.size;omega) ?_)
   intro v' wn Va Ja tb;have ja:=zA wr (.cells #[vd vt i] 3);have hB:=Ee (oa.alloc _) Ja (by simp;have:=Wa.size;omega)
   replace Wa:=(Pk Wa ja Wa.size).trans hB;replace oa:wn.ownsRow w6.1.size 3 1 v' (i+1) (xf (Zf (List.range (i+1)))):=by rw [HNX.out];exact Va
   clear Va Ja tb ja hB kl cl;go_wp2
   go_roundw
   case rel=>exact ⟨i+1,ta,by go_num,oa,Wa⟩
   case measure=>simp [intOf];omega
  ·obtain rfl:i=L.n:=by omega
   rcases oa.2 with ⟨-,h0⟩ | ⟨gp,cap,cur,rfl,Yn,Ll,hcap,Eg,db,YU⟩
   ·exact absurd h0 (by obtain ⟨j,hj⟩:=Dq.out.n;rw [hj];exact Nat.ne_of_gt (Nat.two_pow_pos j))
   have kp:Blk wr gp 3 cur:=Ll;have hgp4:w.1.size+4 <= gp:=Cb W6.out Yn;rw [Nat.mul_one] at YU;have HCUR:=zH YU;have HCAP:=zH hcap;have HMX:=zH Eg;have Xs:=zH Yn;have ks:=KS6.out.below Wa KS6.out.lt;have kr:=Eh.out.below Wa Eh.out.lt;have ba:=pa ng.out Wa;have hdq:=Za Hm.out (Yb Wa);clear oa Ll hcap Eg db YU Yn Wa hi ta;obtain ⟨zb,vK⟩:=zEX (Nn L.n fun _=>false)
   have Tj:=fun w=>HMK.out w
   rw [<- vK] at Tj;have HZB:=zH vK;clear vK;have Og:=kp.lt;go_wp2_with fail
   have ja:=zA wr (.cells zb 4);have kb:=Blk.new wr 4 zb;replace ks:=ma ks ja;replace kl:=ma kl ja;replace kr:=ma kr ja;replace kp:=ma kp ja;replace ba:=pa ba ja;replace hdq:=Za hdq (Yb ja);generalize wr.alloc _=w8 at kb ks kl kr kp ba hdq |-;generalize wr.1.size=gb at kb Og |-;have HGP6:=zH (show w6.1.size <= gp from Xs.out)
   obtain ⟨KX,TG⟩:∃ KX:Nat -> Prop,KX=fun b=>(K b /\ b<w.1.size) \/ (w.1.size+4 <= b /\ b≠gp /\ b≠gb):=⟨_,rfl⟩
   have Ui:Hd KX w8 fun u=>Sd u [ve A2 m2 Nj] a.O.qs:=Xp hdq fun b hb=>by
    rw [TG];have h6:=HGP6.out;exact hb.1.elim .inl fun h=>.inr ⟨h,by have:=hb.2;omega,by have:=hb.2;omega⟩
   have Kp:=zH (show ¬KX w.1.size by rw [TG];exact fun h=>h.elim (fun h=>by have:=h.2;omega) (fun h=>by have:=h.1;omega))
   have HNR:=zH (show ¬KX (w.1.size+3) by rw [TG];exact fun h=>h.elim (fun h=>by have:=h.2;omega) (fun h=>by have:=h.1;omega))
   have HNP:=zH (show ¬KX gp by rw [TG];exact fun h=>h.elim (fun h=>by have:=h.2;omega) (fun h=>h.2.1 rfl))
   have pG:=zH (show ¬KX gb by rw [TG];exact fun h=>h.elim (fun h=>by have:=h.2;omega) (fun h=>h.2.2 rfl))
   have HNW:=zH (show ∀ b,gb<b -> KX b by rw [TG];exact fun b hb=>.inr ⟨zO,zO,zO⟩)
   have HKO:=zH (show ∀ b,KX b -> K b \/ w.1.size <= b by rw [TG];exact fun b hb=>hb.elim (fun h=>.inl h.1) (fun h=>.inr (Cb (Ou _ 4) h.1)))
   have Wl:=zH (show He Tq L.n 0=List.range L.n from rfl)
   have HB0:=zH (show zb=Nn L.n fun x=>((He Tq L.n 0).take 0).contains x by rw [HZB.out];exact UZ fun i _=>zS)
   rw [HB0.out] at kb;clear hdq TG Tj ja HMK;go_wp2_with fail
   go_loopw [12] (fun y wr=>∃ (i:Nat) (A':Option vx) (n' c':Nat) (cur:Array vw),i <= L.queries /\ y=vd vt i /\ Blk wr w.1.size 108 #[.bool (Gh a i).O.ideal,vd vq ((Gh a i).O.st:Int),vd vt ((Gh a i).O.dr:Int),ve A' n' c',ve vB 0 0,ve vB 0 0,vd vq ((Gh a i).st:Int),vd vq ((Gh a i).ct:Int)] /\ Blk wr (w.1.size+1) 38 #[vd vq L.p,vd vt L.block,vd vt L.queries,vd vt L.k,vd vt L.n,vd vt L.secret,vd vt L.rows,vd vt L.a,vd vt L.b,vd vt L.b,vd vt L.b] /\
    Blk wr (w.1.size+3) 108 #[.bool false,vd vq 0,vd vt 0,ve vB 0 0,ve vB 0 0,ve vB 0 0,vd vq 0,vd vq 0] /\ Blk wr gp 3 cur /\ Hid (cur.toList.take L.n=xf (Zf (He Tq L.n i))) /\ Blk wr gb 4 (Nn L.n fun x=>((He Tq L.n i).take i).contains x) /\
    Hd KX wr (fun u=>Sd u [ve A' n' c'] (Gh a i).O.qs) /\ vz w.1.size w wr) (fun y _=>L.queries-(intOf y).toNat)
   case atStart=>exact ⟨0,A2,m2,Nj,cur,Rb _,rfl,ks,kl,kr,kp,by rw [Wl.out];exact HCUR.out,kb,Ui,ba⟩
   case round =>
    clear ks kl kr kp kb Ui ba;obtain ⟨i,A3,bu,fJ,cu,hi,rfl,ks,kl,kr,kp,zI,kb,Ui,ba⟩:=hrel;have nk:=Dq.out.nk;have hkq:=Dq.out.k;have q2:=Dq.out.q2;have n2:=Dq.out.n2;by_cases ta:i<L.queries
    ·have g1:(0:Int)<=i:=by omega
     have g2:(i:Int)<L.queries:=by omega
     obtain ⟨sN,hsN⟩:=zEX (Gh a i);obtain ⟨sM,hsM⟩:=zEX (Gh a (i+1));obtain ⟨cv,Sz⟩:=zEX (Qr sN);have tN:Qm sN (k+1+i) (0+i):=by rw [hsN];exact zAA TA.out i
     have hcvq:cv<18446744073709551616:=by rw [Sz];exact Sp (kC tN.o.ans _ _)
     have HC:=zH (pQ (K:=KX) tN zO zO A3 bu fJ wr (by rw [hsN];exact Ui))
     rw [show Qo sN=sM by rw [hsN,hsM];rfl,<- Sz] at HC
     unfold tl at HC;have Tk:Tq i=cv:=by rw [HF.out,Sz,hsN]
     rw [<- hsN] at ks;obtain ⟨m,hm⟩:=zEX (L.n-i);have hm0:0<m:=by omega
     obtain ⟨r,hr⟩:=zEX (cv%m);have oA:r<m:=by rw [hr];exact Ic _ hm0
     obtain ⟨j,hj⟩:=zEX (i+r);have EE:j<L.n:=by omega
     have e1:vt.wrap ((L.n:Int)-i)=(m:Int):=by rw [pj];omega
     have e2:vq.wrap (m:Int)=m:=by rw [Vg];omega
     have e3:(cv:Int).tmod (m:Int)=r:=by rw [Ex zO,hr];exact (Int.natCast_emod cv m).symm
     have e4:vt.wrap (r:Int)=r:=by rw [pj];omega
     have e5:vt.wrap ((i:Int)+r)=(j:Int):=by rw [pj];omega
     have e0:¬(m=0):=by omega
     have e0':((m:Int) == 0)=false:=by rw [Je];omega
     have MI:=zH (show He Tq L.n (i+1)=ru (He Tq L.n i) i j by rw [He,Tk,<- hm,<- hr,<- hj])
     have g3:(0:Int)<=j:=by omega
     have g4:(j:Int)<L.n:=by omega
     have g5:(i:Int)<L.n:=by omega
     have HAR:=zH (And.intro e1 (And.intro e2 (And.intro e3 (And.intro e4 (And.intro e5 (And.intro e0 (And.intro e0' (And.intro g3 (And.intro g4 g5)))))))));clear e1 e2 e3 e4 e5 e0 e0' g3 g4 g5;have Pc:=zH ta;have HJN:=zH EE;have Pv:=zH (show i<L.n by omega)
     have uD:=zH hsM;clear Sz hcvq Tk hm hr hj oA hm0 EE ta hsN hsM tN hi nk hkq q2 n2 Ui;have cs:=ks.cell;have cl:=kl.cell;go_wp2_with fail
     refine HC.out.mono ?_;rintro e w4 ⟨A4,n4,c4,rfl,Vz,Ti⟩;have Uz:=SQ Vz (fun b hb=>HNW.out b (zQ kb.lt))
     replace ks:=ma ks Ti;replace kl:=ma kl Ti;replace kr:=ma kr Ti;replace kp:=ma kp Ti;replace kb:=ma kb Ti;replace ba:=pa ba Ti;clear Ti Vz HC cs cl;have iw:=ks.cell;have mw:=ks.frozen;have gh:=ug [.bool sM.O.ideal,vd vq sM.O.st,vd vt sM.O.dr,ve A4 n4 c4,ve vB 0 0,ve vB 0 0,vd vq sM.st,vd vq sM.ct] ks rfl;have eh:=(If (g:=w.1.size) zO [.bool sM.O.ideal,vd vq sM.O.st,vd vt sM.O.dr,ve A4 n4 c4,ve vB 0 0,ve vB 0 0,vd vq sM.st,vd vq sM.ct] 0 w4).trans kl;have fh:=(If (g:=w.1.size) zO [.bool sM.O.ideal,vd vq sM.O.st,vd vt sM.O.dr,ve A4 n4 c4,ve vB 0 0,ve vB 0 0,vd vq sM.st,vd vq sM.ct] 0 w4).trans kr;have kpS:=(If (g:=w.1.size) zO [.bool sM.O.ideal,vd vq sM.O.st,vd vt sM.O.dr,ve A4 n4 c4,ve vB 0 0,ve vB 0 0,vd vq sM.st,vd vq sM.ct] 0 w4).trans kp;have yK:=(If (g:=w.1.size) zO [.bool sM.O.ideal,vd vq sM.O.st,vd vt sM.O.dr,ve A4 n4 c4,ve vB 0 0,ve vB 0 0,vd vq sM.st,vd vq sM.ct] 0 w4).trans kb;have Ei:=ak (xs:=[.bool sM.O.ideal,vd vq sM.O.st,vd vt sM.O.dr,ve A4 n4 c4,ve vB 0 0,ve vB 0 0,vd vq sM.st,vd vq sM.ct]) (g:=w.1.size) ba zO;have yE:=Za Uz (sj (g:=w.1.size) (Kp.out) [.bool sM.O.ideal,vd vq sM.O.st,vd vt sM.O.dr,ve A4 n4 c4,ve vB 0 0,ve vB 0 0,vd vq sM.st,vd vq sM.ct] w4);have bh:w4.1.size <= (Cc w4 (w.1.size) [.bool sM.O.ideal,vd vq sM.O.st,vd vt sM.O.dr,ve A4 n4 c4,ve vB 0 0,ve vB 0 0,vd vq sM.st,vd vq sM.ct] 0).1.size:=by simp [Cc,vE]
     simp only [Cc,yf] at gh eh fh kpS yK Ei yE bh
     try simp only [Nat.reduceAdd] at gh eh fh kpS yK Ei yE bh
     have mj:=zH gh;have jj:=zH eh;have kj:=zH fh;have xT:=zH kpS;have wT:=zH yK;have yl:=zH Ei;have SI:=zH yE;have Cn:=zH bh;clear gh eh fh kpS yK Ei yE ks kl kr kp kb ba Uz bh;go_upto_region 17 with fail
     generalize vE (vE (vE (vE (vE (vE (vE (vE (w4) _ _) _ _) _ _) _ _) _ _) _ _) _ _) _ _=w5 at mj jj kj xT wT yl SI Cn  |-;clear iw mw;have ks:Blk w5 _ _ _:=mj.out;have kl:Blk w5 _ _ _:=jj.out;have kr:Blk w5 _ _ _:=kj.out;have kp:Blk w5 _ _ _:=xT.out;have kb:Blk w5 _ _ _:=wT.out;have ba:=yl.out;have Uz:=SI.out;clear mj jj kj xT wT yl SI;clear Cn;have cl:=kl.cell;obtain ⟨e1,e2,e3,e4,e5,e0,e0',g3,g4,g5⟩:=HAR.out;obtain ⟨Lp,hLp⟩:=zEX (He Tq L.n i);rw [<- hLp] at MI zI;have hLn:Lp.length=L.n:=by rw [hLp];exact zv Tq L.n i
     obtain ⟨xi,uv⟩:=zEX (Lp.getD i 0);obtain ⟨xj,hxj⟩:=zEX (Lp.getD j 0);have yG:=zH (zBY (i:=i) (j:=j) zI.out);rw [<- uv,<- hxj,<- MI.out] at yG;have uE:w5.cell? ⟨gp,i,vB⟩=vD (vd vt xi):=by rw [uv];exact (kp.cell i).trans (RN zI.out Pv.out hLn)
     have sw:w5.cell? ⟨gp,j,vB⟩=vD (vd vt xj):=by rw [hxj];exact (kp.cell j).trans (RN zI.out HJN.out hLn)
     have HCJ2:=zH (show ((cu.setIfInBounds i (vd vt xj))[j]?)=vD (vd vt xj) \/ True from .inr trivial)
     have hgpl:=kp.lt;have KS:=zH ks;have KL:=zH kl;have KR:=zH kr;have KP:=zH kp;have KB:=zH kb;have HB:=zH ba;have HD:=zH Uz;have mG:=zH hLp;clear ks kr kp kb ba Uz uv hxj hLp hLn HCJ2;go_wp2_with fail
     refine SS (yc) [13,15] [13] [2,3,8,9,10] [0,1,2,3,4,5,6,7,8,9,10,11,12,13,14,15] zK zK ?_;refine zA7 (ya) ?_;intro Wc Ca da;have T1:=zH (KS.out.drew);have T2:=zH (KL.out.drew);have T3:=zH (KR.out.drew);have T4:=zH (KB.out.drew);have T5:=zH (KP.out.drew);rw [<- Ca.out] at T1 T2 T3 T4 T5;have T6:=zH (show vz w.1.size w Wc by rw [Ca.out];exact HB.out.drew)
     have T7:=zH (Za HD.out (show Od _ _ Wc by rw [Ca.out];exact Oo))
     clear Ca KS KL KR KP KB HB HD;refine qI ?_;refine pI (ya) rfl rfl rfl ?_;have hfw:=T5.out.frozen;have WU:Wc.cell? ⟨gp,i,vB⟩=_:=(T5.out.cell i).trans (RN zI.out Pv.out (by rw [mG.out];exact zv Tq L.n i))
     clear uE sw da;go_simp;refine ⟨fun h=>Bool.noConfusion h,?_⟩
     have k5:=T5.out.set_ i (vd vt xj);have s5:=T1.out.far (p:=⟨gp,i,vB⟩) (fun e=>by have:w.1.size=gp:=e;omega) (vd vt xj)
     have l5:=T2.out.far (p:=⟨gp,i,vB⟩) (fun e=>by have:w.1.size+1=gp:=e;omega) (vd vt xj)
     have r5:=T3.out.far (p:=⟨gp,i,vB⟩) (fun e=>by have:w.1.size+3=gp:=e;omega) (vd vt xj)
     have b5:=T4.out.far (p:=⟨gp,i,vB⟩) (fun e=>by have:gb=gp:=e;omega) (vd vt xj)
     have o5:=T6.out.setCell (p:=⟨gp,i,vB⟩) (show w.1.size <= gp by omega) (vd vt xj)
     have d5:=Za T7.out (dQ (i:=i) (c:=vd vt xj) HNP.out)
     refine zPU ?_
     generalize Wc.setCell _ _=w6' at k5 s5 l5 r5 b5 o5 d5 |-;clear hfw WU T1 T2 T3 T4 T5 T6 T7;have da:=ya.refl w6';have hf6:=k5.frozen;have mC:w6'.cell? ⟨gp,j,vB⟩=_:=(k5.cell j).trans (RN (l:=Lp.set i xj) (by rw [gU zI.out,KV]) HJN.out (by rw [List.length_set,mG.out];exact zv Tq L.n i))
     refine qI ?_;refine pI (ya) rfl rfl rfl ?_;go_simp;refine ⟨fun h=>Bool.noConfusion h,?_⟩
     have k6:=k5.set_ j (vd vt xi);have s6:=s5.far (p:=⟨gp,j,vB⟩) (fun e=>by have:w.1.size=gp:=e;omega) (vd vt xi)
     have l6:=l5.far (p:=⟨gp,j,vB⟩) (fun e=>by have:w.1.size+1=gp:=e;omega) (vd vt xi)
     have r6:=r5.far (p:=⟨gp,j,vB⟩) (fun e=>by have:w.1.size+3=gp:=e;omega) (vd vt xi)
     have b6:=b5.far (p:=⟨gp,j,vB⟩) (fun e=>by have:gb=gp:=e;omega) (vd vt xi)
     have o6:=o5.setCell (p:=⟨gp,j,vB⟩) (show w.1.size <= gp by omega) (vd vt xi)
     have d6:=Za d5 (dQ (i:=j) (c:=vd vt xi) HNP.out)
     refine zPU ?_
     generalize w6'.setCell _ _=w7 at k6 s6 l6 r6 b6 o6 d6 |-;refine TS ?_;clear k5 s5 l5 r5 b5 o5 d5 hf6 mC da;obtain ⟨cu2,hcu2⟩:=zEX ((cu.setIfInBounds i (vd vt xj)).setIfInBounds j (vd vt xi));rw [<- hcu2] at yG k6;obtain ⟨y,hy⟩:=zEX ((He Tq L.n (i+1)).getD i 0);have hyn:y<L.n:=by rw [hy];exact qF (dS Tq L.n (i+1) (by have:=Dq.out.nk;have:=Dq.out.k;have:=Pc.out;omega)) (by rw [zv];exact Pv.out)
     have hcy:w7.cell? ⟨gp,i,vB⟩=vD (vd vt y):=by rw [hy];exact (k6.cell i).trans (RN yG.out Pv.out (zv Tq L.n (i+1)))
     have hcb:w7.cell? ⟨gb,y,vB⟩=_:=(b6.cell y).trans (TZ _ hyn);have hfb:=b6.frozen;have g6:(0:Int)<=y:=by omega
     have g7:(y:Int)<L.n:=by omega
     have b7:=b6.set_ y (.bool true);rw [zCC] at b7;have HBQ:=zH (show (Nn L.n fun x=>if x=y then true else (Lp.take i).contains x)=Nn L.n fun x=>((He Tq L.n (i+1)).take (i+1)).contains x from UZ fun x _=>by
      rw [zBN Tq L.n i Pv.out,<- hy,<- mG.out];by_cases e:x=y <;> simp [e])
     rw [mG.out] at HBQ;rw [HBQ.out] at b7;have s7:=s6.far (p:=⟨gb,y,vB⟩) (fun e=>by have:w.1.size=gb:=e;omega) (.bool true)
     have l7:=l6.far (p:=⟨gb,y,vB⟩) (fun e=>by have:w.1.size+1=gb:=e;omega) (.bool true)
     have r7:=r6.far (p:=⟨gb,y,vB⟩) (fun e=>by have:w.1.size+3=gb:=e;omega) (.bool true)
     have p7:=k6.far (p:=⟨gb,y,vB⟩) (fun e=>by have:gp=gb:=e;omega) (.bool true)
     have o7:=o6.setCell (p:=⟨gb,y,vB⟩) (show w.1.size <= gb by omega) (.bool true)
     have d7:=Za d6 (dQ (i:=y) (c:=.bool true) pG.out);have DN:=zH (And.intro s7 (And.intro l7 (And.intro r7 (And.intro p7 (And.intro b7 (And.intro d7 o7))))));clear s6 l6 r6 k6 b6 d6 o6 s7 l7 r7 p7 b7 d7 o7 hy hyn hcu2;go_wp2
     go_roundw
     case rel =>
      obtain ⟨s7,l7,r7,p7,b7,d7,o7⟩:=DN.out;refine ⟨i+1,A4,n4,c4,cu2,Pc.out,by go_num,?_,l7,r7,p7,yG.out,b7,?_,o7⟩
      ·rw [<- uD.out];exact s7
      ·rw [<- uD.out];exact d7
     case measure=>have:=Pc.out;simp [intOf];omega
    ·obtain rfl:i=L.queries:=by omega
     obtain ⟨ch,Wp⟩:∃ ch:Nat -> Bool,ch=fun x=>((He Tq L.n L.queries).take L.queries).contains x:=⟨_,rfl⟩
     rw [<- Wp] at kb;have rT:=zH (show xq s all L.n L.queries=(List.range L.n).filter ch by rw [Wp];exact HTP.out)
     obtain ⟨sF,hsF⟩:=zEX (Gh a L.queries);rw [<- hsF] at ks Ui;have HSF:=zH hsF;have cl:=kl.cell;have KS:=zH ks;have KL:=zH kl;have KR:=zH kr;have KB:=zH kb;have HB:=zH ba;have HD:=zH Ui;have WS:=zH (show w.1.size+4 <= wr.1.size by have:=kr.lt;omega)
     clear ks kl kr kp kb ba Ui Wp hsF zI nk hkq q2 ta hi HTP;go_wp2_with fail
     go_loopw [15,16] (fun v y wf=>∃ j m:Nat,j <= L.n /\ y=vd vt j /\ Hid (m=((List.range j).filter ch).length) /\ m <= j /\ wf.ownsRow wr.1.size 3 1 v m (xf (Zf ((List.range j).filter ch))) /\ vz wr.1.size wr wf) (fun _ y _=>L.n-(intOf y).toNat)
     case atStart=>exact ⟨0,0,Rb _,rfl,rfl,zR,⟨rfl, .inl ⟨rfl,rfl⟩⟩,Bb _ _⟩
     case round =>
      obtain ⟨j,m,hj,rfl,HM,hmj,oa,Wa⟩:=hrel;have kl:=KL.out.below Wa KL.out.lt;have kb:=KB.out.below Wa KB.out.lt;have cl:=kl.cell;by_cases ta:j<L.n
      ·have g1:(0:Int)<=j:=by omega
       have g2:(j:Int)<L.n:=by omega
       have hcb:wr.cell? ⟨gb,j,vB⟩=_:=(kb.cell j).trans (TZ _ ta);have Xe:=zH (zEm ch j);have Eo:=zH (zDS ch j);have Pc:=zH ta;cases sw:ch j
       ·rw [sw] at hcb Xe Eo
        rw [mb zD,List.append_nil] at Xe;rw [mb zD,ot] at Eo;clear sw ta kl kb;go_wp2
        go_roundw
        case rel=>exact ⟨j+1,m,Pc.out,by go_num,by rw [Eo.out];exact HM.out,zO,by rw [Xe.out];exact oa,Wa⟩
        case measure=>have:=Pc.out;simp [intOf];omega
       ·rw [sw] at hcb Xe Eo
        rw [Gb rfl] at Xe Eo;clear sw ta kl kb;go_wp2_with (at_builtin;refine fe rfl _ _ rfl VN rfl (oa.alloc _) rfl (mh _ _ _) (tW [(j:Int)]) zO (by simp;have:=Wa.size;omega) ?_)
        intro v' wn Va Ja tb;have ja:=zA wr (.cells #[vd vt j] 3);have hB:=Ee (oa.alloc _) Ja (by simp;have:=Wa.size;omega)
        replace Wa:=(Pk Wa ja Wa.size).trans hB;have HO:=zH Va;clear oa Va Ja tb ja hB hcb cl;go_wp2
        go_roundw
        case rel=>exact ⟨j+1,m+1,Pc.out,by go_num,by rw [Eo.out,<- HM.out];rfl,zO,by rw [Xe.out];exact HO.out,Wa⟩
        case measure=>have:=Pc.out;simp [intOf];omega
      ·obtain rfl:j=L.n:=by omega
       obtain rfl:m=L.queries:=by rw [HM.out,<- rT.out];exact Cx.out
       rw [<- rT.out] at oa;have kx:=KS.out.below Wa KS.out.lt;have kr:=KR.out.below Wa KR.out.lt;have ba:=pa HB.out Wa;have OW:=zH oa;have HDF:=zH (Za HD.out (Yb Wa));have WS2:=zH (show w.1.size+4 <= wr.1.size by have:=Wa.size;have:=WS.out;omega)
       obtain ⟨pv,Nt⟩:=zEX (xq s all L.n L.queries);rw [<- Nt] at OW;have HPV:=zH Nt;clear kl kb oa Wa ta hj hmj Nt rT Cx HM;have Sq:=kx.cell;have Gr:=kx.lt;have Hr:w.1.size≠w.1.size+3:=by omega
       have ZC:=zH WS.out;go_wp2_with fail
       clear cl;refine Yc (Kj (w.1.size+3)) [3] [0,1,2,3] zK zK ?_;refine Td (Gd (w.1.size+3)) ?_;intro Wc Ca da;have Lg:=zH (show Blk Wc _ _ _ by rw [Ca.out];exact kr.drew)
       have df:=zH (show vz w.1.size w Wc by rw [Ca.out];exact ba.drew)
       replace HDF:=zH (Za HDF.out (show Od _ _ Wc by rw [Ca.out];exact Oo))
       replace OW:=zH (show Wc.ownsRow _ _ _ _ _ _ by rw [Ca.out];exact Ge OW.out fun _ _=>rfl)
       have Pq:=Lg.out.cell;have Uq:=Lg.out.frozen;clear Ca;refine Lk ?_;refine Bd (Gd (w.1.size+3)) rfl rfl rfl ?_;go_simp;refine ⟨UA [.bool sF.O.ideal,vd vq sF.O.st,vd vt sF.O.dr,ve A3 bu fJ,ve vB 0 0,ve vB 0 0,vd vq sF.st,vd vq sF.ct] 0 _,?_⟩
       refine zPU ?_
       refine Ec ?_;have kf:=ug [.bool sF.O.ideal,vd vq sF.O.st,vd vt sF.O.dr,ve A3 bu fJ,ve vB 0 0,ve vB 0 0,vd vq sF.st,vd vq sF.ct] Lg.out rfl;have Bc:=ak (xs:=[.bool sF.O.ideal,vd vq sF.O.st,vd vt sF.O.dr,ve A3 bu fJ,ve vB 0 0,ve vB 0 0,vd vq sF.st,vd vq sF.ct]) (g:=w.1.size+3) df.out zO;have Zq:=Za HDF.out (sj (g:=w.1.size+3) HNR.out [.bool sF.O.ideal,vd vq sF.O.st,vd vt sF.O.dr,ve A3 bu fJ,ve vB 0 0,ve vB 0 0,vd vq sF.st,vd vq sF.ct] Wc);have owf:=Bh (Ge OW.out (u:=Cc Wc (w.1.size+3) [.bool sF.O.ideal,vd vq sF.O.st,vd vt sF.O.dr,ve A3 bu fJ,ve vB 0 0,ve vB 0 0,vd vq sF.st,vd vq sF.ct] 0) fun b hb=>If (fun e=>by have h1:=(OW.out.lt b hb).1;have h2:=ZC.out;omega) _ 0 Wc) (Cb (Ou _ 4) ZC.out)
       simp only [Cc,yf,Nat.reduceAdd] at kf Bc Zq owf;generalize vE (vE (vE (vE (vE (vE (vE (vE (Wc) _ _) _ _) _ _) _ _) _ _) _ _) _ _) _ _=wf at kf Bc Zq owf |-;have cf:=kf.cell;clear Sq Gr Hr Pq Uq da;go_wp2;have hsf:=HSF.out;have Nt:=HPV.out;subst hsf Nt;exact Tc (by simp [results,results46,go_sem,cf]) rfl ⟨A3,bu,fJ,_,rfl,owf,Xp Zq HKO.out,Bc⟩
theorem zFk {w:vv} {g:Nat} {O:Oa} {F:Nat -> Prop} (h:OrcAt w g O F) (st ct:Nat) (Kf:st<18446744073709551616) (L:Xa) (hL:ed L) (P:Yg) (S:PS) (hP:Pm w P S) (hO:je O 800000) (hlen:(P.code++P.linear++P.quad).length <= 100000) :
  vA prog 76 #[.pointer (vD ⟨g,0,vB⟩),vf #[vd vq st,vd vq ct],vf (Eb L),vf (Hf P S)] w fun e w'=>∃ gr d F',e=vn (ve (vD ⟨gr,0,vB⟩) L.queries d) /\
   OrcAt w' g (WA ⟨O,st,ct⟩ (P.code++P.linear++P.quad) L.queries) F' /\ Moved F F' w w' /\ w'.ownsRow w.1.size 3 1 (ve (vD ⟨gr,0,vB⟩) L.queries d) L.queries (xf (Zf (xq ⟨O,st,ct⟩ (P.code++P.linear++P.quad) L.n L.queries))) /\ ¬F' gr:=by
 obtain ⟨ks,kl,kp,ba,db⟩:=Tp w 154 121 47 #[vd vq st,vd vq ct] (Eb L) (Hf P S);obtain ⟨q1,-,-,e1,r1⟩:=Mb hP.code;obtain ⟨q2,-,-,e2,r2⟩:=Mb hP.linear;obtain ⟨q3,-,-,e3,r3⟩:=Mb hP.quad;have hle:S.n1+S.n2+S.n3 <= 100000:=by simp at hlen;omega
 obtain ⟨all,Dg⟩:=zEX (P.code++P.linear++P.quad);have ao:∀ x∈all,x<18446744073709551616:=fun x hx=>by
  rw [Dg,Lq,Lq] at hx;rcases hx with (hx | hx) | hx
  ·exact e1 x hx
  ·exact e2 x hx
  ·exact e3 x hx
 have hqn:L.queries <= L.n:=by have:=hL.nk;have:=hL.k;omega
 have Tf:=hL.n2;have ay:=h.ok.ans;obtain ⟨Gy,xO⟩:=zEX (Pe O 18 (st :: 3 :: all));obtain ⟨O2,hO2⟩:=zEX (td O 18 (st :: 3 :: all));have HST2:=zH (show Gy<18446744073709551616 by rw [xO];exact Sp (kC ay 18 _))
 have Fo:=zH (show je O2 900000 by rw [hO2];exact ti (Vw hO 18 _) zD)
 have hT1:WA ⟨O,st,ct⟩ (P.code++P.linear++P.quad) L.queries=kd O2 19 (Up Gy 0 L.queries):=by rw [<- Dg,hO2,xO];rfl
 have hT2:xq ⟨O,st,ct⟩ (P.code++P.linear++P.quad) L.n L.queries=EC O2 Gy 0 L.n L.queries:=by rw [<- Dg,hO2,xO];rfl
 rw [hT1,hT2];have Zs:=zH xO;have Ho:=zH hO2;have fG:=zH Dg;have xg:=zH ao;have Jg:=zH (show all.length <= 100000 by rw [Dg];exact hlen)
 have Eu:=zH q1;have yx:=zH q2;have HN3:=zH q3;have R1:=zH r1;have R2:=zH r2;have R3:=zH r3;have qG:=zH h;have HO:=zH hO;have zi:=zH Kf;have HQN:=zH hqn;have HN:=zH Tf;have nF:∀ b,w.1.size <= b -> ¬F b:=fun b hb e=>by have:=h.lt b e;omega
 clear hT1 hT2 xO hO2 ay Tf hqn ao Dg hlen q1 q2 q3 e1 e2 e3 r1 r2 r3 hP hL hO Kf h db;unfold Eb Hf at *;go_enter func76,ntmps76
 go_upto_region 1 with fail
 generalize ((w.alloc _).alloc _).alloc _=w1 at ks kl kp ba |-;have cp:=kp.cell;have lp:=kp.lt;have Nc:=ba.size;have IG:=zA w1 (.cells #[] 22);have NA:=ju w1 22 (Ba w1.1.size);have Ff:=(R1.out.below ba).below IG;go_wp2_with (at_builtin;refine fe rfl _ _ rfl Ag rfl NA rfl Ff (Gf _) zO zS ?_)
 intro v2 w2 gu Xz Cw;have Da:=IG.trans (Ee NA Xz zS);replace ks:=ma ks Da;replace kl:=ma kl Da;replace kp:=ma kp Da;replace ba:=pa ba Da;clear cp NA Ff IG Xz Cw;have cp:=kp.cell;have Wk:=R2.out.below ba;go_wp2_with (at_builtin;refine fe rfl _ _ rfl Ag rfl gu rfl Wk (Gf _) zO (by exact Da.size) ?_)
 intro v3 w3 rq ov hk3;have Ta:=Ee gu ov Da.size;have lp0:w.1.size<w1.1.size:=by omega
 have lp1:w.1.size+1<w1.1.size:=by omega
 have ks3:=ks.below Ta lp0;have NH:=kl.below Ta lp1;have kp3:=kp.below Ta lp;have KJ:=ba.trans (Ta.mono Nc);have cI:=Cb Da.size Ta.size;clear cp gu Wk ov hk3 ks kl kp ba Ta;have cp:=kp3.cell;have Kw:=R3.out.below KJ;go_wp2_with (at_builtin;refine fe rfl _ _ rfl Ag rfl rq rfl Kw (Gf _) zO cI ?_)
 intro v4 w4 Yj Xn hk4;have Ub:=Ee rq Xn cI;have ks4:=ks3.below Ub lp0;have qy:=NH.below Ub lp1;have hb04:=KJ.trans (Ub.mono Nc);have Dm:w4.ownsRow w1.1.size 22 1 v4 (S.n1+S.n2+S.n3) (Qa all):=by
  rw [fG.out]
  simpa [Qa,Jx] using Yj
 obtain ⟨nv,hnv⟩:=zEX (S.n1+S.n2+S.n3);rw [<- hnv] at Dm;have hv4:∃ A' c',v4=ve A' nv c':=by obtain ⟨A',c',e,-⟩:=mc Dm;exact ⟨A',c',e⟩
 obtain ⟨Av,cv,rfl⟩:=hv4;have kG:=zH (vM Dm xg.out);have HB:=zH hb04;have nW0:=nF w.1.size zR;have nW1:=nF (w.1.size+1) (Ou _ _);obtain ⟨NQ,Dd⟩:=zEX (w4.1.size);have Vd:=zH Dd;have l0:w.1.size<NQ:=by rw [Dd];exact ks4.lt
 have l1:w.1.size+1<NQ:=by rw [Dd];exact qy.lt
 have cs:=ks4.cell;have cl:=qy.cell;clear cp rq Kw Xn hk4 Ub ks3 NH kp3 KJ Yj Dm ks4 qy hb04 Da Nc cI lp lp0 lp1 hnv Dd hle;go_upto_region 4 with fail
 have JP:Hid (Qh F NQ F w4):=zH (by rw [Vd.out];exact zCX (qG.out.below HB.out).lt)
 refine Ps (F) (F) (NQ) [4,9,15] [0,1,2,3,5,6,7,8,4,9,10,11,12] [(13,154,#[vd vq 0,vd vq 0])] [14,15] zK (ft.2 ⟨⟨_,rfl,rfl,fun a w=>by go_simp <;> rfl⟩,Kq _⟩) zK ?_
 refine Rs ?_;intro Wc Ca da;have Fa:Hid (Qh F NQ F Wc):=zH (by rw [Ca.out];exact ⟨JP.out.size,JP.out.lt,JP.out.old⟩)
 have H8:=zH (show OrcAt Wc g O F by rw [Ca.out];exact (qG.out.below HB.out).drew)
 have M8:=zH (show Moved F F w Wc by rw [Ca.out];exact uF (xe HB.out))
 have LP:=zH (show Kg _ Wc _ _ by rw [Ca.out];exact lF kG.out (w':=w4.drew) zR fun _ _ _=>rfl)
 clear Ca JP kG;refine Ig ?_;refine Hv (f:=?_) (vals:=?_) rfl rfl rfl Fa ?_ (fun wF Pa=>?_)
 rotate_left 3
 replace H8:=zH (H8.out.below Pa);replace LP:=zH (Dr LP.out Pa);replace M8:=zH (M8.out.trans (xe Pa));replace da:=zM (Kb F NQ) da (Ld Pa Fa.out.size);replace Fa:=zH (re Fa.out Pa);refine (uX H8.out st ct 3 Av nv cv all LP.out Jg.out zi.out zD (ti HO.out zD)).mono ?_
 rotate_left
 ·intro w_;go_simp <;> rfl
 rintro e w9 ⟨rfl,F4,h9,m9⟩;clear Pa;refine ⟨_,F4,rfl,m9,h9.lt,?_⟩;replace da:=zM (Kb F NQ) da (Ri Fa.out (m9));replace Fa:=zH (wk Fa.out (m9) (h9.lt));refine zPU ?_;rw [<- Ho.out] at h9;simp only [<- Zs.out];replace H8:=zH h9;replace M8:=zH (M8.out.trans m9);clear h9 m9 LP;refine Ig ?_;refine Hv (f:=?_) (vals:=?_) rfl rfl rfl Fa ?_ (fun wF Pa=>?_)
 rotate_left 3
 replace H8:=zH (H8.out.below Pa);replace M8:=zH (M8.out.trans (xe Pa));replace da:=zM (Kb F NQ) da (Ld Pa Fa.out.size);replace Fa:=zH (re Fa.out Pa);refine (zFO H8.out Gy 0 L.n L.queries HN.out HQN.out HST2.out zD Fo.out).mono ?_
 rotate_left
 ·intro w_;go_simp <;> rfl
 rintro e tu ⟨gr,dr,F5,rfl,h10,Zt,X6,nr5⟩;clear Pa;refine ⟨_,F5,rfl,Zt,h10.lt,?_⟩;replace da:=zM (Kb F NQ) da (Ri Fa.out (Zt));replace Fa:=zH (wk Fa.out (Zt) (h10.lt));refine zPU ?_;have OW:=zH (Bh X6 M8.out.size);replace H8:=zH h10;replace M8:=zH (M8.out.trans Zt);clear h10 Zt X6;refine Ig ?_;refine Qs [(vD 11,13)] rfl Fa (fun xk wE Db sf=>?_)
 have qJ:=sf.blk _ (.head _) rfl;clear sf;unfold jl il;simp only [List.foldl];dsimp only at qJ
 generalize xk 13=g13 at qJ  |-;obtain ⟨CA,kM,GH⟩:=qJ;replace H8:=zH (H8.out.below Db);replace M8:=zH (M8.out.trans (xe Db));replace OW:=zH (yb OW.out Db zR);replace da:=zM (Kb F NQ) da (Ld Db Fa.out.size);replace Fa:=zH (re Fa.out Db)
 refine zPU ?_
 have cE0:=CA.cell 0;have cE1:=CA.cell 1;have fE:=CA.frozen;have lE:w.1.size <= g13:=by omega
 refine Gm ?_;refine Bd (Kb F NQ) rfl rfl rfl ?_;go_simp;refine ⟨Ld ((ZL _ _ kM).trans (ZL _ _ kM)) zR,?_⟩
 refine zPU ?_
 refine Ec ?_;have OWE:=zH (JM OW.out CA zD);have Ra:gr≠g13:=fun e=>OWE.out gr rfl (by rw [e])
 have M9:=Hk (Hk M8.out lE 0 (vd vq Gy)) lE 1 (vd vq L.queries);have H9:=(H8.out.set GH (vd vq Gy) (i:=0)).set GH (vd vq L.queries) (i:=1);have OW9:=Ge OW.out (u:=(wE.setCell ⟨g13,0,vB⟩ (vd vq Gy)).setCell ⟨g13,1,vB⟩ (vd vq L.queries)) fun b hb=>by
  obtain rfl:gr=b:=Pb hb;rw [Tg _ ⟨g13,1,vB⟩ _ gr Ra,Tg _ ⟨g13,0,vB⟩ _ gr Ra]
 generalize ((wE.setCell ⟨g13,0,vB⟩ (vd vq Gy)).setCell ⟨g13,1,vB⟩ (vd vq L.queries))=wZ at M9 H9 OW9 |-;clear cE0 cE1 fE da;go_wp2;go_ret
 exact ⟨gr,dr,F5,rfl,H9,M9,OW9,nr5⟩
theorem zHn (O:Oa) (st ct root:Nat):(oh ⟨O,st,ct⟩ root).O=td (td (td (td O 18 [st,2,root]) 19 [Pe O 18 [st,2,root],0]) 19 [Pe O 18 [st,2,root],1]) 19 [Pe O 18 [st,2,root],2]:=rfl
theorem S6 {O:Oa} {k:Nat} (h:je O k) (st ct root:Nat):je (oh ⟨O,st,ct⟩ root).O (k+4):=by
 rw [zHn];exact Vw (Vw (Vw (Vw h 18 _) 19 _) 19 _) 19 _
theorem zE4 {w:vv} {g:Nat} {O:Oa} {F K:Nat -> Prop} (h:OrcAt w g O F) (L:Xa) (j:Nat) (hL:ed L) (hn:L.n=2^j) (hj:j <= 10) (Nb:L.p<18446744073709551616) (p:Nat) (pub:Nat) (vars:Int) (T B:Option vx) (R cT m d:Nat) (rows:List Ya) (l:List Nat) (P:Yg) (S:PS)
  (hr:RSl 3 Ue w [ve T R cT] rows) (hD:aB p (pub:Int) vars rows) (jb:Ad p (pub:Int) vars rows=true) (hl:RWd w [ve B m d] l) (hP:Hd K w fun u=>Pm u P S) (hK:∀ b,K b -> ¬F b) (hO:je O 700000)
  (hv:Is L j P=true) (hm:m=pub) (ue:m <= 90000) (Zb:l.all (fun x=>decide (x<L.p))=true) (hlen:(P.code++P.linear++P.quad).length <= 100000) (XQ:P.root<18446744073709551616) :
  vA prog 116 #[.pointer (vD ⟨g,0,vB⟩),vf (Eb L),Kc p (pub:Int) vars (ve T R cT),ve B m d,vf (Hf P S)] w fun e w' =>
   ∃ gr dd F',e=vn (.tuple #[vf #[vd vq ((Em (qg O L (Cf p (pub:Int) vars rows) l) L.p P.root).al:Int),vd vq ((Em (qg O L (Cf p (pub:Int) vars rows) l) L.p P.root).rh:Int),vd vq ((Em (qg O L (Cf p (pub:Int) vars rows) l) L.p P.root).be:Int)],ve (vD ⟨gr,0,vB⟩) L.queries dd]) /\
    OrcAt w' g (WA (oh (qg O L (Cf p (pub:Int) vars rows) l) P.root) (P.code++P.linear++P.quad) L.queries) F' /\ Moved F F' w w' /\
    w'.ownsRow w.1.size 3 1 (ve (vD ⟨gr,0,vB⟩) L.queries dd) L.queries (xf (Zf (xq (oh (qg O L (Cf p (pub:Int) vars rows) l) P.root) (P.code++P.linear++P.quad) L.n L.queries))) /\ ¬F' gr:=by
 obtain ⟨kl,kt,kp,kr,ba,db⟩:=dJ w 121 25 47 161 (Eb L) #[vd vq p,vd vt pub,vd vt vars,ve T R cT] (Hf P S) #[vd vq 0,vd vq 0,vd vq 0];have HV:=zH (fun w1 (hb:vz w.1.size w w1)=>by have:=C7 L j P S w1 hL hn hj (Wn hP (Yb hb));rw [hv] at this;exact this)
 have HBl:=zH (fun w1 (hb:vz w.1.size w w1)=>by have:=BY B m d l L.p w1 (Sa hb hl);exact this)
 rw [Zb] at HBl;obtain ⟨dg,mv⟩:=zEX (Cf p (pub:Int) vars rows);obtain ⟨s1,Nc⟩:=zEX (qg O L dg l);have h10:s1.ct=0:=by rw [Nc];rfl
 have hs1l:s1.st<18446744073709551616:=by rw [Nc];exact Sp (kC h.ok.ans 18 _)
 have BV:je s1.O 700001:=by rw [Nc];exact Vw hO 18 _
 have Oy:=zH (fun w1 (hb:vz w.1.size w w1)=>by have:=zE3 (h.below hb) L hL p (pub:Int) vars T B R cT m d rows l (jg Qg _ _ _ _ hb hr) hD jb (Sa hb hl) (ti hO zD) (by rw [<- (Mb hl).1];exact ue);rw [<- mv,<- Nc] at this;exact this)
 rw [<- mv,<- Nc];have Zo:0<L.p:=by have:=tc hL.p;omega
 have qG:=zH h;have HP:=zH hP;have HK:=zH hK;have Dq:=zH hL;have ai:=zH (And.intro h10 (And.intro hs1l BV));have pD:=zH (And.intro Zo (And.intro Nb XQ));have Yy:=zH hlen;have HS3:=zH (And.intro (show (oh s1 P.root).st<18446744073709551616 from Sp (kC (by rw [Nc];exact NU h.ok.ans 18 _) 18 _)) (show je (oh s1 P.root).O 800000 from ti (S6 (ct:=s1.ct) BV s1.st P.root) zD))
 have nF:∀ b,w.1.size <= b -> ¬F b:=fun b hb e=>by have:=h.lt b e;omega
 subst hm;obtain ⟨s2,Pg⟩:=zEX (oh s1 P.root);obtain ⟨ch,Wp⟩:=zEX (Em s1 L.p P.root);have iB:=zH (show Em ⟨s1.O,s1.st,0⟩ L.p P.root=ch from Wp.symm)
 have Zs:=zH (show oh ⟨s1.O,s1.st,0⟩ P.root=s2 from Pg.symm)
 have HS2':=zH Pg;rw [<- Pg,<- Wp];rw [<- Pg] at HS3;clear Pg Wp;clear h hL hn hj Nb hr hD jb hl hP hK hO hv ue Zb hlen XQ mv Nc h10 hs1l BV Zo db;unfold Eb Hf Kc at *;have d1:((m:Int)!=m)=false:=by simp
 go_enter func116,ntmps116
 go_upto_region 1 with fail
 generalize (((w.alloc _).alloc _).alloc _).alloc _=w1 at kl kt kp kr ba |-;have cl:=kl.cell;have cp:=kp.cell;go_wp2_with fail
 refine (HV.out w1 ba).mono ?_;rintro e w2 ⟨rfl,Da⟩;replace kl:=ma kl Da;replace kt:=ma kt Da;replace kp:=ma kp Da;replace kr:=ma kr Da;replace ba:=pa ba Da;clear cl cp Da;have ct:=kt.cell;have cl:=kl.cell;go_wp2_with fail
 refine (HBl.out w2 ba).mono ?_;rintro e _ ⟨rfl,rfl⟩;obtain ⟨NQ,Dd⟩:=zEX (w2.1.size);have l0:w.1.size<NQ:=by rw [Dd];exact kl.lt
 have l1:w.1.size+1<NQ:=by rw [Dd];exact kt.lt
 have l2:w.1.size+2<NQ:=by rw [Dd];exact kp.lt
 have n0:=nF w.1.size zR;have n1:=nF (w.1.size+1) (Ou _ _);have n2:=nF (w.1.size+2) (Ou _ _);have cl:=kl.cell;have ct:=kt.cell;have cp:=kp.cell;have Vd:=zH Dd;have KL:=zH kl;have KP:=zH kp;have KR:=zH kr;have HB:=zH ba;clear Dd kl kt kp kr ba;go_upto_region 3 with fail
 refine Ps (F) (F) (NQ) [5,9,15,16] [0,1,2,3,4,6,7,8,5,9,10,11,12] [(13,161,#[vd vq 0,vd vq 0,vd vq 0]),(14,154,#[vd vq 0,vd vq 0])] [15,16] zK (ft.2 ⟨⟨_,rfl,rfl,fun a w=>by go_simp <;> rfl⟩,ft.2 ⟨⟨_,rfl,rfl,fun a w=>by go_simp <;> rfl⟩,Kq _⟩⟩) zK ?_
 refine Rs ?_;intro Wc Ca da;have oc:=zH (show vz w.1.size w Wc by rw [Ca.out];exact HB.out.drew)
 have Fa:Hid (Qh F NQ F Wc):=zH (by rw [Ca.out,Vd.out];exact ⟨zR,(qG.out.below HB.out).lt,fun _ _ h=>h⟩)
 have M8:=zH (show Moved F F w2 Wc by rw [Ca.out];exact uF (xe (Bb _ _)))
 clear Ca;refine Ig ?_;refine Hv (f:=?_) (vals:=?_) rfl rfl rfl Fa ?_ (fun wF Pa=>?_)
 rotate_left 3
 replace oc:=zH (pa oc.out Pa);replace M8:=zH (M8.out.trans (xe Pa));replace da:=zM (Kb F NQ) da (Ld Pa Fa.out.size);replace Fa:=zH (re Fa.out Pa);refine (Oy.out wF oc.out).mono ?_
 rotate_left
 ·intro w_;go_simp <;> rfl
 rintro e wA ⟨rfl,F1,h1,m1⟩;clear Pa;refine ⟨_,F1,rfl,m1,h1.lt,?_⟩;replace da:=zM (Kb F NQ) da (Ri Fa.out (m1));replace Fa:=zH (wk Fa.out (m1) (h1.lt));refine zPU ?_;have H8:=zH h1;replace M8:=zH (M8.out.trans m1);clear h1 m1 oc;refine Ig ?_;refine Hv (f:=?_) (vals:=?_) rfl rfl rfl Fa ?_ (fun wF Pa=>?_)
 rotate_left 3
 replace H8:=zH (H8.out.below Pa);replace M8:=zH (M8.out.trans (xe Pa));replace da:=zM (Kb F NQ) da (Ld Pa Fa.out.size);replace Fa:=zH (re Fa.out Pa);refine (zE7 H8.out s1.st 0 ai.out.2.1 L pD.out.1 pD.out.2.1 P.root pD.out.2.2 (ti ai.out.2.2 zD)).mono ?_
 rotate_left
 ·intro w_;go_simp <;> rfl
 rintro e wB ⟨rfl,F2,h2,m2⟩;clear Pa;refine ⟨_,F2,rfl,m2,h2.lt,?_⟩;replace da:=zM (Kb F NQ) da (Ri Fa.out (m2));replace Fa:=zH (wk Fa.out (m2) (h2.lt));refine zPU ?_;rw [Zs.out] at h2;simp only [iB.out,Zs.out];replace H8:=zH h2;replace M8:=zH (M8.out.trans m2);clear h2 m2;refine Ig ?_;refine Qs [(vD 12,13),(vD 13,14)] rfl Fa (fun xk wE Db sf=>?_)
 have qJ:=sf.blk _ (.head _) rfl;have rJ:=sf.blk _ (.tail _ (.head _)) rfl;have DM:=sf.dif _ (.head _) _ (.tail _ (.head _)) rfl rfl zD;clear sf;unfold jl il;simp only [List.foldl];dsimp only at qJ rJ DM
 generalize xk 13=g13 at qJ DM |-;obtain ⟨CA,kM,GH⟩:=qJ;generalize xk 14=g14 at rJ DM |-;obtain ⟨dF,lM,JH⟩:=rJ;replace H8:=zH (H8.out.below Db);replace M8:=zH (M8.out.trans (xe Db));replace da:=zM (Kb F NQ) da (Ld Db Fa.out.size);replace Fa:=zH (re Fa.out Db)
 refine zPU ?_
 have CO:w2.1.size <= g13:=by rw [<- Vd.out];exact kM
 have tR:w2.1.size <= g14:=by rw [<- Vd.out];exact lM
 have KRL:=zH (show w.1.size+3<g13 /\ w.1.size+3<g14 from ⟨Be KR.out.lt CO,Be KR.out.lt tR⟩)
 have c13:=CA.cell;have f13:=CA.frozen;refine Gm ?_;refine Bd (Kb F NQ) rfl rfl rfl ?_;go_simp;refine ⟨Ld (Dy kM [vd vq ch.al,vd vq ch.rh,vd vq ch.be] 0 _) zR,?_⟩
 refine zPU ?_
 have dR:=ug [vd vq ch.al,vd vq ch.rh,vd vq ch.be] CA rfl;have eR:=(If (g:=g13) (b:=g14) (fun e=>DM e.symm) [vd vq ch.al,vd vq ch.rh,vd vq ch.be] 0 wE).trans dF
 simp only [Cc,yf,Nat.reduceAdd] at dR eR;have h9:=zH (((H8.out.set GH (vd vq ch.al) (i:=0)).set GH (vd vq ch.rh) (i:=1)).set GH (vd vq ch.be) (i:=2));have m9:=zH (Hk (Hk (Hk M8.out CO 0 (vd vq ch.al)) CO 1 (vd vq ch.rh)) CO 2 (vd vq ch.be));generalize vE (vE (vE wE _ _) _ _) _ _=wG at dR eR h9 m9 |-;have iR:Blk wG g14 _ _:=eR;have Ez:=iR.cell;have f14:=iR.frozen;have K13:=zH dR;clear c13 f13 CA dF dR eR da Fa H8 M8 Db;have da:=(Kb F NQ).refl wG;refine Gm ?_;refine Bd (Kb F NQ) rfl rfl rfl ?_;go_simp;refine ⟨Ld ((ZL _ _ lM).trans (ZL _ _ lM)) zR,?_⟩
 refine zPU ?_
 refine Ec ?_;have QV:=cJ iR 0 1 (vd vq s2.st) (vd vq 3);have OV:=(K13.out.far (p:=⟨g14,0,vB⟩) DM (vd vq s2.st)).far (p:=⟨g14,1,vB⟩) DM (vd vq 3);have h10:=(h9.out.set JH (vd vq s2.st) (i:=0)).set JH (vd vq 3) (i:=1);have Zt:=Hk (Hk m9.out tR 0 (vd vq s2.st)) tR 1 (vd vq 3);generalize vE (vE wG _ _) _ _=wZ at QV OV h10 Zt |-;have PV:Blk wZ g14 154 #[vd vq s2.st,vd vq 3]:=by simpa using QV
 have klz:=KL.out.moved Zt n0;have kpz:=KP.out.moved Zt n2;have n3:=nF (w.1.size+3) (Ou _ _);have krz:=KR.out.moved Zt n3;have n3z:=qi Zt KR.out.lt n3;have nlz:=qi Zt KL.out.lt n0;have npz:=qi Zt KP.out.lt n2;have MZ:=zH ((xe (F:=F) HB.out).trans Zt);have HZ:=zH h10;clear Ez f14 da QV iR K13 h9 m9 h10 Zt KL KP KR cl ct cp l0 l1 l2;have NV:Blk wZ g13 161 #[vd vq ch.al,vd vq ch.rh,vd vq ch.be]:=OV;have nz13:¬F2 g13:=GH;have nz14:¬F2 g14:=JH;obtain ⟨NZ,hNZ⟩:=zEX (wZ.1.size);have l13:g13<NZ:=by rw [hNZ];exact NV.lt
 have l14:g14<NZ:=by rw [hNZ];exact PV.lt
 have ll:w.1.size<NZ:=by rw [hNZ];exact klz.lt
 have lp:w.1.size+2<NZ:=by rw [hNZ];exact kpz.lt
 have q13:g13≠w.1.size+3:=fun e=>by have:=KRL.out;omega
 have q14:g14≠w.1.size+3:=fun e=>by have:=KRL.out;omega
 obtain ⟨V0,wm⟩:∃ V0:Nat -> Prop,V0=fun b=>F2 b \/ b=w.1.size+3:=⟨_,rfl⟩
 have w13:¬V0 g13:=by rw [wm];exact fun e=>e.elim nz13 q13
 have w14:¬V0 g14:=by rw [wm];exact fun e=>e.elim nz14 q14
 have wl:¬V0 w.1.size:=by rw [wm];exact fun e=>e.elim nlz (fun e=>zO)
 have wp:¬V0 (w.1.size+2):=by rw [wm];exact fun e=>e.elim npz (fun e=>zO)
 have pz:=zH (show V0 (w.1.size+3) by rw [wm];exact .inr rfl)
 have HV1:=zH (show ∀ b,F2 b -> V0 b from fun b e=>by rw [wm];exact .inl e)
 have c13:=NV.cell;have Ez:=PV.cell;have cl:=klz.cell;have cp:=kpz.cell;have KR:=zH krz;have HNZ:=zH hNZ;have AG:=zH (IL (K:=K) MZ.out HK.out);clear NV OV PV klz kpz krz hNZ wm nlz npz nz13 nz14 GH JH kM lM CO tR q13 q14;go_upto_region 4 with fail
 have qD:=zH (fun w1 F1 (h1:OrcAt w1 g s2.O F1) (Lc:Pm w1 P S)=>by have:=zFk h1 s2.st 3 HS3.out.1 L Dq.out P S Lc HS3.out.2 Yy.out;unfold Eb Hf at this;exact this)
 refine Ps (V0) (F2) (NZ) [5,6] [0,1,2,3,4,5] [] [6,7] zK (Kq _) zK ?_;refine Rs ?_;intro Wc Ca da;have Fa:Hid (Qh V0 NZ F2 Wc):=zH (by rw [Ca.out,HNZ.out];exact ⟨zR,HZ.out.lt,fun b _ h=>HV1.out b h⟩)
 have H8:=zH (show OrcAt Wc g s2.O F2 by rw [Ca.out];exact HZ.out.drew)
 have M8:=zH (show Moved F F2 w Wc by rw [Ca.out];exact uF MZ.out)
 have KR8:=zH (show Blk Wc _ _ _ by rw [Ca.out];exact KR.out.drew)
 have HP8:=zH (show Hd K Wc _ by rw [Ca.out];exact Za HP.out (Rx AG.out Oo))
 clear Ca HZ MZ KR HP AG;refine Ig ?_;refine Hv (f:=?_) (vals:=?_) rfl rfl rfl Fa ?_ (fun wF Pa=>?_)
 rotate_left 3
 replace H8:=zH (H8.out.below Pa);replace M8:=zH (M8.out.trans (xe Pa));replace KR8:=zH (KR8.out.below Pa KR8.out.lt);replace HP8:=zH (Za HP8.out (Yb Pa));replace da:=zM (Kb V0 NZ) da (Ld Pa Fa.out.size);replace Fa:=zH (re Fa.out Pa);refine (qD.out wF F2 H8.out (ym HP8.out)).mono ?_
 rotate_left
 ·intro w_;go_simp <;> rfl
 rintro e wB ⟨gr,dr,F3,rfl,h3,m3,rq,n3r⟩;clear Pa;refine ⟨_,F3,rfl,m3,h3.lt,?_⟩;replace da:=zM (Kb V0 NZ) da (Ri Fa.out (m3));replace Fa:=zH (wk Fa.out (m3) (h3.lt));refine zPU ?_;have OW:=zH (Bh rq M8.out.size);have UI:=zH (KR8.out.moved m3 n3z);have n39:=qi m3 KR8.out.lt n3z;replace H8:=zH h3;replace M8:=zH (M8.out.trans m3);clear h3 m3 rq KR8 HP8;refine Ig ?_;refine Qs [] rfl Fa (fun xk wE Db sf=>?_)
 clear sf;unfold jl
 try simp only [List.foldl]
 replace H8:=zH (H8.out.below Db);replace M8:=zH (M8.out.trans (xe Db));replace UI:=zH (UI.out.below Db UI.out.lt);replace OW:=zH (yb OW.out Db zR);replace da:=zM (Kb V0 NZ) da (Ld Db Fa.out.size);replace Fa:=zH (re Fa.out Db)
 refine zPU ?_
 clear Db;have cr:=UI.out.cell;have fr:=UI.out.frozen;refine Gm ?_;refine Bd (Kb V0 NZ) rfl rfl rfl ?_;go_simp;refine ⟨YB pz.out [vd vq ch.al,vd vq ch.rh,vd vq ch.be] _,?_⟩
 refine zPU ?_
 have kf:=ug [vd vq ch.al,vd vq ch.rh,vd vq ch.be] UI.out rfl;simp only [Cc,yf,Nat.reduceAdd] at kf;have h9:=((H8.out.set n39 (vd vq ch.al) (i:=0)).set n39 (vd vq ch.rh) (i:=1)).set n39 (vd vq ch.be) (i:=2);have lr:w.1.size <= w.1.size+3:=Ou _ _;have m9:=Hk (Hk (Hk M8.out lr 0 (vd vq ch.al)) lr 1 (vd vq ch.rh)) lr 2 (vd vq ch.be);have OWE:=zH (JM OW.out UI.out zD);have Ra:gr≠w.1.size+3:=fun e=>OWE.out gr rfl (by rw [e])
 have OW9:=Ge OW.out (u:=((wE.setCell ⟨w.1.size+3,0,vB⟩ (vd vq ch.al)).setCell ⟨w.1.size+3,1,vB⟩ (vd vq ch.rh)).setCell ⟨w.1.size+3,2,vB⟩ (vd vq ch.be)) fun b hb=>by
  obtain rfl:gr=b:=Pb hb;rw [Tg _ ⟨w.1.size+3,2,vB⟩ _ gr Ra,Tg _ ⟨w.1.size+3,1,vB⟩ _ gr Ra,Tg _ ⟨w.1.size+3,0,vB⟩ _ gr Ra]
 generalize vE (vE (vE wE _ _) _ _) _ _=wf at kf h9 m9 OW9 |-;have cf:=kf.cell;clear cr fr da Fa;have da:=(Kb V0 NZ).refl wf;refine Gm ?_;refine Ec ?_;go_wp2;exact Tc (by simp [results,results116,go_sem,cf]) rfl ⟨gr,dr,F3,rfl,h9,m9,OW9,n3r⟩
def eu (real:Bool) (de:Nat):Oa:=if real then ⟨false,0,0,[]⟩ else ⟨true,de,0,[]⟩
abbrev JN (p:Nat) (pub vars:Int) (A B:Option vx) (n c m d:Nat) (bl bw qs ke:Int) (real:Bool) (de:Nat):Array vw :=
 #[vd vq p,vd vt pub,vd vt vars,ve A n c,vd vt bl,vd vt bw,vd vt qs,ve B m d,vd vq ke, .bool real,vd vq de]
theorem zGV (real:Bool) (de:Nat) (h:de<18446744073709551616):jm (eu real de) 0:=by
 cases real
 ·exact ⟨fun _ q hq=>by simp [eu] at hq,fun q hq=>by simp [eu] at hq,by simp [eu,je],by simpa [eu] using h⟩
 ·exact ⟨fun _ q hq=>by simp [eu] at hq,fun q hq=>by simp [eu] at hq,by simp [eu,je],by simp [eu]⟩
theorem zHP {O:Oa} {k:Nat} (h:jm O k) (L:Xa) (dg:Nat) (pub:List Nat):Qm (qg O L dg pub) (k+1) 0 :=
 ES (s:=⟨O,20,0⟩) (c:=0) ⟨h,by show (20:Nat)<18446744073709551616;omega,zR⟩ 1 _
theorem zHQ {s:Tr} {k c:Nat} (h:Qm s k c) (root:Nat):Qm (oh s root) (k+4) 3 :=
 YM (YM (YM (ES h 2 [root])))
theorem VW {l:List Nat} {n:Int} {p:Nat} (h:Js l n p=true):(l.length:Int)=n:=by
 unfold Js at h;simp only [Pd,Qk] at h;exact h.2
theorem zFS {L:Xa} {j:Nat} {P:Yg} (h:Is L j P=true):P.code.length=L.k /\ P.linear.length=L.k+L.block-1 /\ P.quad.length=2*L.k-1:=by
 unfold Is at h;simp only [Pd] at h;have h1:=VW h.2.1;have h2:=VW h.2.2.1;have h3:=VW h.2.2.2.1;omega
theorem zFV {L:Xa} {j:Nat} {P:Yg} (hL:ed L) (h:Is L j P=true):(P.code++P.linear++P.quad).length <= 100000:=by
 obtain ⟨h1,h2,h3⟩:=zFS h;have a:=hL.k;have b:=hL.b2;have c:=hL.q2;simp only [Pp];omega
theorem zBz (w:vv) (t1 t2 t3 t4 t5:vy) (pc Hc Jd Bf Wh:Array vw) :
  Blk (((((w.alloc (.cells pc t1)).alloc (.cells Hc t2)).alloc (.cells Jd t3)).alloc (.cells Bf t4)).alloc (.cells Wh t5)) w.1.size t1 pc /\ Blk (((((w.alloc (.cells pc t1)).alloc (.cells Hc t2)).alloc (.cells Jd t3)).alloc (.cells Bf t4)).alloc (.cells Wh t5)) (w.1.size+1) t2 Hc /\ Blk (((((w.alloc (.cells pc t1)).alloc (.cells Hc t2)).alloc (.cells Jd t3)).alloc (.cells Bf t4)).alloc (.cells Wh t5)) (w.1.size+1+1) t3 Jd /\ Blk (((((w.alloc (.cells pc t1)).alloc (.cells Hc t2)).alloc (.cells Jd t3)).alloc (.cells Bf t4)).alloc (.cells Wh t5)) (w.1.size+1+1+1) t4 Bf /\ Blk (((((w.alloc (.cells pc t1)).alloc (.cells Hc t2)).alloc (.cells Jd t3)).alloc (.cells Bf t4)).alloc (.cells Wh t5)) (w.1.size+1+1+1+1) t5 Wh /\
   vz w.1.size w (((((w.alloc (.cells pc t1)).alloc (.cells Hc t2)).alloc (.cells Jd t3)).alloc (.cells Bf t4)).alloc (.cells Wh t5)) /\ (((((w.alloc (.cells pc t1)).alloc (.cells Hc t2)).alloc (.cells Jd t3)).alloc (.cells Bf t4)).alloc (.cells Wh t5)).1.size=w.1.size+5:=by
 obtain ⟨h1,h2,h3,h4,h5,h6⟩:=dJ w t1 t2 t3 t4 pc Hc Jd Bf;refine ⟨h1.alloc _,h2.alloc _,h3.alloc _,h4.alloc _,?_,h5.alloc zO _,zS⟩;have:=Blk.new ((((w.alloc (.cells pc t1)).alloc (.cells Hc t2)).alloc (.cells Jd t3)).alloc (.cells Bf t4)) t5 Wh;rw [h6] at this;exact this
theorem boxes6 (w:vv) (t1 t2 t3 t4 t5 t6:vy) (pc Hc Jd Bf Wh WB:Array vw) :
  Blk ((((((w.alloc (.cells pc t1)).alloc (.cells Hc t2)).alloc (.cells Jd t3)).alloc (.cells Bf t4)).alloc (.cells Wh t5)).alloc (.cells WB t6)) w.1.size t1 pc /\ Blk ((((((w.alloc (.cells pc t1)).alloc (.cells Hc t2)).alloc (.cells Jd t3)).alloc (.cells Bf t4)).alloc (.cells Wh t5)).alloc (.cells WB t6)) (w.1.size+1) t2 Hc /\ Blk ((((((w.alloc (.cells pc t1)).alloc (.cells Hc t2)).alloc (.cells Jd t3)).alloc (.cells Bf t4)).alloc (.cells Wh t5)).alloc (.cells WB t6)) (w.1.size+1+1) t3 Jd /\ Blk ((((((w.alloc (.cells pc t1)).alloc (.cells Hc t2)).alloc (.cells Jd t3)).alloc (.cells Bf t4)).alloc (.cells Wh t5)).alloc (.cells WB t6)) (w.1.size+1+1+1) t4 Bf /\ Blk ((((((w.alloc (.cells pc t1)).alloc (.cells Hc t2)).alloc (.cells Jd t3)).alloc (.cells Bf t4)).alloc (.cells Wh t5)).alloc (.cells WB t6)) (w.1.size+1+1+1+1) t5 Wh /\ Blk ((((((w.alloc (.cells pc t1)).alloc (.cells Hc t2)).alloc (.cells Jd t3)).alloc (.cells Bf t4)).alloc (.cells Wh t5)).alloc (.cells WB t6)) (w.1.size+1+1+1+1+1) t6 WB /\
   vz w.1.size w ((((((w.alloc (.cells pc t1)).alloc (.cells Hc t2)).alloc (.cells Jd t3)).alloc (.cells Bf t4)).alloc (.cells Wh t5)).alloc (.cells WB t6)) /\ ((((((w.alloc (.cells pc t1)).alloc (.cells Hc t2)).alloc (.cells Jd t3)).alloc (.cells Bf t4)).alloc (.cells Wh t5)).alloc (.cells WB t6)).1.size=w.1.size+6:=by
 obtain ⟨h1,h2,h3,h4,h5,h6,h7⟩:=zBz w t1 t2 t3 t4 t5 pc Hc Jd Bf Wh;refine ⟨h1.alloc _,h2.alloc _,h3.alloc _,h4.alloc _,h5.alloc _,?_,h6.alloc zO _,zS⟩;have:=Blk.new (((((w.alloc (.cells pc t1)).alloc (.cells Hc t2)).alloc (.cells Jd t3)).alloc (.cells Bf t4)).alloc (.cells Wh t5)) t6 WB;rw [h7] at this;exact this
theorem zDT (s:Tr) (all:List Nat) (n q:Nat) (h:q <= n):(xq s all n q).length=q:=bW _ _ _ _ _ h
theorem WY {L:Xa} {r:List (List Nat)} {co li qu sa:List Nat} (h:iJ L r co li qu sa=true):sa.length=L.n /\ Uc sa=true:=by
 unfold iJ Hz at h;simp only [Pd,Ru] at h;exact ⟨h.2.2.2.2.2.1,h.2.2.2.2.2.2⟩
theorem CR {p:Nat} {pub vars:Int} {rows:List Ya} {bl bw qs:Int} {L:Xa} (ht:Ad p pub vars rows=true) (hf:aw L ⟨p,pub,vars,rows.length,bl,bw,qs⟩):mo p pub vars rows bl bw qs=0:=by
 unfold mo;rw [Gb ht];exact hf.err
theorem hd_rrx {B:Nat} {w:vv} {v:vw} {l:List (List Nat)} (h:RRx B w v l):Hd (fun b=>B <= b /\ b<w.1.size) w fun u=>Ye u [v] l:=fun _ a=>h.2 _ fun b h1 h2=>a.block b ⟨h1,h2⟩ h2
def YH (L:Xa) (j pu:Nat) (vars:Int) (rows:List Ya) (ws:List Nat) (ke:Nat):PvIn :=
 ⟨L,j,pu,Cf L.p (pu:Int) vars rows,rows,ws,xF L rows ws pu,Cy L ke (L.a+L.b+L.b+L.b),wi L.p ke [1] L.k,wi L.p ke [2] (L.k+L.block-2),wi L.p ke [3] (L.block+2*L.queries-1),wi Ob ke [4] L.n⟩
theorem VT {p:Nat} {vars:Int} {ws:List Nat} (h:UT p vars ws=true):(ws.length:Int)=vars /\ ws.getD 0 0=1 /\ (ws.all fun y=>decide (y<p))=true:=by
 unfold UT at h;simp only [Pd,uo,fw] at h;exact ⟨h.1.1.1,by have:=h.1.2;omega,h.2⟩
theorem zDo {K:Nat -> Prop} {w:vv} {A:Option vx} {n c:Nat} {l:List Nat} (h:Hd K w fun u=>RWd u [ve A n c] l) {i:Nat} (hi:i<l.length):n=l.length /\ ∃ b q,A=vD ⟨b,q,vB⟩ /\ K b /\ b<w.1.size /\ w.cell? ⟨b,q+i,vB⟩=vD (vd vq ((l.getD i 0:Nat):Int)):=by
 obtain ⟨hn,-,-,-,hr⟩:=Mb (ym h);rw [hn] at hr;obtain ⟨b,q,rfl,hb,hc⟩:=Ve hr hi;refine ⟨hn,b,q,rfl,rI fun hK=>?_,hb,hc⟩
 obtain ⟨KE,-,-,-,iq⟩:=Mb (h (MF w b) (eQ hK));rw [KE] at iq;obtain ⟨b',q',e,-,So⟩:=Ve iq hi
 injection e with e
 injection e with e1 e2
 subst e1 e2;rw [yS hb] at So;cases So
section
variable {L:Xa} {j pu ke:Nat} {vars:Int} {rows:List Ya} {ws:List Nat} {bl bw qs:Int} {O:Oa} {k:Nat}
end
def Gz (f:Nat -> Bool) (q:Nat):Nat -> Bool
 | 0=>true
 | r+1=>f (q-(r+1))&&Gz f q r
theorem YY (f:Nat -> Bool) {q i:Nat} (h:i<q):Gz f q (q-i)=(f i&&Gz f q (q-(i+1))):=by
 rw [show q-i=(q-(i+1))+1 by omega,Gz,show q-(q-(i+1)+1)=i by omega]
theorem zBS (f:Nat -> Bool) (q:Nat):Gz f q (q-q)=true:=by rw [Nat.sub_self];rfl
def JA (v:Oa -> Nat -> Bool) (o:Oa -> Nat -> Oa) (q:Nat):Nat -> Oa -> Bool × Oa
 | 0,O=>(true,O)
 | r+1,O=>if v O (q-(r+1)) then JA v o q r (o O (q-(r+1))) else (false,o O (q-(r+1)))
theorem xW (v:Oa -> Nat -> Bool) (o:Oa -> Nat -> Oa) {q i:Nat} (h:i<q) (O:Oa):JA v o q (q-i) O=if v O i then JA v o q (q-(i+1)) (o O i) else (false,o O i):=by
 rw [show q-i=(q-(i+1))+1 by omega,JA,show q-(q-(i+1)+1)=i by omega]
theorem zEF (v:Oa -> Nat -> Bool) (o:Oa -> Nat -> Oa) (q:Nat) (O:Oa):JA v o q (q-q) O=(true,O):=by rw [Nat.sub_self];rfl
def Pr (O:Oa) (L:Xa) (j pu dg:Nat) (rows:List Ya) (pb:List Nat) (P:Yg):Bool × Oa :=
 if Is L j P then
  if CS L (gI L.p rows.length (Em (qg O L dg pb) L.p P.root).rh (1 :: pb) rows 3) P.code P.linear P.quad then
   if Gz (fun i=>QN L (Bl L pu (Em (qg O L dg pb) L.p P.root).rh rows) (Em (qg O L dg pb) L.p P.root).al (Em (qg O L dg pb) L.p P.root).be P.code P.linear P.quad (((xq (oh (qg O L dg pb) P.root) (P.code++P.linear++P.quad) L.n L.queries).getD i 0:Nat):Int) (P.cols.getD i [])) L.queries L.queries then
    JA (fun Z i=>UC Z P.root L.n ((xq (oh (qg O L dg pb) P.root) (P.code++P.linear++P.quad) L.n L.queries).getD i 0) (P.salts.getD i 0) (P.cols.getD i []) (P.paths.getD i []))
     (fun Z i=>SC Z P.root L.n ((xq (oh (qg O L dg pb) P.root) (P.code++P.linear++P.quad) L.n L.queries).getD i 0) (P.salts.getD i 0) (P.cols.getD i []) (P.paths.getD i [])) L.queries L.queries
     (WA (oh (qg O L dg pb) P.root) (P.code++P.linear++P.quad) L.queries)
   else (false,WA (oh (qg O L dg pb) P.root) (P.code++P.linear++P.quad) L.queries)
  else (false,WA (oh (qg O L dg pb) P.root) (P.code++P.linear++P.quad) L.queries)
 else (false,O)
section
variable {x:PvIn} {O Z:Oa}
end
end Go.Proofs.YtodmnanljoaocaaGreat
