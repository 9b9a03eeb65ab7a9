/- A part of the proof. No condition. -/
import Derived.Test.YtodmnanljoaocaaGreatPU18
import Derived.Test.YtodmnanljoaocaaGreatPU19

set_option maxRecDepth 100000
set_option maxHeartbeats 8000000
set_option linter.unusedVariables false
set_option linter.unusedSimpArgs false
namespace Go.Proofs.YtodmnanljoaocaaGreat
open Go.RowKit Go.Maps
open Tryz
open Go renaming World->vv, Value->vw, Addr->vx, Calls->vA
open Go.Value renaming int->vd, slice->ve, agg->vf
open Go.IntKind renaming u64->vq, i64->vt
open Go.Ending renaming returned->vn
open Go.RowKit renaming Below->vz
open Go.Act renaming put->vF
open Option renaming none->vB, some->vD
section
variable {L:Xa} {j pu:Nat} {C:CoR} {vars:Int} {rows:List Ya} {ws:List Nat} {bl bw qs:Int} {O Z:Oa} {k:Nat}
theorem LZ (hL:ed L) (fH:aw L ⟨L.p,(pu:Int),vars,rows.length,bl,bw,qs⟩) (hT:FT L.p (pu:Int) vars rows ws true):sI L.p (pu:Int) vars rows bl bw qs ((ws.drop 1).take pu) L where
 tab:=hT.tab
 len:=by
  obtain ⟨sK,-,-⟩:=VT hT.asg;have:=fH.vars;simp only at this;rw [List.length_take,JB];omega
 lt:=by
  obtain ⟨-,-,bF⟩:=VT hT.asg;rw [Wg];exact fun y hy=>Wg.1 bF y (List.mem_of_mem_drop (List.mem_of_mem_take hy))
 ok:=hL
 lfor:=fH
end
theorem refE:jm ⟨false,0,0,[]⟩ 0:=zGV true 0 zD
def aQ (p:Nat) (pub vars:Int) (rows:List Ya) (bl bw qs:Int):Prop :=
 rows.length <= 12 /\ DL rows /\ (Ad p pub vars rows=true -> ∀ L,ed L -> aw L ⟨p,pub,vars,rows.length,bl,bw,qs⟩ -> L.n <= 64 /\ L.a+3*L.b <= 40)
def aY (p:Nat) (pub vars:Int) (rows:List Ya) (bl bw qs:Int) (w:vv) (e:Ending) (w':vv):Prop:=∃ b,e=vn (.bool b) /\ (b=true -> aQ p pub vars rows bl bw qs) /\ vz w.1.size w w'
theorem dP {p:Nat} {pub vars:Int} {rows:List Ya} {bl bw qs:Int} {w w':vv} {e:Ending} (b:Bool) (he:e=vn (.bool b)) (hb:b=true -> aQ p pub vars rows bl bw qs) (hw:vz w.1.size w w'):aY p pub vars rows bl bw qs w e w':=⟨b,he,hb,hw⟩
theorem zGW (p:Nat) (pub vars:Int) (A B:Option vx) (n c m d:Nat) (bl bw qs:Int) (ke:Int) (real:Bool) (de:Nat) (rows:List Ya) (w:vv) (hr:RSl 3 Ue w [ve A n c] rows) (hp:p<18446744073709551616) :
  vA prog 17 #[vf (JN p pub vars A B n c m d bl bw qs ke real de)] w (aY p pub vars rows bl bw qs w):=by
 have ba:vz w.1.size w (w.alloc (.cells (JN p pub vars A B n c m d bl bw qs ke real de) 63)):=(Bb _ w).alloc zR _;have kc:=Blk.new w 63 (JN p pub vars A B n c m d bl bw qs ke real de);have hlen:rows.length=n:=by
  obtain ⟨A',n',c',he,hlen,-⟩:=hr;simp at he
  rw [hlen,he.2.1]
 have gm:(n:Int) <= 9223372036854775807:=by
  obtain ⟨A',n',c',he,hl',Ce,Eg,-⟩:=hr;simp at he
  have:=Mh Ce Eg;omega
 have HSm:=zH (fun u (hb:vz w.1.size w u)=>zGG p pub vars A n c rows u (jg Qg _ _ _ _ hb hr))
 have HNe:=zH (fun u (hb:vz w.1.size w u)=>P8 p pub vars A n c rows bl bw qs u (jg Qg _ _ _ _ hb hr) hp)
 unfold pq Kc at HNe;unfold Kc at HSm;unfold JN at ba kc |-;have Jg:=zH hlen;clear hr hp hlen;go_enter func17,ntmps17
 go_upto_region 1 with fail
 generalize w.alloc _=w1 at ba kc |-;have cc:=kc.cell;by_cases h12:n <= 12
 rotate_left
 ·have g1:(12:Int)<n:=by omega
  go_wp2_with fail
  go_ret
  exact dP false rfl (fun h=>Bool.noConfusion h) ba
 have g1:¬((12:Int)<n):=by omega
 go_wp2_with fail
 refine (HSm.out _ ba).mono ?_;rintro e w2 ⟨⟨bS,rfl,hS⟩,ra⟩;replace kc:=ma kc ra;replace ba:=pa ba ra;clear ra cc;have cc:=kc.cell;cases bS
 ·go_wp2_with fail
  go_ret
  exact dP false rfl (fun h=>Bool.noConfusion h) ba
 have HS:=zH (hS rfl);clear hS;go_wp2_with fail
 refine (HNe.out _ ba).mono ?_;rintro e w3 ⟨⟨lcs,rfl,hN⟩,ra⟩;replace kc:=ma kc ra;replace ba:=pa ba ra;clear ra cc kc;obtain ⟨E,hE⟩:=zEX (mo p pub vars rows bl bw qs);rw [<- hE] at hN |-;rcases hN with ⟨h0,rfl⟩ | ⟨h0,ht,L,hL,hF,rfl⟩
 ·have HP:=zH (show aQ p pub vars rows bl bw qs from ⟨by rw [Jg.out];exact h12,HS.out,fun ht L hL hF=>absurd (hE.trans (CR ht hF)) h0⟩)
  have ja:=ba.alloc ba.size (.cells Xf 38);unfold Xf at ja |-;clear hE;go_wp2_with fail
  go_ret
  exact dP true rfl (fun _=>HP.out) ja
 ·subst h0
  have hP:L.n <= 64 -> L.a+L.b+L.b+L.b <= 40 -> aQ p pub vars rows bl bw qs:=fun h1 h2=>⟨by rw [Jg.out];exact h12,HS.out,fun _ L' _ hF'=>by rw [hF'.eq,<- hF.eq];exact ⟨h1,zO⟩⟩
  have HP:=zH hP;have HT:=zH (fun u=>Z8 L.p L.block L.queries L.k L.n L.secret L.rows L.a L.b L.b L.b u hL.a hL.b hL.b hL.b)
  have kl:=Blk.new w3 38 (Eb L);have ja:=ba.alloc ba.size (.cells (Eb L) 38);have Ew:=hL.a;have Fw:=hL.b;have sH:=hL.n2;clear hE ht hL hF hP ba;unfold Eb at kl ja |-;go_upto_region 4 with fail
  generalize w3.alloc _=w4 at kl ja |-;have cl:=kl.cell;by_cases h64:L.n <= 64
  rotate_left
  ·have g2:¬((L.n:Int) <= 64):=by omega
   go_wp2_with fail
   go_ret
   exact dP _ rfl (fun h=>Bool.noConfusion h) ja
  have g2:(L.n:Int) <= 64:=by omega
  go_wp2_with fail
  refine (HT.out _).mono ?_;rintro e w5 ⟨rfl,ra⟩;replace ja:=pa ja ra;obtain ⟨S,hS⟩:=zEX (L.a+L.b+L.b+L.b);rw [<- hS] at HP |-;clear ra kl cl HT;clear hS;go_wp2_with fail
  go_ret
  exact dP _ rfl (fun h=>HP.out h64 (zQ (of_decide_eq_true h))) ja
theorem zH9 (de p:Nat) (pub vars:Int) (rows:List Ya) (bl bw qs:Int) (l:List Nat) (P:Yg):(Ev ⟨true,de,0,[]⟩ p pub vars rows bl bw qs l P).1≠0:=by
 unfold Ev;by_cases h:Sr p pub vars rows bl bw qs l=0
 ·rw [mb (fun k=>k h)]
  have hn:mo p pub vars rows bl bw qs=0:=by
   cases Classical.em (mo p pub vars rows bl bw qs=0) with
   | inl e=>exact e
   | inr e=>exact absurd ((IZ e).symm.trans h) e
  have hq:1 <= (JK p pub vars rows bl bw qs).queries:=by
   unfold mo at hn;split at hn
   ·unfold Uw at hn
    split at hn
    ·cases hn
    ·rename_i hx
     dsimp only at hx
     show 1 <= qs.toNat
     omega
   ·cases hn
  have:=zBe de _ hq (JK p pub vars rows bl bw qs).n.log2 pub.toNat (Cf p pub vars rows) rows l P;rw [show eu false de=⟨true,de,0,[]⟩ from rfl] at this
  rw [this];show (10:Int)≠0
  decide
 ·rw [Gb h]
  exact h
theorem zFX (HA:∀ w:vv,vA prog 10 #[] w fun e w'=>e=vn (.bool true) /\ vz w.1.size w w') (W:vv) (Zg:Array vw) (f0:Fits prog W 63 (vf Zg).cells.toList) (A1:Option vx) (n1 c1:Nat) (f1:Fits prog W 28 (ve A1 n1 c1).cells.toList) (Hc:Array vw) (f2:Fits prog W 47 (vf Hc).cells.toList) :
  vA prog 4 #[vf Zg,ve A1 n1 c1,vf Hc] W fun e W'=>e=vn (.bool true) /\ vz W.1.size W W':=by
 obtain ⟨p,pub,vars,A,B,n,c,m,d,rows,ws,bl,bw,qs,ke,de,real,rfl,Xd,hcoin,G2⟩:=zEG f0;obtain ⟨pb,Ll⟩:=zEI f1;obtain ⟨P,S,rfl,hP⟩:=zEH f2;clear f0 f1 f2 hcoin;have HAw:=zH HA;have HId:=zH (fun w=>zDq de w G2)
 have HRt:=zH (fun u (hb:vz W.1.size W u)=>zGW p pub vars A B n c m d bl bw qs (ke:Int) real de rows u (jg Qg _ _ _ _ hb Xd.rows) Xd.p)
 have HFw:=zH (fun u (hb:vz W.1.size W u)=>zCA P S u (gS hP hb))
 have Pv:=zH Xd;have HPB:=zH Ll;have HP:=zH hP;have gm:=Mh (Mb Xd.ws).2.1 (Mb Xd.ws).2.2.1;have ga1:=Mh (Mb Ll).2.1 (Mb Ll).2.2.1;unfold JN at HRt;unfold Hf at HFw |-;clear Xd Ll hP G2 HA;obtain ⟨kc,kp,ba,-⟩:=ig W 63 47 #[vd vq p,vd vt pub,vd vt vars,ve A n c,vd vt bl,vd vt bw,vd vt qs,ve B m d,vd vq ke, .bool real,vd vq de] #[vd vq P.root,ve S.A1 S.n1 S.c1,ve S.A2 S.n2 S.c2,ve S.A3 S.n3 S.c3,ve S.A4 S.n4 S.c4,ve S.A5 S.n5 S.c5,ve S.A6 S.n6 S.c6];go_enter func4,ntmps4
 go_upto_region 1 with fail
 generalize (W.alloc _).alloc _=w1 at kc kp ba |-;have cc:=kc.cell;have cp:=kp.cell;go_wp2_with fail
 refine (HId.out _).mono ?_;rintro e w2 ⟨g,F,rfl,ho,hF,ra⟩;have HF:=zH (show ∀ b,F b -> W.1.size+1<b from fun b hb=>by have:=hF b hb;have:=kp.lt;omega)
 have HO:=zH ho;replace kc:=ma kc ra;replace kp:=ma kp ra;replace ba:=pa ba ra;clear ra ho hF cc cp HId;have cc:=kc.cell;have cp:=kp.cell;go_wp2_with fail
 refine (HAw.out _).mono ?_;rintro e w3 ⟨rfl,ra⟩;replace kc:=ma kc ra;replace kp:=ma kp ra;replace ba:=pa ba ra;replace HO:=zH (HO.out.below ra);clear ra cc cp;have cc:=kc.cell;have cp:=kp.cell;go_wp2_with fail
 refine (HRt.out _ ba).mono ?_;rintro e w4 ⟨b,rfl,ni,ra⟩;replace kc:=ma kc ra;replace kp:=ma kp ra;replace ba:=pa ba ra;replace HO:=zH (HO.out.below ra);clear ra cc cp HRt;have cc:=kc.cell;have cp:=kp.cell;cases b
 ·clear ni
  go_wp2_with fail
  refine (HAw.out _).mono ?_;rintro e w9 ⟨rfl,ra⟩;go_wp2;go_ret
  exact ⟨rfl,pa ba ra⟩
 have JI:=zH (ni rfl);clear ni;go_wp2_with fail
 refine (HFw.out _ ba).mono ?_;rintro e w5 ⟨⟨bf,rfl⟩,ra⟩;replace kc:=ma kc ra;replace kp:=ma kp ra;replace ba:=pa ba ra;replace HO:=zH (HO.out.below ra);clear ra cc cp HFw;have cc:=kc.cell;have cp:=kp.cell;cases bf
 ·go_wp2_with fail
  refine (HAw.out _).mono ?_;rintro e w9 ⟨rfl,ra⟩;go_wp2;go_ret
  exact ⟨rfl,pa ba ra⟩
 by_cases h100:n1 <= 100
 rotate_left
 ·have g1:(100:Int)<n1:=by omega
  go_wp2_with fail
  refine (HAw.out _).mono ?_;rintro e w9 ⟨rfl,ra⟩;go_wp2;go_ret
  exact ⟨rfl,pa ba ra⟩
 have g1:¬((100:Int)<n1):=by omega
 have hv:=XR (K:=fun b=>b<W.1.size) HO.out p pub vars bl bw qs A A1 n c n1 c1 rows pb P S JI.out.2.1 (fun ht L hL hF=>(JI.out.2.2 ht L hL hF).2)
  (fun x a=>⟨X0 (jg Qg) Pv.out.rows ba x a,X0 xC HPB.out ba x a,(Z0 (fun u hu=>gS HP.out hu) ba) x a⟩) (fun b hb=>⟨Be hb ba.size,fun e=>by have:=HF.out b e;omega⟩) (by simp [je])
 obtain ⟨v,uC⟩:=zEX ((Ev ⟨true,de,0,[]⟩ p pub vars rows bl bw qs pb P).1);have g2:¬(v=0):=by rw [uC];exact zH9 de p pub vars rows bl bw qs pb P
 rw [<- uC] at hv;unfold Hf Kc at hv;have HV:=zH hv;clear hv uC;go_wp2_with fail
 refine HV.out.mono ?_;rintro e w6 ⟨F',rfl,-,hm⟩;have Bc:=JL ba hm fun b hb=>by have:=HF.out b hb;omega
 clear hm;go_wp2;go_ret
 have g3:(v != (0:Int))=true:=Fh.2 g2;exact ⟨by rw [g3];rfl,Bc⟩
def xL:PvIn:=pvX layE 3 1 4 [ql 1 2 3] [1,5,6,30] (mP layE 3)
def OA:Yg:=xL.pr ⟨false,0,0,[]⟩
def oL:Oa:=xL.oF ⟨false,0,0,[]⟩
theorem zGU:xL.RefSame ⟨false,0,0,[]⟩:=by
 unfold PvIn.RefSame;decide +kernel
theorem zEq (gr:Nat) (u:vv) (hr:RSl 3 Ue u [ve (vD ⟨gr,0,vB⟩) 1 1] [ql 1 2 3]) :
  vA prog 38 #[vf #[vd vq 97,vd vt 1,vd vt 4,ve (vD ⟨gr,0,vB⟩) 1 1],vf #[vd vt 2,vd vt 1,vd vt 2]] u fun e w'=>e=vn (.tuple #[vf #[vd vq 97,vd vt 2,vd vt 2,vd vt 4,vd vt 8,vd vt 2,vd vt 1,vd vt 1,vd vt 1,vd vt 1,vd vt 1],vd vt 0]) /\ vz u.1.size u w':=by
 refine (P8 layE.p ((1:Nat):Int) 4 (vD ⟨gr,0,vB⟩) 1 1 [ql 1 2 3] 2 1 2 u hr zD).mono fun e w' h=>⟨?_,h.2⟩
 obtain ⟨lcs,rfl,h1⟩:=h.1;have h0:=CR dI.tab IK;rw [h0] at h1 |-;rcases h1 with ⟨h1,-⟩ | ⟨-,-,L,hL,hF,rfl⟩
 ·exact absurd rfl h1
 ·have e:L=layE:=by rw [hF.eq,<- IK.eq]
  subst e
  rfl
theorem zHo (u:vv):vA prog 36 #[vf #[vd vq 97,vd vt 2,vd vt 2,vd vt 4,vd vt 8,vd vt 2,vd vt 1,vd vt 1,vd vt 1,vd vt 1,vd vt 1],vd vq 3] u fun e w'=>∃ S:CoS,e=vn (vf (cU S)) /\ Hd (fun b=>u.1.size <= b /\ b<w'.1.size) w' (fun u=>CP u (mP layE 3) S) /\ vz u.1.size u w' :=
 (zGE layE 3 u mR zD).mono fun e w' ⟨S,h1,_,_,_,h2,h3⟩=>⟨S,h1,h2,h3⟩
theorem zGT {K:Nat -> Prop} (gr gw:Nat) (S:CoS) (u:vv) (hq:Hd K u fun u=>Sd u [ve vB 0 0] []) (hr:RSl 3 Ue u [ve (vD ⟨gr,0,vB⟩) 1 1] [ql 1 2 3]) (hw:RWd u [ve (vD ⟨gw,0,vB⟩) 4 4] [1,5,6,30]) (hc:CP u (mP layE 3) S) :
  vA prog 39 #[vf #[.bool false,vd vq 0,vd vt 0,ve vB 0 0,ve vB 0 0,ve vB 0 0],vf #[vd vq 97,vd vt 2,vd vt 2,vd vt 4,vd vt 8,vd vt 2,vd vt 1,vd vt 1,vd vt 1,vd vt 1,vd vt 1],vf #[vd vq 97,vd vt 1,vd vt 4,ve (vD ⟨gr,0,vB⟩) 1 1],ve (vD ⟨gw,0,vB⟩) 4 4,vf (cU S)] u fun e w' =>
   ∃ S v A' n' c',e=vn (.tuple #[vf (Hf OA S),v,vf (mg oL (ve A' n' c'))]) /\ Hd (fun b=>u.1.size <= b) w' (fun u=>Pm u OA S) /\ w'.ownsRow u.1.size 3 1 v 2 (xf (Zf (xL.pos ⟨false,0,0,[]⟩))) /\ vz u.1.size u w' :=
 (zGx (O:=⟨false,0,0,[]⟩) refE zD layE 3 1 3 4 [ql 1 2 3] [1,5,6,30] zGU vB (vD ⟨gr,0,vB⟩) (vD ⟨gw,0,vB⟩) S.A0 S.A1 S.A2 S.A3 S.A4 0 0 1 1 4 4 S.n0 S.c0 S.n1 S.c1 S.n2 S.c2 S.n3 S.c3 S.n4 S.c4 2 1 2 u mR rfl IK zD dI hq hr hw hc.r hc.l1 hc.l2 hc.l3 hc.l4).mono fun e w' ⟨S,v,A',n',c',he,h1,h2,h3,h4⟩=>⟨S,v,A',n',c',he,h1,h2,h4⟩
theorem posL:xL.pos ⟨false,0,0,[]⟩=[5,7]:=by
 unfold PvIn.pos;rw [xX _ _ _ _ zD];decide +kernel
theorem accL:(Pr ⟨false,0,0,[]⟩ layE 3 1 (Cf layE.p ((1:Nat):Int) 4 [ql 1 2 3]) [ql 1 2 3] [5] OA).1=true:=by
 unfold Pr;rw [xX _ _ _ _ zD];unfold OA PvIn.pr;rw [posL];decide +kernel
theorem zH7:(Ev ⟨false,0,0,[]⟩ layE.p ((1:Nat):Int) 4 [ql 1 2 3] 2 1 2 [5] OA).1=0:=by
 have h:Ev ⟨false,0,0,[]⟩ layE.p ((1:Nat):Int) 4 [ql 1 2 3] 2 1 2 ((([1,5,6,30]:List Nat).drop 1).take 1) OA=_:=DX (j:=3) (LZ mR IK dI) rfl;rw [show ([5]:List Nat)=(([1,5,6,30]:List Nat).drop 1).take 1 from rfl,h]
 dsimp only
 rw [show (([1,5,6,30]:List Nat).drop 1).take 1=[5] from rfl,Gb accL]
theorem zH5 (P:Yg):Ev ⟨false,0,0,[]⟩ layE.p ((1:Nat):Int) 4 [ql 1 2 3] 2 1 2 [] P=(1,⟨false,0,0,[]⟩):=by
 have h:Sr layE.p ((1:Nat):Int) 4 [ql 1 2 3] 2 1 2 []=1:=KZ (CR dI.tab IK) (fun h=>by have:=h.1;simp at this)
 rw [zAU (by rw [h];decide),h]
theorem zH6:Ev ⟨false,0,0,[]⟩ layE.p ((1:Nat):Int) 4 [ql 1 2 3] 2 1 2 [5] ER=(10,⟨false,0,0,[]⟩):=by
 have h:Ev ⟨false,0,0,[]⟩ layE.p ((1:Nat):Int) 4 [ql 1 2 3] 2 1 2 ((([1,5,6,30]:List Nat).drop 1).take 1) ER=_:=DX (j:=3) (LZ mR IK dI) rfl;rw [show ([5]:List Nat)=(([1,5,6,30]:List Nat).drop 1).take 1 from rfl,h]
 unfold Pr;rw [mb zD]
 rfl
theorem DU {F F':Nat -> Prop} {N:Nat} {w w':vv} (m:Moved F F' w w') (hF:∀ b,F b -> N <= b) (hN:N <= w.1.size):vz N w w' :=
 ⟨m.os,m.tape,m.output,m.size,fun b hb=>m.block b zO fun e=>by have:=hF b e;omega⟩
theorem zG5 (u:vv):Sd u [ve vB 0 0] []:=⟨vB,0,0,rfl,rfl,zR,by simp [maxLen],fun i hi=>absurd hi zS⟩
def ZP (N:Nat) (w0:vv) (v u:vw) (w':vv):Prop:=∃ g F gs,v= .pointer (vD ⟨g,0,vB⟩) /\ u=ve (vD ⟨gs,0,vB⟩) 1 1 /\ OrcAt w' g ⟨false,0,0,[]⟩ F /\ (∀ b,F b -> N <= b) /\ Blk w' gs 22 #[vd vq 5] /\ ¬F gs /\ vz w0.1.size w0 w'
theorem PM {N:Nat} {w0 w:vv} (hb:vz w0.1.size w0 w) (hN:N <= w0.1.size) :
  vA prog 14 #[] w (fun e w1=>∃ v,e=vn v /\ Au N w w1 /\ Au N w1 (w1.alloc (.cells #[vd vq 5] 22)) /\ ZP N w0 v (ve (vD ⟨w1.1.size,0,vB⟩) 1 1) (w1.alloc (.cells #[vd vq 5] 22))) /\
  Au N w (w.alloc (.cells #[vd vq 5] 22)) /\
  vA prog 14 #[] (w.alloc (.cells #[vd vq 5] 22)) (fun e w1=>∃ v,e=vn v /\ Au N (w.alloc (.cells #[vd vq 5] 22)) w1 /\ ZP N w0 v (ve (vD ⟨w.1.size,0,vB⟩) 1 1) w1):=by
 have s:=hb.size;have ja:=zA w (.cells #[vd vq 5] 22);have sa:=ja.size;refine ⟨?_,dE ja zO,?_⟩
 ·refine (UW w).mono ?_
  rintro e w1 ⟨g,F,rfl,ho,hF,La⟩;have ja:=zA w1 (.cells #[vd vq 5] 22);have s1:=La.size;exact ⟨_,rfl,dE La zO,dE ja zO,g,F,_,rfl,rfl,ho.below ja,fun b h=>by have:=hF b h;omega,Blk.new w1 22 #[vd vq 5],fun e=>by have:=ho.lt _ e;omega,pa (pa hb La) ja⟩
 ·have k:=Blk.new w 22 #[vd vq 5]
  refine (UW _).mono ?_;rintro e w1 ⟨g,F,rfl,ho,hF,La⟩;have kl:=k.lt;exact ⟨_,rfl,dE La zO,g,F,_,rfl,rfl,ho,fun b h=>by have:=hF b h;omega,ma k La,fun e=>by have:=hF _ e;omega,pa (pa hb ja) La⟩
theorem YT {a b c:vv} (h:vz a.1.size a b) (k:Au a.1.size b c):vz a.1.size a c:=h.trans k
theorem nU:Ad layE.p ((1:Nat):Int) 4 [ql 1 2 3]=true -> ∀ L,ed L -> aw L ⟨layE.p,((1:Nat):Int),4,[ql 1 2 3].length,2,1,2⟩ -> L.a+3*L.b <= 40:=fun _ L _ h=>by
 rw [h.eq,<- IK.eq];decide
theorem zH4 {gr:Nat} {w0:vv} {S:PS} {P:Yg} (hP:P=OA) (hr:RSl 3 Ue w0 [ve (vD ⟨gr,0,vB⟩) 1 1] [ql 1 2 3]) (hp:Pm w0 P S) (u:vv) (g:Nat) (F:Nat -> Prop) (ho:OrcAt u g ⟨false,0,0,[]⟩ F) (hF:∀ b,F b -> w0.1.size <= b) (hb:vz w0.1.size w0 u) :
  (∀ gs,Blk u gs 22 #[vd vq 5] -> ¬F gs -> vA prog 13 #[.pointer (vD ⟨g,0,vB⟩),vf #[vd vq 97,vd vt 1,vd vt 4,ve (vD ⟨gr,0,vB⟩) 1 1],vf #[vd vt 2,vd vt 1,vd vt 2],ve (vD ⟨gs,0,vB⟩) 1 1,vf (Hf P S)] u fun e w'=>e=vn (vd vt 0) /\ vz w0.1.size u w') /\
  (vA prog 13 #[.pointer (vD ⟨g,0,vB⟩),vf #[vd vq 97,vd vt 1,vd vt 4,ve (vD ⟨gr,0,vB⟩) 1 1],vf #[vd vt 2,vd vt 1,vd vt 2],ve vB 0 0,vf (Hf P S)] u fun e w'=>e=vn (vd vt 1) /\ vz w0.1.size u w') /\
  (∀ gs,Blk u gs 22 #[vd vq 5] -> ¬F gs -> vA prog 13 #[.pointer (vD ⟨g,0,vB⟩),vf #[vd vq 97,vd vt 1,vd vt 4,ve (vD ⟨gr,0,vB⟩) 1 1],vf #[vd vt 2,vd vt 1,vd vt 2],ve (vD ⟨gs,0,vB⟩) 1 1,vf #[vd vq 0,ve vB 0 0,ve vB 0 0,ve vB 0 0,ve vB 0 0,ve vB 0 0,ve vB 0 0]] u fun e w'=>e=vn (vd vt 10) /\ vz w0.1.size u w'):=by
 subst hP;have hO:je ⟨false,0,0,[]⟩ 100000:=by simp [je]
 have s:=hb.size;have hold:Hd (fun b=>b<w0.1.size) u fun u=>RSl 3 Ue u [ve (vD ⟨gr,0,vB⟩) 1 1] [ql 1 2 3] /\ Pm u OA S:=Z0 (fun x hx=>⟨jg Qg _ _ _ _ hx hr,gS hp hx⟩) hb
 have lit:∀ {u:vv} {g:Nat},Blk u g 22 #[vd vq 5] -> RWd u [ve (vD ⟨g,0,vB⟩) 1 1] [5]:=fun k=>G5 (l:=[5]) k rfl zD (by simp [maxLen])
 have hK:∀ gs,gs<u.1.size -> ¬F gs -> ∀ b,(b<w0.1.size \/ b=gs) -> b<u.1.size /\ ¬F b:=fun gs h1 h2 b hb=>hb.elim (fun h=>⟨zO,fun e=>by have:=hF b e;omega⟩) fun h=>h ▸ ⟨h1,h2⟩
 refine ⟨fun gs k nf=>?_,?_,fun gs k nf=>?_⟩
 ·refine (XR (K:=fun b=>b<w0.1.size \/ b=gs) ho layE.p ((1:Nat):Int) 4 2 1 2 (vD ⟨gr,0,vB⟩) (vD ⟨gs,0,vB⟩) 1 1 1 1 [ql 1 2 3] [5] OA S dI.small nU
   (fun x a=>⟨(hold x (Pu a fun b hb=>.inl hb)).1,lit ((a.block gs (.inr rfl) k.lt).trans k),(hold x (Pu a fun b hb=>.inl hb)).2⟩) (hK gs k.lt nf) hO).mono ?_
  rintro e w' ⟨F',rfl,-,hm⟩;rw [zH7];exact ⟨rfl,DU hm hF s⟩
 ·refine (XR (K:=fun b=>b<w0.1.size) ho layE.p ((1:Nat):Int) 4 2 1 2 (vD ⟨gr,0,vB⟩) vB 1 1 0 0 [ql 1 2 3] [] OA S dI.small nU
   (fun x a=>⟨(hold x a).1,jP x,(hold x a).2⟩) (fun b h=>⟨zO,fun e=>by have:=hF b e;omega⟩) hO).mono ?_
  rintro e w' ⟨F',rfl,-,hm⟩;rw [zH5];exact ⟨rfl,DU hm hF s⟩
 ·refine (XR (K:=fun b=>b<w0.1.size \/ b=gs) ho layE.p ((1:Nat):Int) 4 2 1 2 (vD ⟨gr,0,vB⟩) (vD ⟨gs,0,vB⟩) 1 1 1 1 [ql 1 2 3] [5] ER noPS dI.small nU
   (fun x a=>⟨(hold x (Pu a fun b hb=>.inl hb)).1,lit ((a.block gs (.inr rfl) k.lt).trans k),zEw x⟩) (hK gs k.lt nf) hO).mono ?_
  rintro e w' ⟨F',rfl,-,hm⟩;rw [zH6];exact ⟨rfl,DU hm hF s⟩
theorem zBt (w:vv):vA prog 10 #[] w fun e w'=>e=vn (.bool true) /\ vz w.1.size w w':=by
 have HEx:=zH (fun w=>zCp w)
 have HRe:=zH (fun w=>UW w)
 go_enter func10,ntmps10
 go_wp2_with fail
 refine (HEx.out _).mono ?_;rintro e w1 ⟨gr,gw,rfl,hr,hw,hb⟩;obtain ⟨kt,kx,ja,-⟩:=ig w1 25 27 #[vd vq 97,vd vt 1,vd vt 4,ve (vD ⟨gr,0,vB⟩) 1 1] #[vd vt 2,vd vt 1,vd vt 2];replace hr:=jg Qg _ _ _ _ ja hr;replace hw:=Sa ja hw;replace hb:=pa hb ja;clear ja HEx;go_upto_region 2 with fail
 generalize (w1.alloc _).alloc _=w2 at kt kx hr hw hb |-;have HNe:=zH (fun u (hb:vz w2.1.size w2 u)=>zEq gr u (jg Qg _ _ _ _ hb hr))
 have HR:=zH hr;have HW:=zH hw;have HB:=zH hb;have l9:=kx.lt;generalize w1.1.size=gt at kt kx l9 |-;have ct:=kt.cell;have cx:=kx.cell;clear hr hw hb;go_wp2_with fail
 refine (HNe.out _ (Bb _ _)).mono ?_;rintro e w3 ⟨rfl,ra⟩;have tL:=zH ra;replace kt:=ma kt ra;replace kx:=ma kx ra;replace HB:=zH (pa HB.out ra);clear ra ct cx HNe;obtain ⟨kl,ja⟩:=zN w3 38 #[vd vq 97,vd vt 2,vd vt 2,vd vt 4,vd vt 8,vd vt 2,vd vt 1,vd vt 1,vd vt 1,vd vt 1,vd vt 1];replace tL:=zH (pa tL.out ja);replace kt:=ma kt ja;replace kx:=ma kx ja;replace HB:=zH (pa HB.out ja);clear ja;go_upto_region 5 with fail
 generalize w3.alloc _=w4 at kt kx kl HB tL |-;generalize w3.1.size=gl at kl |-;replace HR:=zH (jg Qg _ _ _ _ tL.out HR.out);replace HW:=zH (Sa tL.out HW.out);have JU:=fun (u:vv) (hb:vz w4.1.size w4 u) (S:CoS) (hc:CP u (mP layE 3) S)=>zGT (K:=fun _=>False) gr gw S u (fun x _=>zG5 x) (jg Qg _ _ _ _ hb HR.out) (Sa hb HW.out) hc
 unfold Hf mg at JU;have HRP:=zH JU;have Mp:=zH (fun u=>zHo u)
 clear JU;obtain ⟨P,hP⟩:=zEX (OA);obtain ⟨OF,hOF⟩:=zEX (oL);rw [<- hP,<- hOF] at HRP;have HPE:=zH hP;clear hP hOF;obtain ⟨NQ,Dd⟩:=zEX (w4.1.size);have cl:=kl.cell;have ct:=kt.cell;have lql:gl<NQ:=by rw [Dd];exact kl.lt
 have lqt:gt<NQ:=by rw [Dd];exact kt.lt
 have lqx:gt+1<NQ:=by rw [Dd];exact kx.lt
 have HN0:=zH (show w.1.size <= NQ by rw [Dd];exact HB.out.size)
 have nxl:¬Xb gl:=id;have nxt:¬Xb gt:=id;have Vd:=zH Dd;have KT:=zH kt;have KX:=zH kx;clear kl kt kx Dd tL;refine Ps (Xb) (Xb) (NQ) [5,6,13,15] [0,1,2,3,4,5,6,7,8,9,10] [(11,47,#[vd vq 0,ve vB 0 0,ve vB 0 0,ve vB 0 0,ve vB 0 0,ve vB 0 0,ve vB 0 0]),(12,53,#[.bool false,vd vq 0,vd vt 0,ve vB 0 0,ve vB 0 0,ve vB 0 0])] [13,14,15] zK (ft.2 ⟨⟨_,rfl,rfl,fun a w=>by go_simp <;> rfl⟩,ft.2 ⟨⟨_,rfl,rfl,fun a w=>by go_simp <;> rfl⟩,Kq _⟩⟩) zK ?_
 refine Rs ?_;intro Wc Ca da;have Fa:Hid (Qh Xb NQ Xb Wc):=zH (by rw [Ca.out,Vd.out];exact ⟨zR,fun _ h=>h.elim,fun _ _ h=>h⟩)
 have bt:=zH (show vz w4.1.size w4 Wc by rw [Ca.out];exact (Bb _ _).drew)
 have Bq:=zH (show vz w.1.size w Wc by rw [Ca.out];exact HB.out.drew)
 have dm:=zH (show Blk Wc _ _ _ by rw [Ca.out];exact KT.out.drew)
 have Jq:=zH (show Blk Wc _ _ _ by rw [Ca.out];exact KX.out.drew)
 clear Ca HB KT KX;refine Ig ?_;refine Hv (f:=?_) (vals:=?_) rfl rfl rfl Fa ?_ (fun wF Pa=>?_)
 rotate_left 3
 replace bt:=zH (pa bt.out Pa);replace Bq:=zH (pa Bq.out Pa);replace dm:=zH (dm.out.below Pa dm.out.lt);replace Jq:=zH (Jq.out.below Pa Jq.out.lt);replace da:=zM (Kb Xb NQ) da (Ld Pa Fa.out.size);replace Fa:=zH (re Fa.out Pa);refine (Mp.out wF).mono ?_
 rotate_left
 ·intro w_;go_simp <;> rfl
 rintro e wU ⟨Sc,rfl,aH,ra⟩;clear Pa;refine ⟨_,Xb,rfl,xe ra,(re Fa.out ra).lt,?_⟩;replace da:=zM (Kb Xb NQ) da (Ri Fa.out (xe ra));replace Fa:=zH (wk Fa.out (xe ra) ((re Fa.out ra).lt));refine zPU ?_;have HCO:=zH aH;replace bt:=zH (pa bt.out ra);replace Bq:=zH (pa Bq.out ra);replace dm:=zH (dm.out.below ra dm.out.lt);replace Jq:=zH (Jq.out.below ra Jq.out.lt);clear ra aH;refine Ig ?_;refine Hv (f:=?_) (vals:=?_) rfl rfl rfl Fa ?_ (fun wF Pa=>?_)
 rotate_left 3
 replace bt:=zH (pa bt.out Pa);replace Bq:=zH (pa Bq.out Pa);replace dm:=zH (dm.out.below Pa dm.out.lt);replace Jq:=zH (Jq.out.below Pa Jq.out.lt);replace HCO:=zH (Za HCO.out (Yb Pa));replace da:=zM (Kb Xb NQ) da (Ld Pa Fa.out.size);replace Fa:=zH (re Fa.out Pa);refine (HRP.out wF bt.out Sc (ym HCO.out)).mono ?_
 rotate_left
 ·intro w_;go_simp <;> rfl
 rintro e wV ⟨Sb,vb,Aq,nq,cq,rfl,Nb,-,ra⟩;clear Pa;refine ⟨_,Jf Xb wF wV,rfl,Ah ra,om Fa.out ra,?_⟩;replace da:=zM (Kb Xb NQ) da (Ri Fa.out (Ah ra));replace Fa:=zH (wk Fa.out (Ah ra) (om Fa.out ra));refine zPU ?_;obtain ⟨KK,qw⟩:∃ KK:Nat -> Prop,KK=fun b=>wF.1.size <= b /\ b<wV.1.size:=⟨_,rfl⟩
 have hp3:=zk Nb;rw [<- qw] at hp3;have uB:=zH hp3;have Yx:∀ b,KK b -> Jf Xb wF wV b:=fun b hb=>by rw [qw] at hb;exact .inr hb
 replace bt:=zH (pa bt.out ra);replace Bq:=zH (pa Bq.out ra);replace dm:=zH (dm.out.below ra dm.out.lt);replace Jq:=zH (Jq.out.below ra Jq.out.lt);generalize Jf Xb wF wV=V1 at Fa Yx |-;clear Nb hp3 ra qw HCO;refine Ig ?_;refine Qs [(vD 6,11),(vD 8,12)] rfl Fa (fun xk wE Db sf=>?_)
 have pU:=sf.blk _ (.head _) rfl;have pJ:=sf.blk _ (.tail _ (.head _)) rfl;have CM:=sf.dif _ (.head _) _ (.tail _ (.head _)) rfl rfl zD;clear sf;unfold jl il;simp only [List.foldl];dsimp only at pU pJ CM
 generalize xk 11=g11 at pU CM |-;obtain ⟨k11,fV,hv11⟩:=pU;generalize xk 12=g12 at pJ CM |-;obtain ⟨cF,qO,EV⟩:=pJ;replace bt:=zH (pa bt.out Db);replace Bq:=zH (pa Bq.out Db);replace dm:=zH (dm.out.below Db dm.out.lt);replace Jq:=zH (Jq.out.below Db Jq.out.lt);replace uB:=zH (Za uB.out (Yb Db));replace da:=zM (Kb Xb NQ) da (Ld Db Fa.out.size);replace Fa:=zH (re Fa.out Db)
 refine zPU ?_
 have NK11:=zH (show ¬KK g11 from fun e=>hv11 (Yx _ e))
 have NK12:=zH (show ¬KK g12 from fun e=>EV (Yx _ e))
 have G11:=zH (show NQ <= g11 /\ NQ <= g12 from ⟨fV,qO⟩)
 clear Db Yx;have c11:=k11.cell;have f11:=k11.frozen;refine Gm ?_;refine Bd (Kb Xb NQ) rfl rfl rfl ?_;go_simp;refine ⟨Ld (Dy fV [vd vq P.root,ve Sb.A1 Sb.n1 Sb.c1,ve Sb.A2 Sb.n2 Sb.c2,ve Sb.A3 Sb.n3 Sb.c3,ve Sb.A4 Sb.n4 Sb.c4,ve Sb.A5 Sb.n5 Sb.c5,ve Sb.A6 Sb.n6 Sb.c6] 0 _) zR,?_⟩
 refine zPU ?_
 obtain ⟨wG,KH,kP,sP⟩:=zAg k11 (vd vq P.root) (ve Sb.A1 Sb.n1 Sb.c1) (ve Sb.A2 Sb.n2 Sb.c2) (ve Sb.A3 Sb.n3 Sb.c3) (ve Sb.A4 Sb.n4 Sb.c4) (ve Sb.A5 Sb.n5 Sb.c5) (ve Sb.A6 Sb.n6 Sb.c6);rw [KH];have bR:=sP.blk cF (fun e=>CM e.symm)
 have KPG:=zH kP;have SPG:=zH sP;clear KH c11 f11 da Fa k11 cF kP sP;have c12:=bR.cell;have f12:=bR.frozen;have da:=(Kb Xb NQ).refl wG;refine Gm ?_;refine Bd (Kb Xb NQ) rfl rfl rfl ?_;go_simp;refine ⟨Ld (Dy qO [.bool OF.ideal,vd vq OF.st,vd vt OF.dr,ve Aq nq cq,ve vB 0 0,ve vB 0 0] 0 _) zR,?_⟩
 refine zPU ?_
 refine Ec ?_;obtain ⟨wZ,hwZ,kQ,sQ⟩:=zAf bR (.bool OF.ideal) (vd vq OF.st) (vd vt OF.dr) (ve Aq nq cq) (ve vB 0 0) (ve vB 0 0);rw [hwZ];have l11:=G11.out.1;have l12:=G11.out.2;have HTz:=zH (sQ.blk (SPG.out.blk dm.out zO) zO);have HXz:=zH (sQ.blk (SPG.out.blk Jq.out zO) zO);have HPz:=zH (sQ.blk KPG.out CM);have yI:=zH (sQ.below (SPG.out.below Bq.out (zQ HN0.out)) (zQ HN0.out));have HWz:=zH (sQ.below (SPG.out.below bt.out (zQ Vd.out)) (zQ Vd.out));have HPr:=zH (ym (sQ.hd (SPG.out.hd uB.out NK11.out) NK12.out));have HVC:=zH (zH4 HPE.out (jg Qg _ _ _ _ HWz.out HR.out) HPr.out);clear hwZ kQ sQ SPG KPG dm Jq Bq bt uB HPr HPE NK11 NK12 G11 CM Mp HRP HR HW Vd HN0 l12 c12 f12 bR cl ct da lql lqt lqx nxl nxt fV qO HWz;go_upto_region 6 with fail
 have ct:=HTz.out.cell;have cx:=HXz.out.cell;have cp:=HPz.out.cell;have l6t:=HTz.out.lt;have l6x:=HXz.out.lt;have l6p:=HPz.out.lt;clear HTz HXz HPz l11;refine Yc (Au wZ.1.size) [5,8,12,21] [1,2,4,0,3,5,6,7,9,10,11,8,12,13,14,15,17,18,20,16,19,21,22,23,24] zK zK ?_;refine Td (uh wZ.1.size) ?_;intro Wc Ca da;have HbW:=zH (show vz wZ.1.size wZ Wc by rw [Ca.out];exact (Bb _ _).drew)
 clear Ca;refine Kv ?_;refine zA0 (f:=14) (vals:=#[]) (fun w=>ve (vD ⟨w.1.size,0,vB⟩) 1 1) (fun w=>w.alloc (.cells #[vd vq 5] 22)) (uh wZ.1.size) (ZP wZ.1.size wZ) zK rfl rfl zK rfl rfl (fun _=>by go_simp <;> rfl) (fun _=>by go_simp <;> rfl) (PM HbW.out zR).1 (PM HbW.out zR).2.1 (PM HbW.out zR).2.2 ?_
 intro v u wA hRA hK;obtain ⟨gO,FO,gs,rfl,rfl,ho,hF,kS,nFs,Ht⟩:=hK;replace da:=(uh wZ.1.size).trans _ _ _ da hRA;refine zPU ?_;have DG:=zH ((HVC.out wA gO FO ho hF Ht).1 gs kS nFs);clear ho hF kS nFs hRA HbW;refine Kv ?_;refine mI (uh wZ.1.size) rfl rfl rfl (fun _=>by go_simp <;> rfl) ((DG.out).mono ?_)
 rintro e wB ⟨rfl,ra⟩;refine ⟨_,rfl,ra,?_⟩;replace da:=(uh wZ.1.size).trans _ _ _ da (ra);refine zPU ?_;replace Ht:=YT Ht ra;clear ra DG;refine Kv ?_;refine mI (uh wZ.1.size) rfl rfl rfl (fun _=>by go_simp <;> rfl) ((HRe.out _).mono ?_)
 rintro e wC ⟨g2,F2,rfl,ho,hF,ra⟩;refine ⟨_,rfl,dE ra Ht.size,?_⟩;replace da:=(uh wZ.1.size).trans _ _ _ da (dE ra Ht.size);refine zPU ?_;have DG:=zH ((HVC.out wC g2 F2 ho (fun b hb=>by have:=hF b hb;have:=Ht.size;omega) (pa Ht ra)).2.1)
 replace Ht:=pa Ht ra;clear ho hF ra;refine Kv ?_;refine mI (uh wZ.1.size) rfl rfl rfl (fun _=>by go_simp <;> rfl) ((DG.out).mono ?_)
 rintro e wD ⟨rfl,ra⟩;refine ⟨_,rfl,ra,?_⟩;replace da:=(uh wZ.1.size).trans _ _ _ da (ra);refine zPU ?_;replace Ht:=YT Ht ra;clear ra DG;refine Kv ?_;refine zA0 (f:=14) (vals:=#[]) (fun w=>ve (vD ⟨w.1.size,0,vB⟩) 1 1) (fun w=>w.alloc (.cells #[vd vq 5] 22)) (uh wZ.1.size) (ZP wZ.1.size wZ) zK rfl rfl zK rfl rfl (fun _=>by go_simp <;> rfl) (fun _=>by go_simp <;> rfl) (PM Ht zR).1 (PM Ht zR).2.1 (PM Ht zR).2.2 ?_
 intro v u wE hRE hK;obtain ⟨g3,F3,gt3,rfl,rfl,ho,hF,kS,nFs,Xq⟩:=hK;replace da:=(uh wZ.1.size).trans _ _ _ da hRE;refine zPU ?_;have DG:=zH ((HVC.out wE g3 F3 ho hF Xq).2.2 gt3 kS nFs);clear ho hF kS nFs hRE Ht;refine Kv ?_;refine mI (uh wZ.1.size) rfl rfl rfl (fun _=>by go_simp <;> rfl) ((DG.out).mono ?_)
 rintro e wG6 ⟨rfl,ra⟩;refine ⟨_,rfl,ra,?_⟩;replace da:=(uh wZ.1.size).trans _ _ _ da (ra);refine zPU ?_;have HBf:=zH (pa yI.out (YT Xq ra));clear ra DG Xq;refine Kv ?_;refine Ec ?_;clear da;go_wp2;go_ret
 exact ⟨rfl,HBf.out⟩
theorem zFY (W:vv) (Zg:Array vw) (f0:Fits prog W 63 (vf Zg).cells.toList) (A1:Option vx) (n1 c1:Nat) (f1:Fits prog W 28 (ve A1 n1 c1).cells.toList) (Hc:Array vw) (f2:Fits prog W 47 (vf Hc).cells.toList) :
  vA prog 4 #[vf Zg,ve A1 n1 c1,vf Hc] W fun e W'=>e=vn (.bool true) /\ vz W.1.size W W' :=
 zFX (fun w=>zBt w) W Zg f0 A1 n1 c1 f1 Hc f2
end Go.Proofs.YtodmnanljoaocaaGreat
