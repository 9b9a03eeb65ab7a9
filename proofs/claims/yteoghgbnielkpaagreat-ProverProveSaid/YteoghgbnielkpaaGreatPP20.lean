/- A part of the proof. No condition. -/
import Derived.Test.YteoghgbnielkpaaGreatPP19
import Derived.Test.YteoghgbnielkpaaGreatPP18

set_option maxRecDepth 100000
set_option maxHeartbeats 8000000
set_option linter.unusedVariables false
set_option linter.unusedSimpArgs false
namespace Go.Proofs.YteoghgbnielkpaaGreat
open Go.RowKit Go.Maps
open Tryz
open Go renaming World->vu, Value->vw, Addr->vx, Calls->vA
open Go.Value renaming int->vd, slice->ve, agg->vf
open Go.IntKind renaming u64->vo, i64->vq
open Go.Ending renaming returned->vn
open Go.RowKit renaming Below->vz
open Go.World renaming setCell->vE
open Go.Act renaming put->vF
open Option renaming none->vB, some->vD
theorem zEC (s:Tr) (all:List Nat) (n q:Nat) (h:q <= n):(Wx s all n q).length=q:=JS _ _ _ _ _ h
def Az (L:Tb) (j pu:Nat) (vars:Int) (rows:List sc) (ws:List Nat) (pd:Nat):PvIn :=
 ⟨L,j,pu,ur L.p (pu:Int) vars rows,rows,ws,tz L rows ws pu,Cz L pd (L.a+L.b+L.b+L.b),Si L.p pd [1] L.k,Si L.p pd [2] (L.k+L.block-2),Si L.p pd [3] (L.block+2*L.queries-1),Si nc pd [4] L.n⟩
theorem rZ {p:Nat} {vars:Int} {ws:List Nat} (h:Qj p vars ws=true):(ws.length:Int)=vars /\ ws.getD 0 0=1 /\ (ws.all fun y=>decide (y<p))=true:=by
 unfold Qj at h;simp only [pe,Mm,Qw] at h;exact ⟨h.1.1.1,by have:=h.1.2;omega,h.2⟩
theorem zF1 {w:vu} {g:Nat} {O:Jb} {F K:Nat -> Prop} (h:OrcAt w g O F) (L:Tb) (j pu pd:Nat) (vars:Int) (A B A0 A1 A2 A3 A4:Option vx) (n c m d n0 c0 n1 c1 n2 c2 n3 c3 n4 c4:Nat) (rows:List sc) (ws:List Nat) (bl bw qs:Int)
  (hL:Ad L) (hn:L.n=2^j) (uq:yy L ⟨L.p,(pu:Int),vars,rows.length,bl,bw,qs⟩) (ht:L.a+3*L.b <= 40) (hT:NU L.p (pu:Int) vars rows ws true) (AR:vu -> Prop) (hA:Hd K w AR) (hK:∀ b,K b -> b<w.1.size /\ ¬F b)
  (hr:∀ u,AR u -> RSl 3 yg u [ve A n c] rows) (hw:∀ u,AR u -> RWd u [ve B m d] ws) (h0:∀ u,AR u -> Kd u [ve A0 n0 c0] (Cz L pd (L.a+L.b+L.b+L.b))) (h1:∀ u,AR u -> RWd u [ve A1 n1 c1] (Si L.p pd [1] L.k)) (h2:∀ u,AR u -> RWd u [ve A2 n2 c2] (Si L.p pd [2] (L.k+L.block-2))) (h3:∀ u,AR u -> RWd u [ve A3 n3 c3] (Si L.p pd [3] (L.block+2*L.queries-1))) (h4:∀ u,AR u -> RWd u [ve A4 n4 c4] (Si nc pd [4] L.n)) (hO:Nf O 1000) :
  vA prog 17 #[.pointer (vD ⟨g,0,vB⟩),Xc L.p (pu:Int) vars (ve A n c),vf #[vd vq bl,vd vq bw,vd vq qs],ve B m d,vf #[ve A0 n0 c0,ve A1 n1 c1,ve A2 n2 c2,ve A3 n3 c3,ve A4 n4 c4]] w fun e w' =>
   ∃ (S:PS) (F':Nat -> Prop),e=vn (.tuple #[vf (Im ((Az L j pu vars rows ws pd).pr O) S),vd vq 0]) /\ OrcAt w' g ((Az L j pu vars rows ws pd).oF O) F' /\ Moved F F' w w' /\ Hd (fun b=>w.1.size <= b /\ b<w'.1.size /\ ¬F' b) w' (fun u=>Mt u ((Az L j pu vars rows ws pd).pr O) S):=by
 obtain ⟨oD,ru,hwp⟩:=rZ hT.asg;exact zF2 h (Az L j pu vars rows ws pd) vars A B A0 A1 A2 A3 A4 n c m d n0 c0 n1 c1 n2 c2 n3 c3 n4 c4 bl bw qs hL uq hn (AX hn hL.n2) hT.tab (zA3 hT.tab uq) (zBs hT.tab) (KZ hT.tab hT.small) rfl rfl AR hA hK hr hw h0 h1 h2 h3 h4 oD ru hwp hT.sat (bV L pd (zQ (Cc hL.p))) hO (by show L.a+L.b+L.b+L.b <= 1000;omega)
theorem oF_le (x:PvIn) (O:Jb) {k:Nat} (hn:x.L.n=2^x.dd) (h:Nf O k):Nf (x.oF O) (k+1+2*x.L.n+4+1+x.L.queries):=by
 have h1:Nf (x.t1 O).O (k+1):=yz h 18 _;have h2:=x.o2_le O hn h1;have h3:Nf (x.t2 O).O (k+1+2*x.L.n+4):=G8 h2 _ _ _;have h4:Nf (Zh (x.t2 O) 3 (x.all O)).O (k+1+2*x.L.n+4+1):=yz h3 18 _;have h5:=FI (lab:=19) (Wp (Zh (x.t2 O) 3 (x.all O)).st 0 x.L.queries) h4;rw [I6] at h5;exact h5
theorem J3 {l:List (List Nat)} {B:Nat} (h:∀ r∈l,r.length <= B):l.flatten.length <= l.length*B:=by
 induction l with
 | nil=>simp
 | cons a r ih =>
  have h1:=h a (.head _);have h2:=ih fun r hr=>h r (.tail _ hr)
  simp only [List.flatten_cons,qh,Yh,Nat.succ_mul];omega
theorem zFk (x:PvIn) (O:Jb) (hL:Ad x.L) (hn:x.L.n=2^x.dd) (hd:x.dd <= 10) (hm:x.m.length <= 1000):(zp (x.pr O)).length <= 1000000:=by
 have b1:=hL.nk;have b2:=hL.k;have b3:=hL.q2;have b4:=hL.b2;have hq:(x.pos O).length=x.L.queries:=zEC _ _ _ _ zO;have h1:((x.pos O).map fun i=>x.cols.getD i []).flatten.length <= ((x.pos O).map fun i=>x.cols.getD i []).length*1003:=J3 fun r hr=>by
  obtain ⟨i,-,rfl⟩:=ee.1 hr;by_cases hi:i<x.cols.length
  ·rw [x.cols_row _ (qH [] hi)]
   omega
  ·rw [Hc,It zO]
   simp
 have h2:((x.pos O).map fun i=>Bp (x.tree O) i).flatten.length <= ((x.pos O).map fun i=>Bp (x.tree O) i).length*100:=J3 fun r hr=>by
  obtain ⟨i,-,rfl⟩:=ee.1 hr;have hs:(x.tree O).length=x.dd+1:=(QT _ _ _ (by rw [rz,AI,x.cols_len,hn])).1
  rw [nQ,Tm,Sp];omega
 rw [Tm,hq] at h1 h2;have h3:∀ al,(x.code al).length=x.L.k:=fun al=>by simp [PvIn.code]
 have h4:∀ rh,(x.lin rh).length=x.L.k+x.L.block-1:=fun rh=>by simp [PvIn.lin]
 have h5:∀ be,(x.quad be).length=2*x.L.k-1:=fun be=>by simp [PvIn.quad]
 show ([x.root O]++x.code (x.ch O).al++x.lin (x.ch O).rh++x.quad (x.ch O).be++((x.pos O).map fun i=>x.cols.getD i []).flatten++((x.pos O).map fun i=>x.l4.getD i 0)++((x.pos O).map fun i=>Bp (x.tree O) i).flatten).length <= 1000000
 simp only [qh,Yh,List.length_nil,h3,h4,h5];rw [Tm,hq];omega
theorem zG3 {K:Nat -> Prop} {O:Jb} {k:Nat} (h:Um O k) (hk:k <= 1000) (x:PvIn) (hG:x.Good) (vars:Int) (Aq A B A0 A1 A2 A3 A4:Option vx) (nq cq n c m d n0 c0 n1 c1 n2 c2 n3 c3 n4 c4:Nat) (w:vu)
  (Fb:Jd x.L.p (x.pub:Int) vars x.rows=true) (hT:GC x.L x.pub vars x.rows) (bx:VG vars x.rows) (hD:VD x.L.p (x.pub:Int) vars x.rows) (qx:x.dg=ur x.L.p (x.pub:Int) vars x.rows) (yB:x.m=tz x.L x.rows x.ws x.pub)
  (hq:Hd K w fun u=>Md u [ve Aq nq cq] O.qs) (hr:RSl 3 yg w [ve A n c] x.rows) (hw:RWd w [ve B m d] x.ws) (h0:Kd w [ve A0 n0 c0] x.crs) (h1:RWd w [ve A1 n1 c1] x.l1) (h2:RWd w [ve A2 n2 c2] x.l2) (h3:RWd w [ve A3 n3 c3] x.l3) (h4:RWd w [ve A4 n4 c4] x.l4)
  (Yi:1+x.pub <= x.ws.length) (hn16:x.rows.length <= 16384) (Be:x.m.length <= 1000) :
  vA prog 34 #[vf (Bf O (ve Aq nq cq)),vf (Ub x.L),Xc x.L.p (x.pub:Int) vars (ve A n c),ve B m d,vf #[ve A0 n0 c0,ve A1 n1 c1,ve A2 n2 c2,ve A3 n3 c3,ve A4 n4 c4]] w fun e w'=>∃ S v A' n' c',e=vn (.tuple #[vf (Im (x.pr O) S),v,vf (Bf (x.oF O) (ve A' n' c'))]) /\ Hd (fun b=>w.1.size <= b) w' (fun u=>Mt u (x.pr O) S) /\
   w'.ownsRow w.1.size 3 1 v x.L.queries (wg (Sg (x.pos O))) /\ Hd (fun b=>K b \/ w.1.size <= b) w' (fun u=>Md u [ve A' n' c'] (x.oF O).qs) /\ vz w.1.size w w':=by
 obtain ⟨ko,kl,kt,kc,kp,kq,da,Db⟩:=boxes6 w 65 35 25 41 46 65 (Bf O (ve Aq nq cq)) (Ub x.L) #[vd vo x.L.p,vd vq x.pub,vd vq vars,ve A n c] #[ve A0 n0 c0,ve A1 n1 c1,ve A2 n2 c2,ve A3 n3 c3,ve A4 n4 c4] #[vd vo 0,ve vB 0 0,ve vB 0 0,ve vB 0 0,ve vB 0 0,ve vB 0 0,ve vB 0 0] #[.bool false,vd vo 0,vd vq 0,ve vB 0 0,ve vB 0 0,ve vB 0 0];have hL:=hG.L;have eI:=hG.ms;have hml1:=eI.mr;have b1:=hL.b2;have b2:=hL.n2;have b3:=hL.q2;have b4:=hL.k;have HM:=zH (fun w1 (hb:vz w.1.size w w1)=>(zGU x.L x.pub vars A B n c m d x.rows x.ws w1 hL (Qg Bh _ _ _ _ hb hr) (Wa hb hw) Yi hn16).mono (R':=fun e Vk=>∃ v,e=vn v /\ RRx w1.1.size Vk v x.m /\ vz w1.1.size w1 Vk) (by
  rintro e Vk ⟨n',v,cs,rfl,ho,hg,sk⟩;rw [yB];exact ⟨v,rfl,vQ hg ho zR zR,sk⟩))
 have HC:=zH (fun AM nM cM w1 (hb:vz w.1.size w w1) (hm:Kd w1 [ve AM nM cM] x.m)=>(zGF x.L A0 A1 A2 A3 A4 AM n0 n1 n2 n3 n4 nM c0 c1 c2 c3 c4 cM x.m x.crs x.l1 x.l2 x.l3 w1 hL hm (Gk hb h0) (Wa hb h1) (Wa hb h2) (Wa hb h3) eI.rl.symm hml1 (fun r hr=>by have:=eI.rr r hr;omega) zO (zQ hG.c2.1) (zQ hG.c3.1)).mono (R':=fun e Vk=>∃ v,e=vn v /\ RRx w1.1.size Vk v x.cols /\ vz w1.1.size w1 Vk) (by
  rintro e Vk ⟨n',v,cs,rfl,ho,hg,sk⟩;rw [PvIn.ref_cols hG] at hg;exact ⟨v,rfl,vQ hg ho zR zR,sk⟩))
 obtain ⟨s1,Gd⟩:=zEX (x.t1 O);have t1:Vm s1 (k+1) 0:=by rw [Gd];exact zIe h x.L x.dg x.pu
 have hs1c:s1.ct=0:=by rw [Gd];rfl
 obtain ⟨BP,dK⟩:∃ BP,(if d=1 then B else Option.map (fun y:vx=>y.add 1) B)=BP:=⟨_,rfl⟩
 have hBP2:(if d=1 then B else Option.map (fun x=>(⟨x.block,x.off+1,vB⟩:vx)) B)=BP:=dK
 have hwm:=(Pb hw).1;have hwd:=(Pb hw).2.1;have hwx:=(Pb hw).2.2.1;have dv:=ti hwd hwx;have hpu:x.pub<65536:=by
  have h:=Fb;unfold Jd at h;simp only [pe,Mm,Ly] at h;omega
 have zn:=zH (fun w1 (hb:vz w.1.size w w1)=>by
  have xl:=DT (k:=x.pub) (xQ (Wa hb hw) (t:=1) zO) zO;rw [dK] at xl;have:=zDm (K:=fun b=>K b /\ b<w.1.size) O h.fair x.L hL x.L.p (x.pub:Int) vars A Aq BP n c nq cq x.pub (d-1) x.rows x.pu w1 (Qg Bh _ _ _ _ hb hr) hD Fb (sb (wk hq) (yc hb)) xl h.st (Bl h.le zO) (by unfold PvIn.pu;rw [List.length_take];omega)
  rw [<- qx,show WC O x.L x.dg x.pu=s1 by rw [Gd];rfl] at this
  exact this)
 obtain ⟨o2,BF⟩:=zEX (x.o2 O);obtain ⟨tr,oo⟩:=zEX (x.tree O);have hto2:Zv x.dd (Nc s1.O 16 (Ni x.cols x.l4)) (bf s1.O 16 (Ni x.cols x.l4))=o2:=by rw [BF,Gd];rfl
 have htr2:rn x.dd (Nc s1.O 16 (Ni x.cols x.l4)) (bf s1.O 16 (Ni x.cols x.l4))=tr:=by rw [oo,Gd];rfl
 have HCm:=zH (fun (KK:Nat -> Prop) A1 n1 c1 AC nC cC w1 (hb:vz w.1.size w w1) (hc:Kd w1 [ve AC nC cC] x.cols) (hq:Hd KK w1 fun u=>Md u [ve A1 n1 c1] s1.O.qs)=>by
  have:=zGG (K:=KK) t1.o zO AC A4 A1 nC cC n4 c4 n1 c1 x.cols x.l4 x.dd w1 hc (Wa hb h4) hq hG.dd (by rw [x.cols_len,hG.n]) (by rw [x.cols_len];exact hG.c4.1) hG.c4.2 (x.cols_els hL.p) (fun l hl=>by rw [x.cols_row l hl];omega)
  rw [hto2,htr2] at this;exact this)
 have ro2:Um o2 (k+3000):=by
  rw [BF];refine yT (x.o2_ref O hG.n (by rw [<- Gd];exact t1.o)) zO
 have HTO:=zH (show IA x.dd tr by rw [oo];exact zA9 _ hG.dd (by rw [rz,AI,x.cols_len,hG.n]))
 obtain ⟨rt,Mi⟩:=zEX (x.root O);have hrt2:PB tr=rt:=by rw [Mi,oo];rfl
 have pA:=zH (fun u AT nT cT (h:Kd u [ve AT nT cT] tr)=>by have:=zHa h HTO.out;rw [hrt2] at this;exact this)
 have pn:=x.tree_lt O (by rw [<- Gd];exact t1.o.ans)
 have Pe:rt<nc:=by rw [Mi];exact zAr pn
 have Vf:=zH Pe;have Tu:=zH pn;have HPa:=zH (fun u AT nT cT z (h:Kd u [ve AT nT cT] tr) (hz:z<x.L.n)=>zG1 (i:=z) h HTO.out (by rw [<- hG.n];exact hz) (fun k j=>rm (UX (by rw [oo];exact pn) k j)))
 have jI:0<x.L.p:=by have:=Cc hL.p;omega
 have Vb:x.L.p<18446744073709551616:=(Cc hL.p).2;have t2:Vm ⟨o2,s1.st,0⟩ (k+3000) 0:=⟨ro2,t1.st,zR⟩;obtain ⟨s2,Fg⟩:=zEX (Fu ⟨o2,s1.st,0⟩ rt);obtain ⟨ch,Fv⟩:=zEX (Tx ⟨o2,s1.st,0⟩ x.L.p rt);have t3:Vm s2 (k+3004) 3:=by rw [Fg];exact zIf t2 rt
 have HSe:=zH (fun (KK:Nat -> Prop) A1 n1 c1 w1 (hq:Hd KK w1 fun u=>Md u [ve A1 n1 c1] o2.qs)=>by have:=zHM (K:=KK) t2 zO x.L jI Vb A1 n1 c1 rt w1 hq (rm Pe);rw [<- Fg,<- Fv] at this;exact this)
 have ki:ch=x.ch O:=by rw [Fv,BF,Gd,Mi];rfl
 have qI:s2=x.t2 O:=by rw [Fg,BF,Gd,Mi];rfl
 obtain ⟨cd,Ev⟩:=zEX (x.code ch.al);obtain ⟨ln,Me⟩:=zEX (x.lin ch.rh);obtain ⟨qd,Gx⟩:=zEX (x.quad ch.be);have l1:cd.length=x.L.k:=by rw [Ev];simp [PvIn.code]
 have l2:ln.length=x.L.k+x.L.block-1:=by rw [Me];simp [PvIn.lin]
 have l3:qd.length=2*x.L.k-1:=by rw [Gx];simp [PvIn.quad]
 have TI:=zH (fun AM nM cM w1 (hb:vz w.1.size w w1) (hm:Kd w1 [ve AM nM cM] x.m)=>by
  have:=zGC x.L x.pub ch.rh ch.al ch.be vars A AM A0 A1 A2 A3 A4 n c nM cM n0 n1 n2 n3 n4 c0 c1 c2 c3 c4 x.rows x.m x.crs x.l1 x.l2 x.l3 w1 hL hT (Qg Bh _ _ _ _ hb hr) bx hm (Gk hb h0) (Wa hb h1) (Wa hb h2) (Wa hb h3) eI hG.c1.1 hG.c2.1 hG.c3.1;rw [PvIn.ref_code hG,PvIn.ref_lin hG,PvIn.ref_quad hG,<- Ev,<- Me,<- Gx,l1,l2,l3] at this;exact this)
 have Gj:=zH (show ∀ y∈cd,y<18446744073709551616 from fun y hy=>Je (x.code_lt jI hG.c1.2 ch.al y (by rw [<- Ev];exact hy)) Vb)
 have Co:=zH (show ∀ y∈ln,y<18446744073709551616 from fun y hy=>Je (x.lin_lt jI hG.c2.2 ch.rh y (by rw [<- Me];exact hy)) Vb)
 have yw:=zH (show ∀ y∈qd,y<18446744073709551616 from fun y hy=>Je (x.quad_lt jI ch.be y (by rw [<- Gx];exact hy)) Vb)
 obtain ⟨s3,mu⟩:=zEX (ji (Zh s2 3 (cd++ln++qd)) x.L.queries);obtain ⟨pos,ao⟩:=zEX (x.pos O);have uh:cd++ln++qd=x.all O:=by rw [Ev,Me,Gx,ki];rfl
 have ku:Wx s2 (cd++ln++qd) x.L.n x.L.queries=pos:=by rw [ao,uh,qI];rfl
 have hoe:s3.O=x.oF O:=by rw [mu,<- zIc,uh,qI];rfl
 have HTh:=zH (fun (KK:Nat -> Prop) Aq nq cq P1 p1 P2 p2 P3 p3 w1 (q1:RWd w1 [ve P1 x.L.k p1] cd) (q2:RWd w1 [ve P2 (x.L.k+x.L.block-1) p2] ln) (q3:RWd w1 [ve P3 (2*x.L.k-1) p3] qd) (hq:Hd KK w1 fun u=>Md u [ve Aq nq cq] s2.O.qs)=>by
  have:=zIb (K:=KK) t3 zO x.L hL Aq P1 P2 P3 nq cq x.L.k p1 (x.L.k+x.L.block-1) p2 (2*x.L.k-1) p3 cd ln qd w1 hq q1 q2 q3 (by rw [qh,qh,l1,l2,l3];omega)
  rw [<- mu,ku] at this;exact this)
 have Lv:x.L.queries <= x.L.n:=by have:=hL.nk;omega
 have lh:=zH (show pos.length=x.L.queries by rw [<- ku];exact JS _ _ _ _ _ Lv)
 have pJ:=zH (show ∀ y∈pos,y<x.L.n by rw [<- ku];exact b9 _ _ _ _ _ Lv)
 have DM:=zH (show x.L.queries <= 64 from b3)
 have HEQ:=zH (And.intro Ev (And.intro Me (And.intro Gx (And.intro ki (And.intro ao (And.intro oo (And.intro Mi hoe)))))));have HGG:=zH hG;have HARG:=zH (And.intro hw h4);have yJ:=zH (And.intro hwm Yi);obtain ⟨e0,he0⟩:=zEX (1+x.pub);have e1:(1:Int)+x.pub=(e0:Int):=by omega
 have e2:=Xd e0;have e3:(1:Int)<=e0:=by omega
 have e4:(e0:Int)<=d:=by omega
 have e5:e0-1=x.pub:=by omega
 have HBP:=zH hBP2;have HN:=zH (And.intro b1 (And.intro b2 b4));have HS1C:=zH hs1c;rw [<- hoe,<- ao];have nJ:=zH (show x.pr O=x.pr O from rfl)
 obtain ⟨PR,Bv⟩:=zEX (x.pr O);have hPRr:PR.root=rt:=by rw [Bv,Mi];rfl
 rw [<- Bv];have jA:=zH Bv;clear nJ Bv h hk hG Fb hT bx hD qx yB hq hr hw h0 h1 h2 h3 h4 Yi hn16 Be Db hL eI hml1 b1 b2 b3 b4 Gd t1 hs1c dK hBP2 hwm hwd hwx dv hpu BF oo hto2 htr2 ro2 Mi hrt2 pn Pe jI Vb t2 Fg Fv t3 ki qI Ev Me Gx l1 l2 l3 mu ao uh ku hoe Lv he0;obtain ⟨L,kK⟩:=zEX (x.L);have Lg:=zH kK;unfold Ub Xc Bf El at *;rw [<- kK] at ko kl kt kc kp kq da HC zn HSe TI HTh lh pJ DM HN HPa HM |-;clear kK;go_enter func34,ntmps34
 go_upto_region 1 with fail
 generalize ((((((w.alloc _).alloc _).alloc _).alloc _).alloc _).alloc _)=w1 at ko kl kt kc kp kq da |-;have cl:=kl.cell;have ct:=kt.cell;go_wp2_with fail
 refine (HM.out w1 da).mono ?_;rintro e w2 ⟨vm,rfl,Oe,Fa⟩;have s12:=Fa.size;have s01:w.1.size+6 <= w1.1.size:=kq.lt;replace ko:=pa ko Fa;replace kl:=pa kl Fa;replace kt:=pa kt Fa;replace kc:=pa kc Fa;replace kp:=pa kp Fa;replace kq:=pa kq Fa;replace da:=ta da Fa;obtain ⟨AM,nM,cM,rfl⟩:=RSl.slc Oe.here;clear cl ct Fa HM;have cl:=kl.cell;have cc:=kc.cell;go_wp2_with fail
 refine (HC.out AM nM cM w2 da Oe.here).mono ?_;rintro e w3 ⟨vc,rfl,sj,Ra⟩;have s23:=Ra.size;obtain ⟨AC,nC,cC,rfl⟩:=RSl.slc sj.here;replace ko:=pa ko Ra;replace kl:=pa kl Ra;replace kt:=pa kt Ra;replace kc:=pa kc Ra;replace kp:=pa kp Ra;replace kq:=pa kq Ra;replace da:=ta da Ra;have HMR:=zH (show ∀ u:vu,(∀ b,w.1.size+6 <= b -> b<w3.1.size -> u.1[b]?=w3.1[b]?) -> Kd u [ve AM nM cM] x.m from fun u a=>Oe.2 u fun b h1 h2=>(a b zO zO).trans (Ra.block b h2))
 have HCX:=zH sj;have Sz:=zH (show ∀ u:vu,(∀ b,w.1.size+6 <= b -> b<w3.1.size -> u.1[b]?=w3.1[b]?) -> Kd u [ve AC nC cC] x.cols from fun u a=>sj.2 u fun b h1 h2=>a b zO zO)
 have HCS:=zH (show Hd (fun b=>w.1.size+6 <= b /\ b<w3.1.size) w3 (fun u=>∀ b,w.1.size+6 <= b -> b<w3.1.size -> u.1[b]?=w3.1[b]?) from fun u a b h1 h2=>a.block b ⟨h1,h2⟩ h2)
 clear cl cc Oe sj Ra HC;obtain ⟨NQ,Dd⟩:=zEX (w3.1.size);have lq:w.1.size+5<NQ:=by rw [Dd];exact kq.lt
 have lq0:w.1.size<NQ:=Nat.lt_of_le_of_lt (Nat.le_add_right _ 5) lq;have lq1:w.1.size+1<NQ:=Je (Nat.add_lt_add_left (by decide:1<5) _) lq
 have lq2:w.1.size+2<NQ:=Je (Nat.add_lt_add_left (by decide:2<5) _) lq
 have nx0:¬Fc w.1.size:=id;have nx1:¬Fc (w.1.size+1):=id;have nx2:¬Fc (w.1.size+2):=id;have co:=ko.cell;have cl:=kl.cell;have ct:=kt.cell;have KL:=zH kl;have KT:=zH kt;have KC:=zH kc;have KP:=zH kp;have KQ:=zH kq;have HB:=zH da;have se:=zH Dd;clear Dd ko kl kt kc kp kq da;go_upto_region 3 with fail
 refine fw (Fc) (Fc) (NQ) [8,10] [0,1,2,3,4,5,6,7,8] [(9,153,#[.bool false,vd vo 0,vd vq 0,ve vB 0 0,ve vB 0 0,ve vB 0 0,vd vo 0,vd vo 0])] [10] zK (Mw.2 ⟨⟨_,rfl,rfl,fun a w=>by go_simp <;> rfl⟩,Ht _⟩) zK ?_
 refine jw ?_;intro Wc Ga ja;have La:Hid (Ui Fc NQ Fc Wc):=zH (by rw [Ga.out,se.out];exact ⟨zR,fun _ h=>h.elim,fun _ _ h=>h⟩)
 have oc:=zH (show vz w.1.size w Wc by rw [Ga.out];exact HB.out.drew)
 have Uq:=zH (show Blk Wc _ _ _ by rw [Ga.out];exact KL.out.drew)
 have Mo:=zH (show Blk Wc _ _ _ by rw [Ga.out];exact KT.out.drew)
 have Wh:=zH (show Blk Wc _ _ _ by rw [Ga.out];exact KC.out.drew)
 have Lo:=zH (show Blk Wc _ _ _ by rw [Ga.out];exact KP.out.drew)
 have FJ:=zH (show Blk Wc _ _ _ by rw [Ga.out];exact KQ.out.drew)
 have SQ:=zH (sb HCS.out (show Yd _ _ Wc by rw [Ga.out];exact Ln))
 have H3s:=zH (show w3.1.size <= Wc.1.size by rw [Ga.out];exact zR)
 clear Ga HB KL KT KC KP KQ HCS;refine yi ?_;rw [HBP.out];refine Nz (f:=?_) (vals:=?_) rfl rfl rfl La ?_ (fun wF Xa=>?_)
 rotate_left 3
 replace oc:=zH (ta oc.out Xa);replace Uq:=zH (Uq.out.below Xa Uq.out.lt);replace Mo:=zH (Mo.out.below Xa Mo.out.lt);replace Wh:=zH (Wh.out.below Xa Wh.out.lt);replace Lo:=zH (Lo.out.below Xa Lo.out.lt);replace FJ:=zH (FJ.out.below Xa FJ.out.lt);replace SQ:=zH (sb SQ.out (yc Xa));replace ja:=zM (mc Fc NQ) ja (ze Xa La.out.size);replace La:=zH (Te La.out Xa);refine (zn.out wF oc.out).mono ?_
 rotate_left
 ·intro w_;go_simp <;> rfl
 rintro e wC ⟨A1q,n1q,c1q,rfl,hd1,Ca⟩;clear Xa;refine ⟨_,Yf Fc wF wC,rfl,Rh Ca,zm La.out Ca,?_⟩;replace ja:=zM (mc Fc NQ) ja (jk La.out (Rh Ca));replace La:=zH (Kl La.out (Rh Ca) (zm La.out Ca));refine zPU ?_;obtain ⟨KK,Zw⟩:∃ KK:Nat -> Prop,KK=fun b=>((K b /\ b<w.1.size) \/ wF.1.size <= b) /\ b<wC.1.size:=⟨_,rfl⟩
 have uk:=wk hd1;rw [<- Zw] at uk;have kh:=zH uk;have HFS:=zH (show w.1.size+6 <= wF.1.size from FJ.out.lt)
 have Oy:∀ b,KK b -> b<w.1.size \/ Yf Fc wF wC b:=fun b hb=>by
  rw [Zw] at hb;exact hb.1.elim (fun e=>.inl e.2) fun e=>.inr (.inr ⟨e,hb.2⟩)
 have Qm:=zH (show ∀ b,KK b -> (K b /\ b<w.1.size) \/ w.1.size+6 <= b from fun b hb=>by
  rw [Zw] at hb;exact hb.1.elim .inl fun e=>.inr (jb HFS.out e))
 have He:=zH (ta oc.out Ca);have Iw:=zH (Uq.out.below Ca Uq.out.lt);have CC:=zH (Mo.out.below Ca Mo.out.lt);have Sq:=zH (Wh.out.below Ca Wh.out.lt);have yC:=zH (Lo.out.below Ca Lo.out.lt);have KQ3:=zH (FJ.out.below Ca FJ.out.lt);have TQ:=zH (sb SQ.out (yc Ca));have bD:∀ b,Yf Fc wF wC b -> w.1.size+6 <= b:=fun b hb=>hb.elim (fun e=>e.elim) fun e=>jb HFS.out e.1
 generalize Yf Fc wF wC=V3 at La Oy bD |-;clear hd1 uk Ca oc Uq Mo Wh Lo FJ SQ Zw HFS;refine yi ?_;refine iw [(vD 15,9)] rfl La (fun Ym wE Wb Ng=>?_)
 have WJ:=Ng.blk _ (.head _) rfl;clear Ng;unfold Jm Zl;simp only [List.foldl];dsimp only at WJ
 generalize Ym 9=g9 at WJ  |-;obtain ⟨k9,RH,rL⟩:=WJ;replace He:=zH (ta He.out Wb);replace Iw:=zH (Iw.out.below Wb Iw.out.lt);replace CC:=zH (CC.out.below Wb CC.out.lt);replace Sq:=zH (Sq.out.below Wb Sq.out.lt);replace yC:=zH (yC.out.below Wb yC.out.lt);replace KQ3:=zH (KQ3.out.below Wb KQ3.out.lt);replace kh:=zH (sb kh.out (yc Wb));replace TQ:=zH (sb TQ.out (yc Wb));replace ja:=zM (mc Fc NQ) ja (ze Wb La.out.size);replace La:=zH (Te La.out Wb)
 refine zPU ?_
 have nK9:¬KK g9:=fun e=>(Oy _ e).elim (fun h=>zO) rL
 have NK9:=zH nK9;have HG9:=zH (show w3.1.size <= g9 by rw [<- se.out];exact RH)
 clear nK9 Oy bD Wb;have c9:=k9.cell;have f9:=k9.frozen;refine Ip ?_;refine ke (mc Fc NQ) rfl rfl rfl ?_;go_simp;refine ⟨ze (LD RH [.bool s1.O.ideal,vd vo s1.O.st,vd vq s1.O.dr,ve A1q n1q c1q,ve vB 0 0,ve vB 0 0,vd vo s1.st,vd vo s1.ct] 0 _) zR,?_⟩
 refine zPU ?_
 refine Vc ?_;obtain ⟨wZ,hwZ,kS,st⟩:=lY k9 (.bool s1.O.ideal) (vd vo s1.O.st) (vd vq s1.O.dr) (ve A1q n1q c1q) (ve vB 0 0) (ve vB 0 0) (vd vo s1.st) (vd vo s1.ct);rw [hwZ];have lg9:=k9.lt;have l9H:w.1.size+6 <= g9:=by have:=HG9.out;omega
 have n9m:∀ b,w.1.size+6 <= b /\ b<w3.1.size -> b≠g9:=fun b hb e=>by have:=HG9.out;omega
 have Jh:=zH (st.below He.out zO);have AA:=zH (st.blk Iw.out zO);have tE:=zH (st.blk CC.out zO);have uC:=zH (st.blk Sq.out zO);have sE:=zH (st.blk yC.out zO);have zC:=zH (st.blk KQ3.out zO);have yn:=zH (st.hd kh.out NK9.out);have ZB:=zH (st.hd TQ.out fun e=>n9m _ e rfl)
 have HK2b:=zH (show ∀ b,KK b -> b≠g9 from fun b hb e=>NK9.out (by rw [<- e];exact hb))
 clear hwZ c9 f9 k9 st He Iw CC Sq yC KQ3 kh TQ ja La n9m NK9 RH rL co cl ct nx0 nx1 nx2 e1 e2 e3 e4 e5 lq lq0 lq1 lq2 se;have co9:=kS.cell;have cc:=uC.out.cell;have Df:=zH kS;clear kS;go_upto_region 4 with fail
 go_wp2_with fail
 refine (HCm.out KK A1q n1q c1q AC nC cC wZ Jh.out (Sz.out _ (Tl ZB.out)) yn.out).mono ?_;rintro e w8 ⟨At,nt,ct,A2q,n2q,c2q,rfl,htr8,hq8,Zf⟩;clear co9 cc;have vW:=wk hq8;have B5:=wk htr8;obtain ⟨KM,hKM⟩:∃ KM:Nat -> Prop,KM=fun b=>(KK b \/ wZ.1.size <= b) /\ b<w8.1.size:=⟨_,rfl⟩
 rw [<- hKM] at vW;have l9:g9<wZ.1.size:=Df.out.lt;have s38:wZ.1.size <= w8.1.size:=Zf.size;have eJ:=zH (show ∀ b,KM b -> ((K b /\ b<w.1.size) \/ w.1.size+6 <= b) /\ b<w8.1.size /\ b≠g9 from fun b hb=>by
  rw [hKM] at hb;refine ⟨hb.1.elim (Qm.out b) fun e=>.inr (zQ zC.out.lt),hb.2,hb.1.elim (HK2b.out b) fun e=>zO⟩)
 have HQ5:=zH vW;have HT5:=zH B5;have s39:w3.1.size <= wZ.1.size:=by have:=HG9.out;omega
 replace AA:=zH (AA.out.below Zf AA.out.lt);replace tE:=zH (tE.out.below Zf tE.out.lt);replace uC:=zH (uC.out.below Zf uC.out.lt);replace sE:=zH (sE.out.below Zf sE.out.lt);replace zC:=zH (zC.out.below Zf zC.out.lt);replace Jh:=zH (ta Jh.out Zf);replace ZB:=zH (sb ZB.out (yc Zf));replace Df:=zH (Df.out.below Zf Df.out.lt);obtain ⟨kO2,ma⟩:=zN w8 65 #[.bool o2.ideal,vd vo o2.st,vd vq o2.dr,ve A2q n2q c2q,ve vB 0 0,ve vB 0 0];replace AA:=zH (AA.out.below ma AA.out.lt);replace tE:=zH (tE.out.below ma tE.out.lt);replace uC:=zH (uC.out.below ma uC.out.lt);replace sE:=zH (sE.out.below ma sE.out.lt);replace zC:=zH (zC.out.below ma zC.out.lt);replace Jh:=zH (ta Jh.out ma);replace ZB:=zH (sb ZB.out (yc ma));replace HQ5:=zH (sb HQ5.out (yc ma));replace HT5:=zH (sb HT5.out (yc ma));replace Df:=zH (Df.out.below ma Df.out.lt);have l48:w.1.size+6 <= w8.1.size:=by omega
 clear ma Zf hq8 htr8 vW B5 hKM yn Qm HK2b KK HCm;go_upto_region 5 with fail
 generalize w8.alloc _=w9 at kO2 AA tE uC sE zC Jh ZB HQ5 HT5 Df |-;have l8:=kO2.lt;have cO2:=kO2.cell;have c9:=Df.out.cell;have f9:=Df.out.frozen;have l9':=Df.out.lt;obtain ⟨g8,NK⟩:=zEX (w8.1.size);have HG8:=zH NK;rw [<- NK] at kO2 eJ HT5 l48 l8 s38 cO2 |-;clear NK;have n89:g8≠g9:=by omega
 go_upto_region 6 with fail
 obtain ⟨wR,hwR,kS,st⟩:=zH2 Df.out (.bool o2.ideal) (vd vo o2.st) (vd vq o2.dr) (ve A2q n2q c2q) (ve vB 0 0) (ve vB 0 0);rw [hwR];have Jw:=zH (st.blk AA.out zO);have wy:=zH (st.blk tE.out zO);have ry:=zH (st.blk uC.out zO);have sy:=zH (st.blk sE.out zO);have uy:=zH (st.blk zC.out zO);have Kp:=zH (st.below Jh.out zO);have ZD:=zH (st.hd ZB.out fun e=>by have:=HG9.out;omega)
 have qJ:=zH (st.hd HQ5.out fun e=>(eJ.out _ e).2.2 rfl)
 have rC:=zH (st.hd HT5.out fun e=>zO)
 have sR:=zH (show wR.1.size=w9.1.size from st.size)
 rw [HS1C.out] at kS;clear hwR st AA tE uC sE zC Jh ZB HQ5 HT5 Df cO2 c9 f9 l9' kO2;have Df:=zH kS;clear kS;have HRt:=zH (pA.out wR At nt ct (Tl rC.out));clear pA;go_wp2_with fail
 refine (HRt.out).mono ?_;rintro e sn ⟨rfl,xh⟩;replace Jw:=zH (Jw.out.below xh Jw.out.lt);replace wy:=zH (wy.out.below xh wy.out.lt);replace ry:=zH (ry.out.below xh ry.out.lt);replace sy:=zH (sy.out.below xh sy.out.lt);replace uy:=zH (uy.out.below xh uy.out.lt);replace Kp:=zH (ta Kp.out xh);replace ZD:=zH (sb ZD.out (yc xh));replace qJ:=zH (sb qJ.out (yc xh));replace rC:=zH (sb rC.out (yc xh));replace Df:=zH (Df.out.below xh Df.out.lt);have s10:=xh.size;obtain ⟨kB,ma⟩:=zN sn 46 #[vd vo rt,ve vB 0 0,ve vB 0 0,ve vB 0 0,ve vB 0 0,ve vB 0 0,ve vB 0 0];have lP:g8<sn.1.size:=by have:=sR.out;omega
 replace Jw:=zH (Jw.out.below ma Jw.out.lt);replace wy:=zH (wy.out.below ma wy.out.lt);replace ry:=zH (ry.out.below ma ry.out.lt);replace sy:=zH (sy.out.below ma sy.out.lt);replace uy:=zH (uy.out.below ma uy.out.lt);replace Kp:=zH (ta Kp.out ma);replace ZD:=zH (sb ZD.out (yc ma));replace qJ:=zH (sb qJ.out (yc ma));replace rC:=zH (sb rC.out (yc ma));replace Df:=zH (Df.out.below ma Df.out.lt);clear ma xh HRt sR;go_upto_region 7 with fail
 generalize sn.alloc _=PI at kB Jw wy ry sy uy Kp ZD qJ rC Df |-;obtain ⟨gP,hgP⟩:=zEX (sn.1.size);rw [<- hgP] at kB lP |-;clear hgP s10 l8;have cP:=kB.cell;have lPw:=kB.lt;have cS:=Df.out.cell;have cl:=Jw.out.cell;have Dt:=zH kB;have LG:=zH (HSe.out KM A2q n2q c2q PI qJ.out);clear kB;go_wp2_with fail
 refine LG.out.mono ?_;rintro e Hu ⟨A3q,n3q,c3q,rfl,hq12,Tn⟩;clear cP cS cl LG HSe;have tW:=wk hq12;obtain ⟨KN,hKN⟩:∃ KN:Nat -> Prop,KN=fun b=>(KM b \/ PI.1.size <= b) /\ b<Hu.1.size:=⟨_,rfl⟩
 rw [<- hKN] at tW;have s12':PI.1.size <= Hu.1.size:=Tn.size;have HKN:=zH (show ∀ b,KN b -> ((K b /\ b<w.1.size) \/ w.1.size+6 <= b) /\ b<Hu.1.size /\ b≠g9 /\ b≠gP from fun b hb=>by
  rw [hKN] at hb;exact hb.1.elim (fun e=>⟨(eJ.out b e).1,hb.2,(eJ.out b e).2.2,by have:=(eJ.out b e).2.1;omega⟩) fun e=>⟨.inr zO,hb.2,zO,zO⟩)
 have HQ7:=zH tW;replace Jw:=zH (Jw.out.below Tn Jw.out.lt);replace wy:=zH (wy.out.below Tn wy.out.lt);replace ry:=zH (ry.out.below Tn ry.out.lt);replace sy:=zH (sy.out.below Tn sy.out.lt);replace uy:=zH (uy.out.below Tn uy.out.lt);replace Kp:=zH (ta Kp.out Tn);replace ZD:=zH (sb ZD.out (yc Tn));replace rC:=zH (sb rC.out (yc Tn));replace Df:=zH (Df.out.below Tn Df.out.lt);replace Dt:=zH (Dt.out.below Tn Dt.out.lt);have l9g:g9<PI.1.size:=by omega
 have l9x:g9<Hu.1.size:=by omega
 have lPx:gP<Hu.1.size:=by omega
 have n9x:Hu.1.size≠g9:=by omega
 obtain ⟨wV0,hwV,kS,st⟩:=lY Df.out (.bool s2.O.ideal) (vd vo s2.O.st) (vd vq s2.O.dr) (ve A3q n3q c3q) (ve vB 0 0) (ve vB 0 0) (vd vo s2.st) (vd vo s2.ct);have HWV:=zH hwV;have Gn:=zH (st.blk Jw.out zO);have Yu:=zH (st.blk wy.out zO);have Tq:=zH (st.blk ry.out zO);have Kw:=zH (st.blk sy.out zO);have Lw:=zH (st.blk uy.out zO);have Kh:=zH (st.below Kp.out zO);have Rz:=zH (st.hd ZD.out fun e=>by have:=HG9.out;omega)
 have jC:=zH (st.hd HQ7.out fun e=>(HKN.out _ e).2.2.1 rfl)
 have sC:=zH (st.hd rC.out fun e=>zO)
 have Qu:=zH (st.blk Dt.out zO);have HKV:=zH kS;obtain ⟨kX,ma⟩:=zN wV0 53 #[vd vo ch.al,vd vo ch.rh,vd vo ch.be];rw [st.size] at kX;have Wg:=zH kX;replace Gn:=zH (Gn.out.below ma Gn.out.lt);replace Yu:=zH (Yu.out.below ma Yu.out.lt);replace Tq:=zH (Tq.out.below ma Tq.out.lt);replace Kw:=zH (Kw.out.below ma Kw.out.lt);replace Lw:=zH (Lw.out.below ma Lw.out.lt);replace Kh:=zH (ta Kh.out ma);replace Rz:=zH (sb Rz.out (yc ma));replace jC:=zH (sb jC.out (yc ma));replace sC:=zH (sb sC.out (yc ma));replace Qu:=zH (Qu.out.below ma Qu.out.lt);replace HKV:=zH (HKV.out.below ma HKV.out.lt);have cS:=Df.out.cell;have fS:=Df.out.frozen;have lS:=Df.out.lt;clear ma hq12 tW hKN Tn kX qJ hwV kS st Jw wy ry sy uy Kp ZD HQ7 rC Dt;go_upto_region 8 with fail
 rw [HWV.out];generalize wV0.alloc _=wV at Wg Gn Yu Tq Kw Lw Kh Rz jC sC Qu HKV |-;clear HWV cS fS lS Df;have Df:=zH HKV.out;clear HKV;obtain ⟨gX,hgX⟩:=zEX (Hu.1.size);rw [<- hgX] at Wg HKN l9x lPx n9x |-;clear hgX;have cX:=Wg.out.cell;have cl:=Gn.out.cell;have ct:=Yu.out.cell;have cc:=Tq.out.cell;have HAc:=zH (TI.out AM nM cM wV Kh.out (HMR.out _ (Tl Rz.out)));clear TI;go_wp2_with fail
 refine HAc.out.mono ?_;rintro e QD ⟨v1,v2,v3,rfl,o1,xz,o3,Fi⟩;clear cX cl ct cc HAc;have s14:=Fi.size;have lXv:gX<wV.1.size:=Wg.out.lt;obtain ⟨P1,p1,rfl,-⟩:=Yb o1;obtain ⟨P2,p2,rfl,-⟩:=Yb xz;obtain ⟨P3,p3,rfl,-⟩:=Yb o3;replace Gn:=zH (Gn.out.below Fi Gn.out.lt);replace Yu:=zH (Yu.out.below Fi Yu.out.lt);replace Tq:=zH (Tq.out.below Fi Tq.out.lt);replace Kw:=zH (Kw.out.below Fi Kw.out.lt);replace Lw:=zH (Lw.out.below Fi Lw.out.lt);replace Kh:=zH (ta Kh.out Fi);replace Rz:=zH (sb Rz.out (yc Fi));replace jC:=zH (sb jC.out (yc Fi));replace sC:=zH (sb sC.out (yc Fi));replace Qu:=zH (Qu.out.below Fi Qu.out.lt);replace Wg:=zH (Wg.out.below Fi Wg.out.lt);replace Df:=zH (Df.out.below Fi Df.out.lt);obtain ⟨kA,ma⟩:=zN QD 161 #[ve P1 L.k p1,ve P2 (L.k+L.block-1) p2,ve P3 (2*L.k-1) p3];replace Gn:=zH (Gn.out.below ma Gn.out.lt);replace Yu:=zH (Yu.out.below ma Yu.out.lt);replace Tq:=zH (Tq.out.below ma Tq.out.lt);replace Kw:=zH (Kw.out.below ma Kw.out.lt);replace Lw:=zH (Lw.out.below ma Lw.out.lt);replace Kh:=zH (ta Kh.out ma);replace Rz:=zH (sb Rz.out (yc ma));replace jC:=zH (sb jC.out (yc ma));replace sC:=zH (sb sC.out (yc ma));replace Qu:=zH (Qu.out.below ma Qu.out.lt);replace Wg:=zH (Wg.out.below ma Wg.out.lt);replace Df:=zH (Df.out.below ma Df.out.lt);replace o1:=Za o1 ma zR;replace xz:=Za xz ma zR;replace o3:=Za o3 ma zR;clear ma Fi;go_upto_region 9 with fail
 generalize QD.alloc _=Hz at kA Gn Yu Tq Kw Lw Kh Rz jC sC Qu Wg Df o1 xz o3 |-;obtain ⟨gA,fD⟩:=zEX (QD.1.size);rw [<- fD] at kA |-;have lAP:gP<gA:=by omega
 have sVA:wV.1.size <= gA:=by omega
 have cA:=kA.cell;have lA:=kA.lt;have lPz:=Qu.out.lt;have nAP:gA≠gP:=by omega
 have O1:=zH o1;have O2:=zH xz;have O3:=zH o3;have KA:=zH kA;clear kA o1 xz o3 fD;refine Pd (Ji gP) [7,9,11] [0,1,2,3,4,5,6,7,8,9,10,11] zK zK ?_;refine oe (de gP) ?_;intro Wc Ga ja;have KL7:=zH (show Blk Wc _ _ _ by rw [Ga.out];exact Gn.out.drew)
 have KT7:=zH (show Blk Wc _ _ _ by rw [Ga.out];exact Yu.out.drew)
 have KC7:=zH (show Blk Wc _ _ _ by rw [Ga.out];exact Tq.out.drew)
 have KP7:=zH (show Blk Wc _ _ _ by rw [Ga.out];exact Kw.out.drew)
 have KQ7:=zH (show Blk Wc _ _ _ by rw [Ga.out];exact Lw.out.drew)
 have KA7:=zH (show Blk Wc _ _ _ by rw [Ga.out];exact KA.out.drew)
 have KB7:=zH (show Blk Wc _ _ _ by rw [Ga.out];exact Qu.out.drew)
 have KS7:=zH (show Blk Wc _ _ _ by rw [Ga.out];exact Df.out.drew)
 have ay:=zH (show vz w.1.size w Wc by rw [Ga.out];exact Kh.out.drew)
 have HC7:=zH (sb Rz.out (show Yd _ _ Wc by rw [Ga.out];exact Ln))
 have HQ9:=zH (sb jC.out (show Yd _ _ Wc by rw [Ga.out];exact Ln))
 have tC:=zH (sb sC.out (show Yd _ _ Wc by rw [Ga.out];exact Ln))
 have O17:=zH (show Wc.ownsRow _ _ _ _ _ _ by rw [Ga.out];exact Ye O1.out fun _ _=>rfl)
 have O27:=zH (show Wc.ownsRow _ _ _ _ _ _ by rw [Ga.out];exact Ye O2.out fun _ _=>rfl)
 have O37:=zH (show Wc.ownsRow _ _ _ _ _ _ by rw [Ga.out];exact Ye O3.out fun _ _=>rfl)
 have cB:=KB7.out.cell;have fB:=KB7.out.frozen;have lB:=KB7.out.lt;clear Ga Gn Yu Tq Kw Lw KA Qu Df Kh Rz jC sC O1 O2 O3 Wg;refine Hk ?_;refine ke (de gP) rfl rfl rfl ?_;go_simp;refine ⟨Hh (w:=Wc) gP 1 (ve P1 L.k p1),?_⟩
 refine zPU ?_
 have Mx:=KB7.out.set_ 1 (ve P1 L.k p1);have Th:=kY (w:=Wc) gP 1 (ve P1 L.k p1);simp only [Ha,Ja,Ia] at Mx;generalize Wc.setCell _ _=wa at Mx Th |-;clear cB fB lB ja;have ja:=(de gP).refl wa;have cB:=Mx.cell;have fB:=Mx.frozen;have lB:=Mx.lt;refine Hk ?_;refine ke (de gP) rfl rfl rfl ?_;go_simp;refine ⟨Hh (w:=wa) gP 2 (ve P2 (L.k+L.block-1) p2),?_⟩
 refine zPU ?_
 have yL:=Mx.set_ 2 (ve P2 (L.k+L.block-1) p2);have Fz:=Th.trans (kY (w:=wa) gP 2 (ve P2 (L.k+L.block-1) p2));simp only [Ha,Ja,Ia] at yL;generalize wa.setCell _ _=wb at yL Fz |-;clear cB fB lB ja Mx Th;have ja:=(de gP).refl wb;have cB:=yL.cell;have fB:=yL.frozen;have lB:=yL.lt;refine Hk ?_;refine ke (de gP) rfl rfl rfl ?_;go_simp;refine ⟨Hh (w:=wb) gP 3 (ve P3 (2*L.k-1) p3),?_⟩
 refine zPU ?_
 have kb3:=yL.set_ 3 (ve P3 (2*L.k-1) p3);have xt:=Fz.trans (kY (w:=wb) gP 3 (ve P3 (2*L.k-1) p3));simp only [Ha,Ja,Ia] at kb3;generalize wb.setCell _ _=wc at kb3 xt |-;clear cB fB lB ja yL Fz;have ja:=(de gP).refl wc;refine Vc ?_;clear ja cA lA;have lPV:gP<wV.1.size:=by omega
 have KL8:=zH (xt.blk KL7.out zO);have KT8:=zH (xt.blk KT7.out zO);have KC8:=zH (xt.blk KC7.out zO);have KP8:=zH (xt.blk KP7.out zO);have KQ8:=zH (xt.blk KQ7.out zO);have KA8:=zH (xt.blk KA7.out nAP);have BC:=zH (xt.blk KS7.out zO);have Lq:=zH (xt.below ay.out zO);have HC8:=zH (xt.hd HC7.out fun e=>zO)
 have HQ10:=zH (xt.hd HQ9.out fun e=>(HKN.out _ e).2.2.2 rfl)
 have HT9:=zH (xt.hd tC.out fun e=>zO)
 have O18:=zH (xt.own O17.out fun b hb=>by have:=(O17.out.lt b hb).1;omega)
 have O28:=zH (xt.own O27.out fun b hb=>by have:=(O27.out.lt b hb).1;omega)
 have O38:=zH (xt.own O37.out fun b hb=>by have:=(O37.out.lt b hb).1;omega)
 have yM:=zH kb3;clear xt kb3 KL7 KT7 KC7 KP7 KQ7 KA7 KS7 KB7 ay HC7 HQ9 tC O17 O27 O37;have cA:=KA8.out.cell;have cl:=KL8.out.cell;have cS:=BC.out.cell;have HTc:=zH (HTh.out KN A3q n3q c3q P1 p1 P2 p2 P3 p3 wc (Sf O18.out Gj.out) (Sf O28.out Co.out) (Sf O38.out yw.out) HQ10.out);clear HTh;go_wp2_with fail
 refine HTc.out.mono ?_;rintro e w16 ⟨A4q,n4q,c4q,v,rfl,ow,hq16,Ql⟩;clear cA cl cS HTc;obtain ⟨Av,cv,rfl,-⟩:=Yb ow;have s16:=Ql.size;have uW:=wk hq16;obtain ⟨KR,hKR⟩:∃ KR:Nat -> Prop,KR=fun b=>(KN b \/ wc.1.size <= b) /\ b<w16.1.size:=⟨_,rfl⟩
 rw [<- hKR] at uW;have lPc:gP<wc.1.size:=yM.out.lt;have l9c:g9<wc.1.size:=BC.out.lt;have yG:=zH (show ∀ b,KR b -> ((K b /\ b<w.1.size) \/ w.1.size+6 <= b) /\ b<w16.1.size /\ b≠g9 /\ b≠gP from fun b hb=>by
  rw [hKR] at hb;exact hb.1.elim (fun e=>⟨(HKN.out b e).1,hb.2,(HKN.out b e).2.2⟩) fun e=>⟨.inr zO,hb.2,zO,zO⟩)
 have HQ11:=zH uW;have lV8:wV.1.size <= wc.1.size:=by have:=KA8.out.lt;omega
 have L1:=zH (show (∀ b,(ve P1 L.k p1).ownBlock=vD b -> wV.1.size <= b /\ b<wc.1.size) /\ (∀ b,(ve P2 (L.k+L.block-1) p2).ownBlock=vD b -> wV.1.size <= b /\ b<wc.1.size) /\ ∀ b,(ve P3 (2*L.k-1) p3).ownBlock=vD b -> wV.1.size <= b /\ b<wc.1.size from ⟨O18.out.lt,O28.out.lt,O38.out.lt⟩)
 replace KL8:=zH (KL8.out.below Ql KL8.out.lt);replace KT8:=zH (KT8.out.below Ql KT8.out.lt);replace KC8:=zH (KC8.out.below Ql KC8.out.lt);replace KP8:=zH (KP8.out.below Ql KP8.out.lt);replace KQ8:=zH (KQ8.out.below Ql KQ8.out.lt);replace Lq:=zH (ta Lq.out Ql);replace HC8:=zH (sb HC8.out (yc Ql));replace HT9:=zH (sb HT9.out (yc Ql));replace yM:=zH (yM.out.below Ql yM.out.lt);replace BC:=zH (BC.out.below Ql BC.out.lt);replace O18:=zH (Za O18.out Ql zR);replace O28:=zH (Za O28.out Ql zR);replace O38:=zH (Za O38.out Ql zR);have OW:=zH ow;have cS:=BC.out.cell;have fS:=BC.out.frozen;have lS:=BC.out.lt;clear Ql hq16 uW hKR ow HQ10 KA8;go_upto_region 11 with fail
 obtain ⟨wW,hwW,kS,st⟩:=lY BC.out (.bool s3.O.ideal) (vd vo s3.O.st) (vd vq s3.O.dr) (ve A4q n4q c4q) (ve vB 0 0) (ve vB 0 0) (vd vo s3.st) (vd vo s3.ct);rw [hwW];have KC9:=zH (st.blk KC8.out zO);have KP9:=zH (st.blk KP8.out zO);have KQ9:=zH (st.blk KQ8.out zO);have HB9:=zH (st.below Lq.out zO);have HC9:=zH (st.hd HC8.out fun e=>by have:=HG9.out;omega)
 have HQ12:=zH (st.hd HQ11.out fun e=>(yG.out _ e).2.2.1 rfl)
 have MU:=zH (st.hd HT9.out fun e=>zO)
 have kb:=st.blk yM.out zO;have O1:=zH (st.own O18.out fun b hb=>by have:=(L1.out.1 b hb).1;omega)
 have O2:=zH (st.own O28.out fun b hb=>by have:=(L1.out.2.1 b hb).1;omega)
 have O3:=zH (st.own O38.out fun b hb=>by have:=(L1.out.2.2 b hb).1;omega)
 have aG:=st.own OW.out fun b hb=>by have:=(OW.out.lt b hb).1;omega
 have ssz:wW.1.size=w16.1.size:=st.size;have KS9:=zH kS;clear hwW st KL8 KT8 KC8 KP8 KQ8 Lq HC8 HQ11 HT9 yM BC O18 O28 O38 OW cS fS lS kS;have pU:=zH (Q8 aG);have OWP:=zH aG;have lgr0:∀ b,(ve Av L.queries cv).ownBlock=vD b -> wc.1.size <= b /\ b<wW.1.size:=aG.lt;have Vz:=zH lgr0;obtain ⟨N,hN⟩:=zEX (wW.1.size);have SH:gP<N:=by omega
 have pj:N <= wW.1.size:=by omega
 have Ml:wW.1.size <= N:=by omega
 have h9N:g9<N:=by omega
 have hwcN:wc.1.size <= N:=by omega
 have hHN:w.1.size+6 <= N:=by omega
 have h3N:w3.1.size <= N:=by omega
 have h8N:g8<N:=by omega
 have h3P:w3.1.size <= gP:=by omega
 have h16N:w16.1.size <= N:=by omega
 have hHP:w.1.size+6 <= gP:=by omega
 clear hN aG lgr0 ssz;go_upto_region 12 with fail
 go_loopw [23] (fun y wr=>∃ (i:Nat) (xs:Nat -> vw) (nn:Nat -> Nat) (vs:Nat -> List vw),i <= L.queries /\ y=vd vq i /\ Blk wr gP 46 #[vd vo rt,ve P1 L.k p1,ve P2 (L.k+L.block-1) p2,ve P3 (2*L.k-1) p3,xs 0,xs 1,xs 2] /\ OwnF N wr (i+3) tyF xs nn vs /\ Hid (InvP pos x.cols x.l4 (fun z=>Bp tr z) x.dd w2.1.size w3 i xs nn vs) /\ Ik gP N wW wr /\ N <= wr.1.size) (fun y _=>L.queries-(intOf y).toNat)
 case atStart =>
  refine ⟨0,fun _=>ve vB 0 0,fun _=>0,fun _=>[],Qb _,rfl,kb,⟨fun j _=>⟨rfl, .inl ⟨rfl,rfl⟩⟩,fun j i _ _ _ q h=>nomatch h⟩,zH ⟨rfl,rfl,rfl,rfl,z8 _ _,rfl,fun k hk=>absurd hk zO⟩,(yb _ _).refl _,pj⟩
 case round =>
  clear kb;obtain ⟨i,xs,nn,vs,hi,rfl,kb,Bc,HI,Va,tf⟩:=hrel;have Jf:=zH (show vz w.1.size w wr from ⟨Va.1.trans HB9.out.os,Va.2.1.trans HB9.out.tape,Va.2.2.1.trans HB9.out.output,jb HB9.out.size Va.2.2.2.1,fun b hb=>(Va.2.2.2.2 b zO zO).trans (HB9.out.block b hb)⟩)
  by_cases ya:i<L.queries
  ·have g1:(0:Int)<=i:=by omega
   have g2:(i:Int)<L.queries:=by omega
   have tc:=zH ya;obtain ⟨z,hz⟩:∃ z:Nat,z=pos.getD i 0:=⟨_,rfl⟩;have Lx:z<L.n:=by rw [hz];exact pJ.out _ (qH 0 (by rw [lh.out];exact ya))
   obtain ⟨b0,q0,e0,lb0,Sl⟩:=gG pU.out zO;have a0:wW.cell? ⟨b0,q0+i,vB⟩=vD (vd vq z):=by rw [Sl i ya,hz];exact Q7 (by rw [lh.out];exact ya)
   have Ta:=Vz.out b0 (by rw [e0];rfl)
   have RV:b0<N:=by omega
   have SV:b0≠gP:=by omega
   have c0x:wr.cell? ⟨b0,q0+i,vB⟩=vD (vd vq z):=(ov (Va.2.2.2.2 b0 RV SV)).trans a0;have lgr':b0<wr.1.size:=by omega
   have kc:Blk wr (w.1.size+3) _ _:=(Va.2.2.2.2 _ zO zO).trans KC9.out;have cc:=kc.cell;have lc:=kc.lt;obtain ⟨bC,qC,B1,XF,OE,eC,cD,dD,hcC,LP⟩:=VX HCX.out (show z<x.cols.length by rw [x.cols_len,<- Lg.out];exact Lx)
   have XV:wr.cell? ⟨bC,qC+z,vB⟩=vD (ve B1 XF OE):=(ov ((Va.2.2.2.2 bC zO zO).trans (Tl HC9.out bC zO dD))).trans hcC;have lbC:bC<wr.1.size:=by omega
   have hbC1:bC<N:=by omega
   have hbC2:bC≠N:=by omega
   have Rr:(z:Int)<nC:=by have:=(Ig HCX.out.here).1;rw [x.cols_len,<- Lg.out] at this;omega
   have Hi:(0:Int)<=z:=by omega
   have hrA:=Wa Jf.out HARG.out.2;obtain ⟨yP,-,-,-,cL⟩:=Pb hrA;have dL:=cL;rw [yP] at dL;obtain ⟨bS,qS,eS,lbS,hcS⟩:=Hf dL (show z<x.l4.length by rw [HGG.out.c4.1,<- Lg.out];exact Lx)
   obtain ⟨sz,lL⟩:∃ sz,sz=x.l4.getD z 0:=⟨_,rfl⟩;have oP:wr.cell? ⟨bS,qS+z,vB⟩=vD (vd vo sz):=by rw [lL];exact hcS
   have vL:(z:Int)<n4:=by have:=HGG.out.c4.1;rw [<- Lg.out] at this;omega
   obtain ⟨b7,q7,e7,lb7,-⟩:=Hf (show Rd w 1 A4 x.l4.length (Qa x.l4) from by have a7:=Pb HARG.out.2;have h7:=a7.2.2.2.2;rw [a7.1] at h7;exact h7) (show z<x.l4.length by rw [HGG.out.c4.1,<- Lg.out];exact Lx)
   have lbS7:bS<w.1.size:=by rw [eS] at e7;injection e7 with e7;injection e7 with e8;omega
   have cU:=zH (show wW.cell? ⟨bS,qS+z,vB⟩=vD (vd vo sz) from (ov (Va.2.2.2.2 bS zO zO)).symm.trans oP)
   have bU:=zH (show ∀ j,wW.cell? ⟨w.1.size+3,j,vB⟩=_ from fun j=>(ov (Va.2.2.2.2 (w.1.size+3) zO zO)).symm.trans (cc j))
   have C016:=zH a0;have qU:=zH (show sh w2.1.size vB w3 (ve B1 XF OE) (x.cols.getD z []) from fun u hu=>by rw [Hc,Ec (show z<x.cols.length by rw [x.cols_len,<- Lg.out];exact Lx)];exact LP u fun b h1 h2=>hu b h1 h2 fun e=>by cases e)
   have HZ:=zH hz;have oC:=zH lL;have HZN:=zH Lx;have ZV:nn 0 <= 64 /\ nn 1 <= 64 /\ nn 2 <= 64:=by have h0:=HI.out.n0;have h1:=HI.out.n1;have h2:=HI.out.n2;have:=DM.out;omega
   obtain ⟨gn0,gn1,gn2⟩:=ZV;subst e0 eC eS;clear oP e7 cc lc LP hcC hcS cL dL yP Sl a0 hrA hz lL ya kc Lx hi Ta;have hgb1:gP≠N:=by omega
   have hgb2:w.1.size+3<N:=by omega
   have hgb3:w.1.size+3≠N:=by omega
   have hgb6:b0≠N:=by omega
   have cb:=kb.cell;have lb:=kb.lt;obtain ⟨Ax,cx,Uj,-⟩:=Yb (Bc.own 0 zO);have Wl:xs 0=ve Ax (nn 0) cx:=Uj;rw [Wl] at kb;have Xg:=zH Wl;clear Uj Wl cb;have cb:=kb.cell;go_upto_region 14 with fail
   refine Jz (Ik N N) [9,10,12] [12] [0,1,2,3,4,5,6,7,8,9,10,11,12] zK zK ?_;refine Lz (yb N N) ?_;intro Wc Ga ja;have Pa:=Uf Ga;have Gc:N <= Wc.1.size:=by have:=Pa.size;omega
   replace kb:=pa kb Pa;replace Bc:=Bc.below Pa;replace Va:=zM (yb gP N) Va (Td Pa tf);clear Ga Pa;refine ig ?_;refine fh (yb N N) rfl rfl rfl ?_;go_simp;have ma:=zA Wc (.cells #[ve B1 XF OE] 28);have td:=gg Wc (ve B1 XF OE) 28;refine ⟨fun _=>Td ma Gc,?_⟩
   replace kb:=pa kb ma;replace Bc:=Bc.below ma;replace Va:=zM (yb gP N) Va (Td ma Gc);have ed:=jb Gc ma.size
   refine zPU ?_
   generalize Wc.alloc _=wa at kb Bc Va td ed |-;generalize Wc.1.size=g6 at td |-;clear ma Gc ja cb;have ja:=(yb N N).refl wa;have oa:wa.ownsRow N 28 1 (ve Ax (nn 0) cx) (nn 0) (vs 0):=by rw [<- Xg.out];exact Bc.own 0 zO
   refine ig ?_;refine fh (yb N N) rfl rfl rfl ?_;refine Cs _ _ rfl So rfl oa rfl td (by intro u hu;simp at hu;subst hu;rfl) zO ed ?_
   intro v' wn Ua Ma Cb;obtain ⟨sw,Uw,rfl,-⟩:=Yb Ua;have uc:∀ q,(ve Ax (nn 0) cx).ownBlock=vD q -> N <= q:=fun q e=>(oa.lt q e).1
   refine ⟨fun _=>Sn Ma ed uc,?_⟩
   replace kb:=kb.grown Ma (fun e=>by have:=uc _ e.symm;omega)
   replace Bc:=Bc.app (k:=0) zO Ua (show wa.grownBy wn (xs 0).ownBlock by rw [Xg.out];exact Ma) (show _=(xs 0).ownBlock \/ _ by rw [Xg.out];exact Cb)
   replace Va:=zM (yb gP N) Va (Sn Ma ed uc);have Ud:=jb ed Ma.size;clear oa Ma Cb uc ed td ja Ua Xg;have ja:=(yb N N).refl wn;have cb:=kb.cell;have fb:=kb.frozen;have lb:=kb.lt
   refine zPU ?_
   refine ig ?_;refine fh (yb N N) rfl rfl rfl ?_;go_simp;refine ⟨fun h=>Bool.noConfusion h,?_⟩
   have Ob:=Hh (w:=wn) gP 4 (ve sw (nn 0+1) Uw);replace kb:=kb.set_ 4 (ve sw (nn 0+1) Uw);simp only [Ha,Ja,Ia] at kb;replace Bc:=Bc.stay Ob SH;replace Va:=zM (yb gP N) Va (XC Ob Ud);replace Ud:=jb Ud Ob.size;clear Ob cb fb ja;generalize wn.setCell _ _=RD at kb Bc Va Ud |-;have ja:=(yb N N).refl RD;refine ig ?_;refine Kz ?_;clear ja;have tf:=Ud;clear Ud;have cb:=kb.cell;have lb:=kb.lt;clear XV c0x;have hold:∀ j e,j<N -> j≠gP -> RD.cell? ⟨j,e,vB⟩=wW.cell? ⟨j,e,vB⟩:=fun j e h1 h2=>ov (Va.2.2.2.2 j h1 h2)
   have ccz:=fun j=>(hold (w.1.size+3) j zO zO).trans (bU.out j)
   have csz:=(hold bS (qS+z) zO zO).trans cU.out;have c0z:=(hold b0 (q0+i) RV SV).trans C016.out;have hs1':bS<N:=by omega
   have hs2':bS≠N:=by omega
   have DW:bS<RD.1.size:=by omega
   have EW:w.1.size+3<RD.1.size:=by omega
   have FW:b0<RD.1.size:=by omega
   clear hold;obtain ⟨Ax,cx,Uj,-⟩:=Yb (Bc.own 1 zO);have Wl:xs 1=ve Ax (nn 1) cx:=Uj;rw [Wl] at kb;have Xg:=zH Wl;clear Uj Wl cb;have cb:=kb.cell;go_upto_region 15 with fail
   refine Jz (Ik N N) [10,11,13] [13] [0,1,2,3,4,5,6,7,8,9,10,11,12,13] zK zK ?_;refine Lz (yb N N) ?_;intro Wc Ga ja;have Pa:=Uf Ga;have Gc:N <= Wc.1.size:=by have:=Pa.size;omega
   replace kb:=pa kb Pa;replace Bc:=Bc.below Pa;replace Va:=zM (yb gP N) Va (Td Pa tf);clear Ga Pa;refine ig ?_;refine fh (yb N N) rfl rfl rfl ?_;go_simp;have ma:=zA Wc (.cells #[vd vo sz] 22);have td:=gg Wc (vd vo sz) 22;refine ⟨fun _=>Td ma Gc,?_⟩
   replace kb:=pa kb ma;replace Bc:=Bc.below ma;replace Va:=zM (yb gP N) Va (Td ma Gc);have ed:=jb Gc ma.size
   refine zPU ?_
   generalize Wc.alloc _=wa at kb Bc Va td ed |-;generalize Wc.1.size=g6 at td |-;clear ma Gc ja cb;have ja:=(yb N N).refl wa;have oa:wa.ownsRow N 22 1 (ve Ax (nn 1) cx) (nn 1) (vs 1):=by rw [<- Xg.out];exact Bc.own 1 zO
   refine ig ?_;refine fh (yb N N) rfl rfl rfl ?_;refine Cs _ _ rfl jg rfl oa rfl td (by intro u hu;simp at hu;subst hu;rfl) zO ed ?_
   intro v' wn Ua Ma Cb;obtain ⟨tw,Vw,rfl,-⟩:=Yb Ua;have uc:∀ q,(ve Ax (nn 1) cx).ownBlock=vD q -> N <= q:=fun q e=>(oa.lt q e).1
   refine ⟨fun _=>Sn Ma ed uc,?_⟩
   replace kb:=kb.grown Ma (fun e=>by have:=uc _ e.symm;omega)
   replace Bc:=Bc.app (k:=1) zO Ua (show wa.grownBy wn (xs 1).ownBlock by rw [Xg.out];exact Ma) (show _=(xs 1).ownBlock \/ _ by rw [Xg.out];exact Cb)
   replace Va:=zM (yb gP N) Va (Sn Ma ed uc);have Ud:=jb ed Ma.size;clear oa Ma Cb uc ed td ja Ua Xg;have ja:=(yb N N).refl wn;have cb:=kb.cell;have fb:=kb.frozen;have lb:=kb.lt
   refine zPU ?_
   refine ig ?_;refine fh (yb N N) rfl rfl rfl ?_;go_simp;refine ⟨fun h=>Bool.noConfusion h,?_⟩
   have Ob:=Hh (w:=wn) gP 5 (ve tw (nn 1+1) Vw);replace kb:=kb.set_ 5 (ve tw (nn 1+1) Vw);simp only [Ha,Ja,Ia] at kb;replace Bc:=Bc.stay Ob SH;replace Va:=zM (yb gP N) Va (XC Ob Ud);replace Ud:=jb Ud Ob.size;clear Ob cb fb ja;generalize wn.setCell _ _=uM at kb Bc Va Ud |-;have ja:=(yb N N).refl uM;refine ig ?_;refine Kz ?_;clear ja;have tf:=Ud;clear Ud;have cb:=kb.cell;have lb:=kb.lt;clear ccz csz DW EW c0z FW;have hold:∀ j e,j<N -> j≠gP -> uM.cell? ⟨j,e,vB⟩=wW.cell? ⟨j,e,vB⟩:=fun j e h1 h2=>ov (Va.2.2.2.2 j h1 h2)
   have c0z:=(hold b0 (q0+i) RV SV).trans C016.out;have FW:b0<uM.1.size:=by omega
   clear hold;obtain ⟨Ax,cx,Uj,-⟩:=Yb (Bc.own 2 zO);have Wl:xs 2=ve Ax (nn 2) cx:=Uj;rw [Wl] at kb;have Xg:=zH Wl;clear Uj Wl cb;have cb:=kb.cell;go_upto_region 16 with fail
   refine Jz (Ik N N) [7,8,9,11] [11] [0,1,2,3,4,5,6,7,8,9,10,11] zK zK ?_;refine Lz (yb N N) ?_;intro Wc Ga ja;have Pa:=Uf Ga;have Gc:N <= Wc.1.size:=by have:=Pa.size;omega
   replace kb:=pa kb Pa;replace Bc:=Bc.below Pa;replace Va:=zM (yb gP N) Va (Td Pa tf);clear Ga Pa;refine ig ?_;have oo:=MH MU.out (rR Va fun b h=>zO)
   have XR:=Gc;refine tn (yb N N) rfl rfl rfl (fun _=>by go_simp <;> rfl) ((HPa.out _ At nt ct z oo (by have:=HZN.out;exact this)).mono ?_)
   rintro e wY ⟨vp,rfl,op,Ca⟩;refine ⟨_,rfl,fun _=>Td Ca Gc,?_⟩
   replace ja:=zM (yb N N) ja (Td Ca Gc);refine zPU ?_;replace kb:=pa kb Ca;replace Bc:=Bc.new (x:=vp) Ca op Gc;replace Va:=zM (yb gP N) Va (Td Ca Gc);replace Gc:=jb Gc Ca.size;obtain ⟨Ap,cp,rfl,-⟩:=Yb op;clear Ca op oo XR;refine ig ?_;refine fh (yb N N) rfl rfl rfl ?_;go_simp;have ma:=zA wY (.cells #[ve Ap x.dd cp] 28);have td:=gg wY (ve Ap x.dd cp) 28;refine ⟨fun _=>Td ma Gc,?_⟩
   replace kb:=pa kb ma;replace Bc:=Bc.below ma;replace Va:=zM (yb gP N) Va (Td ma Gc);have ed:=jb Gc ma.size
   refine zPU ?_
   generalize wY.alloc _=wa at kb Bc Va td ed |-;generalize wY.1.size=g6 at td |-;clear ma Gc ja cb;have ja:=(yb N N).refl wa;have oa:wa.ownsRow N 28 1 (ve Ax (nn 2) cx) (nn 2) (vs 2):=by rw [<- Xg.out];exact Bc.own 2 zO
   refine ig ?_;refine fh (yb N N) rfl rfl rfl ?_;refine Cs _ _ rfl So rfl oa rfl td (by intro u hu;simp at hu;subst hu;rfl) zO ed ?_
   intro v' wn Ua Ma Cb;obtain ⟨uw,Ww,rfl,-⟩:=Yb Ua;have uc:∀ q,(ve Ax (nn 2) cx).ownBlock=vD q -> N <= q:=fun q e=>(oa.lt q e).1
   refine ⟨fun _=>Sn Ma ed uc,?_⟩
   replace kb:=kb.grown Ma (fun e=>by have:=uc _ e.symm;omega)
   replace Bc:=Bc.app (k:=2) zO Ua (show wa.grownBy wn (xs 2).ownBlock by rw [Xg.out];exact Ma) (show _=(xs 2).ownBlock \/ _ by rw [Xg.out];exact Cb)
   replace Va:=zM (yb gP N) Va (Sn Ma ed uc);have Ud:=jb ed Ma.size;clear oa Ma Cb uc ed td ja Ua Xg;have ja:=(yb N N).refl wn;have cb:=kb.cell;have fb:=kb.frozen;have lb:=kb.lt
   refine zPU ?_
   refine ig ?_;refine fh (yb N N) rfl rfl rfl ?_;go_simp;refine ⟨fun h=>Bool.noConfusion h,?_⟩
   have Ob:=Hh (w:=wn) gP 6 (ve uw (nn 2+1) Ww);replace kb:=kb.set_ 6 (ve uw (nn 2+1) Ww);simp only [Ha,Ja,Ia] at kb;replace Bc:=Bc.stay Ob SH;replace Va:=zM (yb gP N) Va (XC Ob Ud);replace Ud:=jb Ud Ob.size;clear Ob cb fb ja;generalize wn.setCell _ _=wz3 at kb Bc Va Ud |-;have ja:=(yb N N).refl wz3;refine ig ?_;refine Kz ?_;clear ja;have tf:=Ud;clear Ud;have cb:=kb.cell;have lb:=kb.lt;clear c0z FW cb;have Fs:=zH (HI.out.step (by rw [lh.out];exact tc.out) HZ.out (a:=ve sw (nn 0+1) Uw) (b:=ve tw (nn 1+1) Vw) (c:=ve uw (nn 2+1) Ww) (p:=ve Ap x.dd cp) qU.out oC.out)
   have kbn:Blk wz3 gP 46 #[vd vo rt,ve P1 L.k p1,ve P2 (L.k+L.block-1) p2,ve P3 (2*L.k-1) p3,Bd (Bd (Bd (Bd xs 0 (ve sw (nn 0+1) Uw)) 1 (ve tw (nn 1+1) Vw)) (i+3) (ve Ap x.dd cp)) 2 (ve uw (nn 2+1) Ww) 0,Bd (Bd (Bd (Bd xs 0 (ve sw (nn 0+1) Uw)) 1 (ve tw (nn 1+1) Vw)) (i+3) (ve Ap x.dd cp)) 2 (ve uw (nn 2+1) Ww) 1,Bd (Bd (Bd (Bd xs 0 (ve sw (nn 0+1) Uw)) 1 (ve tw (nn 1+1) Vw)) (i+3) (ve Ap x.dd cp)) 2 (ve uw (nn 2+1) Ww) 2]:=by
    rw [Ej _ _ (show (0:Nat)≠2 by omega),Ej _ _ (show (0:Nat)≠i+3 by omega),Ej _ _ (show (0:Nat)≠1 by omega),yt,Ej _ _ (show (1:Nat)≠2 by omega),Ej _ _ (show (1:Nat)≠i+3 by omega),yt,yt]
    exact kb
   rw [show i+3+1=i+1+3 by omega] at Bc
   have DG:=zH Bc;have KBN:=zH kbn;have HWI:=zH (show wrap64 ((i:Int)+1)=((i+1:Nat):Int) by unfold wrap64;have:=DM.out;have:=tc.out;omega)
   clear Bc kbn kb;go_wp2
   go_roundw
   case rel=>exact ⟨i+1,_,_,_,tc.out,by rw [HWI.out],KBN.out,DG.out,Fs,Va,tf⟩
   case measure =>
    have h1:=tc.out;have e:=HWI.out
    try dsimp only
    rw [e];exact D7 h1
  ·obtain rfl:i=L.queries:=by omega
   obtain ⟨Ac,ca,e0,-⟩:=Yb (Bc.own 0 zO);obtain ⟨As,cs,e1,-⟩:=Yb (Bc.own 1 zO);obtain ⟨Ap,cp,e2,-⟩:=Yb (Bc.own 2 zO);have f0:xs 0=ve Ac L.queries ca:=by rw [e0,HI.out.n0]
   have f1:xs 1=ve As L.queries cs:=by rw [e1,HI.out.n1]
   have f2:xs 2=ve Ap L.queries cp:=by rw [e2,HI.out.n2]
   rw [f0,f1,f2] at kb;have E0:=zH (And.intro f0 (And.intro f1 f2));clear e0 e1 e2 f0 f1 f2 ya hi;have DG:=zH Bc;have cJ:=zH Va;have HN0:=zH tf;have KPr:=zH (show Blk wr (w.1.size+4) _ _ from (Va.2.2.2.2 _ zO zO).trans KP9.out)
   have KQr:=zH (show Blk wr (w.1.size+5) _ _ from (Va.2.2.2.2 _ zO zO).trans KQ9.out)
   have kSr:Blk wr g9 _ _:=(Va.2.2.2.2 _ zO zO).trans KS9.out;have HQr:=zH (sb HQ12.out (rR Va fun b hb=>by have:=(yG.out b hb).2;omega))
   obtain ⟨NY,hNY⟩:=zEX (wr.1.size);have ly1:gP<NY:=by rw [hNY];exact kb.lt
   have ly2:g9<NY:=by rw [hNY];exact kSr.lt
   have HNY:=zH hNY;obtain ⟨Vr,Ol⟩:∃ Vr:Nat -> Prop,Vr=fun b=>b=w.1.size+4 \/ b=w.1.size+5:=⟨_,rfl⟩
   have vr12:¬Vr gP:=by rw [Ol];exact fun e=>e.elim (fun e=>zO) (fun e=>zO)
   have vr13:¬Vr g9:=by rw [Ol];exact fun e=>e.elim (fun e=>zO) (fun e=>zO)
   have Uu:=zH (show Vr (w.1.size+4) by rw [Ol];exact .inl rfl)
   have HV3:=zH (show Vr (w.1.size+5) by rw [Ol];exact .inr rfl)
   have cB:=kb.cell;have cS:=kSr.cell;clear kb kSr Bc Va tf hNY Ol;go_upto_region 17 with fail
   refine fw (Vr) (Fc) (NY) [4,6] [0,1,2,3] [] [4,5,6] zK (Ht _) zK ?_;refine jw ?_;intro Wc Ga ja;have La:Hid (Ui Vr NY Fc Wc):=zH (by rw [Ga.out,HNY.out];exact ⟨zR,fun _ h=>h.elim,fun _ _ h=>h.elim⟩)
   have GM:=zH (show Blk Wc _ _ _ by rw [Ga.out];exact KPr.out.drew)
   have dR:=zH (show Blk Wc _ _ _ by rw [Ga.out];exact KQr.out.drew)
   have cy:=zH (show vz wr.1.size wr Wc by rw [Ga.out];exact (Kb _ _).drew)
   clear Ga KPr KQr;refine yi ?_;refine iw [] rfl La (fun Ym wE Wb Ng=>?_)
   clear Ng;unfold Jm
   try simp only [List.foldl]
   replace cy:=zH (ta cy.out Wb);replace GM:=zH (GM.out.below Wb GM.out.lt);replace dR:=zH (dR.out.below Wb dR.out.lt);replace ja:=zM (mc Vr NY) ja (ze Wb La.out.size);replace La:=zH (Te La.out Wb)
   refine zPU ?_
   clear Wb;have cc:=GM.out.cell;have fc:=GM.out.frozen;refine Ip ?_;refine ke (mc Vr NY) rfl rfl rfl ?_;go_simp;refine ⟨VE Uu.out [vd vo rt,ve P1 L.k p1,ve P2 (L.k+L.block-1) p2,ve P3 (2*L.k-1) p3,ve Ac L.queries ca,ve As L.queries cs,ve Ap L.queries cp] _,?_⟩
   refine zPU ?_
   obtain ⟨wG,hwG,kP,sP⟩:=zAS GM.out (vd vo rt) (ve P1 L.k p1) (ve P2 (L.k+L.block-1) p2) (ve P3 (2*L.k-1) p3) (ve Ac L.queries ca) (ve As L.queries cs) (ve Ap L.queries cp);rw [hwG];have kQ:=sP.blk dR.out zO;clear hwG cc fc ja La;have cr:=kQ.cell;have fr:=kQ.frozen;have ja:=(mc Vr NY).refl wG;have KPG:=zH kP;clear kP;refine Ip ?_;refine ke (mc Vr NY) rfl rfl rfl ?_;go_simp;refine ⟨VE HV3.out [.bool s3.O.ideal,vd vo s3.O.st,vd vq s3.O.dr,ve A4q n4q c4q,ve vB 0 0,ve vB 0 0] _,?_⟩
   refine zPU ?_
   refine Vc ?_;obtain ⟨wf,Yc,kQf,sQ⟩:=zAR kQ (.bool s3.O.ideal) (vd vo s3.O.st) (vd vq s3.O.dr) (ve A4q n4q c4q) (ve vB 0 0) (ve vB 0 0);rw [Yc];have kPf:=sQ.blk KPG.out zO;clear Yc cr fr kQ KPG cB cS;have cf:=kQf.cell;have ccf:=kPf.cell;have Ey:=zH (And.intro sP sQ);clear ja;go_wp2;have iN:∀ j,j≠w.1.size+4 -> j≠w.1.size+5 -> j<wr.1.size -> wf.1[j]?=wr.1[j]?:=fun j h1 h2 h3=>(Ey.out.2.far j h2).trans ((Ey.out.1.far j h1).trans (cy.out.block j h3))
   have hfs:wr.1.size <= wf.1.size:=by rw [Ey.out.2.size,Ey.out.1.size];exact cy.out.size
   have Ss:∀ K:Nat -> Prop,(∀ b,K b -> b≠w.1.size+4 /\ b≠w.1.size+5) -> Yd K wr wf:=fun K hK=>IC (yc cy.out) (IC (Ey.out.1.agr fun e=>(hK _ e).1 rfl) (Ey.out.2.agr fun e=>(hK _ e).2 rfl))
   have RW:∀ j,j<N -> j≠gP -> j≠w.1.size+4 -> j≠w.1.size+5 -> wf.1[j]?=wW.1[j]?:=fun j h1 h2 h3 h4=>(iN j h3 h4 (zQ HN0.out)).trans (cJ.out.2.2.2.2 j h1 h2)
   have XR:=HN0.out;have Na:Hd (fun b=>w.1.size <= b) wf (fun u=>Mt u PR ⟨P1,L.k,p1,P2,L.k+L.block-1,p2,P3,2*L.k-1,p3,Ac,L.queries,ca,As,L.queries,cs,Ap,L.queries,cp⟩):=fun u a=>by
    have RE:=HEQ.out;have hu:∀ j,w.1.size <= j -> j<wf.1.size -> u.1[j]?=wf.1[j]?:=fun j h1 h2=>a.block j h1 h2
    have hus:=a.size;rw [jA.out];exact F9 (w7:=w3) (w16:=wW) (wr:=wr) (u:=u) (F4:=fun _=>False) (gP:=gP) (N:=N) (R:=w.1.size+5) (B0:=w.1.size+6) (B6:=w2.1.size) (B13:=wV.1.size) (B15:=wc.1.size) (x:=x) (O:=O) (tr:=tr) (pos:=pos)
     (fun j h1 h2 h3 h4 _=>(hu j zO zO).trans (RW j h2 h3 zO h4)) (fun j h1 h2=>(hu j zO zO).trans (iN j zO zO h2)) (fun j h1 h2=>(hu j zO zO).trans ((RW j zO zO zO zO).trans (Tl HC9.out j zO h2))) zO zO zO zO zO zO zO zO (fun _ _ _ h=>h) O1.out O2.out O3.out L1.out Gj.out Co.out yw.out (by rw [<- RE.2.2.2.1];exact RE.1) (by rw [<- RE.2.2.2.1];exact RE.2.1) (by rw [<- RE.2.2.2.1];exact RE.2.2.1) DG.out HI.out lh.out RE.2.2.2.2.1 RE.2.2.2.2.2.1 E0.out.1 E0.out.2.1 E0.out.2.2 (by rw [<- RE.2.2.2.2.2.2.1];exact Vf.out) HGG.out.c4.2 Tu.out
   have oa:=Ye OWP.out (u:=wf) fun b hb=>RW b (zQ (Vz.out b hb)) (zQ (Vz.out b hb)) (zQ (Vz.out b hb)) (zQ (Vz.out b hb))
   have hqf:=sb HQr.out (Ss KR fun b hb=>(yG.out b hb).1.elim (fun e=>by have:=e.2;omega) fun e=>zO)
   refine Uc (by simp [results,results34,go_sem,cf,ccf];rfl) rfl ⟨⟨P1,L.k,p1,P2,L.k+L.block-1,p2,P3,2*L.k-1,p3,Ac,L.queries,ca,As,L.queries,cs,Ap,L.queries,cp⟩,ve Av L.queries cv,A4q,n4q,c4q,?_,Na,Hg oa zO,Vn hqf fun b hb=>(yG.out b hb).1.elim (fun e=>.inl e.1) fun e=>.inr zO,?_⟩
   ·rw [<- hPRr]
    rfl
   ·refine ⟨Ey.out.2.os.trans (Ey.out.1.os.trans (cy.out.os.trans Jf.out.os)),Ey.out.2.tape.trans (Ey.out.1.tape.trans (cy.out.tape.trans Jf.out.tape)),Ey.out.2.output.trans (Ey.out.1.output.trans (cy.out.output.trans Jf.out.output)),jb Jf.out.size hfs,fun b hb=>(iN b zO zO (zQ Jf.out.size)).trans (Jf.out.block b hb)⟩
theorem zGs (L:Tb) (j pu:Nat) (vars:Int) (rows:List sc) (ws:List Nat) (pd:Nat) (hL:Ad L) (hn:L.n=2^j):(Az L j pu vars rows ws pd).Good:=by
 have pq:=bV L pd (zQ (Cc hL.p));obtain ⟨Gv,rq,kd,ef,sj⟩:=FO pq;exact ⟨hL,hn,AX hn hL.n2,⟨bQ _ _ _ _,Gv.trans (bQ _ _ _ _).symm,fun _ h=>J7 h,fun r h=>(rq r h).1⟩,kd,ef,sj,aV pq⟩
theorem zG4 {K:Nat -> Prop} {O:Jb} {k:Nat} (h:Um O k) (hk:k <= 1000) (L:Tb) (j pu pd:Nat) (vars:Int) (Aq A B A0 A1 A2 A3 A4:Option vx) (nq cq n c m d n0 c0 n1 c1 n2 c2 n3 c3 n4 c4:Nat) (rows:List sc) (ws:List Nat) (bl bw qs:Int) (w:vu)
  (hL:Ad L) (hn:L.n=2^j) (uq:yy L ⟨L.p,(pu:Int),vars,rows.length,bl,bw,qs⟩) (ht:L.a+3*L.b <= 40) (hT:NU L.p (pu:Int) vars rows ws true) (hq:Hd K w fun u=>Md u [ve Aq nq cq] O.qs)
  (hr:RSl 3 yg w [ve A n c] rows) (hw:RWd w [ve B m d] ws) (h0:Kd w [ve A0 n0 c0] (Cz L pd (L.a+L.b+L.b+L.b))) (h1:RWd w [ve A1 n1 c1] (Si L.p pd [1] L.k)) (h2:RWd w [ve A2 n2 c2] (Si L.p pd [2] (L.k+L.block-2))) (h3:RWd w [ve A3 n3 c3] (Si L.p pd [3] (L.block+2*L.queries-1))) (h4:RWd w [ve A4 n4 c4] (Si nc pd [4] L.n)) :
  vA prog 34 #[vf (Bf O (ve Aq nq cq)),vf (Ub L),Xc L.p (pu:Int) vars (ve A n c),ve B m d,vf #[ve A0 n0 c0,ve A1 n1 c1,ve A2 n2 c2,ve A3 n3 c3,ve A4 n4 c4]] w fun e w' =>
   ∃ S v A' n' c',e=vn (.tuple #[vf (Im ((Az L j pu vars rows ws pd).pr O) S),v,vf (Bf ((Az L j pu vars rows ws pd).oF O) (ve A' n' c'))]) /\ Hd (fun b=>w.1.size <= b) w' (fun u=>Mt u ((Az L j pu vars rows ws pd).pr O) S) /\
   w'.ownsRow w.1.size 3 1 v L.queries (wg (Sg ((Az L j pu vars rows ws pd).pos O))) /\ Hd (fun b=>K b \/ w.1.size <= b) w' (fun u=>Md u [ve A' n' c'] ((Az L j pu vars rows ws pd).oF O).qs) /\ vz w.1.size w w':=by
 obtain ⟨oD,-,-⟩:=rZ hT.asg;have hv:(pu:Int)<vars:=uq.vars;exact zG3 h hk (Az L j pu vars rows ws pd) (zGs L j pu vars rows ws pd hL hn) vars Aq A B A0 A1 A2 A3 A4 nq cq n c m d n0 c0 n1 c1 n2 c2 n3 c3 n4 c4 w hT.tab (zA3 hT.tab uq) (zBs hT.tab) (KZ hT.tab hT.small) rfl rfl hq hr hw h0 h1 h2 h3 h4
  (show 1+pu <= ws.length by omega) (show rows.length <= 16384 by have:=hT.few;omega) (by show (tz L rows ws pu).length <= 1000;rw [bQ];omega)
theorem zCu (q:Qn) (A:Option vx) (n c:Nat) (w:vu) (hl:RWd w [ve A n c] q.el) (hlen:q.el.length <= 10000000) :
  vA prog 98 #[vf #[vd vo q.lab,ve A n c,vd vo q.ans]] w fun e w'=>∃ A' c',e=vn (vf #[vd vo q.lab,ve A' n c',vd vo q.ans]) /\ w'.ownsRow w.1.size 22 1 (ve A' n c') n (Qa q.el) /\ vz w.1.size w w':=by
 obtain ⟨kx,kr,da,Db⟩:=Xf w 95 95 #[vd vo q.lab,ve A n c,vd vo q.ans] #[vd vo 0,ve vB 0 0,vd vo 0];have HC:=zH (fun w1 (hb:vz w.1.size w w1)=>FZ A n c q.el w1 (Wa hb hl) hlen)
 clear hl hlen Db;go_enter func98,ntmps98
 go_upto_region 1 with fail
 generalize (w.alloc _).alloc _=w1 at kx kr da |-;have cx:=kx.cell;have lx:=kx.lt;have ne:w.1.size≠w.1.size+1:=by omega
 have KR:=zH kr;have HB:=zH da;clear kx kr da;refine Pd (Ji (w.1.size+1)) [4,8] [0,1,2,3,5,6,4,7,8] zK zK ?_;refine oe (de (w.1.size+1)) ?_;intro Wc Ga ja;have Kc:=zH (show Blk Wc _ _ _ by rw [Ga.out];exact KR.out.drew)
 have oc:=zH (show vz w.1.size w Wc by rw [Ga.out];exact HB.out.drew)
 clear Ga KR HB;refine Hk ?_;refine oM (de (w.1.size+1)) rfl rfl rfl (fun _=>by go_simp <;> rfl) ((HC.out Wc oc.out).mono ?_)
 rintro e w2 ⟨v,rfl,oa,Fa⟩;refine ⟨_,rfl,VS Fa,?_⟩;replace ja:=(de (w.1.size+1)).trans _ _ _ ja (VS Fa);refine zPU ?_;have hv:∃ A' c',v=ve A' n c':=by obtain ⟨A',c',e,-⟩:=Yb oa;exact ⟨A',c',e⟩
 obtain ⟨A',c',rfl⟩:=hv;have Rf:=Kc.out.below Fa Kc.out.lt;have OW:=zH (Hg oa oc.out.size);have OWE:=zH (EN oa Rf zD);have He:=zH (ta oc.out Fa);have cr:=Rf.cell;have fr:=Rf.frozen;clear oa Fa Kc;refine Hk ?_;refine ke (de (w.1.size+1)) rfl rfl rfl ?_;go_simp;refine ⟨Ez [vd vo q.lab,ve A' n c',vd vo q.ans] 0 _,?_⟩
 refine zPU ?_
 refine Vc ?_;have kf:=Jg [vd vo q.lab,ve A' n c',vd vo q.ans] Rf rfl;have Oc:=aj (xs:=[vd vo q.lab,ve A' n c',vd vo q.ans]) (g:=w.1.size+1) He.out (Nat.le_succ _);have TL:=Ye OW.out (u:=Pc w2 (w.1.size+1) [vd vo q.lab,ve A' n c',vd vo q.ans] 0) fun b hb=>If (fun e=>OWE.out b hb (by rw [e])) _ 0 w2
 simp only [Pc,Re,Nat.reduceAdd] at kf Oc TL;generalize vE (vE (vE w2 _ _) _ _) _ _=wf at kf Oc TL |-;have cf:=kf.cell;clear cr fr ja cx;go_wp2;exact Uc (by simp [results,results98,go_sem,cf]) rfl ⟨A',c',rfl,TL,Oc⟩
def ym (n:Nat) (f:Nat -> Nat -> vw):Array vw:=(Array.range (n*3)).map fun i=>f (i / 3) (i%3)
theorem G2 (n:Nat) (f:Nat -> Nat -> vw):(ym n f).size=n*3:=by simp [ym]
theorem TR {n k j:Nat} (f:Nat -> Nat -> vw) (hk:k<n) (hj:j<3):(ym n f)[k*3+j]?=vD (f k j):=by
 have h1:k*3+j<n*3:=by omega
 have h2:(k*3+j) / 3=k:=by omega
 have h3:(k*3+j)%3=j:=by omega
 simp [ym,h1,h2,h3]
theorem C2 {n:Nat} {f g:Nat -> Nat -> vw} (h:∀ k j,k<n -> j<3 -> f k j=g k j):ym n f=ym n g:=by
 apply Array.ext
 ·simp [ym]
 ·intro i h1 h2
  simp only [G2] at h1;simp only [ym,Array.getElem_map,Array.getElem_range];exact h _ _ zO zO
theorem yV {n:Nat} (f:Nat -> Nat -> vw) (k j:Nat) (hj:j<3) (v:vw):(ym n f).setIfInBounds (k*3+j) v=ym n (fun k' j'=>if k'=k /\ j'=j then v else f k' j'):=by
 apply Array.ext
 ·simp [ym]
 ·intro i h1 h2
  simp only [G2] at h2;rw [Array.getElem_setIfInBounds (by simpa [ym] using h2)]
  simp only [ym,Array.getElem_map,Array.getElem_range];by_cases e:k*3+j=i
  ·rw [Lb e,Lb zO]
  ·rw [Gb e,Gb zO]
def TD (j:Nat):vw:=if j=1 then ve vB 0 0 else vd vo 0
theorem zDh {n i:Nat} (cs:Nat -> Nat -> vw) (x y z:vw) :
  (((ym n fun k j=>if k<i then cs k j else TD j).setIfInBounds (i*3) x).setIfInBounds (i*3+1) y).setIfInBounds (i*3+2) z =
   ym n fun k j=>if k<i+1 then (if k=i then (if j=0 then x else if j=1 then y else z) else cs k j) else TD j:=by
 have h0:=yV (n:=n) (fun k j=>if k<i then cs k j else TD j) i 0 zO x
 rw [Oo] at h0;rw [h0,yV _ i 1 zO y,yV _ i 2 zO z];refine C2 fun k j hk hj=>?_
 by_cases e:k=i
 ·subst e
  rcases (show j=0 \/ j=1 \/ j=2 by omega) with e | e | e <;> subst e <;> simp
 ·by_cases e2:k<i
  ·simp [e,e2,show k<i+1 by omega]
  ·simp [e,e2,show ¬k<i+1 by omega]
theorem zD8:(prog.info? 95).map (fun i=>(i.zero,i.size,i.bytes))=vD (vD (vf #[vd vo 0,ve vB 0 0,vd vo 0]),3,40):=by kernel_rfl
theorem el_qn:Ds prog 60 95 3 40 (vf #[vd vo 0,ve vB 0 0,vd vo 0]):=by
 obtain ⟨i0,hi,Hi,Vd,Pg⟩:=info_parts zD8;exact ⟨underlying60,⟨i0,hi,Hi,Vd,Pg⟩,rfl,zO⟩
theorem zER (n:Nat):madeCells (vf #[vd vo 0,ve vB 0 0,vd vo 0]).cells (n*3)=ym n fun _ j=>TD j:=by
 rw [show (vf #[vd vo 0,ve vB 0 0,vd vo 0]).cells=#[vd vo 0,ve vB 0 0,vd vo 0] from rfl]
 unfold madeCells ym;apply Array.ext
 ·simp
 ·intro i h1 h2
  simp only [Array.getElem_map,Array.getElem_range];show ((#[vd vo 0,ve vB 0 0,vd vo 0])[i%3]!)=TD (i%3)
  rcases (show i%3=0 \/ i%3=1 \/ i%3=2 by omega) with e | e | e <;> rw [e] <;> rfl
theorem mk_qns (n:Nat) (hn:n <= 1000000) (w:vu) :
  (Instr.makeSlice 60 (vd vq n) (vd vq n)).run prog w= .ok (ve (vD ⟨w.1.size,0,vB⟩) n n) (w.alloc (.cells (ym n fun _ j=>TD j) 95)):=by
 have:=aQ (P:=prog) el_qn n zO zO w;rw [zER] at this;exact this
theorem zFv {w:vu} {g:Nat} {O:Jb} {F:Nat -> Prop} {v:vw} {cs:List vw} {km sm pm:Nat} {E:Nat -> Prop} (h:OrcIn w g O F v cs km sm pm E) (hE:∀ q∈O.qs,q.lab<18446744073709551616 /\ q.ans<18446744073709551616):Md w [v] O.qs :=
 WX h.own rfl fun i hi=>by
  have hq:O.qs[i]?=vD O.qs[i]:=Ec hi;obtain ⟨h1,h2,s,h3,h4⟩:=h.rows.2 i _ hq;have hl:=h.rows.1;have hb:=hE _ (Qe hi);refine ⟨s,?_,h4 w (fun _ _ _=>rfl),hb.1,hb.2⟩
  refine List.ext_getElem? fun j=>?_
  rw [List.getElem?_take];by_cases hj:j<3
  ·rw [Lb hj,List.getElem?_drop]
   rcases (show j=0 \/ j=1 \/ j=2 by omega) with e | e | e <;> subst e
   ·exact h1
   ·exact h3
   ·exact h2
  ·rw [Gb hj,It zT]
theorem zGA {w:vu} {g:Nat} {O:Jb} {F:Nat -> Prop} (h:OrcAt w g O F) (hl:O.qs.length <= 1000000) :
  vA prog 93 #[.pointer (vD ⟨g,0,vB⟩)] w fun e w'=>∃ gq,e=vn (ve (vD ⟨gq,0,vB⟩) O.qs.length O.qs.length) /\ Md w' [ve (vD ⟨gq,0,vB⟩) O.qs.length O.qs.length] O.qs /\ vz w.1.size w w':=by
 have Lv:=h.ok.qs;obtain ⟨v,cs,km,sm,pm,E,Ed⟩:=h;have hc:=Ed.blk.cell;have hg:=Ed.blk.lt;obtain ⟨A,n,c,hv,hlen,Nd,Be,ra⟩:=zFv Ed fun q hq=>⟨(Lv q hq).lab,rm (Lv q hq).ans⟩
 simp at hv
 subst hv;have HQN:=zH Lv;have Lr:n <= 1000000:=by omega
 rw [hlen];have Kg:=zH hlen;have gm:=ti Nd Be;clear Lv Ed hl hlen Be;obtain ⟨zc,Rr⟩:=zEX (ym n fun _ j=>TD j)
 have ah:=fun w=>mk_qns n Lr w
 rw [<- Rr] at ah;have QG:=zH Rr;clear Rr;go_enter func93,ntmps93
 go_wp2_with fail
 have ma:=zA w (.cells zc 95);have kq:=Blk.new w 95 zc;generalize w.alloc _=w1 at ma kq |-;generalize hgq:w.1.size=gq at kq;have HGQ:=zH hgq;rw [QG.out,show (ym n fun _ j=>TD j)=ym n (fun k j=>if k<0 then undef else TD j) from C2 fun k j _ _=>by rw [Gb zO]] at kq
 have Ft:=zH hgq.symm;clear ah hgq hc;go_loopw [17] (fun y wr=>∃ (i:Nat) (cs:Nat -> Nat -> vw),i <= n /\ y=vd vq i /\ Blk wr gq 95 (ym n fun k j=>if k<i then cs k j else TD j) /\
  Hid (∀ k,k<i -> ∀ q,O.qs[k]?=vD q -> Hd (fun b=>gq<b) wr fun u=>RQn u [cs k 0,cs k 1,cs k 2] q) /\ vz w.1.size w wr) (fun y _=>n-(intOf y).toNat)
 case atStart=>exact ⟨0,fun _ _=>undef,Qb _,rfl,kq,fun k hk=>zO,ma⟩
 case round =>
  clear kq ma;obtain ⟨i,cq,hi,rfl,kq,HR,tb⟩:=hrel;by_cases ya:i<n
  ·have g1:(0:Int)<=i:=by omega
   have g2:(i:Int)<n:=by omega
   obtain ⟨b1,q1,A1,n1,c1,l1,a1,qe,lu,rfl,x0,x1,x2,Gd,tk,Nq⟩:=uQ (ra.below pN tb) (show i<O.qs.length by rw [Kg.out];exact ya)
   obtain ⟨rfl,rfl,Jr,Sy⟩:=Nq;have HC:=zH (fun w1 (hb:vz wr.1.size wr w1)=>zCu qe A1 n1 c1 w1 (Wa hb Gd) (zQ ((HQN.out qe (List.mem_of_getElem? lu)).len)))
   have rJ:=zH lu;have HLB:=zH (And.intro Jr Sy);have Bw:=zH (Pb Gd).2.2.2.1;have tc:=zH ya;clear Gd lu Jr Sy ya;obtain ⟨kx,ma⟩:=zN wr 95 #[vd vo qe.lab,ve A1 n1 c1,vd vo qe.ans];have rF:gq<wr.1.size:=kq.lt;have HR2:=zH (fun k hk q hq=>sb (HR.out k hk q hq) (yc ma))
   replace kq:=pa kq ma;replace tb:=ta tb ma;go_upto_region 5 with fail
   generalize wr.alloc _=w2 at kx kq tb ma HR2 |-;have cx:=kx.cell;go_wp2_with fail
   refine (HC.out w2 ma).mono ?_;rintro e w3 ⟨A4,c4,rfl,oa,Ra⟩;have hgw2:gq<w2.1.size:=kq.lt;have FG:=zH (fun k hk q hq=>sb (HR2.out k hk q hq) (yc Ra))
   replace kq:=pa kq Ra;replace tb:=ta tb Ra;have c0:w3.cell? ⟨gq,i*3,vB⟩=_:=(kq.cell (i*3)).trans (TR (j:=0) _ tc.out zO);have Lh:w3.cell? ⟨gq,i*3+1,vB⟩=_:=(kq.cell (i*3+1)).trans (TR (j:=1) _ tc.out zO);have ai:w3.cell? ⟨gq,i*3+2,vB⟩=_:=(kq.cell (i*3+2)).trans (TR (j:=2) _ tc.out zO);have fq:=kq.frozen;have kq2:=((kq.set_ (i*3) (vd vo qe.lab)).set_ (i*3+1) (ve A4 n1 c4)).set_ (i*3+2) (vd vo qe.ans);rw [zDh] at kq2;have hwg:w.1.size <= gq:=Nat.le_of_eq Ft.out.symm;have dS:=((tb.setCell (p:=⟨gq,i*3,vB⟩) hwg (vd vo qe.lab)).setCell (p:=⟨gq,i*3+1,vB⟩) hwg (ve A4 n1 c4)).setCell (p:=⟨gq,i*3+2,vB⟩) hwg (vd vo qe.ans);have ag:Yd (fun b=>gq<b) w3 (((w3.setCell ⟨gq,i*3,vB⟩ (vd vo qe.lab)).setCell ⟨gq,i*3+1,vB⟩ (ve A4 n1 c4)).setCell ⟨gq,i*3+2,vB⟩ (vd vo qe.ans)) :=
    IC (IC (FE (Nat.lt_irrefl gq)) (FE (Nat.lt_irrefl gq))) (FE (Nat.lt_irrefl gq))
   have Ou:=zH (show Hd (fun b=>gq<b) w3 (fun u=>RQn u [vd vo qe.lab,ve A4 n1 c4,vd vo qe.ans] qe) from bW (Vn (rP oa) fun b hb=>by have:=(oa.lt b hb).1;omega) fun u hu=>⟨_,rfl,Sf hu Bw.out,HLB.out.1,HLB.out.2⟩)
   have DN:=zH (And.intro kq2 (And.intro dS ag));clear kq2 dS ag oa Ra kq tb cx kx ma HC;go_wp2
   go_roundw
   case rel =>
    obtain ⟨kq2,dS,ag⟩:=DN.out;refine ⟨i+1,fun k j=>if k=i then (if j=0 then vd vo qe.lab else if j=1 then ve A4 n1 c4 else vd vo qe.ans) else cq k j,tc.out,by go_num,kq2,fun k hk q hq=>?_,dS⟩
    by_cases e:k=i
    ·subst e
     rw [rJ.out] at hq
     injection hq with hq
     subst hq
     simpa using sb Ou.out ag
    ·simp only [Gb e]
     exact sb (FG.out k zO q hq) ag
   case measure=>have:=tc.out;simp [intOf];omega
  ·obtain rfl:i=n:=by omega
   go_wp2;go_ret
   refine ⟨gq,rfl,⟨vD ⟨gq,0,vB⟩,i,i,rfl,Kg.out,zR,by simp [maxLen];omega,fun k hk=>?_⟩,tb⟩
   have yF:k<i:=by rw [<- Kg.out];exact hk
   refine ⟨⟨gq,0,vB⟩,[cq k 0,cq k 1,cq k 2],rfl,rfl,fun j hj=>?_,Tl (HR.out k yF _ (Ec hk))⟩
   have:=(kq.cell (k*3+j)).trans (TR (j:=j) _ yF hj);rw [Lb yF] at this;rw [jv,Re,this];rcases (show j=0 \/ j=1 \/ j=2 by omega) with e | e | e <;> subst e <;> rfl
theorem zBP {w:vu} {g:Nat} {O:Jb} {F:Nat -> Prop} (h:OrcAt w g O F) (hl:O.qs.length <= 1000000) (A:Option vx) (n c:Nat) (hq:Md w [ve A n c] O.qs) :
  vA prog 35 #[.pointer (vD ⟨g,0,vB⟩),vf (Bf O (ve A n c))] w fun e w'=>e=vn (.bool true) /\ vz w.1.size w w':=by
 have kx:=Blk.new w 65 (Bf O (ve A n c));have da:=zA w (.cells (Bf O (ve A n c)) 65);have Nq:=zH (fun w1 (hb:vz w.1.size w w1)=>zGA (h.below hb) hl)
 have Su:=zH (fun B m d w1 (hb:vz w.1.size w w1) (h1:Md w1 [ve B m d] O.qs)=>by have:=zGz O.qs O.qs B A m d n c w1 h1 (WW _ _ _ _ hb hq);rw [zHH] at this;exact this)
 have ZI:=zH (fun w1 (hb:vz w.1.size w w1)=>(zCM (h.below hb)).mono fun e w2 (hh:e=vn (vd vq O.dr) /\ w1=w2)=>(show e=vn (vd vq O.dr) /\ vz w1.1.size w1 w2 from ⟨hh.1,hh.2 ▸ Kb _ _⟩))
 clear h hl hq;unfold Bf at *;go_enter func35,ntmps35
 go_upto_region 1 with fail
 generalize w.alloc _=w1 at kx da |-;have cx:=kx.cell;have lx:=kx.lt;refine Pd (Rc) [1,5,8] [0,2,3,4,1,5,6,7,9,10,11,8,12,13,14] zK zK ?_;refine oe (Da) ?_;intro Wc Ga ja;have HB:=zH (show vz w.1.size w Wc by rw [Ga.out];exact da.drew)
 clear Ga kx da;refine Mc ?_;refine ud Da rfl rfl rfl ((Nq.out _ HB.out).mono ?_);rintro e w2 ⟨gq,rfl,hrq,Fa⟩;refine ⟨_,rfl,Fa,?_⟩;replace ja:=zM Da ja (Fa);refine zPU ?_;have oc:=zH (ta HB.out Fa);have HRQ:=zH hrq;clear Fa hrq;refine Mc ?_;refine ud Da rfl rfl rfl ((Su.out _ _ _ _ oc.out HRQ.out).mono ?_);rintro e w3 ⟨rfl,Ra⟩;refine ⟨_,rfl,Ra,?_⟩;replace ja:=zM Da ja (Ra);refine zPU ?_;have He:=zH (ta oc.out Ra);clear Ra;refine Mc ?_;refine ud Da rfl rfl rfl ((ZI.out _ He.out).mono ?_);rintro e w4 ⟨rfl,Ib⟩;refine ⟨_,rfl,Ib,?_⟩;replace ja:=zM Da ja (Ib);refine zPU ?_;have Jh:=zH (ta He.out Ib);refine Mc ?_;refine Vc ?_;clear cx lx ja;go_wp2;go_ret
 exact ⟨zS,Jh.out⟩
theorem orc_qs (real:Bool) (xe:Nat):(Rx real xe).qs=[]:=by cases real <;> rfl
theorem zHw (u:vu):Md u [ve vB 0 0] []:=⟨vB,0,0,rfl,rfl,zR,by simp [maxLen],fun i hi=>absurd hi zS⟩
theorem zGq (W:vu) (fj:Array vw) (f0:Fits prog W 32 (vf fj).cells.toList) :
  vA prog 7 #[vf fj] W fun e W'=>e=vn (.bool true) /\ vz W.1.size W W':=by
 obtain ⟨p,pub,vars,A,B,n,c,m,d,rows,ws,bl,bw,qs,pd,xe,real,rfl,Ed,O4,IW⟩:=zFs f0;clear f0;have da:vz W.1.size W (W.alloc (.cells #[vd vo p,vd vq pub,vd vq vars,ve A n c,vd vq bl,vd vq bw,vd vq qs,ve B m d,vd vo pd, .bool real,vd vo xe] 32)):=(Kb _ W).alloc zR _;have kc0:=Blk.new W 32 #[vd vo p,vd vq pub,vd vq vars,ve A n c,vd vq bl,vd vq bw,vd vq qs,ve B m d,vd vo pd, .bool real,vd vo xe];have HR:=zH (fun w' (hb:vz W.1.size W w')=>zG9 p pub vars A B n c m d rows ws bl bw qs pd xe real w' (Qg Bh _ _ _ _ hb Ed.rows) (Wa hb Ed.ws) Ed.p)
 have HBg:=zH (fun w'=>zB2 p pub vars A B n c m d bl bw qs pd real xe w' IW)
 have oA:=zH (zHq real xe IW);have Fs:=zH Ed;have HCN:=zH O4;have gm:=ti (Pb Ed.ws).2.1 (Pb Ed.ws).2.2.1;clear Ed O4 IW;go_enter func7,ntmps7
 go_upto_region 1 with fail
 generalize W.alloc _=w0 at da kc0 |-;have c0:=kc0.cell;go_wp2_with fail
 refine (HR.out _ da).mono ?_;rintro e w1 ⟨⟨mN,MW⟩,hb⟩;obtain ⟨y0,y1,y2,y3,y4,y5,y6,y7,y8,y9,Eg,b,s,rfl,hL⟩:=mN;have Rb:=ta da hb;have kc:=pa kc0 hb;clear hb da kc0 c0 HR;have dc:=Rb.alloc Rb.size (.cells #[vd vo y0,vd vq y1,vd vq y2,vd vq y3,vd vq y4,vd vq y5,vd vq y6,vd vq y7,vd vq y8,vd vq y9,vd vq Eg] 35);by_cases mq:b=true /\ s=true
 rotate_left
 ·have hh:b=false \/ (b=true /\ s=false):=by cases b <;> cases s <;> simp at mq |-
  clear hL MW mq kc;rcases hh with rfl | ⟨rfl,rfl⟩
  all_goals
   go_wp2_with fail
   refine (VU _).mono ?_;rintro e w2 ⟨rfl,Fa⟩;replace dc:=ta dc Fa;go_wp2_with fail
   refine (VU _).mono ?_;rintro e w3 ⟨rfl,Ra⟩;go_wp2;go_ret
   exact ⟨rfl,ta dc Ra⟩
 obtain ⟨rfl,rfl⟩:=mq;obtain ⟨L,Fb,uq,hn64,h40,hLL⟩:=hL rfl;have hT:=MW _ _ rfl;obtain ⟨rfl,rfl,rfl,rfl,rfl,rfl,rfl,rfl,rfl,rfl,rfl⟩:=u6 hLL;obtain ⟨j,hj⟩:=Fb.n;obtain ⟨pu,rfl⟩:=jm uq.pub;obtain rfl:L.p=p:=uq.p;have kl:=Blk.new w1 35 #[vd vo L.p,vd vq L.block,vd vq L.queries,vd vq L.k,vd vq L.n,vd vq L.secret,vd vq L.rows,vd vq L.a,vd vq L.b,vd vq L.b,vd vq L.b];have qD:=kc.alloc (.cells #[vd vo L.p,vd vq L.block,vd vq L.queries,vd vq L.k,vd vq L.n,vd vq L.secret,vd vq L.rows,vd vq L.a,vd vq L.b,vd vq L.b,vd vq L.b] 35);have HL:=zH Fb;have HF:=zH uq;have HT:=zH hT;have H40:=zH h40;have HJ:=zH hj;clear hLL hL MW Fb uq hn64 h40 hT hj Rb kc;go_wp2_with fail
 generalize w1.alloc _=w2 at dc kl qD |-;generalize w1.1.size=gl at kl |-;refine (VU _).mono ?_;rintro e w3 ⟨rfl,Ra⟩;replace kl:=pa kl Ra;replace qD:=pa qD Ra;replace dc:=ta dc Ra;clear Ra;have cc:=qD.cell;have lc:=qD.lt;have HO:=zH (HBg.out w3);go_wp2_with fail
 refine HO.out.mono ?_;rintro e wB ⟨ga,F1,rfl,h1,hF1,Ca⟩;have jJ:=zH h1;have HFa:=zH (show ∀ b,F1 b -> W.1.size<b /\ gl<b from fun b hb=>by have h:=hF1 b hb;have:=qD.lt;have:=kl.lt;omega)
 replace kl:=pa kl Ca;replace qD:=pa qD Ca;replace dc:=ta dc Ca;have oc:=zH dc;have Uq:=zH kl;have Wh:=zH qD;clear cc lc HO h1 hF1 Ca kl qD dc;have HFs:=zH (fun w'=>zGN L pd w' HL.out HCN.out)
 unfold Ub at HFs;have cl:=Uq.out.cell;have cc:=Wh.out.cell;go_wp2_with fail
 refine (HFs.out _).mono ?_;rintro e wC ⟨v0,v1,v2,v3,v4,nr,crs,rfl,o0,QH,o1,o2,o3,o4,dD⟩;have kJ:=zH (jJ.out.below dD);have pq:=bV L pd (zQ (Cc HL.out.p));obtain ⟨Gv,rq,kd,ef,sj⟩:=FO pq;have hc4:=aV pq;have Vb:=(Cc HL.out.p).2;have CF:=vQ QH o0 zR zR;obtain ⟨A0,n0,c0,rfl⟩:=RSl.slc CF.here;obtain ⟨A1,c1,rfl,-⟩:=Yb o1;obtain ⟨A2,c2,rfl,-⟩:=Yb o2;obtain ⟨A3,c3,rfl,-⟩:=Yb o3;obtain ⟨A4,c4,rfl,-⟩:=Yb o4;have Rb:=ta oc.out dD;obtain ⟨K,hK⟩:∃ K:Nat -> Prop,K=fun b=>b<W.1.size \/ (wB.1.size <= b /\ b<wC.1.size):=⟨_,rfl⟩
 have og:∀ b,b<W.1.size -> K b:=fun b h=>by rw [hK];exact .inl h
 have Dm:∀ b,wB.1.size <= b -> b<wC.1.size -> K b:=fun b h1 h2=>by rw [hK];exact .inr ⟨h1,h2⟩
 obtain ⟨AR,hAR⟩:∃ AR:vu -> Prop,AR=fun u=>RSl 3 yg u [ve A n c] rows /\ RWd u [ve B m d] ws /\ Kd u [ve A0 n0 c0] (Cz L pd (L.a+L.b+L.b+L.b)) /\ RWd u [ve A1 L.k c1] (Si L.p pd [1] L.k) /\ RWd u [ve A2 (L.k+L.block-2) c2] (Si L.p pd [2] (L.k+L.block-2)) /\ RWd u [ve A3 (L.block+2*L.queries-1) c3] (Si L.p pd [3] (L.block+2*L.queries-1)) /\ RWd u [ve A4 L.n c4] (Si nc pd [4] L.n):=⟨_,rfl⟩
 have hHA:Hd K wC AR:=fun u a=>by
  rw [hAR];exact ⟨R4 (Qg Bh) Fs.out.rows Rb u (Fy a og),R4 rD Fs.out.ws Rb u (Fy a og),hd_rrx CF u (Fy a fun b h=>Dm b h.1 h.2),
   Sf (rP o1 u (Fy a fun b h=>Dm b (o1.lt b h).1 (o1.lt b h).2)) fun y hy=>Je (kd.2 y hy) Vb,
   Sf (rP o2 u (Fy a fun b h=>Dm b (o2.lt b h).1 (o2.lt b h).2)) fun y hy=>Je (ef.2 y hy) Vb,
   Sf (rP o3 u (Fy a fun b h=>Dm b (o3.lt b h).1 (o3.lt b h).2)) fun y hy=>Je (sj.2 y hy) Vb,
   Sf (rP o4 u (Fy a fun b h=>Dm b (o4.lt b h).1 (o4.lt b h).2)) fun y hy=>rm (of_decide_eq_true (oh.1 hc4.2 y hy))⟩
 have Nu:=zH hAR;have HO1w:=zH (show ∀ b,F1 b -> b<wC.1.size from kJ.out.lt)
 have HKF:=zH (show ∀ b,K b -> b<wC.1.size /\ ¬F1 b by
  rw [hK];intro b hb;have s:=Rb.size;rcases hb with h | h
  ·exact ⟨zO,fun e=>by have:=(HFa.out b e).1;omega⟩
  ·exact ⟨h.2,fun e=>by have:=jJ.out.lt b e;omega⟩)
 have HHA:=zH hHA;obtain ⟨k8,ma⟩:=zN wC 41 #[ve A0 n0 c0,ve A1 L.k c1,ve A2 (L.k+L.block-2) c2,ve A3 (L.block+2*L.queries-1) c3,ve A4 L.n c4];replace Uq:=zH (Uq.out.below dD Uq.out.lt);replace Wh:=zH (Wh.out.below dD Wh.out.lt);replace oc:=zH (ta oc.out dD);replace Uq:=zH (Uq.out.below ma Uq.out.lt);replace Wh:=zH (Wh.out.below ma Wh.out.lt);replace oc:=zH (ta oc.out ma);replace kJ:=zH (kJ.out.below ma);have HHD:=zH (sb HHA.out (yc ma));have HwC:=zH (show wC.1.size <= (wC.alloc (.cells #[ve A0 n0 c0,ve A1 L.k c1,ve A2 (L.k+L.block-2) c2,ve A3 (L.block+2*L.queries-1) c3,ve A4 L.n c4] 41)).1.size from ma.size)
 clear ma dD Rb hK og Dm hAR hHA o0 o1 o2 o3 o4 QH CF pq Gv rq kd ef sj hc4 Vb cl cc HFs jJ;go_upto_region 8 with fail
 generalize wC.alloc _=wD at Uq Wh oc kJ HHD HwC k8 |-;have HKd:=zH (show ∀ b,K b -> b<wD.1.size /\ ¬F1 b from fun b hb=>⟨We (HKF.out b hb).1 HwC.out,(HKF.out b hb).2⟩)
 have l8:=k8.lt;have n81:¬F1 wC.1.size:=fun e=>by have:=HO1w.out _ e;omega
 generalize wC.1.size=g8 at k8 l8 n81 |-;obtain ⟨x,hx⟩:=zEX (Az L j pu vars rows ws pd);obtain ⟨O,hO⟩:=zEX (Rx real xe);rw [<- hO] at kJ oA;have HX:=zH hx;have Ut:∀ u,AR u -> _:=fun u h=>by rw [Nu.out] at h;exact h
 have jo:=fun (w':vu) (g:Nat) (F:Nat -> Prop) (h:OrcAt w' g O F) (hA:Hd K w' AR) (hK:∀ b,K b -> b<w'.1.size /\ ¬F b)=>zF1 h L j pu pd vars A B A0 A1 A2 A3 A4 n c m d n0 c0 L.k c1 (L.k+L.block-2) c2 (L.block+2*L.queries-1) c3 L.n c4 rows ws bl bw qs HL.out HJ.out HF.out H40.out HT.out AR hA hK (fun u h=>(Ut u h).1) (fun u h=>(Ut u h).2.1) (fun u h=>(Ut u h).2.2.1) (fun u h=>(Ut u h).2.2.2.1) (fun u h=>(Ut u h).2.2.2.2.1) (fun u h=>(Ut u h).2.2.2.2.2.1) (fun u h=>(Ut u h).2.2.2.2.2.2) (Bl oA.out.le zO)
 rw [<- hx] at jo;obtain ⟨P,hP⟩:=zEX (x.pr O);obtain ⟨OF,hOF⟩:=zEX (x.oF O);rw [<- hP,<- hOF] at jo;have HP:=zH hP;have DG:=zH hOF;have HOFL:=zH (show Nf OF 700000 by
  rw [hOF];have Ce:=HL.out.n2;have mo:=HL.out.q2;refine Bl (oF_le x O (by rw [hx];exact HJ.out) oA.out.le) ?_
  rw [hx];show 0+1+2*L.n+4+1+L.queries <= 700000
  omega)
 unfold Xc Im at jo;have jA:=zH jo;have hRP:=fun (w':vu) (hA:AR w')=>zG4 (K:=fun _=>False) (O:=O) (k:=0) oA.out zO L j pu pd vars vB A B A0 A1 A2 A3 A4 0 0 n c m d n0 c0 L.k c1 (L.k+L.block-2) c2 (L.block+2*L.queries-1) c3 L.n c4 rows ws bl bw qs w' HL.out HJ.out HF.out H40.out HT.out
  (fun u _=>by rw [hO,orc_qs];exact zHw u) (Ut w' hA).1 (Ut w' hA).2.1 (Ut w' hA).2.2.1 (Ut w' hA).2.2.2.1 (Ut w' hA).2.2.2.2.1 (Ut w' hA).2.2.2.2.2.1 (Ut w' hA).2.2.2.2.2.2
 rw [<- hx,<- hP,<- hOF] at hRP;unfold Xc Im Bf Ub at hRP;have HRP:=zH hRP;have HOr:=zH (fun w'=>by have:=zFu L.p (pu:Int) vars A B n c m d bl bw qs pd real xe w';rw [<- hO] at this;unfold Bf iH at this;exact this)
 clear jo hx hO Ut hP hOF hRP;have c8:=k8.cell;have cc:=Wh.out.cell;have K8:=zH k8;clear k8;go_wp2_with fail
 refine (jA.out _ _ _ kJ.out HHD.out fun b hb=>⟨(HKd.out b hb).1,(HKd.out b hb).2⟩).mono ?_
 rintro _ w1E ⟨Sa,G1,rfl,Sd,ML,xf⟩;have s1:=ML.size;have nc1:¬F1 W.1.size:=fun e=>by have:=(HFa.out _ e).1;omega
 have nl1:¬F1 gl:=fun e=>by have:=(HFa.out _ e).2;omega
 have HHE:=zH (sb HHD.out (MA ML fun b h=>(HKd.out b h).2))
 have CM:=zH Sd;have Oq:=zH xf;have Sq:=zH (Wh.out.moved ML nc1);have Iw:=zH (Uq.out.moved ML nl1);have EJ:=zH (K8.out.moved ML n81);have He:=zH (PM oc.out ML fun b hb=>Nat.le_of_lt (HFa.out b hb).1)
 clear Sd ML xf s1 c8 cc Wh Uq K8 oc kJ HHD jA;obtain ⟨k9,ma⟩:=zN w1E 46 #[vd vo P.root,ve Sa.A1 Sa.n1 Sa.c1,ve Sa.A2 Sa.n2 Sa.c2,ve Sa.A3 Sa.n3 Sa.c3,ve Sa.A4 Sa.n4 Sa.c4,ve Sa.A5 Sa.n5 Sa.c5,ve Sa.A6 Sa.n6 Sa.c6];replace Sq:=zH (Sq.out.below ma Sq.out.lt);replace Iw:=zH (Iw.out.below ma Iw.out.lt);replace EJ:=zH (EJ.out.below ma EJ.out.lt);replace He:=zH (ta He.out ma);replace CM:=zH (CM.out.below ma);replace HHE:=zH (sb HHE.out (yc ma));replace Oq:=zH (sb Oq.out (yc ma));clear ma;go_upto_region 9 with fail
 generalize w1E.alloc _=w1F at k9 Sq Iw EJ He CM HHE Oq |-;obtain ⟨NQ,Dd⟩:=zEX (w1F.1.size);obtain ⟨gp,Zt⟩:=zEX (w1E.1.size);have HG1L:=zH (show ∀ b,G1 b -> b<NQ from fun b hb=>by rw [Dd];exact CM.out.lt b hb)
 have l9q:gp<NQ:=by rw [Dd,Zt];exact k9.lt
 rw [<- Zt] at k9 |-;have lED:=zH (show ∀ b,(wD.1.size <= b /\ b<w1E.1.size /\ ¬G1 b) -> b<gp from fun b hb=>by rw [Zt];exact hb.2.1)
 clear Zt;have cc:=Sq.out.cell;have cl:=Iw.out.cell;have c8:=EJ.out.cell;have lqc:W.1.size<NQ:=by rw [Dd];exact Sq.out.lt
 have lql:gl<NQ:=by rw [Dd];exact Iw.out.lt
 have lq8:g8<NQ:=by rw [Dd];exact EJ.out.lt
 have nxc:¬Fc W.1.size:=id;have nxl:¬Fc gl:=id;have nx8:¬Fc g8:=id;have K9:=zH k9;have se:=zH Dd;clear k9 Dd;refine fw (Fc) (Fc) (NQ) [1,10,17,19] [0,2,3,4,5,6,7,8,9,1,10,11,12,13,14] [(15,46,#[vd vo 0,ve vB 0 0,ve vB 0 0,ve vB 0 0,ve vB 0 0,ve vB 0 0,ve vB 0 0]),(16,65,#[.bool false,vd vo 0,vd vq 0,ve vB 0 0,ve vB 0 0,ve vB 0 0])] [17,18,19] zK (Mw.2 ⟨⟨_,rfl,rfl,fun a w=>by go_simp <;> rfl⟩,Mw.2 ⟨⟨_,rfl,rfl,fun a w=>by go_simp <;> rfl⟩,Ht _⟩⟩) zK ?_
 refine jw ?_;intro Wc Ga ja;have La:Hid (Ui Fc NQ Fc Wc):=zH (by rw [Ga.out,se.out];exact ⟨zR,fun _ h=>h.elim,fun _ _ h=>h⟩)
 have ky:=zH (show OrcAt Wc ga OF G1 by rw [Ga.out];exact CM.out.drew)
 have Lq:=zH (show vz W.1.size W Wc by rw [Ga.out];exact He.out.drew)
 have uG:=zH (sb HHE.out (show Yd _ _ Wc by rw [Ga.out];exact Ln))
 have ny:=zH (sb Oq.out (show Yd _ _ Wc by rw [Ga.out];exact Ln))
 have Rq:=zH (show Blk Wc _ _ _ by rw [Ga.out];exact K9.out.drew)
 clear Ga CM He HHE Oq K9 Sq Iw EJ;refine yi ?_;refine Nz (f:=?_) (vals:=?_) rfl rfl rfl La ?_ (fun wF Xa=>?_)
 rotate_left 3
 replace ky:=zH (ky.out.below Xa);replace Lq:=zH (ta Lq.out Xa);replace uG:=zH (sb uG.out (yc Xa));replace ny:=zH (sb ny.out (yc Xa));replace Rq:=zH (Rq.out.below Xa Rq.out.lt);replace ja:=zM (mc Fc NQ) ja (ze Xa La.out.size);replace La:=zH (Te La.out Xa);refine (HOr.out wF).mono ?_
 rotate_left
 ·intro w_;go_simp <;> rfl
 rintro e wU ⟨rfl,Ca⟩;clear Xa;refine ⟨_,Fc,rfl,Af Ca,(Te La.out Ca).lt,?_⟩;replace ja:=zM (mc Fc NQ) ja (jk La.out (Af Ca));replace La:=zH (Kl La.out (Af Ca) ((Te La.out Ca).lt));refine zPU ?_;replace ky:=zH (ky.out.below Ca);replace Lq:=zH (ta Lq.out Ca);replace uG:=zH (sb uG.out (yc Ca));replace ny:=zH (sb ny.out (yc Ca));replace Rq:=zH (Rq.out.below Ca Rq.out.lt);clear Ca;refine yi ?_;refine Nz (f:=?_) (vals:=?_) rfl rfl rfl La ?_ (fun wF Xa=>?_)
 rotate_left 3
 replace ky:=zH (ky.out.below Xa);replace Lq:=zH (ta Lq.out Xa);replace uG:=zH (sb uG.out (yc Xa));replace ny:=zH (sb ny.out (yc Xa));replace Rq:=zH (Rq.out.below Xa Rq.out.lt);replace ja:=zM (mc Fc NQ) ja (ze Xa La.out.size);replace La:=zH (Te La.out Xa);refine (HRP.out wF (Tl uG.out)).mono ?_
 rotate_left
 ·intro w_;go_simp <;> rfl
 rintro e wV ⟨Sb,vb,Aq,nq,cq,rfl,Vb,-,mo,Ca⟩;clear Xa;refine ⟨_,Yf Fc wF wV,rfl,Rh Ca,zm La.out Ca,?_⟩;replace ja:=zM (mc Fc NQ) ja (jk La.out (Rh Ca));replace La:=zH (Kl La.out (Rh Ca) (zm La.out Ca));refine zPU ?_;obtain ⟨KK,Zw⟩:∃ KK:Nat -> Prop,KK=fun b=>wF.1.size <= b /\ b<wV.1.size:=⟨_,rfl⟩
 have hp3:=wk Vb;have hq3:=Vn (wk mo) (K':=fun b=>wF.1.size <= b /\ b<wV.1.size) fun b hb=>⟨hb.1.elim (fun e=>e.elim) id,hb.2⟩
 rw [<- Zw] at hp3 hq3;have my:=zH hp3;have Su:=zH hq3;have Oy:∀ b,KK b -> Yf Fc wF wV b:=fun b hb=>by rw [Zw] at hb;exact .inr hb
 replace ky:=zH (ky.out.below Ca);replace Lq:=zH (ta Lq.out Ca);replace ny:=zH (sb ny.out (yc Ca));replace Rq:=zH (Rq.out.below Ca Rq.out.lt);generalize Yf Fc wF wV=V1 at La Oy |-;clear Vb mo hp3 hq3 Ca Zw uG;refine yi ?_;refine iw [(vD 10,15),(vD 12,16)] rfl La (fun Ym wE Wb Ng=>?_)
 have VJ:=Ng.blk _ (.head _) rfl;have vV:=Ng.blk _ (.tail _ (.head _)) rfl;have cQ:=Ng.dif _ (.head _) _ (.tail _ (.head _)) rfl rfl zD;clear Ng;unfold Jm Zl;simp only [List.foldl];dsimp only at VJ vV cQ
 generalize Ym 15=g15 at VJ cQ |-;obtain ⟨zB,oS,PW⟩:=VJ;generalize Ym 16=g16 at vV cQ |-;obtain ⟨k16,hg16,hv16⟩:=vV;replace ky:=zH (ky.out.below Wb);replace Lq:=zH (ta Lq.out Wb);replace ny:=zH (sb ny.out (yc Wb));replace Rq:=zH (Rq.out.below Wb Rq.out.lt);replace my:=zH (sb my.out (yc Wb));replace Su:=zH (sb Su.out (yc Wb));replace ja:=zM (mc Fc NQ) ja (ze Wb La.out.size);replace La:=zH (Te La.out Wb)
 refine zPU ?_
 have NK15:=zH (show ¬KK g15 from fun e=>PW (Oy _ e))
 have NK16:=zH (show ¬KK g16 from fun e=>hv16 (Oy _ e))
 have G15:=zH (show NQ <= g15 /\ NQ <= g16 from ⟨oS,hg16⟩)
 clear Wb Oy;have c15:=zB.cell;have f15:=zB.frozen;refine Ip ?_;refine ke (mc Fc NQ) rfl rfl rfl ?_;go_simp;refine ⟨ze (LD oS [vd vo P.root,ve Sb.A1 Sb.n1 Sb.c1,ve Sb.A2 Sb.n2 Sb.c2,ve Sb.A3 Sb.n3 Sb.c3,ve Sb.A4 Sb.n4 Sb.c4,ve Sb.A5 Sb.n5 Sb.c5,ve Sb.A6 Sb.n6 Sb.c6] 0 _) zR,?_⟩
 refine zPU ?_
 obtain ⟨wG,hwG,kP,sP⟩:=zAS zB (vd vo P.root) (ve Sb.A1 Sb.n1 Sb.c1) (ve Sb.A2 Sb.n2 Sb.c2) (ve Sb.A3 Sb.n3 Sb.c3) (ve Sb.A4 Sb.n4 Sb.c4) (ve Sb.A5 Sb.n5 Sb.c5) (ve Sb.A6 Sb.n6 Sb.c6);rw [hwG];have VW:=sP.blk k16 (fun e=>cQ e.symm)
 have KPG:=zH kP;have UG:=zH sP;clear hwG c15 f15 ja La zB k16 kP sP;have c16:=VW.cell;have f16:=VW.frozen;have ja:=(mc Fc NQ).refl wG;refine Ip ?_;refine ke (mc Fc NQ) rfl rfl rfl ?_;go_simp;refine ⟨ze (LD hg16 [.bool OF.ideal,vd vo OF.st,vd vq OF.dr,ve Aq nq cq,ve vB 0 0,ve vB 0 0] 0 _) zR,?_⟩
 refine zPU ?_
 refine Vc ?_;obtain ⟨wZ,hwZ,kQ,sQ⟩:=zAR VW (.bool OF.ideal) (vd vo OF.st) (vd vq OF.dr) (ve Aq nq cq) (ve vB 0 0) (ve vB 0 0);rw [hwZ];have g15q:=G15.out;have hsZ:wZ.1.size=wE.1.size:=sQ.size.trans UG.out.size;have iN:∀ b,b≠g15 -> b≠g16 -> wZ.1[b]?=wE.1[b]?:=fun b h1 h2=>(sQ.far b h2).trans (UG.out.far b h1)
 have hoz:=ky.out.keep (Nat.le_of_eq hsZ.symm) fun b hb=>iN b (zQ (HG1L.out b hb)) (zQ (HG1L.out b hb))
 have hbz:=sQ.below (UG.out.below Lq.out zO) zO;have hr1z:=sQ.hd (UG.out.hd ny.out fun e=>by have:=lED.out _ e;omega) fun e=>by have:=lED.out _ e;omega
 have k9z:=sQ.blk (UG.out.blk Rq.out zO) zO;have hp2z:=sQ.hd (UG.out.hd my.out NK15.out) NK16.out;have hq2z:=sQ.hd (UG.out.hd Su.out NK15.out) NK16.out;have k15z:=sQ.blk KPG.out cQ;have HOz:=zH hoz;have HBz:=zH hbz;have HR1z:=zH hr1z;have HP2z:=zH hp2z;have oU:=zH hq2z;have KQz:=zH kQ;have c9:=k9z.cell;have c15:=k15z.cell;clear hwZ hsZ iN hoz hbz hr1z hp2z hq2z k9z k15z kQ sQ UG ky Lq ny Rq my Su KPG c16 f16 ja cc cl c8 lqc lql lq8 l9q g15q nxc nxl nx8;have HNL:=zH (show (zp P).length <= 1000000 by
  rw [HP.out];refine zFk x O (by rw [HX.out];exact HL.out) (by rw [HX.out];exact HJ.out) (by rw [HX.out];exact AX HJ.out HL.out.n2) ?_
  rw [HX.out];show (tz L rows ws pu).length <= 1000
  rw [bQ];have:=H40.out;omega)
 have Nv:=fun (u:vu) (h1:Mt u P Sa) (h2:Mt u P Sb)=>zHF P Sa Sb u h1 h2 HNL.out
 unfold Im at Nv;have MG:=zH Nv;have ma:=fun (u:vu) (h:OrcAt u ga OF G1) (hq:Md u [ve Aq nq cq] OF.qs)=>zBP h (jb HOFL.out.1 zO) Aq nq cq hq
 unfold Bf at ma;have HAl:=zH ma;clear Nv ma;go_upto_region 10 with fail
 go_wp2_with fail
 refine (MG.out _ (Tl HR1z.out) (Tl HP2z.out)).mono ?_;rintro e wY ⟨rfl,hbY⟩;replace HOz:=zH (HOz.out.below hbY);replace HBz:=zH (ta HBz.out hbY);replace oU:=zH (sb oU.out (yc hbY));replace KQz:=zH (KQz.out.below hbY KQz.out.lt);clear hbY c9 c15;have c16:=KQz.out.cell;go_wp2_with fail
 refine (HAl.out _ HOz.out (Tl oU.out)).mono ?_;rintro e w9 ⟨rfl,df⟩;have HBF:=zH (ta HBz.out df);clear df c16;go_wp2;go_ret
 exact ⟨rfl,HBF.out⟩
end Go.Proofs.YteoghgbnielkpaaGreat
