/- A part of the proof. No condition. -/
import Derived.Test.YtjipleoamlmkfaaGreatProg
import Derived.Test.YtjipleoamlmkfaaGreatPF24
import Derived.Test.YtjipleoamlmkfaaGreatPF42
import Derived.Test.YtjipleoamlmkfaaGreatPF43
import Derived.Test.YtjipleoamlmkfaaGreatPF44
import Derived.Test.YtjipleoamlmkfaaGreatPF22
import Derived.Test.YtjipleoamlmkfaaGreatPF35

set_option maxRecDepth 100000
set_option maxHeartbeats 8000000
set_option linter.unusedVariables false
set_option linter.unusedSimpArgs false
namespace Go.Proofs.YtjipleoamlmkfaaGreat
open Go.RowKit Go.Maps
theorem TG {L:Va} {r:List (List Nat)} {co li qu sa:List Nat} (h:Qm L r co li qu sa=true):sa.length=L.n /\ Sd sa=true:=by
 unfold Qm Yf at h;simp only [Bool.and_eq_true,decide_eq_true_eq] at h;exact ⟨h.2.2.2.2.2.1,h.2.2.2.2.2.2⟩
theorem iP {p:Nat} {pub vars:Int} {rows:List Ya} {bl bw qs:Int} {L:Va} (ht:Gb p pub vars rows=true) (hf:Lm L ⟨p,pub,vars,rows.length,bl,bw,qs⟩):Nr p pub vars rows bl bw qs=0:=by
 unfold Nr;rw [if_pos ht];exact hf.err
theorem jL {K KB:Nat -> Prop} {w wb u:World} (hb:Below w.heap.size w wb) (a:Vf KB wb u) (hK:∀ b,K b -> b<w.heap.size -> KB b):Vf K w u :=
 ⟨a.os.trans hb.os,a.tape.trans hb.tape,a.output.trans hb.output,Nat.le_trans hb.size a.size,fun b hk hl=>(a.block b (hK b hk hl) (Nat.lt_of_lt_of_le hl hb.size)).trans (hb.block b hl)⟩
theorem rQ {w:World} {g:Nat} {O:La} {F K:Nat -> Prop} (h:OrcAt w g O F) (x:PvIn) (vars:Int) (A B A0 A1 A2 A3 A4:Option Addr) (n c m d n0 c0 n1 c1 n2 c2 n3 c3 n4 c4:Nat) (bl bw qs:Int)
  (hL:Vc x.L) (fj:Lm x.L ⟨x.L.p,(x.pub:Int),vars,x.rows.length,bl,bw,qs⟩) (hn:x.L.n=2^x.dd) (xY:x.dd <= 10) (Ia:Gb x.L.p (x.pub:Int) vars x.rows=true) (hT:ux x.L x.pub vars x.rows) (hVO:pA vars x.rows) (hD:Du x.L.p (x.pub:Int) vars x.rows) (To:x.dg=pd x.L.p (x.pub:Int) vars x.rows) (EU:x.m=Ew x.L x.rows x.ws x.pub)
  (AR:World -> Prop) (hA:Hd K w AR) (hK:∀ b,K b -> b<w.heap.size /\ ¬F b)
  (hr:∀ u,AR u -> RSl 3 Md u [.slice A n c] x.rows) (hw:∀ u,AR u -> RWd u [.slice B m d] x.ws) (h0:∀ u,AR u -> Qd u [.slice A0 n0 c0] x.crs) (h1:∀ u,AR u -> RWd u [.slice A1 n1 c1] x.l1) (h2:∀ u,AR u -> RWd u [.slice A2 n2 c2] x.l2) (h3:∀ u,AR u -> RWd u [.slice A3 n3 c3] x.l3) (h4:∀ u,AR u -> RWd u [.slice A4 n4 c4] x.l4)
  (Cr:(x.ws.length:Int)=vars) (rj:x.ws.getD 0 0=1) (xH:(x.ws.all fun y=>decide (y<x.L.p))=true) (hsat:Un x.L.p x.rows x.ws=true) (Kk:Qm x.L x.crs x.l1 x.l2 x.l3 x.l4=true) (hO:Qc O 1000) (Gd:x.L.a+x.L.b+x.L.b+x.L.b <= 1000) :
  Calls Tryz.prog 10 #[.pointer (some ⟨g,0,none⟩),Ib x.L.p (x.pub:Int) vars (.slice A n c), .agg #[.int .i64 bl, .int .i64 bw, .int .i64 qs], .slice B m d, .agg #[.slice A0 n0 c0, .slice A1 n1 c1, .slice A2 n2 c2, .slice A3 n3 c3, .slice A4 n4 c4]] w fun e w' =>
   ∃ (S:PS) (F':Nat -> Prop),e= .returned (.tuple #[.agg (Jc (x.pr O) S), .int .i64 0]) /\ OrcAt w' g (x.oF O) F' /\ Moved F F' w w' /\ Hd (fun b=>w.heap.size <= b /\ b<w'.heap.size /\ ¬F' b) w' (fun u=>Xg u (x.pr O) S):=by
 obtain ⟨kt,kx,kc,kr,aa,Ra⟩:=Hy w 25 27 43 46 #[.int .u64 x.L.p, .int .i64 x.pub, .int .i64 vars, .slice A n c] #[.int .i64 bl, .int .i64 bw, .int .i64 qs] #[.slice A0 n0 c0, .slice A1 n1 c1, .slice A2 n2 c2, .slice A3 n3 c3, .slice A4 n4 c4] #[.int .u64 0, .slice none 0 0, .slice none 0 0, .slice none 0 0, .slice none 0 0, .slice none 0 0, .slice none 0 0];have a0:=dj hA;have Zk:=zH (fun w' (hb:Below w.heap.size w w')=>Xy hA (vf hb))
 have hz:=iP Ia fj;have HN:=zH (fun w' (hb:Below w.heap.size w w')=>(kQ x.L.p (x.pub:Int) vars A n c x.rows bl bw qs w' (hr w' (Zk.out w' hb))).mono (R':=fun e Ej=>e= .returned (.tuple #[.agg (Ua x.L), .int .i64 0]) /\ Below w'.heap.size w' Ej) (by
  rintro e Ej ⟨⟨lcs,rfl,hp⟩,xa⟩;rw [hz] at hp;rcases hp with ⟨Ka,-⟩ | ⟨-,-,L',-,hf',rfl⟩
  ·exact absurd rfl Ka
  ·rw [hz,show L'=x.L from hf'.eq.trans fj.eq.symm]
   exact ⟨rfl,xa⟩))
 have HV:=zH (fun w' (hb:Below w.heap.size w w')=>by have a:=Zk.out w' hb;have:=QI x.L A0 A1 A2 A3 A4 n0 c0 n1 c1 n2 c2 n3 c3 n4 c4 x.crs x.l1 x.l2 x.l3 x.l4 w' hL (h0 w' a) (h1 w' a) (h2 w' a) (h3 w' a) (h4 w' a);rw [Kk] at this;exact this)
 have Vp:=zH (fun w' (hb:Below w.heap.size w w')=>by have:=xA B m d x.ws x.L.p w' (hw w' (Zk.out w' hb));rw [xH] at this;exact this)
 have hasg:De x.L.p vars x.ws=true:=by
  unfold De;have:=fj.vars;have:=fj.pub;simp only at *;rw [rj,xH,Cr,show (vars == 0)=false by rw [beq_eq_false_iff_ne];omega]
  simp
 have HS:=zH (fun w' (hb:Below w.heap.size w w')=>by have:=tQ x.L.p (x.pub:Int) vars A B n c m d x.rows x.ws w' (hr w' (Zk.out w' hb)) (hw w' (Zk.out w' hb));rw [Ia,hasg,hsat] at this;exact this)
 have HM:=zH (fun w' (hb:Below w.heap.size w w')=>(iQ x.L x.pub vars A B n c m d x.rows x.ws w' hL hT (hr w' (Zk.out w' hb)) (hw w' (Zk.out w' hb)) Cr).mono (R':=fun e Ej=>∃ v,e= .returned v /\ RRx w'.heap.size Ej v x.m /\ Below w'.heap.size w' Ej) fun _ _ h=>by rw [EU];exact h)
 obtain ⟨Qv,So,Nc,jf,vi⟩:=BA Kk;have hsa:=TG Kk;have hmT:x.m.length=x.L.a+x.L.b+x.L.b+x.L.b:=by rw [EU];exact XI _ _ _ _
 have Bh:∀ r∈x.m,r.length=x.L.block:=fun r hr=>ZO (EU ▸ hr)
 have b1:=hL.b2;have b2:=hL.n2;have b3:=hL.q2;have b4:=hL.k;have b5:=hL.a;have b6:=hL.b;have HC:=zH (fun AM nM cM w' (hb:Below w.heap.size w w') (hm:Qd w' [.slice AM nM cM] x.m)=>by
  have a:=Zk.out w' hb;exact (DO x.L A0 A1 A2 A3 A4 AM n0 n1 n2 n3 n4 nM c0 c1 c2 c3 c4 cM x.m x.crs x.l1 x.l2 x.l3 w' hL hm (h0 w' a) (h1 w' a) (h2 w' a) (h3 w' a) (by rw [hmT,Qv]) Bh (fun r hr=>by have:=(So r hr).1;omega) (by omega) (by have:=Nc.1;omega) (by have:=jf.1;omega) (by have:=vi.1;omega)).mono (R':=fun e Ej=>∃ v,e= .returned v /\ RRx w'.heap.size Ej v x.cols /\ Below w'.heap.size w' Ej) fun _ _ h=>h)
 have HCE:=zH (x.cols_els hL.p);have Gu:=zH (show ∀ l∈x.cols,l.length <= 100000 from fun l hl=>by rw [x.cols_row l hl,hmT];omega)
 have Hj:=zH h;have HAA:=zH hA;have HK:=zH hK;have Qi:=zH hL;have HFo:=zH fj;have HOK:=zH (And.intro Ia (And.intro hT (And.intro hVO hD)));have jo:=zH (And.intro hn xY);have HDG:=zH To;have HRr:=zH hr;have HRw:=zH hw;have zW:=zH h0;have Ij:=zH h1;have Jj:=zH h2;have Ks:=zH h3;have HR4:=zH h4;have HCO:=zH Kk;have uo:=zH hsa;have HMT:=zH hmT;have Nu:=zH Bh;have HOL:=zH hO;have nF:∀ b,w.heap.size <= b -> ¬F b:=fun b hb e=>by have:=h.lt b e;omega
 have NF:=zH nF;obtain ⟨DV,hwd,hwx,-,VN⟩:=zb (hw _ a0);have HWR:=zH (fun w' (hb:Below w.heap.size w w')=>(zb (hw w' (Zk.out w' hb))).2.2.2.2)
 have Zt:(x.pub:Int)<vars:=fj.vars;have g1:(0:Int)<(m:Int):=by omega
 have d1:((m:Int) != vars)=false:=by rw [<- Cr,DV];simp
 have dv:=uj hwd hwx;have HWL:=zH DV;have HPV:=zH (show x.pub<m by omega)
 have HPU:=zH (show x.pub<65536 by unfold Gb at Ia;simp only [Bool.and_eq_true,Bool.not_eq_true',decide_eq_false_iff_not] at Ia;omega)
 have HW0:=zH rj;clear h hA hK hL fj hn xY Ia hT hVO hD To EU hr hw h0 h1 h2 h3 h4 Cr rj xH hsat Kk hO Qv So Nc jf vi hsa hmT Bh b1 b2 b3 b4 b5 b6 hz hasg a0 DV VN hwx Zt nF Ra;unfold Ib ik Ua at *;go_enter Tryz.func10,Tryz.ntmps10
 go_upto_region 1 with fail
 generalize (((w.alloc _).alloc _).alloc _).alloc _=w1 at kt kx kc kr aa |-;have ct:=kt.cell;have cx:=kx.cell;go_wp2_with fail
 refine (HN.out w1 aa).mono ?_;rintro e w2 ⟨rfl,xa⟩;replace kt:=ea kt xa;replace kx:=ea kx xa;replace kc:=ea kc xa;replace kr:=ea kr xa;replace aa:=ja aa xa;clear ct cx xa HN;obtain ⟨L,hLx⟩:=zEX (x.L);have ee:=zH hLx;rw [<- hLx] at kt HV Vp HS HM HC Qi HFo HOK jo uo HDG HCO Nu HMT |-;clear hLx;have ia:=(Below.refl w2.heap.size w2).alloc zR (.cells #[.int .u64 L.p, .int .i64 L.block, .int .i64 L.queries, .int .i64 L.k, .int .i64 L.n, .int .i64 L.secret, .int .i64 L.rows, .int .i64 L.a, .int .i64 L.b, .int .i64 L.b, .int .i64 L.b] 68);have kl:=Blk.new w2 68 #[.int .u64 L.p, .int .i64 L.block, .int .i64 L.queries, .int .i64 L.k, .int .i64 L.n, .int .i64 L.secret, .int .i64 L.rows, .int .i64 L.a, .int .i64 L.b, .int .i64 L.b, .int .i64 L.b];have It:w.heap.size+3<w2.heap.size:=kr.lt;replace kt:=ea kt ia;replace kx:=ea kx ia;replace kc:=ea kc ia;replace kr:=ea kr ia;replace aa:=ja aa ia;clear ia kx;go_upto_region 2 with fail
 generalize w2.alloc _=w3 at kl kt kc kr aa |-;generalize w2.heap.size=gl at kl It |-;have ct:=kt.cell;have za:=HWR.out w3 aa;rw [HWL.out] at za;obtain ⟨b,q,rfl,Za,hc⟩:=Ye za (show 0<x.ws.length by have:=HWL.out;omega)
 have aj:w3.cell? ⟨b,q,none⟩=some (.int .u64 ((x.ws.getD 0 0:Nat):Int)):=hc;rw [HW0.out] at aj;clear hc za;go_wp2_with fail
 refine (Vp.out w3 aa).mono ?_;rintro e _ ⟨rfl,rfl⟩;have cl:=kl.cell;have cc:=kc.cell;clear aj;go_wp2_with fail
 refine (HV.out w3 aa).mono ?_;rintro e w4 ⟨rfl,Pa⟩;replace kl:=ea kl Pa;replace kt:=ea kt Pa;replace kc:=ea kc Pa;replace kr:=ea kr Pa;replace aa:=ja aa Pa;clear cl cc ct Pa;have ct:=kt.cell;go_wp2_with fail
 refine (HS.out w4 aa).mono ?_;rintro e w5 ⟨rfl,Ma⟩;replace kl:=ea kl Ma;replace kt:=ea kt Ma;replace kc:=ea kc Ma;replace kr:=ea kr Ma;replace aa:=ja aa Ma;clear ct Ma HV Vp HS d1;have ct:=kt.cell;have cl:=kl.cell;go_wp2_with fail
 have hw5:=aa.size;refine (HM.out w5 aa).mono ?_;rintro e w6 ⟨vm,rfl,hm6,Cc⟩;replace kl:=ea kl Cc;replace kt:=ea kt Cc;replace kc:=ea kc Cc;replace kr:=ea kr Cc;replace aa:=ja aa Cc;have h36:=kr.lt;clear ct cl HM;have hms5:=Cc.size;obtain ⟨AM,nM,cM,rfl⟩:=RSl.slc hm6.here;have cc:=kc.cell;have cl:=kl.cell;go_wp2_with fail
 refine (HC.out AM nM cM w6 aa hm6.here).mono ?_;rintro e w7 ⟨vc,rfl,TA,mc⟩;obtain ⟨AC,nC,cC,rfl⟩:=RSl.slc TA.here;replace kl:=ea kl mc;replace kt:=ea kt mc;replace kc:=ea kc mc;replace kr:=ea kr mc;replace aa:=ja aa mc;obtain ⟨KB,uY⟩:∃ KB:Nat -> Prop,KB=fun b=>b<w7.heap.size /\ ¬F b:=⟨_,rfl⟩
 have Ty:∀ b,b<w7.heap.size -> ¬F b -> KB b:=fun b h1 h2=>by rw [uY];exact ⟨h1,h2⟩
 have Gs:=zH (show Hd KB w7 (fun u=>AR u /\ Blk u w.heap.size _ _ /\ Blk u (w.heap.size+2) _ _ /\ Blk u gl _ _ /\ Blk u (w.heap.size+3) _ _ /\ Qd u [.slice AM nM cM] x.m /\ Qd u [.slice AC nC cC] x.cols) from fun u a =>
  have bk:∀ {g t cs},Blk w7 g t cs -> w.heap.size <= g -> Blk u g t cs:=fun k hg=>(a.block _ (Ty _ k.lt (NF.out _ hg)) k.lt).trans k
  ⟨Xy HAA.out (jL aa a fun b h1 h2=>Ty b (Nat.lt_of_lt_of_le h2 aa.size) (HK.out b h1).2),bk kt zR,bk kc (by omega),bk kl (by omega),bk kr (by omega),
   hm6.2 u fun b h1 h2=>(a.block b (Ty b (Nat.lt_of_lt_of_le h2 mc.size) (NF.out _ (by omega))) (Nat.lt_of_lt_of_le h2 mc.size)).trans (mc.block b h2),
   TA.2 u fun b h1 h2=>a.block b (Ty b h2 (NF.out _ (by omega))) h2⟩)
 have Zp:=zH (show ∀ b,KB b -> b<w7.heap.size /\ ¬F b by rw [uY];exact fun b h=>h)
 have HCX:=zH TA;have hw6:w.heap.size <= w6.heap.size:=by omega
 have hw67:w6.heap.size <= w7.heap.size:=mc.size;clear hm6 TA Cc mc uY Ty cc cl HC HWR HWL HW0;obtain ⟨s1,Gc⟩:=zEX (x.t1 O);obtain ⟨e0,he0⟩:=zEX (1+x.pub);have rn:=HPV.out;have e1:(1:Int)+(x.pub:Int)=(e0:Int):=by omega
 have e2:=zd e0;have e3:(1:Int) <= (e0:Int):=by omega
 have e4:(e0:Int) <= (d:Int):=by omega
 have e5:e0-1=x.pub:=by omega
 have HPB:=zH (fun u (a:AR u)=>RB (k:=x.pub) (Jz (HRw.out u a) (t:=1) (by omega)) (by omega))
 obtain ⟨BP,Hv⟩:∃ BP,(if d=1 then some (⟨b,q,none⟩:Addr) else some ⟨b,q+1,none⟩)=BP:=⟨_,rfl⟩
 rw [show (if d=1 then some (⟨b,q,none⟩:Addr) else Option.map (fun y:Addr=>y.add 1) (some ⟨b,q,none⟩))=BP from Hv] at HPB
 have HBP:=zH Hv;have Eg:=zH Gc;have zm:=zH (fun w1 (hb:Below w.heap.size w w1)=>by
  have a:=Zk.out w1 hb;have:=uJ (Hj.out.below hb) L Qi.out L.p (x.pub:Int) vars A BP n c x.pub (d-1) x.rows x.pu (HRr.out w1 a) HOK.out.2.2.2 HOK.out.1 (HPB.out w1 a) (Ih HOL.out (by decide)) (by unfold PvIn.pu;rw [List.length_take];have:=HPU.out;omega)
  rw [<- HDG.out,show ef O L x.dg x.pu=s1 by rw [Gc,ee.out];rfl] at this
  unfold Ua Ib at this;exact this)
 have Z3:=zH (show s1.st<18446744073709551616 by rw [Gc];exact Ti (Bt Hj.out.ok.ans 18 _))
 have nw:=zH (show Qc s1.O 1001 by rw [Gc];exact Wl HOL.out 18 _)
 have bE:=zH (show rm s1.O by rw [Gc];exact GD Hj.out.ok.ans 18 _)
 obtain ⟨NQ,Nd⟩:=zEX (w7.heap.size);have l0:w.heap.size<NQ:=by rw [Nd];exact kt.lt
 have lgl:gl<NQ:=by rw [Nd];exact kl.lt
 have n0:=NF.out w.heap.size zR;have ngl:=NF.out gl (by omega)
 have ct:=kt.cell;have cl:=kl.cell;have ye:=zH Nd;have HB:=zH aa;clear Nd kl kt kc kr aa Gc he0 Hv rn Za;go_upto_region 10 with fail
 refine jy (F) (F) (NQ) [8,10] [0,1,2,3,4,5,6,7,8] [(9,96,#[.int .u64 0, .int .u64 0])] [10] (by kernel_rfl) (List.forall_mem_cons.2 ⟨⟨_,rfl,rfl,fun a w=>by go_simp <;> rfl⟩,List.forall_mem_nil _⟩) (by kernel_rfl) ?_
 refine ly ?_;intro Wc Ba da;have sc:=zH (show Below w.heap.size w Wc by rw [Ba.out];exact HB.out.drew)
 have Wa:Hid (xh F NQ F Wc):=zH (by rw [Ba.out,ye.out];exact ⟨zR,(Hj.out.below HB.out).lt,fun _ _ h=>h⟩)
 have M8:=zH (show Moved F F w7 Wc by rw [Ba.out];exact Ln (Ic (Below.refl _ _)))
 clear Ba;refine qg ?_;rw [HBP.out];refine Cu (f:=?_) (vals:=?_) rfl rfl rfl Wa ?_ (fun wF Mb=>?_)
 rotate_left 3
 replace sc:=zH (ja sc.out Mb);replace M8:=zH (M8.out.trans (Ic Mb));replace da:=(Cb F NQ).trans _ _ _ da (xf Mb Wa.out.size);replace Wa:=zH (Xi Wa.out Mb);refine (zm.out wF sc.out).mono ?_
 rotate_left
 ·intro w_;go_simp <;> rfl
 rintro e wA ⟨rfl,F1,h1,m1⟩;clear Mb;refine ⟨_,F1,rfl,m1,h1.lt,?_⟩;replace da:=(Cb F NQ).trans _ _ _ da (Fq Wa.out (m1));replace Wa:=zH (qt Wa.out (m1) (h1.lt));simp only [Act.put,zLa,zLb,zLc];have H8:=zH h1;replace M8:=zH (M8.out.trans m1);clear h1 m1 sc;refine qg ?_;refine ky [(some 16,9)] rfl Wa (fun Jq wE Hc Bi=>?_)
 have fE9:=Bi.blk _ (.head _) rfl;clear Bi;unfold vt RJ;simp only [List.foldl];dsimp only at fE9
 generalize Jq 9=g9 at fE9  |-;obtain ⟨k9,hg9,hv9⟩:=fE9;replace H8:=zH (H8.out.below Hc);replace M8:=zH (M8.out.trans (Ic Hc));replace da:=(Cb F NQ).trans _ _ _ da (xf Hc Wa.out.size);replace Wa:=zH (Xi Wa.out Hc)
 try simp only [Act.put,zLa,zLb,zLc]
 have lg9:w7.heap.size <= g9:=by rw [<- ye.out];exact hg9
 have c9:=k9.cell;have f9:=k9.frozen;refine xk ?_;refine de (Cb F NQ) rfl rfl rfl ?_;go_simp;refine ⟨xf ((tt _ _ hg9).trans (tt _ _ hg9)) zR,?_⟩
 try simp only [Act.put,zLa,zLb,zLc]
 refine pc ?_;have k9z:=Xs k9 0 1 (.int .u64 s1.st) (.int .u64 0);have h10:=(H8.out.set hv9 (.int .u64 s1.st) (i:=0)).set hv9 (.int .u64 0) (i:=1);have nh:=Ld (Ld M8.out lg9 0 (.int .u64 s1.st)) lg9 1 (.int .u64 0);generalize World.setCell (World.setCell wE _ _) _ _=wZ at k9z h10 nh |-;have k9y:Blk wZ g9 96 #[.int .u64 s1.st, .int .u64 0]:=by simpa using k9z
 have K9:=zH k9y;have H10:=zH h10;have M10:=zH nh;have N9:=zH (show ¬F1 g9 from hv9)
 have G9:=zH (show w.heap.size+3<g9 by have:=HB.out.size;omega)
 clear c9 f9 da k9 k9z k9y h10 nh Wa H8 M8 Hc ct cl l0 lgl n0 ngl hv9 hg9 ye zm;have AZ:=zH (Mc Gs.out (zl M10.out fun b h=>(Zp.out b h).2))
 have hkz:∀ b,KB b -> b<wZ.heap.size /\ ¬F1 b:=fun b hb=>⟨Nat.lt_of_lt_of_le (Zp.out b hb).1 M10.out.size,Me M10.out (Zp.out b hb).1 (Zp.out b hb).2⟩
 have uV:=WL H10.out AC A4 nC cC n4 c4 x.cols x.l4 x.dd (kO (MD AZ.out fun u h=>h.2.2.2.2.2.2)) (nI (MD AZ.out fun u h=>HR4.out u h.1)) hkz jo.out.2 (by rw [x.cols_len,<- ee.out,jo.out.1]) (by rw [x.cols_len,<- ee.out];exact uo.out.1) uo.out.2 HCE.out Gu.out (Ih nw.out (by decide))
 have HCm:=zH uV;obtain ⟨-,-,kc,-,-,-,-⟩:=dj AZ.out;have cc:=kc.cell;clear uV hkz;go_wp2_with fail
 refine HCm.out.mono ?_;rintro _ w8 ⟨tv,F2,T,rfl,h8,m8,kt8,hT8⟩;obtain ⟨o2,YX⟩:=zEX (x.o2 O);obtain ⟨tr,zp⟩:=zEX (x.tree O);have h8':OrcAt w8 g o2 F2:=by rw [YX];rw [Eg.out] at h8;exact h8
 have uE:ti T w8 tv tr:=by rw [zp];rw [Eg.out] at kt8;exact kt8
 have HTO:=zH (show Xu x.dd tr by rw [zp];exact aT _ jo.out.2 (by rw [Dw,yE,x.cols_len,<- ee.out,jo.out.1]))
 obtain ⟨AT,nT,cT,rfl⟩:=RSl.slc (pI uE);have po:=zH YX;have HTR:=zH zp;have ia:=(Below.refl w8.heap.size w8).alloc zR (.cells #[.slice AT nT cT] 99);have kT:=Blk.new w8 99 #[.slice AT nT cT];have nT2:¬F2 w8.heap.size:=fun e=>by have:=h8'.lt _ e;omega
 have H9:=zH (h8'.below ia);have M9:=zH ((M10.out.trans m8).trans (Ic (F:=F2) ia));have n92:¬F2 g9:=Me m8 K9.out.lt N9.out;have k9b:=(K9.out.moved m8 N9.out).below ia (K9.out.moved m8 N9.out).lt;have lT9:g9<w8.heap.size:=(K9.out.moved m8 N9.out).lt;have uq:=zH (CN (sE uE ia));have Ru:=zH (show ∀ b,T b -> w.heap.size <= b /\ b<w8.heap.size /\ ¬F2 b /\ g9<b from fun b hb=>⟨by have:=(hT8 b hb).1;have:=M10.out.size;have:=HB.out.size;omega,(hT8 b hb).2.1,(hT8 b hb).2.2,Nat.lt_of_lt_of_le K9.out.lt (hT8 b hb).1⟩)
 have h2lt:=zH (show ∀ b,F2 b -> b<w8.heap.size from h8'.lt)
 clear YX zp h8 kt8 h8' uE m8 hT8 H10 M10 N9 K9 ia AZ HCm cc kc;go_upto_region 14 with fail
 generalize w8.alloc _=w9 at kT H9 M9 k9b uq |-;generalize w8.heap.size=gT at kT nT2 lT9 Ru h2lt |-;have K9:=zH k9b;have KT:=zH kT;have cT9:=kT.cell;clear k9b kT;obtain ⟨rt,pj⟩:=zEX (su tr);have HRo:=zH (fun u (h:Qd u [.slice AT nT cT] tr)=>by have:=aS h HTO.out;rw [<- pj] at this;exact this)
 have HRT:=zH (show rt=x.root O by rw [pj,HTR.out];rfl)
 clear pj;go_wp2_with fail
 refine (HRo.out w9 (dj uq.out)).mono ?_;rintro e ss ⟨rfl,Ex⟩;replace H9:=zH (H9.out.below Ex);replace M9:=zH (M9.out.trans (Ic Ex));replace K9:=zH (K9.out.below Ex K9.out.lt);replace KT:=zH (KT.out.below Ex KT.out.lt);replace uq:=zH (Mc uq.out (vf Ex));clear Ex cT9 HRo;have ia:=(Below.refl ss.heap.size ss).alloc zR (.cells #[.int .u64 rt, .slice none 0 0, .slice none 0 0, .slice none 0 0, .slice none 0 0, .slice none 0 0, .slice none 0 0] 46);have kP:=Blk.new ss 46 #[.int .u64 rt, .slice none 0 0, .slice none 0 0, .slice none 0 0, .slice none 0 0, .slice none 0 0, .slice none 0 0];have hgP:gT<ss.heap.size:=KT.out.lt;have YA:w7.heap.size <= ss.heap.size:=M9.out.size;have nP2:¬F2 ss.heap.size:=fun e=>by have:=h2lt.out _ e;omega
 replace H9:=zH (H9.out.below ia);replace M9:=zH (M9.out.trans (Ic ia));replace K9:=zH (K9.out.below ia K9.out.lt);replace KT:=zH (KT.out.below ia KT.out.lt);replace uq:=zH (Mc uq.out (vf ia));clear ia;go_upto_region 15 with fail
 generalize ss.alloc _=w11 at kP H9 M9 K9 KT uq |-;generalize ss.heap.size=gP at kP nP2 hgP YA |-;obtain ⟨-,-,-,kl,-,-,-⟩:=dj (Mc Gs.out (zl M9.out fun b h=>(Zp.out b h).2))
 have cl:=kl.cell;have c9:=K9.out.cell;have cP:=kP.cell;have KP:=zH kP;have ie:=nc Qi.out.p;have Dm:=zH (show rt<Xa by rw [HRT.out];exact cS (x.tree_lt O (by rw [<- Eg.out];exact bE.out)))
 have uV:=vJ H9.out s1.st 0 Z3.out L (by omega) ie.2 rt (Ti Dm.out) (by
  rw [po.out];refine Ih (x.o2_le O (by rw [<- ee.out];exact jo.out.1) (by rw [<- Eg.out];exact nw.out)) ?_
  have:=Qi.out.n2;rw [<- ee.out];omega)
 obtain ⟨ch,Hl⟩:=zEX (tk ⟨o2,s1.st,0⟩ L.p rt);obtain ⟨s2,Df⟩:=zEX (ve ⟨o2,s1.st,0⟩ rt);rw [<- Hl,<- Df] at uV;have Xp:=zH uV;have HAO:=zH (show rm o2 from H9.out.ok.ans)
 have HS2L:=zH (show s2.st<18446744073709551616 by rw [Df];exact Ti (Bt HAO.out 18 _))
 have HS2O:=zH (show Qc s2.O 800000 by
  rw [Df];refine Ih (PE (ct:=0) (k:=4000) ?_ s1.st rt) (by omega)
  rw [po.out];refine Ih (x.o2_le O (by rw [<- ee.out];exact jo.out.1) (by rw [<- Eg.out];exact nw.out)) ?_
  have:=Qi.out.n2;rw [<- ee.out];omega)
 have HTL:=zH (show ∀ k j,(tr.getD k []).getD j 0<18446744073709551616 from fun k j=>Ti (eK (by rw [HTR.out];exact x.tree_lt O (by rw [<- Eg.out];exact bE.out)) k j))
 have JU:=zH (show ch=x.ch O by rw [Hl,po.out,HRT.out,ee.out,Eg.out];rfl)
 have Em:=zH (show s2=x.t2 O by rw [Df,po.out,HRT.out,Eg.out];rfl)
 unfold Ua at Xp;clear kP kl uV Hl Df ie;go_wp2_with fail
 refine Xp.out.mono ?_;rintro _ oU ⟨rfl,F3,h12,Jn⟩;have k9c:=K9.out.moved Jn n92;have n93:¬F3 g9:=Me Jn K9.out.lt n92;have c9':=k9c.cell;have f9':=k9c.frozen;have l9':=k9c.lt;have e9T:gT≠g9:=by omega
 have e9P:gP≠g9:=by omega
 have h13:=(h12.set n93 (.int .u64 s2.st) (i:=0)).set n93 (.int .u64 3) (i:=1);have m13:=Ld (Ld (M9.out.trans Jn) lg9 0 (.int .u64 s2.st)) lg9 1 (.int .u64 3);have k9n:=Xs k9c 0 1 (.int .u64 s2.st) (.int .u64 3);have ktn:=((KT.out.moved Jn nT2).far (p:=⟨g9,0,none⟩) e9T (.int .u64 s2.st)).far (p:=⟨g9,1,none⟩) e9T (.int .u64 3);have kpn:=((KP.out.moved Jn nP2).far (p:=⟨g9,0,none⟩) e9P (.int .u64 s2.st)).far (p:=⟨g9,1,none⟩) e9P (.int .u64 3);have nTT:¬T g9:=fun e=>by have:=Ru.out _ e;omega
 have trn:=Mc (Mc (Mc uq.out (zl Jn fun b hb=>(Ru.out b hb).2.2.1)) (Dy (i:=0) (c:=.int .u64 s2.st) nTT)) (Dy (i:=1) (c:=.int .u64 3) nTT)
 have nT3:¬F3 gT:=Me Jn KT.out.lt nT2;have nP3:¬F3 gP:=Me Jn KP.out.lt nP2;have nC3:¬F3 oU.heap.size:=fun e=>by have:=h12.lt _ e;omega
 have HF3C:=zH (show ∀ b,F3 b -> b<oU.heap.size from h12.lt)
 have hCP:gP<oU.heap.size:=(KP.out.moved Jn nP2).lt;have HT3:=zH (show ∀ b,T b -> ¬F3 b from fun b hb=>Me Jn (by have:=(Ru.out b hb).2.1;have:=KT.out.lt;omega) (Ru.out b hb).2.2.1)
 obtain ⟨wS,hwS⟩:∃ wS,(oU.setCell ⟨g9,0,none⟩ (.int .u64 s2.st)).setCell ⟨g9,1,none⟩ (.int .u64 3)=wS:=⟨_,rfl⟩;have Ra:wS.heap.size=oU.heap.size:=by rw [<- hwS];simp [World.setCell]
 rw [hwS] at h13 m13 k9n ktn kpn trn;have ia:=(Below.refl wS.heap.size wS).alloc zR (.cells #[.int .u64 ch.al, .int .u64 ch.rh, .int .u64 ch.be] 65);have kC:=Blk.new wS 65 #[.int .u64 ch.al, .int .u64 ch.rh, .int .u64 ch.be];rw [Ra] at kC;have KC:=zH kC;have H13:=zH (h13.below ia);have M13:=zH (m13.trans (Ic (F:=F3) ia));have K9n:=zH (ea k9n ia);have KTn:=zH (ea ktn ia);have KPn:=zH (ea kpn ia);have TRn:=zH (Mc trn (vf ia));have HWS:=zH hwS;clear c9 cl cP k9c h12 Jn ia h13 m13 k9n ktn kpn trn kC hwS Ra H9 M9 K9 KT KP uq Xp nTT n92;go_upto_region 16 with fail
 rw [HWS.out];generalize wS.alloc _=Fj at KC H13 M13 K9n KTn KPn TRn |-;generalize oU.heap.size=gC at KC nC3 hCP HF3C |-;clear c9' f9' l9' HWS;obtain ⟨aU,kt,kc,kl,-,hmU,-⟩:=dj (Mc Gs.out (zl M13.out fun b h=>(Zp.out b h).2))
 have k9d:Blk Fj g9 96 #[.int .u64 s2.st, .int .u64 3]:=by simpa using K9n.out
 have K9:=zH k9d;have cl:=kl.cell;have ct:=kt.cell;have cc:=kc.cell;have cC:=KC.out.cell;have Nq:=YP L x.pub ch.rh ch.al ch.be vars A AM A0 A1 A2 A3 A4 n c nM cM n0 n1 n2 n3 n4 c0 c1 c2 c3 c4 x.rows x.m x.crs x.l1 x.l2 x.l3 x.l4 Fj Qi.out HOK.out.2.1 (HRr.out _ aU) HOK.out.2.2.1 hmU (zW.out _ aU) (Ij.out _ aU) (Jj.out _ aU) (Ks.out _ aU) (HR4.out _ aU) HCO.out HMT.out Nu.out;have HAn:=zH Nq;unfold Ua Ib at HAn;clear Nq K9n k9d kt kc kl hmU aU;go_wp2_with fail
 refine HAn.out.mono ?_;rintro _ cZ ⟨v1,v2,v3,rfl,o1,WY,o3,Mv⟩;obtain ⟨cd,Ov⟩:=zEX (x.code ch.al);obtain ⟨ln,Bf⟩:=zEX (x.lin ch.rh);obtain ⟨qd,hqd⟩:=zEX (x.quad ch.be);have jk:cZ.ownsRow Fj.heap.size 22 1 v1 L.k (Ca cd):=by rw [Ov];unfold PvIn.code;rw [<- ee.out];exact o1
 have IE:cZ.ownsRow Fj.heap.size 22 1 v2 (L.k+L.block-1) (Ca ln):=by rw [Bf];unfold PvIn.lin;rw [<- ee.out];exact WY
 have Hp:cZ.ownsRow Fj.heap.size 22 1 v3 (2*L.k-1) (Ca qd):=by rw [hqd];unfold PvIn.quad;rw [<- ee.out];exact o3
 have HCF:=zH (BA HCO.out);have HPp:=zH (nc Qi.out.p);have Bg:=zH (show ∀ y∈cd,y<18446744073709551616 from fun y hy=>Nat.lt_trans (x.code_lt (by rw [<- ee.out];have:=HPp.out;omega) (by rw [<- ee.out];exact HCF.out.2.2.1.2) ch.al y (by rw [<- Ov];exact hy)) (by rw [<- ee.out];exact HPp.out.2))
 have ni:=zH (show ∀ y∈ln,y<18446744073709551616 from fun y hy=>Nat.lt_trans (x.lin_lt (by rw [<- ee.out];have:=HPp.out;omega) (by rw [<- ee.out];exact HCF.out.2.2.2.1.2) ch.rh y (by rw [<- Bf];exact hy)) (by rw [<- ee.out];exact HPp.out.2))
 have fo:=zH (show ∀ y∈qd,y<18446744073709551616 from fun y hy=>Nat.lt_trans (x.quad_lt (by rw [<- ee.out];have:=HPp.out;omega) ch.be y (by rw [<- hqd];exact hy)) (by rw [<- ee.out];exact HPp.out.2))
 have HCL1:=zH (show cd.length=L.k by rw [Ov];simp [PvIn.code,ee.out])
 have HCL2:=zH (show ln.length=L.k+L.block-1 by rw [Bf];simp [PvIn.lin,ee.out])
 have HCL3:=zH (show qd.length=2*L.k-1 by rw [hqd];simp [PvIn.quad,ee.out])
 have Wp:=zH (And.intro Ov (And.intro Bf hqd));obtain ⟨P1,p1,rfl,-⟩:=Tb jk;obtain ⟨P2,p2,rfl,-⟩:=Tb IE;obtain ⟨P3,p3,rfl,-⟩:=Tb Hp;have az:gP<Fj.heap.size:=KPn.out.lt;have kp:=KPn.out.below Mv az;have cP:=kp.cell;have fP:=kp.frozen;have e9P':g9≠gP:=fun e=>e9P e.symm
 have eTP:gT≠gP:=by omega
 have eCP:gC≠gP:=by omega
 have Oa:=qN (w:=cZ) (g:=gP) (.slice P1 L.k p1) (.slice P2 (L.k+L.block-1) p2) (.slice P3 (2*L.k-1) p3);have h15:=(((H13.out.below Mv).set nP3 (.slice P1 L.k p1) (i:=1)).set nP3 (.slice P2 (L.k+L.block-1) p2) (i:=2)).set nP3 (.slice P3 (2*L.k-1) p3) (i:=3);have m15:=Ld (Ld (Ld (M13.out.trans (Ic (F:=F3) Mv)) YA 1 (.slice P1 L.k p1)) YA 2 (.slice P2 (L.k+L.block-1) p2)) YA 3 (.slice P3 (2*L.k-1) p3);have rE:=((kp.set_ 1 (.slice P1 L.k p1)).set_ 2 (.slice P2 (L.k+L.block-1) p2)).set_ 3 (.slice P3 (2*L.k-1) p3);simp only [List.setIfInBounds_toArray,List.set_cons_zero,List.set_cons_succ] at rE;have k9f:=(K9.out.below Mv K9.out.lt).grown Oa (fun e=>e9P' (Option.some.inj e))
 have ktf:=(KTn.out.below Mv KTn.out.lt).grown Oa (fun e=>eTP (Option.some.inj e))
 have TRf:=zH (Mc (Mc TRn.out (vf Mv)) (iL Oa fun b e hT=>by have:=Ru.out b hT;have:=Option.some.inj e;omega))
 have o1f:=Ze jk Oa az;have o2f:=Ze IE Oa az;have o3f:=Ze Hp Oa az;have HF3L:=zH (show ∀ b,F3 b -> b<Fj.heap.size from fun b hb=>by have:=HF3C.out b hb;have:=KC.out.lt;omega)
 have H15:=zH h15;have M15:=zH m15;have dA:=zH ktf;have JC:=zH k9f;have KPq:=zH rE;clear Oa h15 m15 ktf k9f rE kp o1 WY o3 H13 M13 KTn K9 KPn TRn KC cl ct cc cC Mv HAn jk IE Hp;go_upto_region 17 with fail
 generalize ((cZ.setCell _ _).setCell _ _).setCell _ _=Np at H15 M15 dA JC KPq TRf o1f o2f o3f |-;have q1:=Fh o1f Bg.out;have q2:=Fh o2f ni.out;have q3:=Fh o3f fo.out;have Rt:∀ u:World,RSl 1 RWd u [.slice none 0 0] []:=fun u=>⟨none,0,0,rfl,rfl,zR,by simp [maxLen],fun i hi=>absurd hi (by simp)⟩
 have RH:∀ u:World,RWd u [.slice none 0 0] []:=fun u=>⟨none,0,0,rfl,zR,by simp [maxLen],⟨rfl,fun h=>absurd h (by omega)⟩,fun x hx=>by cases hx⟩
 have Zo:=Qi.out;have hpo:=yJ H15.out s2.st 3 HS2L.out L Zo ⟨rt,cd,ln,qd,[],[],[]⟩ ⟨P1,L.k,p1,P2,L.k+L.block-1,p2,P3,2*L.k-1,p3,none,0,0,none,0,0,none,0,0⟩ ⟨Ti Dm.out,q1,q2,q3,Rt _,RH _,Rt _⟩ HS2O.out (by
  show (cd++ln++qd).length <= 100000
  rw [List.length_append,List.length_append,HCL1.out,HCL2.out,HCL3.out];have:=Zo.k;have:=Zo.b2;have:=Zo.q2;omega)
 obtain ⟨pos,ur⟩:=zEX (x.pos O);have fp:Zr ⟨s2.O,s2.st,3⟩ (cd++ln++qd) L.n L.queries=pos:=by
  rw [ur];show Zr s2 _ _ _=_
  unfold PvIn.pos PvIn.all;rw [<- Em.out,<- ee.out,<- JU.out,<- Wp.out.1,<- Wp.out.2.1,<- Wp.out.2.2]
 have hoe:Li ⟨s2.O,s2.st,3⟩ (cd++ln++qd) L.queries=x.oF O:=by
  show Li s2 _ _=_
  unfold PvIn.oF PvIn.all;rw [<- Em.out,<- ee.out,<- JU.out,<- Wp.out.1,<- Wp.out.2.1,<- Wp.out.2.2]
 have tp:L.queries <= L.n:=by have:=Zo.nk;have:=Zo.k;omega
 have Ri:=zH (show pos.length=L.queries by rw [<- fp];exact DI _ _ _ _ _ tp)
 have HPT:=zH (show ∀ y∈pos,y<L.n by rw [<- fp];exact LQ _ _ _ _ _ tp)
 have Vz:=zH ur;dsimp only at hpo
 rw [fp,hoe] at hpo;have uS:=zH hpo;unfold Ua Jc at uS;dsimp only at uS
 obtain ⟨-,-,-,kl,-,-,-⟩:=dj (Mc Gs.out (zl M15.out fun b h=>(Zp.out b h).2))
 have cl:=kl.cell;have c9:=JC.out.cell;have cP:=KPq.out.cell;clear hpo fp hoe ur q1 q2 q3 Rt RH kl Zo;go_wp2_with fail
 refine uS.out.mono ?_;rintro _ w16 ⟨gr,dr,F4,rfl,h16,Kn,BB,nr16⟩;clear cl c9 cP uS;have Sz:=zH (show ∀ b,Fj.heap.size <= b -> ¬F3 b from fun b hb e=>by have:=HF3L.out b e;omega)
 have kb:=KPq.out.moved Kn nP3;have kT:=dA.out.moved Kn nT3;have nP4:¬F4 gP:=Me Kn KPq.out.lt nP3;have TR16:=zH (Mc TRf.out (zl Kn HT3.out));have O1:=zH (CB o1f Kn fun b hb=>Sz.out b (o1f.lt b hb).1)
 have O2:=zH (CB o2f Kn fun b hb=>Sz.out b (o2f.lt b hb).1)
 have O3:=zH (CB o3f Kn fun b hb=>Sz.out b (o3f.lt b hb).1)
 have N1:=zH (show ∀ b,Fj.heap.size <= b -> b<Np.heap.size -> ¬F4 b from fun b h1 h2=>Me Kn h2 (Sz.out b h1))
 have L1:=zH (show (∀ b,(Value.slice P1 L.k p1).ownBlock=some b -> Fj.heap.size <= b /\ b<Np.heap.size) /\ (∀ b,(Value.slice P2 (L.k+L.block-1) p2).ownBlock=some b -> Fj.heap.size <= b /\ b<Np.heap.size) /\ ∀ b,(Value.slice P3 (2*L.k-1) p3).ownBlock=some b -> Fj.heap.size <= b /\ b<Np.heap.size from ⟨o1f.lt,o2f.lt,o3f.lt⟩)
 have H16:=zH h16;have M16:=zH (M15.out.trans Kn);have KT:=zH kT;have UH:=OP BB;have hP15:gP<Np.heap.size:=KPq.out.lt;have h15s:Np.heap.size <= w16.heap.size:=Kn.size;have h715:w7.heap.size <= Np.heap.size:=M15.out.size;have hT15:gT<Np.heap.size:=dA.out.lt;have lgr:gr<w16.heap.size:=(BB.lt gr rfl).2;have hgr15:Np.heap.size <= gr:=(BB.lt gr rfl).1;have HR16:=zH UH;clear h16 Kn BB UH H15 M15 dA JC KPq TRf o1f o2f o3f nr16 kT;obtain ⟨N,hN⟩:=zEX (w16.heap.size);have XA:gP<N:=by omega
 have hN5:N <= w16.heap.size:=by omega
 have Gk:w16.heap.size <= N:=by omega
 have C1:=zH (show L.queries <= 64 from Qi.out.q2)
 clear hN;have HPa:=zH (fun (u:World) (z:Nat) (h:Qd u [.slice AT nT cT] tr) (hz:z<2^x.dd)=>CQ h HTO.out hz HTL.out)
 go_upto_region 18 with fail
 go_loopw [122] (fun y wr=>∃ (i:Nat) (xs:Nat -> Value) (nn:Nat -> Nat) (vs:Nat -> List Value),i <= L.queries /\ y= .int .i64 i /\ Blk wr gP 46 #[.int .u64 rt, .slice P1 L.k p1, .slice P2 (L.k+L.block-1) p2, .slice P3 (2*L.k-1) p3,xs 0,xs 1,xs 2] /\ OwnF N wr (i+3) tyF xs nn vs /\ Hid (InvP pos x.cols x.l4 (fun z=>yj tr z) x.dd w6.heap.size w7 i xs nn vs) /\ mi gP N w16 wr /\ N <= wr.heap.size) (fun y _=>L.queries-(intOf y).toNat)
 case atStart =>
  refine ⟨0,fun _=>.slice none 0 0,fun _=>0,fun _=>[],Nat.zero_le _,rfl,kb,⟨fun j _=>⟨rfl, .inl ⟨rfl,rfl⟩⟩,fun j i _ _ _ q h=>nomatch h⟩,zH ⟨rfl,rfl,rfl,rfl,xP _ _,rfl,fun k hk=>absurd hk (by omega)⟩,(sb _ _).refl _,hN5⟩
 case round =>
  clear kb;obtain ⟨i,xs,nn,vs,hi,rfl,kb,Rb,HI,tb,ff⟩:=hrel;have AW:=zH (Xy Gs.out (Ey (zl M16.out fun b h=>(Zp.out b h).2) (oG tb fun b h=>by have:=(Zp.out b h).1;omega)))
  by_cases oa:i<L.queries
  ·have g1:(0:Int) <= (i:Int):=by omega
   have g2:(i:Int)<(L.queries:Int):=by omega
   have Fb:=zH oa;obtain ⟨z,hz⟩:∃ z:Nat,z=pos.getD i 0:=⟨_,rfl⟩;have EV:z<L.n:=by rw [hz];exact HPT.out _ (Bx 0 (by rw [Ri.out];exact oa))
   obtain ⟨b0,q0,e0,lb0,aj⟩:=ru HR16.out (by omega)
   have a0:w16.cell? ⟨b0,q0+i,none⟩=some (.int .i64 z):=by rw [aj i oa,hz];exact aP (by rw [Ri.out];exact oa)
   have U6:gr=b0:=by injection e0 with e0;injection e0 with e1
   have sn:0=q0:=by injection e0 with e0;injection e0 with e1 e2
   subst U6 sn;rw [Nat.zero_add] at a0;have c0x:wr.cell? ⟨gr,i,none⟩=some (.int .i64 z):=(Ys (tb.2.2.2.2 gr (by omega) (by omega))).trans a0
   have lgr':gr<wr.heap.size:=by omega
   obtain ⟨aR,-,kc,-,-,-,-⟩:=AW.out;have cc:=kc.cell;have lc:=kc.lt;obtain ⟨bC,qC,B1,nX,JW,eC,Pq,Qq,hcC,VH⟩:=zAM HCX.out (show z<x.cols.length by rw [x.cols_len,<- ee.out];exact EV)
   have hcC':wr.cell? ⟨bC,qC+z,none⟩=some (.slice B1 nX JW):=(Ys ((tb.2.2.2.2 bC (by omega) (by omega)).trans (M16.out.block bC Qq (NF.out bC (by omega))))).trans hcC
   have lbC:bC<wr.heap.size:=by omega
   have hbC1:bC<N:=by omega
   have hbC2:bC≠N:=by omega
   have Ei:(z:Int)<(nC:Int):=by have:=(sh HCX.out.here).1;rw [x.cols_len,<- ee.out] at this;omega
   have Ff:(0:Int) <= (z:Int):=by omega
   obtain ⟨hl4n,-,-,-,hr4⟩:=zb (HR4.out _ aR);have ZD:=hr4;rw [hl4n] at ZD;obtain ⟨bS,qS,eS,lbS,hcS⟩:=Ye ZD (show z<x.l4.length by rw [uo.out.1];exact EV)
   obtain ⟨sz,dE⟩:∃ sz,sz=x.l4.getD z 0:=⟨_,rfl⟩;have hcS':wr.cell? ⟨bS,qS+z,none⟩=some (.int .u64 sz):=by rw [dE];exact hcS
   have hzs:(z:Int)<(n4:Int):=by have:=uo.out.1;omega
   obtain ⟨b7,q7,e7,lb7,-⟩:=Ye (show Rd w7 1 A4 x.l4.length (Ca x.l4) from by have a7:=zb (HR4.out _ (dj Gs.out).1);have h7:=a7.2.2.2.2;rw [a7.1] at h7;exact h7) (show z<x.l4.length by rw [uo.out.1];exact EV)
   have lbS7:bS<w7.heap.size:=by rw [eS] at e7;injection e7 with e7;injection e7 with e8;omega
   have CS16:=zH (show w16.cell? ⟨bS,qS+z,none⟩=some (.int .u64 sz) from (Ys (tb.2.2.2.2 bS (by omega) (by omega))).symm.trans hcS')
   have CC16:=zH (show ∀ j,w16.cell? ⟨w.heap.size+1+1,j,none⟩=_ from fun j=>(Ys (tb.2.2.2.2 (w.heap.size+1+1) (by omega) (by omega))).symm.trans (cc j))
   have vy:=zH (show df w6.heap.size none w7 (.slice B1 nX JW) (x.cols.getD z []) from fun u hu=>by rw [List.getD_eq_getElem?_getD,List.getElem?_eq_getElem (show z<x.cols.length by rw [x.cols_len,<- ee.out];exact EV)];exact VH u fun b h1 h2=>hu b h1 h2 fun e=>by cases e)
   have HZ:=zH hz;have HSZ:=zH dE;have HZN:=zH EV;have hcnt:nn 0 <= 64 /\ nn 1 <= 64 /\ nn 2 <= 64:=by have h0:=HI.out.n0;have h1:=HI.out.n1;have h2:=HI.out.n2;have:=C1.out;omega
   obtain ⟨gn0,gn1,gn2⟩:=hcnt;subst eC eS;clear hcS' e7 cc lc VH hcC hcS hr4 ZD hl4n aj e0 a0 aR hz dE oa kc EV hi;have hgb1:gP≠N:=by omega
   have hgb2:w.heap.size+1+1<N:=by omega
   have hgb3:w.heap.size+1+1≠N:=by omega
   have hgb4:gT<N:=by omega
   have hgb5:gT≠N:=by omega
   have cb:=kb.cell;have lb:=kb.lt;obtain ⟨Ax,cx,Sl,-⟩:=Tb (Rb.own 0 (by omega))
   have zn:xs 0= .slice Ax (nn 0) cx:=Sl;rw [zn] at kb;have Fg:=zH zn;clear Sl zn cb;have cb:=kb.cell;go_upto_region 20 with fail
   refine Zw (mi N N) [6,7,9] [9] [0,1,2,3,4,5,6,7,8,9] (by kernel_rfl) (by kernel_rfl) ?_
   refine bx (sb N N) ?_;intro Wc Ba da;have Ja:=Sg Ba;have Ob:N <= Wc.heap.size:=by have:=Ja.size;omega
   replace kb:=ea kb Ja;replace Rb:=Rb.below Ja;replace tb:=(sb gP N).trans _ _ _ tb (yf Ja ff);clear Ba Ja;refine Tg ?_;refine og (sb N N) rfl rfl rfl ?_;go_simp;have ia:=(Below.refl Wc.heap.size Wc).alloc zR (.cells #[.slice B1 nX JW] 28);have re:=Uk Wc (.slice B1 nX JW) 28;refine ⟨fun _=>yf ia Ob,?_⟩
   replace kb:=ea kb ia;replace Rb:=Rb.below ia;replace tb:=(sb gP N).trans _ _ _ tb (yf ia Ob);have Zd:=Nat.le_trans Ob ia.size
   try simp only [Act.put,zLa,zLb,zLc]
   generalize Wc.alloc _=wa at kb Rb tb re Zd |-;generalize Wc.heap.size=g6 at re |-;clear ia Ob da cb;have da:=(sb N N).refl wa;have ma:wa.ownsRow N 28 1 (.slice Ax (nn 0) cx) (nn 0) (vs 0):=by rw [<- Fg.out];exact Rb.own 0 (by omega)
   refine Tg ?_;refine og (sb N N) rfl rfl rfl ?_;refine om _ _ rfl Jo rfl ma rfl re (by intro u hu;simp at hu;subst hu;rfl) (by omega) Zd ?_
   intro v' wn Ta Ha Ab;obtain ⟨AwA,cwA,rfl,-⟩:=Tb Ta;have Vb:∀ q,(Value.slice Ax (nn 0) cx).ownBlock=some q -> N <= q:=fun q e=>(ma.lt q e).1
   refine ⟨fun _=>Gq Ha Zd Vb,?_⟩
   replace kb:=kb.grown Ha (fun e=>by have:=Vb _ e.symm;omega)
   replace Rb:=Rb.app (k:=0) (by omega) Ta (show wa.grownBy wn (xs 0).ownBlock by rw [Fg.out];exact Ha) (show _=(xs 0).ownBlock \/ _ by rw [Fg.out];exact Ab)
   replace tb:=(sb gP N).trans _ _ _ tb (Gq Ha Zd Vb);have Ud:=Nat.le_trans Zd Ha.size;clear ma Ha Ab Vb Zd re da Ta Fg;have da:=(sb N N).refl wn;have cb:=kb.cell;have fb:=kb.frozen;have lb:=kb.lt
   try simp only [Act.put,zLa,zLb,zLc]
   refine Tg ?_;refine og (sb N N) rfl rfl rfl ?_;go_simp;refine ⟨fun h=>Bool.noConfusion h,?_⟩
   have Oa:=Pg (w:=wn) gP 4 (.slice AwA (nn 0+1) cwA);replace kb:=kb.set_ 4 (.slice AwA (nn 0+1) cwA);simp only [List.setIfInBounds_toArray,List.set_cons_zero,List.set_cons_succ] at kb;replace Rb:=Rb.stay Oa XA;replace tb:=(sb gP N).trans _ _ _ tb (zx Oa Ud);replace Ud:=Nat.le_trans Ud Oa.size;clear Oa cb fb da;generalize wn.setCell _ _=wz1 at kb Rb tb Ud |-;have da:=(sb N N).refl wz1;refine Tg ?_;refine ax ?_;clear da;have ff:=Ud;clear Ud;have cb:=kb.cell;have lb:=kb.lt;clear hcC' c0x;have hold:∀ j e,j<N -> j≠gP -> wz1.cell? ⟨j,e,none⟩=w16.cell? ⟨j,e,none⟩:=fun j e h1 h2=>Ys (tb.2.2.2.2 j h1 h2)
   have ccz:=fun j=>(hold (w.heap.size+1+1) j (by omega) (by omega)).trans (CC16.out j)
   have csz:=(hold bS (qS+z) (by omega) (by omega)).trans CS16.out
   have hs1':bS<N:=by omega
   have hs2':bS≠N:=by omega
   have hs3':bS<wz1.heap.size:=by omega
   have hs4':w.heap.size+1+1<wz1.heap.size:=by omega
   clear hold;obtain ⟨Ax,cx,Sl,-⟩:=Tb (Rb.own 1 (by omega))
   have zn:xs 1= .slice Ax (nn 1) cx:=Sl;rw [zn] at kb;have Fg:=zH zn;clear Sl zn cb;have cb:=kb.cell;go_upto_region 21 with fail
   refine Zw (mi N N) [7,8,10] [10] [0,1,2,3,4,5,6,7,8,9,10] (by kernel_rfl) (by kernel_rfl) ?_
   refine bx (sb N N) ?_;intro Wc Ba da;have Ja:=Sg Ba;have Ob:N <= Wc.heap.size:=by have:=Ja.size;omega
   replace kb:=ea kb Ja;replace Rb:=Rb.below Ja;replace tb:=(sb gP N).trans _ _ _ tb (yf Ja ff);clear Ba Ja;refine Tg ?_;refine og (sb N N) rfl rfl rfl ?_;go_simp;have ia:=(Below.refl Wc.heap.size Wc).alloc zR (.cells #[.int .u64 sz] 22);have re:=Uk Wc (.int .u64 sz) 22;refine ⟨fun _=>yf ia Ob,?_⟩
   replace kb:=ea kb ia;replace Rb:=Rb.below ia;replace tb:=(sb gP N).trans _ _ _ tb (yf ia Ob);have Zd:=Nat.le_trans Ob ia.size
   try simp only [Act.put,zLa,zLb,zLc]
   generalize Wc.alloc _=wa at kb Rb tb re Zd |-;generalize Wc.heap.size=g6 at re |-;clear ia Ob da cb;have da:=(sb N N).refl wa;have ma:wa.ownsRow N 22 1 (.slice Ax (nn 1) cx) (nn 1) (vs 1):=by rw [<- Fg.out];exact Rb.own 1 (by omega)
   refine Tg ?_;refine og (sb N N) rfl rfl rfl ?_;refine om _ _ rfl Vi rfl ma rfl re (by intro u hu;simp at hu;subst hu;rfl) (by omega) Zd ?_
   intro v' wn Ta Ha Ab;obtain ⟨AwB,cwB,rfl,-⟩:=Tb Ta;have Vb:∀ q,(Value.slice Ax (nn 1) cx).ownBlock=some q -> N <= q:=fun q e=>(ma.lt q e).1
   refine ⟨fun _=>Gq Ha Zd Vb,?_⟩
   replace kb:=kb.grown Ha (fun e=>by have:=Vb _ e.symm;omega)
   replace Rb:=Rb.app (k:=1) (by omega) Ta (show wa.grownBy wn (xs 1).ownBlock by rw [Fg.out];exact Ha) (show _=(xs 1).ownBlock \/ _ by rw [Fg.out];exact Ab)
   replace tb:=(sb gP N).trans _ _ _ tb (Gq Ha Zd Vb);have Ud:=Nat.le_trans Zd Ha.size;clear ma Ha Ab Vb Zd re da Ta Fg;have da:=(sb N N).refl wn;have cb:=kb.cell;have fb:=kb.frozen;have lb:=kb.lt
   try simp only [Act.put,zLa,zLb,zLc]
   refine Tg ?_;refine og (sb N N) rfl rfl rfl ?_;go_simp;refine ⟨fun h=>Bool.noConfusion h,?_⟩
   have Oa:=Pg (w:=wn) gP 5 (.slice AwB (nn 1+1) cwB);replace kb:=kb.set_ 5 (.slice AwB (nn 1+1) cwB);simp only [List.setIfInBounds_toArray,List.set_cons_zero,List.set_cons_succ] at kb;replace Rb:=Rb.stay Oa XA;replace tb:=(sb gP N).trans _ _ _ tb (zx Oa Ud);replace Ud:=Nat.le_trans Ud Oa.size;clear Oa cb fb da;generalize wn.setCell _ _=wz2 at kb Rb tb Ud |-;have da:=(sb N N).refl wz2;refine Tg ?_;refine ax ?_;clear da;have ff:=Ud;clear Ud;have cb:=kb.cell;have lb:=kb.lt;clear ccz csz hs3' hs4';have hold:∀ j e,j<N -> j≠gP -> wz2.cell? ⟨j,e,none⟩=w16.cell? ⟨j,e,none⟩:=fun j e h1 h2=>Ys (tb.2.2.2.2 j h1 h2)
   have ctz:=fun j=>(hold gT j (by omega) (by omega)).trans (KT.out.cell j)
   have hs5':gT<wz2.heap.size:=by omega
   clear hold;obtain ⟨Ax,cx,Sl,-⟩:=Tb (Rb.own 2 (by omega))
   have zn:xs 2= .slice Ax (nn 2) cx:=Sl;rw [zn] at kb;have Fg:=zH zn;clear Sl zn cb;have cb:=kb.cell;go_upto_region 22 with fail
   refine Zw (mi N N) [4,5,6,8] [8] [0,1,2,3,4,5,6,7,8] (by kernel_rfl) (by kernel_rfl) ?_
   refine bx (sb N N) ?_;intro Wc Ba da;have Ja:=Sg Ba;have Ob:N <= Wc.heap.size:=by have:=Ja.size;omega
   replace kb:=ea kb Ja;replace Rb:=Rb.below Ja;replace tb:=(sb gP N).trans _ _ _ tb (yf Ja ff);clear Ba Ja;refine Tg ?_;have zp:=Xy TR16.out (oG tb fun b h=>by have:=Ru.out b h;omega)
   have hN0':=Ob;refine Oz (sb N N) rfl rfl rfl (fun _=>by go_simp <;> rfl) ((HPa.out _ z zp (by rw [<- jo.out.1];exact HZN.out)).mono ?_)
   rintro e wY ⟨vp,rfl,op,Aa⟩;refine ⟨_,rfl,fun _=>yf Aa Ob,?_⟩
   replace da:=(sb N N).trans _ _ _ da (yf Aa Ob);simp only [Act.put,zLa,zLb,zLc];replace kb:=ea kb Aa;replace Rb:=Rb.new (x:=vp) Aa op Ob;replace tb:=(sb gP N).trans _ _ _ tb (yf Aa Ob);replace Ob:=Nat.le_trans Ob Aa.size;obtain ⟨Ap,cp,rfl,-⟩:=Tb op;clear Aa op zp hN0';refine Tg ?_;refine og (sb N N) rfl rfl rfl ?_;go_simp;have ia:=(Below.refl wY.heap.size wY).alloc zR (.cells #[.slice Ap x.dd cp] 28);have re:=Uk wY (.slice Ap x.dd cp) 28;refine ⟨fun _=>yf ia Ob,?_⟩
   replace kb:=ea kb ia;replace Rb:=Rb.below ia;replace tb:=(sb gP N).trans _ _ _ tb (yf ia Ob);have Zd:=Nat.le_trans Ob ia.size
   try simp only [Act.put,zLa,zLb,zLc]
   generalize wY.alloc _=wa at kb Rb tb re Zd |-;generalize wY.heap.size=g6 at re |-;clear ia Ob da cb;have da:=(sb N N).refl wa;have ma:wa.ownsRow N 28 1 (.slice Ax (nn 2) cx) (nn 2) (vs 2):=by rw [<- Fg.out];exact Rb.own 2 (by omega)
   refine Tg ?_;refine og (sb N N) rfl rfl rfl ?_;refine om _ _ rfl Jo rfl ma rfl re (by intro u hu;simp at hu;subst hu;rfl) (by omega) Zd ?_
   intro v' wn Ta Ha Ab;obtain ⟨AwC,cwC,rfl,-⟩:=Tb Ta;have Vb:∀ q,(Value.slice Ax (nn 2) cx).ownBlock=some q -> N <= q:=fun q e=>(ma.lt q e).1
   refine ⟨fun _=>Gq Ha Zd Vb,?_⟩
   replace kb:=kb.grown Ha (fun e=>by have:=Vb _ e.symm;omega)
   replace Rb:=Rb.app (k:=2) (by omega) Ta (show wa.grownBy wn (xs 2).ownBlock by rw [Fg.out];exact Ha) (show _=(xs 2).ownBlock \/ _ by rw [Fg.out];exact Ab)
   replace tb:=(sb gP N).trans _ _ _ tb (Gq Ha Zd Vb);have Ud:=Nat.le_trans Zd Ha.size;clear ma Ha Ab Vb Zd re da Ta Fg;have da:=(sb N N).refl wn;have cb:=kb.cell;have fb:=kb.frozen;have lb:=kb.lt
   try simp only [Act.put,zLa,zLb,zLc]
   refine Tg ?_;refine og (sb N N) rfl rfl rfl ?_;go_simp;refine ⟨fun h=>Bool.noConfusion h,?_⟩
   have Oa:=Pg (w:=wn) gP 6 (.slice AwC (nn 2+1) cwC);replace kb:=kb.set_ 6 (.slice AwC (nn 2+1) cwC);simp only [List.setIfInBounds_toArray,List.set_cons_zero,List.set_cons_succ] at kb;replace Rb:=Rb.stay Oa XA;replace tb:=(sb gP N).trans _ _ _ tb (zx Oa Ud);replace Ud:=Nat.le_trans Ud Oa.size;clear Oa cb fb da;generalize wn.setCell _ _=wz3 at kb Rb tb Ud |-;have da:=(sb N N).refl wz3;refine Tg ?_;refine ax ?_;clear da;have ff:=Ud;clear Ud;have cb:=kb.cell;have lb:=kb.lt;clear ctz hs5' cb;have il:=zH (HI.out.step (by rw [Ri.out];exact Fb.out) HZ.out (a:=.slice AwA (nn 0+1) cwA) (b:=.slice AwB (nn 1+1) cwB) (c:=.slice AwC (nn 2+1) cwC) (p:=.slice Ap x.dd cp) vy.out HSZ.out)
   have kbn:Blk wz3 gP 46 #[.int .u64 rt, .slice P1 L.k p1, .slice P2 (L.k+L.block-1) p2, .slice P3 (2*L.k-1) p3,Wb (Wb (Wb (Wb xs 0 (.slice AwA (nn 0+1) cwA)) 1 (.slice AwB (nn 1+1) cwB)) (i+3) (.slice Ap x.dd cp)) 2 (.slice AwC (nn 2+1) cwC) 0,Wb (Wb (Wb (Wb xs 0 (.slice AwA (nn 0+1) cwA)) 1 (.slice AwB (nn 1+1) cwB)) (i+3) (.slice Ap x.dd cp)) 2 (.slice AwC (nn 2+1) cwC) 1,Wb (Wb (Wb (Wb xs 0 (.slice AwA (nn 0+1) cwA)) 1 (.slice AwB (nn 1+1) cwB)) (i+3) (.slice Ap x.dd cp)) 2 (.slice AwC (nn 2+1) cwC) 2]:=by
    rw [Tf _ _ (show (0:Nat)≠2 by omega),Tf _ _ (show (0:Nat)≠i+3 by omega),Tf _ _ (show (0:Nat)≠1 by omega),Vk,Tf _ _ (show (1:Nat)≠2 by omega),Tf _ _ (show (1:Nat)≠i+3 by omega),Vk,Vk]
    exact kb
   rw [show i+3+1=i+1+3 by omega] at Rb
   have zX:=zH Rb;have KBN:=zH kbn;have HWI:=zH (show wrap64 ((i:Int)+1)=((i+1:Nat):Int) by unfold wrap64;have:=C1.out;have:=Fb.out;omega)
   clear Rb kbn kb;go_wp2
   go_roundw
   case rel=>exact ⟨i+1,_,_,_,Fb.out,by rw [HWI.out],KBN.out,zX.out,il,tb,ff⟩
   case measure =>
    have h1:=Fb.out;have e:=HWI.out
    try dsimp only
    rw [e];exact MO h1
  ·obtain rfl:i=L.queries:=by omega
   obtain ⟨-,-,-,-,kr,-,-⟩:=AW.out;obtain ⟨Ac,ca,e0,-⟩:=Tb (Rb.own 0 (by omega))
   obtain ⟨As,cs,e1,-⟩:=Tb (Rb.own 1 (by omega))
   obtain ⟨Ap,cp,e2,-⟩:=Tb (Rb.own 2 (by omega))
   have f0:xs 0= .slice Ac L.queries ca:=by rw [e0,HI.out.n0]
   have f1:xs 1= .slice As L.queries cs:=by rw [e1,HI.out.n1]
   have f2:xs 2= .slice Ap L.queries cp:=by rw [e2,HI.out.n2]
   rw [f0,f1,f2] at kb;have E0:=zH (And.intro f0 (And.intro f1 f2));clear e0 e1 e2 f0 f1 f2 oa hi;have KF:=zH (TS kr (.int .u64 rt) (.slice P1 L.k p1) (.slice P2 (L.k+L.block-1) p2) (.slice P3 (2*L.k-1) p3) (.slice Ac L.queries ca) (.slice As L.queries cs) (.slice Ap L.queries cp));have zX:=zH Rb;have eY:=zH tb;have HN0:=zH ff;have hB13:w.heap.size+3<Fj.heap.size:=by omega
   have PVR:=zH (fun u hU hV hW hus=>eR (w7:=w7) (w16:=w16) (wr:=wr) (u:=u) (F4:=F4) (gP:=gP) (N:=N) (R:=w.heap.size+3) (B0:=w.heap.size) (B6:=w6.heap.size) (B13:=Fj.heap.size) (B15:=Np.heap.size) (x:=x) (O:=O) (tr:=tr) (pos:=pos) hU hV hW hus (by omega) hB13 az (by omega) h36 hw67 (by omega) N1.out O1.out O2.out O3.out L1.out Bg.out ni.out fo.out (by rw [<- JU.out];exact Wp.out.1) (by rw [<- JU.out];exact Wp.out.2.1) (by rw [<- JU.out];exact Wp.out.2.2) zX.out HI.out Ri.out Vz.out HTR.out E0.out.1 E0.out.2.1 E0.out.2.2 (by rw [<- HRT.out];exact Dm.out) uo.out.2 (x.tree_lt O (by rw [<- Eg.out];exact bE.out)))
   have cr:=kr.cell;have fr:=kr.frozen;have cb:=kb.cell;clear kb kr Rb tb ff AW;go_wp2;obtain ⟨wf,yb,kf,Uv,Vv,Ft⟩:=KF.out;rw [yb];clear yb KF;clear cr fr cb;have cf:=kf.cell;have zU:=dR (R:=w.heap.size+3) HB.out Hj.out.lt M16.out hN5 Gk (by omega) XA (by omega) (by omega) eY.out HN0.out Uv Vv Ft H16.out.lt nP4
   have HFR:=zH zU;clear zU;refine bodyPost_ret (by simp [results,Tryz.results10,go_sem,cf];rfl) rfl ⟨⟨P1,L.k,p1,P2,L.k+L.block-1,p2,P3,2*L.k-1,p3,Ac,L.queries,ca,As,L.queries,cs,Ap,L.queries,cp⟩,F4,?_,?_,?_,?_⟩
   ·rw [HRT.out];rfl
   ·exact H16.out.keep HFR.out.2.1 HFR.out.1
   ·exact HFR.out.2.2.1
   ·intro u a
    obtain ⟨hU,hV,hW,hus⟩:=HFR.out.2.2.2 u a;have za:=PVR.out u hU hV hW hus;exact za
end Go.Proofs.YtjipleoamlmkfaaGreat
