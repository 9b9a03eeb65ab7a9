/- A part of the proof. No condition. -/
import Derived.BigQuiet
import Derived.Deep.QuietTactic
import Derived.Test.YtjipleoamlmkfaaGreatProg
import Derived.Test.YtjipleoamlmkfaaGreatPF49
import Derived.Test.YtjipleoamlmkfaaGreatPF47

set_option maxRecDepth 100000
set_option maxHeartbeats 8000000
set_option linter.unusedVariables false
set_option linter.unusedSimpArgs false
namespace Go.Proofs.YtjipleoamlmkfaaGreat
open Go.RowKit Go.Maps
theorem zCK (W:World) (Sh:Array Value) (f0:Fits Tryz.prog W 32 (Value.agg Sh).cells.toList) :
  Calls Tryz.prog 5 #[.agg Sh] W fun e W'=>e= .returned (.bool true) /\ Below W.heap.size W W':=by
 obtain ⟨p,pub,vars,A,B,n,c,m,d,rows,ws,bl,bw,qs,coin,Im,real,rfl,Pb,MH,cE⟩:=AP f0;clear f0;have aa:Below W.heap.size W (W.alloc (.cells #[.int .u64 p, .int .i64 pub, .int .i64 vars, .slice A n c, .int .i64 bl, .int .i64 bw, .int .i64 qs, .slice B m d, .int .u64 coin, .bool real, .int .u64 Im] 32)):=(Below.refl _ W).alloc zR _;have kc0:=Blk.new W 32 #[.int .u64 p, .int .i64 pub, .int .i64 vars, .slice A n c, .int .i64 bl, .int .i64 bw, .int .i64 qs, .slice B m d, .int .u64 coin, .bool real, .int .u64 Im];have HR:=zH (fun w' (hb:Below W.heap.size W w')=>BR p pub vars A B n c m d rows ws bl bw qs coin Im real w' (Le fq _ _ _ _ hb Pb.rows) (ib hb Pb.ws) Pb.p)
 have HBg:=zH (fun w'=>zL p pub vars A B n c m d bl bw qs coin real Im w' cE)
 have Ms:=zH (QR real Im cE);have il:=zH Pb;have HCN:=zH MH;have gm:=uj (zb Pb.ws).2.1 (zb Pb.ws).2.2.1;clear Pb MH cE;go_enter Tryz.func5,Tryz.ntmps5
 go_upto_region 1 with fail
 generalize W.alloc _=w0 at aa kc0 |-;have c0:=kc0.cell;go_wp2_with fail
 refine (HR.out _ aa).mono ?_;rintro e w1 ⟨⟨Hx,iE⟩,hb⟩;obtain ⟨y0,y1,y2,y3,y4,y5,y6,y7,y8,y9,Tc,b,s,rfl,hL⟩:=Hx;have Na:=ja aa hb;have kc:=ea kc0 hb;clear hb aa kc0 c0 HR;have Za:=Na.alloc Na.size (.cells #[.int .u64 y0, .int .i64 y1, .int .i64 y2, .int .i64 y3, .int .i64 y4, .int .i64 y5, .int .i64 y6, .int .i64 y7, .int .i64 y8, .int .i64 y9, .int .i64 Tc] 35);by_cases Ah:b=true /\ s=true
 rotate_left
 ·have hh:b=false \/ (b=true /\ s=false):=by cases b <;> cases s <;> simp at Ah |-
  clear hL iE Ah kc;rcases hh with rfl | ⟨rfl,rfl⟩
  all_goals
   go_wp2_with fail
   refine (aD _).mono ?_;rintro e w2 ⟨rfl,xa⟩;replace Za:=ja Za xa;go_wp2_with fail
   refine (aD _).mono ?_;rintro e w3 ⟨rfl,Ga⟩;go_wp2;go_ret
   exact ⟨rfl,ja Za Ga⟩
 obtain ⟨rfl,rfl⟩:=Ah;obtain ⟨L,Ia,fj,hn64,h40,hLL⟩:=hL rfl;have hT:=iE _ _ rfl;obtain ⟨rfl,rfl,rfl,rfl,rfl,rfl,rfl,rfl,rfl,rfl,rfl⟩:=rI hLL;obtain ⟨j,hj⟩:=Ia.n;obtain ⟨pu,rfl⟩:=Int.eq_ofNat_of_zero_le fj.pub;obtain rfl:L.p=p:=fj.p;have kl:=Blk.new w1 35 #[.int .u64 L.p, .int .i64 L.block, .int .i64 L.queries, .int .i64 L.k, .int .i64 L.n, .int .i64 L.secret, .int .i64 L.rows, .int .i64 L.a, .int .i64 L.b, .int .i64 L.b, .int .i64 L.b];have xw:=kc.alloc (.cells #[.int .u64 L.p, .int .i64 L.block, .int .i64 L.queries, .int .i64 L.k, .int .i64 L.n, .int .i64 L.secret, .int .i64 L.rows, .int .i64 L.a, .int .i64 L.b, .int .i64 L.b, .int .i64 L.b] 35);have HL:=zH Ia;have HF:=zH fj;have HT:=zH hT;have H40:=zH h40;have HJ:=zH hj;clear hLL hL iE Ia fj hn64 h40 hT hj Na kc;go_wp2_with fail
 generalize w1.alloc _=w2 at Za kl xw |-;generalize w1.heap.size=gl at kl |-;refine (aD _).mono ?_;rintro e w3 ⟨rfl,Ga⟩;replace kl:=ea kl Ga;replace xw:=ea xw Ga;replace Za:=ja Za Ga;clear Ga;have cc:=xw.cell;have lc:=xw.lt;have HO:=zH (HBg.out w3);go_wp2_with fail
 refine HO.out.mono ?_;rintro e wB ⟨ga,F1,rfl,h1,hF1,Aa⟩;have gK:=zH h1;have HFa:=zH (show ∀ b,F1 b -> W.heap.size<b /\ gl<b from fun b hb=>by have h:=hF1 b hb;have:=xw.lt;have:=kl.lt;omega)
 replace kl:=ea kl Aa;replace xw:=ea xw Aa;replace Za:=ja Za Aa;have sc:=zH Za;have Wg:=zH kl;have ze:=zH xw;clear cc lc HO h1 hF1 Aa kl xw Za;have HPg:=zH (fun u=>ZQ L u)
 unfold Ua at HPg;have cl:=Wg.out.cell;go_wp2_with fail
 refine (HPg.out _).mono ?_;rintro e wp ⟨rfl,Aa⟩;replace sc:=zH (ja sc.out Aa);replace Wg:=zH (Wg.out.below Aa Wg.out.lt);replace ze:=zH (ze.out.below Aa ze.out.lt);replace gK:=zH (gK.out.below Aa);have ia:=(Below.refl wp.heap.size wp).alloc zR (.cells #[.int .u64 L.p, .int .i64 L.block, .int .i64 L.queries, .int .i64 L.k, .int .i64 L.n, .int .i64 L.secret, .int .i64 L.rows, .int .i64 L.a, .int .i64 L.b, .int .i64 L.b, .int .i64 L.b] 68);have kX:=Blk.new wp 68 #[.int .u64 L.p, .int .i64 L.block, .int .i64 L.queries, .int .i64 L.k, .int .i64 L.n, .int .i64 L.secret, .int .i64 L.rows, .int .i64 L.a, .int .i64 L.b, .int .i64 L.b, .int .i64 L.b];have lgx:gl<wp.heap.size:=Wg.out.lt;have lcx:W.heap.size<wp.heap.size:=ze.out.lt;have nFx:¬F1 wp.heap.size:=fun e=>by have:=gK.out.lt _ e;omega
 replace sc:=zH (ja sc.out ia);replace Wg:=zH (Wg.out.below ia Wg.out.lt);replace ze:=zH (ze.out.below ia ze.out.lt);replace gK:=zH (gK.out.below ia);clear Aa ia cl HPg HBg;go_upto_region 8 with fail
 generalize wp.alloc _=wq at kX sc Wg ze gK |-;obtain ⟨gx,cA⟩:=zEX (wp.heap.size);rw [<- cA] at kX lgx lcx nFx |-;clear cA;have HFs:=zH (fun w'=>zCl L coin w' HL.out HCN.out)
 unfold Ua at HFs;obtain ⟨NQ,Nd⟩:=zEX (wq.heap.size);have ye:=zH Nd;have cc:=ze.out.cell;have cx:=kX.cell;have lq0:W.heap.size<NQ:=by rw [Nd];exact ze.out.lt
 have lqx:gx<NQ:=by rw [Nd];exact kX.lt
 have lqw:W.heap.size <= NQ:=Nat.le_of_lt lq0;have nF0:¬F1 W.heap.size:=fun e=>by have:=(HFa.out _ e).1;omega
 have nFl:¬F1 gl:=fun e=>by have:=(HFa.out _ e).2;omega
 have Ux:=zH (show ∀ b,F1 b -> b<NQ from fun b hb=>by rw [Nd];exact gK.out.lt b hb)
 have KX:=zH kX;obtain ⟨x,hx⟩:=zEX (Ur L j pu vars rows ws coin);obtain ⟨O,hO⟩:=zEX (Pn real Im);rw [<- hO] at gK Ms;have HX:=zH hx;have hxG:x.Good:=by rw [hx];exact K0 L j pu vars rows ws coin HL.out HJ.out
 have HXG:=zH hxG;obtain ⟨AR,NW⟩:∃ AR:Option Addr -> Nat -> Nat -> Option Addr -> Nat -> Nat -> Option Addr -> Nat -> Nat -> Option Addr -> Nat -> Nat -> Option Addr -> Nat -> Nat -> World -> Prop,AR=fun A0 n0 c0 A1 n1 c1 A2 n2 c2 A3 n3 c3 A4 n4 c4 u=>RSl 3 Md u [.slice A n c] rows /\ RWd u [.slice B m d] ws /\ Qd u [.slice A0 n0 c0] (Tn L coin (L.a+L.b+L.b+L.b)) /\ RWd u [.slice A1 n1 c1] (af L.p coin [1] L.k) /\ RWd u [.slice A2 n2 c2] (af L.p coin [2] (L.k+L.block-2)) /\ RWd u [.slice A3 n3 c3] (af L.p coin [3] (L.block+2*L.queries-1)) /\ RWd u [.slice A4 n4 c4] (af Xa coin [4] L.n):=⟨_,rfl⟩
 have rn:=fun A0 n0 c0 A1 n1 c1 A2 n2 c2 A3 n3 c3 A4 n4 c4 (K:Nat -> Prop) (w':World) (h:OrcAt w' ga O F1) (hA:Hd K w' (AR A0 n0 c0 A1 n1 c1 A2 n2 c2 A3 n3 c3 A4 n4 c4)) (hK:∀ b,K b -> b<w'.heap.size /\ ¬F1 b)=>qQ h L j pu coin vars A B A0 A1 A2 A3 A4 n c m d n0 c0 n1 c1 n2 c2 n3 c3 n4 c4 rows ws bl bw qs HL.out HJ.out HF.out H40.out HT.out (AR A0 n0 c0 A1 n1 c1 A2 n2 c2 A3 n3 c3 A4 n4 c4) hA hK (fun u h=>by rw [NW] at h;exact h.1) (fun u h=>by rw [NW] at h;exact h.2.1) (fun u h=>by rw [NW] at h;exact h.2.2.1) (fun u h=>by rw [NW] at h;exact h.2.2.2.1) (fun u h=>by rw [NW] at h;exact h.2.2.2.2.1) (fun u h=>by rw [NW] at h;exact h.2.2.2.2.2.1) (fun u h=>by rw [NW] at h;exact h.2.2.2.2.2.2) (Ih Ms.out.le (by omega))
 rw [<- hx] at rn;obtain ⟨P,hP⟩:=zEX (x.pr O);obtain ⟨OF,hOF⟩:=zEX (x.oF O);rw [<- hP,<- hOF] at rn;have HP:=zH hP;have zX:=zH hOF;have Zk:=zH NW;have xC:=zH (show Qc OF 300000 by
  rw [hOF];have Od:=HL.out.n2;have sp:=HL.out.q2;refine Ih (oF_le x O (by rw [hx];exact HJ.out) Ms.out.le) ?_
  rw [hx];show 0+1+2*L.n+4+1+L.queries <= 300000
  omega)
 unfold Ib Jc at rn;have HPV:=zH rn;clear Nd rn hx hO hP hOF NW kX hxG;refine jy (F1) (F1) (NQ) [13,14,19] [0,1,2,3,4,5,6,7,8,9,10,11,12,13,14,15,16,17] [(18,46,#[.int .u64 0, .slice none 0 0, .slice none 0 0, .slice none 0 0, .slice none 0 0, .slice none 0 0, .slice none 0 0])] [19,20] (by kernel_rfl) (List.forall_mem_cons.2 ⟨⟨_,rfl,rfl,fun a w=>by go_simp <;> rfl⟩,List.forall_mem_nil _⟩) (by kernel_rfl) ?_
 refine ly ?_;intro Wc Ba da;have Wa:Hid (xh F1 NQ F1 Wc):=zH (by rw [Ba.out,ye.out];exact ⟨zR,gK.out.lt,fun _ _ h=>h⟩)
 have qo:=zH (show OrcAt Wc ga O F1 by rw [Ba.out];exact gK.out.drew)
 have Up:=zH (show Below W.heap.size W Wc by rw [Ba.out];exact sc.out.drew)
 have LU:=zH (show Blk Wc _ _ _ by rw [Ba.out];exact ze.out.drew)
 have MU:=zH (show Blk Wc _ _ _ by rw [Ba.out];exact Wg.out.drew)
 have NU:=zH (show Blk Wc _ _ _ by rw [Ba.out];exact KX.out.drew)
 clear Ba gK sc ze Wg KX;refine qg ?_;refine Cu (f:=?_) (vals:=?_) rfl rfl rfl Wa ?_ (fun wF Mb=>?_)
 rotate_left 3
 replace qo:=zH (qo.out.below Mb);replace Up:=zH (ja Up.out Mb);replace LU:=zH (LU.out.below Mb LU.out.lt);replace MU:=zH (MU.out.below Mb MU.out.lt);replace NU:=zH (NU.out.below Mb NU.out.lt);replace da:=(Cb F1 NQ).trans _ _ _ da (xf Mb Wa.out.size);replace Wa:=zH (Xi Wa.out Mb);refine (HFs.out wF).mono ?_
 rotate_left
 ·intro w_;go_simp <;> rfl
 rintro e wC ⟨v0,v1,v2,v3,v4,rfl,hcn,Aa⟩;clear Mb;refine ⟨_,F1,rfl,Ic Aa,(Xi Wa.out Aa).lt,?_⟩;replace da:=(Cb F1 NQ).trans _ _ _ da (Fq Wa.out (Ic Aa));replace Wa:=zH (qt Wa.out (Ic Aa) ((Xi Wa.out Aa).lt));simp only [Act.put,zLa,zLb,zLc];obtain ⟨h0,h1,h2,h3,h4⟩:=dj hcn;obtain ⟨A0,n0,c0,rfl⟩:=RSl.slc h0;obtain ⟨A1,n1,c1,rfl⟩:=E5 h1;obtain ⟨A2,n2,c2,rfl⟩:=E5 h2;obtain ⟨A3,n3,c3,rfl⟩:=E5 h3;obtain ⟨A4,n4,c4,rfl⟩:=E5 h4;obtain ⟨K,hK⟩:∃ K:Nat -> Prop,K=fun b=>b<W.heap.size \/ (wF.heap.size <= b /\ b<wC.heap.size):=⟨_,rfl⟩
 have hHA:Hd K wC (AR A0 n0 c0 A1 n1 c1 A2 n2 c2 A3 n3 c3 A4 n4 c4):=fun u a=>by
  have hW:Below W.heap.size W wC:=ja Up.out Aa;rw [Zk.out];obtain ⟨h0,h1,h2,h3,h4⟩:=Y3 hcn u (Us a fun b h=>by rw [hK];exact .inr h)
  exact ⟨OH (Le fq) il.out.rows hW u (Us a fun b h=>by rw [hK];exact .inl h),OH zw il.out.ws hW u (Us a fun b h=>by rw [hK];exact .inl h),h0,h1,h2,h3,h4⟩
 have HKd:=zH (show ∀ b,K b -> b<wC.heap.size /\ ¬F1 b from fun b hb=>by
  rw [hK] at hb;have s:=Aa.size;have s0:=Up.out.size;rcases hb with h | h
  ·exact ⟨by omega,fun e=>by have:=(HFa.out b e).1;omega⟩
  ·exact ⟨h.2,fun e=>by have:=qo.out.lt b e;omega⟩)
 have HHA:=zH hHA;replace qo:=zH (qo.out.below Aa);replace Up:=zH (ja Up.out Aa);replace LU:=zH (LU.out.below Aa LU.out.lt);replace MU:=zH (MU.out.below Aa MU.out.lt);replace NU:=zH (NU.out.below Aa NU.out.lt);have sCs:=Nat.le_refl wC.heap.size;clear h0 h1 h2 h3 h4 hcn Aa hK hHA HFs;refine qg ?_;refine Cu (f:=?_) (vals:=?_) rfl rfl rfl Wa ?_ (fun wF Mb=>?_)
 rotate_left 3
 replace qo:=zH (qo.out.below Mb);replace Up:=zH (ja Up.out Mb);replace LU:=zH (LU.out.below Mb LU.out.lt);replace MU:=zH (MU.out.below Mb MU.out.lt);replace NU:=zH (NU.out.below Mb NU.out.lt);replace HHA:=zH (Mc HHA.out (vf Mb));replace sCs:=Nat.le_trans sCs Mb.size;replace da:=(Cb F1 NQ).trans _ _ _ da (xf Mb Wa.out.size);replace Wa:=zH (Xi Wa.out Mb);refine (HPV.out A0 n0 c0 A1 n1 c1 A2 n2 c2 A3 n3 c3 A4 n4 c4 K wF qo.out HHA.out (fun b hb=>⟨Nat.lt_of_lt_of_le (HKd.out b hb).1 sCs,(HKd.out b hb).2⟩)).mono ?_
 rotate_left
 ·intro w_;go_simp <;> rfl
 rintro e wV ⟨Sa,G1,rfl,Pd,Mn,Jd⟩;clear Mb;refine ⟨_,kZ G1 wF wV,rfl,Q6 Mn,D9 Pd.lt,?_⟩;replace da:=(Cb F1 NQ).trans _ _ _ da (Fq Wa.out (Q6 Mn));replace Wa:=zH (qt Wa.out (Q6 Mn) (D9 Pd.lt));simp only [Act.put,zLa,zLb,zLc];have HO9:=zH Pd;have HB9:=zH (cD Up.out Mn fun b hb=>Nat.le_of_lt (HFa.out b hb).1)
 have KC9:=zH (LU.out.moved Mn nF0);have KL9:=zH (MU.out.moved Mn nFl);have KX9:=zH (NU.out.moved Mn nFx);obtain ⟨KP,hKP⟩:∃ KP:Nat -> Prop,KP=fun b=>wF.heap.size <= b /\ b<wV.heap.size /\ ¬G1 b:=⟨_,rfl⟩
 rw [<- hKP] at Jd;have HR9:=zH Jd;have hK1:∀ b,KP b -> kZ G1 wF wV b:=fun b hb=>by rw [hKP] at hb;exact .inr ⟨hb.1,hb.2.1⟩
 have HKG:=zH (show ∀ b,KP b -> ¬G1 b from fun b hb=>by rw [hKP] at hb;exact hb.2.2)
 have HGW:=zH (show ∀ b,G1 b -> W.heap.size <= b from fun b hb=>(Mn.foot b hb).elim (fun h=>Nat.le_of_lt (HFa.out b h).1) fun h=>by have:=Up.out.size;omega)
 have nG0:¬G1 W.heap.size:=Me Mn LU.out.lt nF0;have nGl:¬G1 gl:=Me Mn MU.out.lt nFl;have nGx:¬G1 gx:=Me Mn NU.out.lt nFx;have mf:∀ b,¬kZ G1 wF wV b -> ¬G1 b:=fun b h e=>h (.inl e)
 generalize kZ G1 wF wV=V1 at Wa hK1 mf |-;clear Pd Mn Jd hKP qo Up LU MU NU HHA HKd sCs HPV;refine qg ?_;refine ky [(some 8,18)] rfl Wa (fun Jq wE Hc Bi=>?_)
 have P6:=Bi.blk _ (.head _) rfl;clear Bi;unfold vt RJ;simp only [List.foldl];dsimp only at P6
 generalize Jq 18=g18 at P6  |-;obtain ⟨k18,hg18,Z6⟩:=P6;replace HO9:=zH (HO9.out.below Hc);replace HB9:=zH (ja HB9.out Hc);replace KC9:=zH (KC9.out.below Hc KC9.out.lt);replace KL9:=zH (KL9.out.below Hc KL9.out.lt);replace KX9:=zH (KX9.out.below Hc KX9.out.lt);replace HR9:=zH (Mc HR9.out (vf Hc));replace da:=(Cb F1 NQ).trans _ _ _ da (xf Hc Wa.out.size);replace Wa:=zH (Xi Wa.out Hc)
 try simp only [Act.put,zLa,zLb,zLc]
 have NKP:=zH (show ¬KP g18 from fun e=>Z6 (hK1 _ e))
 have L4:¬G1 g18:=mf _ Z6;have lg18:NQ <= g18:=hg18;clear Hc hK1 mf Z6;have OU:=k18.cell;have f18:=k18.frozen;refine xk ?_;refine de (Cb F1 NQ) rfl rfl rfl ?_;go_simp;refine ⟨xf (uF hg18 [.int .u64 P.root, .slice Sa.A1 Sa.n1 Sa.c1, .slice Sa.A2 Sa.n2 Sa.c2, .slice Sa.A3 Sa.n3 Sa.c3, .slice Sa.A4 Sa.n4 Sa.c4, .slice Sa.A5 Sa.n5 Sa.c5, .slice Sa.A6 Sa.n6 Sa.c6] 0 _) zR,?_⟩
 try simp only [Act.put,zLa,zLb,zLc]
 obtain ⟨wG,hwG,kP,sP⟩:=zDt k18 (.int .u64 P.root) (.slice Sa.A1 Sa.n1 Sa.c1) (.slice Sa.A2 Sa.n2 Sa.c2) (.slice Sa.A3 Sa.n3 Sa.c3) (.slice Sa.A4 Sa.n4 Sa.c4) (.slice Sa.A5 Sa.n5 Sa.c5) (.slice Sa.A6 Sa.n6 Sa.c6);rw [hwG];have HO:=zH (HO9.out.keep (Nat.le_of_eq sP.size.symm) fun b hb=>sP.far b fun e=>L4 (e ▸ hb))
 have HB:=zH (sP.below HB9.out (by omega))
 have KC:=zH (sP.blk KC9.out (by omega))
 have KL:=zH (sP.blk KL9.out (by omega))
 have KX:=zH (sP.blk KX9.out (by omega))
 have HR:=zH (sP.hd HR9.out NKP.out);have vq:=zH kP;clear hwG OU f18 da Wa k18 kP sP HO9 HB9 KC9 KL9 KX9 HR9;have da:=(Cb F1 NQ).refl wG;refine xk ?_;refine pc ?_;clear da cc cx lq0 lqx lqw;have LY:=zBz (coin:=coin) (pu:=pu) (vars:=vars) (rows:=rows) (ws:=ws) HL.out HJ.out Ms.out;rw [<- HX.out,<- HP.out] at LY;have hVa:=fun (u:World) (h:Xg u P Sa)=>by have:=zC5 L j P Sa u HL.out HJ.out (XE HJ.out HL.out.n2) h;rw [LY] at this;exact this
 unfold Ua Jc at hVa;have EW:=zH hVa;have HVAL:=zH LY;clear hVa LY;go_upto_region 9 with fail
 have cl:=KL.out.cell;have OU:=vq.out.cell;go_wp2_with fail
 refine (EW.out _ (dj HR.out)).mono ?_;rintro e w2 ⟨rfl,xa⟩;replace HO:=zH (HO.out.below xa);replace HB:=zH (ja HB.out xa);replace KC:=zH (KC.out.below xa KC.out.lt);replace KL:=zH (KL.out.below xa KL.out.lt);replace KX:=zH (KX.out.below xa KX.out.lt);replace HR:=zH (Mc HR.out (vf xa));replace vq:=zH (vq.out.below xa vq.out.lt);clear xa cl OU EW;obtain ⟨hwv,-,xH⟩:=CG HT.out.asg;have hmw:=(zb il.out.ws).1;have sr:=(zb il.out.ws).2.1;have hpv0:(pu:Int)<vars:=HF.out.vars;have jj:pu<m:=by omega
 have hv6:pu<65536:=by
  have h:=HT.out.tab;unfold Gb at h;simp only [Bool.and_eq_true,Bool.not_eq_true',decide_eq_false_iff_not] at h;omega
 obtain ⟨e0,he0⟩:=zEX (1+pu);have e1:(1:Int)+(pu:Int)=(e0:Int):=by omega
 have e2:=zd e0;have e3:(1:Int) <= (e0:Int):=by omega
 have e4:(e0:Int) <= (d:Int):=by omega
 have e5:e0-1=pu:=by omega
 have HPB:=zH (fun u (h:RWd u [.slice B m d] ws)=>RB (k:=pu) (Jz h (t:=1) (by omega)) (by omega))
 obtain ⟨BP,Hv⟩:∃ BP,(if d=1 then B else Option.map (fun y:Addr=>y.add 1) B)=BP:=⟨_,rfl⟩
 rw [Hv] at HPB;have hBP2:(if d=1 then B else Option.map (fun x=>(⟨x.block,x.off+1,none⟩:Addr)) B)=BP:=Hv
 have HBP:=zH hBP2;obtain ⟨ch,V6⟩:=zEX (x.ch O);obtain ⟨pos,ur⟩:=zEX (x.pos O);obtain ⟨pb,pH⟩:=zEX ((ws.drop 1).take pu);have q1:tk (ef OF L (pd L.p (pu:Int) vars rows) pb) L.p P.root=ch:=by rw [V6,pH,zX.out,HP.out,HX.out];exact zBt
 have q2:Li (ve (ef OF L (pd L.p (pu:Int) vars rows) pb) P.root) (P.code++P.linear++P.quad) L.queries=OF:=by rw [pH,zX.out,HP.out,HX.out];exact zBv
 have q3:Zr (ve (ef OF L (pd L.p (pu:Int) vars rows) pb) P.root) (P.code++P.linear++P.quad) L.n L.queries=pos:=by rw [ur,pH,zX.out,HP.out,HX.out];exact zBx
 have Za:pb.all (fun y=>decide (y<L.p))=true:=by
  rw [pH,List.all_eq_true];exact fun y hy=>List.all_eq_true.1 xH y (List.mem_of_mem_drop (List.mem_of_mem_take hy))
 have fB:P.root<18446744073709551616:=(dj HR.out).root;have hc:=fun (u:World) (h:OrcAt u ga OF G1) (hb:Below W.heap.size W u) (hp:Hd KP u (fun v=>Xg v P Sa))=>cQ h L j HL.out HJ.out (XE HJ.out HL.out.n2) (nc HL.out.p).2 L.p pu vars A BP n c pu (d-1) rows pb P Sa (Le fq _ _ _ _ hb il.out.rows) (YG HT.out.tab HT.out.small) HT.out.tab (by rw [pH];exact HPB.out u (ib hb il.out.ws)) hp HKG.out (Ih xC.out (by omega)) HVAL.out rfl (by omega) Za (TQ HL.out HVAL.out) fB
 rw [q1,q2,q3] at hc;unfold Ua Ib Jc at hc;have HCh:=zH hc;have JU:=zH V6;have Vz:=zH ur;have HPB2:=zH pH;clear hc q1 q2 q3 Za fB V6 ur pH Hv hBP2 he0 hpv0 hmw hwv xH;have cc:=KC.out.cell;go_upto_region 12 with fail
 rw [HBP.out];have cx:=KX.out.cell;have OU:=vq.out.cell;go_wp2_with fail
 refine (HCh.out _ HO.out HB.out HR.out).mono ?_;rintro _ oU ⟨gr,dr,G3,rfl,h12,Jn,V4,nr12⟩;have UY:¬G3 W.heap.size:=Me Jn KC.out.lt nG0;have n3l:¬G3 gl:=Me Jn KL.out.lt nGl;have n318:¬G3 g18:=Me Jn vq.out.lt L4;have HPrd:=zH (OP V4);have lgr:gr<oU.heap.size:=(V4.lt gr rfl).2;have HKG3:=zH (show ∀ b,(KP b /\ b<w2.heap.size) -> ¬G3 b from fun b hb=>Me Jn hb.2 (HKG.out b hb.1))
 have HGW3:=zH (show ∀ b,G3 b -> W.heap.size <= b from fun b hb=>(Jn.foot b hb).elim (HGW.out b) fun h=>by have:=HB.out.size;omega)
 replace HB:=zH (cD HB.out Jn fun b hb=>HGW.out b hb)
 replace HR:=zH (Mc (Y3 HR.out) (zl Jn fun b hb=>HKG.out b hb.1))
 replace KC:=zH (KC.out.moved Jn nG0);replace KL:=zH (KL.out.moved Jn nGl);replace vq:=zH (vq.out.moved Jn L4);replace HO:=zH h12;have pR:=zH (Yy V4);clear h12 Jn cc cx OU HCh V4 HGW HKG nGx KX nG0 nGl L4;have ia:=(Below.refl oU.heap.size oU).alloc zR (.cells #[.int .u64 ch.al, .int .u64 ch.rh, .int .u64 ch.be] 65);have I4:=Blk.new oU 65 #[.int .u64 ch.al, .int .u64 ch.rh, .int .u64 ch.be];have n_gc:¬G3 oU.heap.size:=fun e=>by have:=HO.out.lt _ e;omega
 replace HO:=zH (HO.out.below ia);replace HB:=zH (ja HB.out ia);replace KC:=zH (KC.out.below ia KC.out.lt);replace KL:=zH (KL.out.below ia KL.out.lt);replace vq:=zH (vq.out.below ia vq.out.lt);replace HR:=zH (Mc HR.out (vf ia));replace pR:=zH (Mc pR.out (vf ia));clear ia;go_upto_region 13 with fail
 generalize oU.alloc _=Fj at I4 HO HB KC KL vq HR pR |-;obtain ⟨gc,h_gc⟩:=zEX (oU.heap.size);rw [<- h_gc] at I4 n_gc |-;have K_gc:=zH I4;clear h_gc I4;have cgc:=K_gc.out.cell;have ia:=(Below.refl Fj.heap.size Fj).alloc zR (.cells #[.int .u64 ch.al, .int .u64 ch.rh, .int .u64 ch.be] 72);have G4:=Blk.new Fj 72 #[.int .u64 ch.al, .int .u64 ch.rh, .int .u64 ch.be];have N4:¬G3 Fj.heap.size:=fun e=>by have:=HO.out.lt _ e;omega
 replace HO:=zH (HO.out.below ia);replace HB:=zH (ja HB.out ia);replace KC:=zH (KC.out.below ia KC.out.lt);replace KL:=zH (KL.out.below ia KL.out.lt);replace vq:=zH (vq.out.below ia vq.out.lt);replace HR:=zH (Mc HR.out (vf ia));replace pR:=zH (Mc pR.out (vf ia));clear ia;go_upto_region 14 with fail
 generalize Fj.alloc _=cZ at G4 HO HB KC KL vq HR pR |-;obtain ⟨gb,h_gb⟩:=zEX (Fj.heap.size);rw [<- h_gb] at G4 N4 |-;have vS:=zH G4;clear h_gb G4;clear cgc K_gc;have hAn:=fun (u:World)=>zBp P Sa u
 unfold Jc at hAn;have HAn:=zH hAn;have OU:=vq.out.cell;clear hAn;go_wp2_with fail
 refine (HAn.out _).mono ?_;rintro e Np ⟨rfl,SW⟩;replace HO:=zH (HO.out.below SW);replace HB:=zH (ja HB.out SW);replace KC:=zH (KC.out.below SW KC.out.lt);replace KL:=zH (KL.out.below SW KL.out.lt);replace vq:=zH (vq.out.below SW vq.out.lt);replace HR:=zH (Mc HR.out (vf SW));replace pR:=zH (Mc pR.out (vf SW));replace vS:=zH (vS.out.below SW vS.out.lt);clear SW OU HAn;have ia:=(Below.refl Np.heap.size Np).alloc zR (.cells #[.slice Sa.A1 Sa.n1 Sa.c1, .slice Sa.A2 Sa.n2 Sa.c2, .slice Sa.A3 Sa.n3 Sa.c3] 74);have J4:=Blk.new Np 74 #[.slice Sa.A1 Sa.n1 Sa.c1, .slice Sa.A2 Sa.n2 Sa.c2, .slice Sa.A3 Sa.n3 Sa.c3];have O4:¬G3 Np.heap.size:=fun e=>by have:=HO.out.lt _ e;omega
 replace HO:=zH (HO.out.below ia);replace HB:=zH (ja HB.out ia);replace KC:=zH (KC.out.below ia KC.out.lt);replace KL:=zH (KL.out.below ia KL.out.lt);replace vq:=zH (vq.out.below ia vq.out.lt);replace HR:=zH (Mc HR.out (vf ia));replace pR:=zH (Mc pR.out (vf ia));replace vS:=zH (vS.out.below ia vS.out.lt);clear ia;go_upto_region 15 with fail
 generalize Np.alloc _=w16 at J4 HO HB KC KL vq HR pR vS |-;obtain ⟨gz,h_gz⟩:=zEX (Np.heap.size);rw [<- h_gz] at J4 O4 |-;have kY:=zH J4;clear h_gz J4;have tn:=zBy (coin:=coin) HL.out HJ.out HF.out HT.out ch.al ch.rh ch.be;rw [<- HX.out,<- HPB2.out,show x.code ch.al=P.code by rw [HP.out,JU.out];rfl,show x.lin ch.rh=P.linear by rw [HP.out,JU.out];rfl,show x.quad ch.be=P.quad by rw [HP.out,JU.out];rfl] at tn
 have hSu:=fun (u:World) (hb:Below W.heap.size W u) (h:Xg u P Sa)=>by
  have:=zC3 L pu ch.rh ch.al ch.be vars A BP Sa.A1 Sa.A2 Sa.A3 n c (d-1) Sa.n1 Sa.c1 Sa.n2 Sa.c2 Sa.n3 Sa.c3 rows pb P.code P.linear P.quad u HL.out (YS HT.out.tab HF.out) (Le fq _ _ _ _ hb il.out.rows) (by rw [HPB2.out];exact HPB.out u (ib hb il.out.ws)) h.code h.linear h.quad
  rw [tn] at this;exact this
 unfold Ua Ib at hSu;have HSu:=zH hSu;clear hSu tn;have cl:=KL.out.cell;have cc:=KC.out.cell;have cb:=vS.out.cell;have cz:=kY.out.cell;have d1:((L.queries:Int) != (L.queries:Int))=false:=by simp
 go_wp2_with fail
 refine (HSu.out _ HB.out (dj HR.out)).mono ?_;rintro e dZ ⟨rfl,WV⟩;replace HO:=zH (HO.out.below WV);replace HB:=zH (ja HB.out WV);replace KC:=zH (KC.out.below WV KC.out.lt);replace KL:=zH (KL.out.below WV KL.out.lt);replace vq:=zH (vq.out.below WV vq.out.lt);replace HR:=zH (Mc HR.out (vf WV));replace pR:=zH (Mc pR.out (vf WV));replace vS:=zH (vS.out.below WV vS.out.lt);replace kY:=zH (kY.out.below WV kY.out.lt);clear WV cl cc cb cz HSu d1;obtain ⟨KB,uY⟩:∃ KB:Nat -> Prop,KB=fun b=>¬G3 b /\ b<dZ.heap.size:=⟨_,rfl⟩
 have PW:∀ b,¬G3 b -> b<dZ.heap.size -> KB b:=fun b h1 h2=>by rw [uY];exact ⟨h1,h2⟩
 have Zp:=zH (show ∀ b,KB b -> ¬G3 b /\ b<dZ.heap.size by rw [uY];exact fun b h=>h)
 have Gs:=zH (show Hd KB dZ (fun u=>Blk u W.heap.size _ _ /\ Blk u gl _ _ /\ Blk u g18 _ _ /\ Blk u gb _ _ /\ Blk u gz _ _ /\ (RWd u [.slice Sa.A1 Sa.n1 Sa.c1] P.code /\ RWd u [.slice Sa.A2 Sa.n2 Sa.c2] P.linear /\ RWd u [.slice Sa.A3 Sa.n3 Sa.c3] P.quad /\ Qd u [.slice Sa.A4 Sa.n4 Sa.c4] P.cols /\ RWd u [.slice Sa.A5 Sa.n5 Sa.c5] P.salts /\ Qd u [.slice Sa.A6 Sa.n6 Sa.c6] P.paths) /\ Rd u 1 (some ⟨gr,0,none⟩) L.queries (sg (Hh pos))) from fun u a =>
  have bk:∀ {g:Nat} {t:TypeId} {cs:Array Value},Blk dZ g t cs -> ¬G3 g -> Blk u g t cs:=fun k hg=>(a.block _ (PW _ hg k.lt) k.lt).trans k
  have hp:=Xy (Y3 HR.out) (Us a fun b h=>PW b (HKG3.out b h.1) h.2)
  ⟨bk KC.out UY,bk KL.out n3l,bk vq.out n318,bk vS.out N4,bk kY.out O4,⟨hp.code,hp.linear,hp.quad,hp.cols,hp.salts,hp.paths⟩,OP (Xy (Y3 pR.out) (Us a fun b h=>PW b (by have e:gr=b:=Option.some.inj h.1;rw [<- e];exact nr12) h.2))⟩)
 have HKM:=zH (show KB W.heap.size /\ KB gl /\ KB g18 /\ KB gb /\ KB gz from ⟨PW _ UY KC.out.lt,PW _ n3l KL.out.lt,PW _ n318 vq.out.lt,PW _ N4 vS.out.lt,PW _ O4 kY.out.lt⟩)
 have yW:=zH (show P.cols.length=L.queries /\ P.salts.length=L.queries /\ P.paths.length=L.queries /\ pos.length=L.queries by
  have:=PvIn.pos_len O HXG.out;rw [HP.out,Vz.out];simp only [PvIn.pr,List.length_map,this];rw [HX.out];exact ⟨rfl,rfl,rfl,rfl⟩)
 have HGt:=zH (show ∀ i,i<L.queries -> P.cols.getD i []=x.cols.getD (pos.getD i 0) [] /\ P.salts.getD i 0=x.l4.getD (pos.getD i 0) 0 /\ P.paths.getD i []=yj (x.tree O) (pos.getD i 0) from fun i hi=>by
  have hl:=yW.out.2.2.2;have hh:i<(x.pos O).length:=by rw [<- Vz.out,hl];exact hi
  rw [HP.out,Vz.out];simp [PvIn.pr,List.getD_eq_getElem?_getD,hh])
 have HPT:=zH (show ∀ y∈pos,y<L.n by
  have:=PvIn.pos_lt O HXG.out;rw [HX.out] at this;rw [Vz.out,HX.out];exact this)
 have Kk:=fun (z:Nat) (hz:z<L.n)=>zBu (coin:=coin) (pu:=pu) (vars:=vars) (rows:=rows) (ws:=ws) HL.out HJ.out ch.al ch.rh ch.be hz
 rw [<- HX.out,show x.code ch.al=P.code by rw [HP.out,JU.out];rfl,show x.lin ch.rh=P.linear by rw [HP.out,JU.out];rfl,show x.quad ch.be=P.quad by rw [HP.out,JU.out];rfl] at Kk
 have HCO:=zH Kk;have hop:=fun (z:Nat) (hz:z<L.n)=>zBw (coin:=coin) (pu:=pu) (vars:=vars) (rows:=rows) (ws:=ws) HL.out HJ.out Ms.out (Z:=OF) (by rw [zX.out,HX.out];exact fun _ _ _ h=>h) hz
 rw [<- HX.out,show x.root O=P.root by rw [HP.out];rfl] at hop
 have HOP:=zH hop;have nR:=zH (show ∀ z,z<L.n -> (x.cols.getD z []).length <= 100000 /\ (yj (x.tree O) z).length <= 62 from fun z hz=>by
  have hm:x.cols.getD z []∈x.cols:=Bx [] (by rw [x.cols_len,HX.out];exact hz)
  refine ⟨by rw [x.cols_row _ hm,HXG.out.ms.ml,HX.out];have:=H40.out;show L.a+L.b+L.b+L.b+3 <= 100000;omega,?_⟩
  rw [IB,List.length_map,List.length_range];have hs:(x.tree O).length=x.dd+1:=(aC _ _ _ (by rw [Dw,yE,x.cols_len,HXG.out.n])).1
  have:=HXG.out.dd;omega)
 have C1:=zH (show L.queries <= 64 from HL.out.q2)
 clear Kk hop uY PW HR KC KL vq vS kY pR HKG3 HPrd nr12 UY n3l n318 N4 O4;go_upto_region 18 with fail
 go_loopw [113] (fun y wr=>∃ (i:Nat) (Fr:Nat -> Prop),i <= L.queries /\ y= .int .i64 i /\ OrcAt wr ga OF Fr /\ Moved G3 Fr dZ wr) (fun y _=>L.queries-(intOf y).toNat)
 case atStart=>exact ⟨0,G3,Nat.zero_le _,rfl,HO.out,Moved.refl⟩
 case round =>
  obtain ⟨i,Fr,hi,rfl,horc,hmv⟩:=hrel;have HBr:=zH (cD HB.out hmv fun b hb=>HGW3.out b hb)
  by_cases oa:i<L.queries
  ·have HW:=zH (Mc Gs.out (zl hmv fun b hb=>(Zp.out b hb).1))
   have PV:=zH (show ∀ b,KB b -> b<wr.heap.size /\ ¬Fr b from fun b hb=>⟨Nat.lt_of_lt_of_le (Zp.out b hb).2 hmv.size,Me hmv (Zp.out b hb).2 (Zp.out b hb).1⟩)
   obtain ⟨kc,kl,kp,kb,kz,EY,za⟩:=dj HW.out;obtain ⟨hC,hS,hP⟩:=HGt.out i oa;obtain ⟨z,hz⟩:∃ z:Nat,z=pos.getD i 0:=⟨_,rfl⟩;rw [<- hz] at hC hS hP;have EV:z<L.n:=by rw [hz];exact HPT.out _ (Bx 0 (by rw [yW.out.2.2.2];exact oa))
   obtain ⟨b0,q0,e0,lb0,aj⟩:=ru za (by omega)
   have U6:gr=b0:=by injection e0 with e0;injection e0 with e1
   have sn:0=q0:=by injection e0 with e0;injection e0 with e1 e2
   subst U6 sn;have c0x:=(aj i oa).trans (by rw [aP (by rw [yW.out.2.2.2];exact oa),<- hz]:_=some (.int .i64 z))
   rw [Nat.zero_add] at c0x;obtain ⟨bC,qC,B1,nX,JW,eC,kbC,lbC,hcC,hrC⟩:=oI (kO (MD HW.out fun u h=>h.2.2.2.2.2.1.2.2.2.1)) (show i<P.cols.length by rw [yW.out.1];exact oa)
   obtain ⟨bP,qP,B2,nn2,cn2,eP,kbP,lbP,hcP,hrP⟩:=oI (kO (MD HW.out fun u h=>h.2.2.2.2.2.1.2.2.2.2.2)) (show i<P.paths.length by rw [yW.out.2.2.1];exact oa)
   obtain ⟨hl5,bS,qS,eS,kbS,lbS,hcS⟩:=zB6 (MD HW.out fun u h=>h.2.2.2.2.2.1.2.2.2.2.1) (show i<P.salts.length by rw [yW.out.2.1];exact oa)
   have hl4:Sa.n4=L.queries:=(sh EY.2.2.2.1).1.symm.trans yW.out.1;have hl6:Sa.n6=L.queries:=(sh EY.2.2.2.2.2).1.symm.trans yW.out.2.2.1;have hl5':Sa.n5=L.queries:=hl5.trans yW.out.2.1;rw [hC] at hrC;rw [hP] at hrP;rw [hS] at hcS;obtain ⟨sz,dE⟩:∃ sz,sz=x.l4.getD z 0:=⟨_,rfl⟩;rw [<- dE] at hcS;obtain ⟨hpc1,hpc2,hpc3,-,-,-⟩:=EY;have hC1:=HCO.out z EV;have oo:=HOP.out z EV;have hL1:=nR.out z EV;rw [<- dE] at oo;obtain ⟨col,hcol⟩:=zEX (x.cols.getD z []);obtain ⟨pth,hpth⟩:=zEX (yj (x.tree O) z);rw [<- hcol] at hC1 oo hL1 hrC;rw [<- hpth] at oo hL1 hrP;have Rv:=fun (u:World) (hb:Below wr.heap.size wr u)=>zCP L pu ch.rh ch.al ch.be vars (z:Int) A Sa.A1 Sa.A2 Sa.A3 B1 n c Sa.n1 Sa.c1 Sa.n2 Sa.c2 Sa.n3 Sa.c3 nX JW rows P.code P.linear P.quad col u HL.out (YS HT.out.tab HF.out) (Le fq _ _ _ _ (ja HBr.out hb) il.out.rows) (qT HT.out.tab) (ib hb hpc1) (ib hb hpc2) (ib hb hpc3) (ib hb (Pk hrC))
   rw [hC1] at Rv;unfold Ua Ib at Rv;have HCt:=zH Rv;have hvt:=fun (u:World) (h:OrcAt u ga OF Fr) (h1:Km KB u (.slice B1 nX JW) col) (h2:Km KB u (.slice B2 nn2 cn2) pth) (hk:∀ b,KB b -> b<u.heap.size /\ ¬Fr b)=>zDK h P.root L.n z sz B1 B2 nX JW nn2 cn2 col pth h1 h2 hk hL1.1 hL1.2 xC.out
   rw [oo.1,oo.2] at hvt;have HVt:=zH hvt;clear Rv hvt;have HRC:=zH hrC;have HRP:=zH hrP;have g1:(0:Int) <= (i:Int):=by omega
   have g2:(i:Int)<(L.queries:Int):=by omega
   have g4:(i:Int)<(Sa.n4:Int):=by omega
   have g5:(i:Int)<(Sa.n5:Int):=by omega
   have g6:(i:Int)<(Sa.n6:Int):=by omega
   have Fb:=zH oa;have HOr:=zH horc;have HMv:=zH hmv;obtain ⟨NR,VV⟩:=zEX (wr.heap.size);have HNR:=zH VV;obtain ⟨Gf,aY,kb2,kb3,kb4⟩:=HKM.out;have fr0:=(PV.out _ Gf).2;have fr1:=(PV.out _ aY).2;have fr2:=(PV.out _ kb2).2;have fr3:=(PV.out _ kb3).2;have fr4:=(PV.out _ kb4).2;have fr5:=(PV.out _ kbC).2;have fr6:=(PV.out _ kbP).2;have fr7:=(PV.out _ kbS).2;have r0:W.heap.size<NR:=by rw [VV];exact kc.lt
   have r1:gl<NR:=by rw [VV];exact kl.lt
   have r2:g18<NR:=by rw [VV];exact kp.lt
   have r3:gb<NR:=by rw [VV];exact kb.lt
   have r4:gz<NR:=by rw [VV];exact kz.lt
   have r5:bC<NR:=by rw [VV];exact lbC
   have r6:bP<NR:=by rw [VV];exact lbP
   have r7:bS<NR:=by rw [VV];exact lbS
   have cc:=kc.cell;have cl:=kl.cell;have OU:=kp.cell;have cb:=kb.cell;have cz:=kz.cell;clear Gs HW kc kl kp kb kz hpc1 hpc2 hpc3 hrC hrP hC1 oo hL1 hC hS hP hcol hpth dE hz hl4 hl5 hl5' hl6 Gf aY kb2 kb3 kb4 kbC kbP kbS lbC lbP lbS VV oa hi aj e0 za horc hmv EV HKM;generalize Sa.A4=S4 at eC OU |-;generalize Sa.A5=S5 at eS OU |-;generalize Sa.A6=S6 at eP OU |-;subst eC eP eS;go_upto_region 20 with fail
   refine jy (Fr) (Fr) (NR) [12,37] [0,1,2,3,4,5,6,7,8,9,10,11,12,13,14,15,16,17,18,19,20,21,22,23,24,25,26,27,28,29,30,31,32,33,34,35,36,37,38,39] [] [] (by kernel_rfl) (List.forall_mem_nil _) (by kernel_rfl) ?_
   refine ly ?_;intro Wc Ba da;have Wa:Hid (xh Fr NR Fr Wc):=zH (by rw [Ba.out,HNR.out];exact ⟨zR,HOr.out.lt,fun _ _ h=>h⟩)
   have AX:=zH (show OrcAt Wc ga OF Fr by rw [Ba.out];exact HOr.out.drew)
   have yX:=zH (show Moved G3 Fr dZ Wc by rw [Ba.out];exact Ln HMv.out)
   have Ja:=zH (show Below wr.heap.size wr Wc by rw [Ba.out];exact (Below.refl _ _).drew)
   have BX:=zH (show Km KB Wc (.slice B1 nX JW) col by rw [Ba.out];exact Dp HRC.out zR fun _ _ _=>rfl)
   have CX:=zH (show Km KB Wc (.slice B2 nn2 cn2) pth by rw [Ba.out];exact Dp HRP.out zR fun _ _ _=>rfl)
   clear Ba HOr HMv HRC HRP;refine qg ?_;refine Cu (f:=?_) (vals:=?_) rfl rfl rfl Wa ?_ (fun wF Mb=>?_)
   rotate_left 3
   replace AX:=zH (AX.out.below Mb);replace Ja:=zH (ja Ja.out Mb);replace yX:=zH (yX.out.trans (Ic Mb));replace BX:=zH (Bw BX.out Mb);replace CX:=zH (Bw CX.out Mb);replace da:=(Cb Fr NR).trans _ _ _ da (xf Mb Wa.out.size);replace Wa:=zH (Xi Wa.out Mb);refine (HCt.out wF Ja.out).mono ?_
   rotate_left
   ·intro w_;go_simp <;> rfl
   rintro e wC ⟨rfl,Aa⟩;clear Mb;refine ⟨_,Fr,rfl,Ic Aa,(Xi Wa.out Aa).lt,?_⟩;replace da:=(Cb Fr NR).trans _ _ _ da (Fq Wa.out (Ic Aa));replace Wa:=zH (qt Wa.out (Ic Aa) ((Xi Wa.out Aa).lt));simp only [Act.put,zLa,zLb,zLc];replace AX:=zH (AX.out.below Aa);replace Ja:=zH (ja Ja.out Aa);replace yX:=zH (yX.out.trans (Ic Aa));replace BX:=zH (Bw BX.out Aa);replace CX:=zH (Bw CX.out Aa);clear Aa;refine qg ?_;refine Cu (f:=?_) (vals:=?_) rfl rfl rfl Wa ?_ (fun wF Mb=>?_)
   rotate_left 3
   replace AX:=zH (AX.out.below Mb);replace Ja:=zH (ja Ja.out Mb);replace yX:=zH (yX.out.trans (Ic Mb));replace BX:=zH (Bw BX.out Mb);replace CX:=zH (Bw CX.out Mb);replace da:=(Cb Fr NR).trans _ _ _ da (xf Mb Wa.out.size);replace Wa:=zH (Xi Wa.out Mb);refine (HVt.out wF AX.out BX.out CX.out (fun b hb=>⟨Nat.lt_of_lt_of_le (PV.out b hb).1 Ja.out.size,(PV.out b hb).2⟩)).mono ?_
   rotate_left
   ·intro w_;go_simp <;> rfl
   rintro e wD ⟨F2,rfl,YX,mo2⟩;clear Mb;refine ⟨_,F2,rfl,mo2,YX.lt,?_⟩;replace da:=(Cb Fr NR).trans _ _ _ da (Fq Wa.out (mo2));replace Wa:=zH (qt Wa.out (mo2) (YX.lt));simp only [Act.put,zLa,zLb,zLc];have HOz:=zH YX;have HMz:=zH (yX.out.trans mo2);clear YX mo2 AX yX Ja BX CX;refine qg ?_;refine ky [] rfl Wa (fun Jq wE Hc Bi=>?_)
   clear Bi;unfold vt
   try simp only [List.foldl]
   replace HOz:=zH (HOz.out.below Hc);replace HMz:=zH (HMz.out.trans (Ic Hc));replace da:=(Cb Fr NR).trans _ _ _ da (xf Hc Wa.out.size);replace Wa:=zH (Xi Wa.out Hc)
   try simp only [Act.put,zLa,zLb,zLc]
   refine xk ?_;refine pc ?_;have HWI:=zH (show wrap64 ((i:Int)+1)=((i+1:Nat):Int) by unfold wrap64;have:=C1.out;have:=Fb.out;omega)
   clear da cc cl OU cb cz Wa;go_wp2
   go_roundw
   case rel=>exact ⟨i+1,F2,Fb.out,by rw [HWI.out],HOz.out,HMz.out⟩
   case measure =>
    have h1:=Fb.out;have e:=HWI.out
    try dsimp only
    rw [e];exact MO h1
  ·obtain rfl:i=L.queries:=by omega
   clear oa hi;go_wp2;go_ret
   exact ⟨rfl,HBr.out⟩
end Go.Proofs.YtjipleoamlmkfaaGreat
