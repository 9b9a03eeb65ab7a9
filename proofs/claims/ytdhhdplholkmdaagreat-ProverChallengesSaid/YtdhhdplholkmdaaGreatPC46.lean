/- A part of the proof. No condition. -/
import Derived.Test.YtdhhdplholkmdaaGreatProg
import Derived.Test.YtdhhdplholkmdaaGreatPC44
import Derived.Test.YtdhhdplholkmdaaGreatPC45

namespace Go.Proofs.YtdhhdplholkmdaaGreat
open Go.RowKit Go.Maps
theorem yk {w:World} {base n c:Nat} {e:TypeId} {A:Option Addr} {xs:List Value} (h:w.ownsRow base e 1 (.slice A n c) n xs):∃ _:Unit,True∧True∧Rd w 1 A n xs∧True:=by
 obtain ⟨A',c',he,-,-,hr,-⟩:=Yd h
 injection he with e1 e2 e3
 subst e1
 exact ⟨(),trivial,trivial,hr,trivial⟩
theorem zE1 {l:List Nat} {i:Nat} (h:i<l.length):(I64 (Xe l))[i]?=some (.int .i64 ((l.getD i 0:Nat):Int)):=by
 rw [List.getD_eq_getElem?_getD,List.getElem?_eq_getElem h]
 simp [I64,Xe,h]
set_option maxRecDepth 100000 in
set_option maxHeartbeats 2000000 in
theorem UL (W:World) (cs0:Array Value) (f0:Fits Tryz.prog W 32 (Value.agg cs0).cells.toList) (cs1:Array Value) (f1:Fits Tryz.prog W 35 (Value.agg cs1).cells.toList) (A2:Option Addr) (n2 c2:Nat) (f2:Fits Tryz.prog W 28 (Value.slice A2 n2 c2).cells.toList) :
  Calls Tryz.prog 3 #[.agg cs0, .agg cs1, .slice A2 n2 c2] W fun e W'=>e= .returned (.bool true)∧Below W.heap.size W W':=by
 obtain ⟨p,pub,vars,A,B,n,c,m,d,rows,ws,bl,bw,qs,coin,seed,real,rfl,hin,hcoin,hseed⟩:=jr f0
 obtain ⟨P,S,rfl,hpin⟩:=kV f1
 obtain ⟨l,hl⟩:=jP f2
 clear f0 f1 f2
 have hb0:Below W.heap.size W ((W.alloc (.cells #[.int .u64 (p:Int), .int .i64 pub, .int .i64 vars, .slice A n c, .int .i64 bl, .int .i64 bw, .int .i64 qs, .slice B m d, .int .u64 (coin:Int), .bool real, .int .u64 (seed:Int)] 32)).alloc (.cells (Y3 P S) 35)):=((Below.refl _ W).alloc (Nat.le_refl _) _).alloc (by simp) _
 have HR:=Lib.hid (fun w' (hb:Below W.heap.size W w')=>zAg p pub vars A B n c m d rows ws bl bw qs coin seed real w' (ZQ ZG _ _ _ _ hb hin.rows) (Zl _ _ _ _ hb hin.ws) hin.p)
 have HF:=Lib.hid (fun w' (hb:Below W.heap.size W w')=>zEz P S w' (Xs hpin hb))
 have HBg:=Lib.hid (fun w'=>jg p pub vars A B n c m d bl bw qs coin real seed w' hseed)
 have HOr:=Lib.hid (fun w'=>yO p pub vars A B n c m d bl bw qs coin real seed w')
 have gm:=Vf (YY hl).2.1 (YY hl).2.2.1
 have HP1:=Lib.hid (fun (L:YO) (j:Nat) (hL:Y7 L) (hn:L.n=2^j) (hj:j≤10) (pu:Nat) (e:pub=(pu:Int)) (hT:GJ p pub vars rows ws true∨GJ p pub vars rows ws false) (h200:n2≤200) (w':World) (g:Nat) (F:Nat→Prop) (h:OrcAt w' g (Vp real seed) F) (hF:∀ b,F b→W.heap.size≤b) (hb:Below W.heap.size W w')=>by
  have htab:ZZ p (pu:Int) vars rows=true:=by rw [←e];exact hT.elim (fun h=>h.tab) fun h=>h.tab
  have hsm:Ki rows:=hT.elim (fun h=>h.small) fun h=>h.small
  exact K9 (K:=fun b=>b<W.heap.size) h L j hL hn hj p pu vars A A2 n c n2 c2 rows l P S (ZQ ZG _ _ _ _ hb hin.rows) (xY htab hsm) htab (Zl _ _ _ _ hb hl) (hd_old (fun u hu=>Xs hpin hu) hb) (fun b hb hF'=>by have:=hF b hF';omega) (Yn (UR real seed hseed).le (by omega)) (by omega))
 have HP2:=Lib.hid (fun (L:YO) (j:Nat) (hL:Y7 L) (hn:L.n=2^j) (hj:j≤10) (pu:Nat) (e:pub=(pu:Int)) (hT:GJ p pub vars rows ws true∨GJ p pub vars rows ws false) (h200:n2≤200) (w':World) (hb:Below W.heap.size W w')=>by
  have htab:ZZ p (pu:Int) vars rows=true:=by rw [←e];exact hT.elim (fun h=>h.tab) fun h=>h.tab
  have hsm:Ki rows:=hT.elim (fun h=>h.small) fun h=>h.small
  exact Ga (K:=fun _=>False) (UR real seed hseed) (by omega) L j hL hn hj p pu vars A A2 none n c n2 c2 0 0 rows l P S w' (ZQ ZG _ _ _ _ hb hin.rows) (xY htab hsm) htab (fun u _=>by rw [zDa];exact ⟨none,0,0,rfl,rfl,Nat.le_refl _,by simp [maxLen],fun i hi=>absurd hi (by simp)⟩) (Zl _ _ _ _ hb hl) (Xs hpin hb) (by omega))
 have HRO:=Lib.hid (UR real seed hseed)
 clear hin hpin hl hcoin hseed
 unfold Y3 at *
 go_enter Tryz.func3,Tryz.ntmps3
 go_wp2_with fail
 refine (HR.out _ hb0).mono ?_
 rintro e w1 ⟨⟨hpost,htab⟩,hb⟩
 obtain ⟨k1,k2,hbw⟩:=Vc hb
 obtain ⟨y0,y1,y2,y3,y4,y5,y6,y7,y8,y9,y10,b,s,rfl,hL⟩:=hpost
 clear hb hb0
 have l2:=k2.lt
 have c2:=k2.cell
 cases b
 ·have hbl:=hbw.alloc hbw.size (.cells #[.int .u64 y0, .int .i64 y1, .int .i64 y2, .int .i64 y3, .int .i64 y4, .int .i64 y5, .int .i64 y6, .int .i64 y7, .int .i64 y8, .int .i64 y9, .int .i64 y10] 38)
  clear hL htab
  go_wp2_with fail
  refine (Ug _).mono ?_
  rintro e w2 ⟨rfl,hb2⟩
  replace hbl:=Za hbl hb2
  go_wp2_with fail
  refine (Ug _).mono ?_
  rintro e w3 ⟨rfl,hb3⟩
  go_wp2
  go_ret
  exact ⟨rfl,Za hbl hb3⟩
 obtain ⟨L,hok,hfor,hn64,-,hLL⟩:=hL rfl
 obtain ⟨rfl,rfl,rfl,rfl,rfl,rfl,rfl,rfl,rfl,rfl,rfl⟩:=zR hLL
 obtain ⟨j,hj⟩:=hok.n
 have hj10:=zBq hj hok.n2
 obtain ⟨pu,hpu⟩:∃ pu:Nat,pub=(pu:Int):=Int.eq_ofNat_of_zero_le hfor.pub
 have hT:GJ p pub vars rows ws true∨GJ p pub vars rows ws false:=by
  have:=htab _ s rfl
  cases s
  ·exact .inr this
  ·exact .inl this
 obtain ⟨dg,hdg⟩:∃ dg,dg=Ye p (pu:Int) vars rows:=⟨_,rfl⟩
 obtain ⟨ch,hch⟩:∃ ch,ch=chC L j pu (Vp real seed) dg l P:=⟨_,rfl⟩
 obtain ⟨pos,hpos⟩:∃ pos,pos=chP L j pu (Vp real seed) dg l P:=⟨_,rfl⟩
 obtain ⟨O1,hO1⟩:∃ O1,O1=chO L j pu (Vp real seed) dg l P:=⟨_,rfl⟩
 have HLe:=Lib.hid (show O1.qs.length≤1000000 by rw [hO1];exact Nat.le_trans (chO_le HRO.out L hok j pu dg l P).1 (by omega))
 have HC1:=Lib.hid (fun h200 w' g F h hF hb=>HP1.out L j hok hj hj10 pu hpu hT h200 w' g F h hF hb)
 have HC2:=Lib.hid (fun h200 w' hb=>HP2.out L j hok hj hj10 pu hpu hT h200 w' hb)
 rw [←hdg,←hch,←hpos,←hO1] at HC1 HC2
 have HPg:=Lib.hid (fun w=>xE L w)
 have HPU:=Lib.hid hpu
 obtain ⟨np,hnp⟩:∃ np,np=pos.length:=⟨_,rfl⟩
 rw [←hnp] at HC1 HC2
 have HNP:=Lib.hid hnp
 rw [←hpu] at HC1 HC2
 have HNL:=Lib.hid (show np≤1000 by
  rw [hnp,hpos]
  unfold chP
  split
  ·rw [JN _ _ _ _ (by have:=hok.nk;have:=hok.k;omega)]
   have:=hok.q2
   omega
  ·simp)
 clear hL hLL hok hj hj10 hn64 HP1 HP2 HR htab hfor hpu hT hdg hch hpos hO1 hnp
 unfold ZH Yz Yg at *
 have hbl:=hbw.alloc hbw.size (.cells #[.int .u64 (L.p:Int), .int .i64 (L.block:Int), .int .i64 (L.queries:Int), .int .i64 (L.k:Int), .int .i64 (L.n:Int), .int .i64 (L.secret:Int), .int .i64 (L.rows:Int), .int .i64 (L.a:Int), .int .i64 (L.b:Int), .int .i64 (L.b:Int), .int .i64 (L.b:Int)] 38)
 have kl:=Blk.new w1 38 #[.int .u64 (L.p:Int), .int .i64 (L.block:Int), .int .i64 (L.queries:Int), .int .i64 (L.k:Int), .int .i64 (L.n:Int), .int .i64 (L.secret:Int), .int .i64 (L.rows:Int), .int .i64 (L.a:Int), .int .i64 (L.b:Int), .int .i64 (L.b:Int), .int .i64 (L.b:Int)]
 have kp:=k2.alloc (.cells #[.int .u64 (L.p:Int), .int .i64 (L.block:Int), .int .i64 (L.queries:Int), .int .i64 (L.k:Int), .int .i64 (L.n:Int), .int .i64 (L.secret:Int), .int .i64 (L.rows:Int), .int .i64 (L.a:Int), .int .i64 (L.b:Int), .int .i64 (L.b:Int), .int .i64 (L.b:Int)] 38)
 have kc:=k1.alloc (.cells #[.int .u64 (L.p:Int), .int .i64 (L.block:Int), .int .i64 (L.queries:Int), .int .i64 (L.k:Int), .int .i64 (L.n:Int), .int .i64 (L.secret:Int), .int .i64 (L.rows:Int), .int .i64 (L.a:Int), .int .i64 (L.b:Int), .int .i64 (L.b:Int), .int .i64 (L.b:Int)] 38)
 clear hbw k1 k2 c2
 have WG:=Lib.hid (show W.heap.size+1<w1.heap.size from l2)
 clear l2
 go_wp2_with fail
 generalize w1.alloc _=w2 at hbl kl kp kc ⊢
 generalize w1.heap.size=gl at kl WG ⊢
 refine (Ug _).mono ?_
 rintro e w3 ⟨rfl,hb3⟩
 replace kl:=kl.below hb3 kl.lt
 replace kp:=kp.below hb3 kp.lt
 replace kc:=kc.below hb3 kc.lt
 replace hbl:=Za hbl hb3
 clear hb3
 have cp:=kp.cell
 go_wp2_with fail
 refine (HF.out _ hbl).mono ?_
 rintro e w4 ⟨⟨fb,rfl⟩,hb4⟩
 replace kl:=kl.below hb4 kl.lt
 replace kp:=kp.below hb4 kp.lt
 replace kc:=kc.below hb4 kc.lt
 replace hbl:=Za hbl hb4
 clear hb4 cp
 cases fb
 ·clear kl kp kc
  go_wp2_with fail
  refine (Ug _).mono ?_
  rintro e wz ⟨rfl,hbz⟩
  go_wp2
  go_ret
  exact ⟨rfl,Za hbl hbz⟩
 by_cases h200:n2≤200
 rotate_left
 ·have d1:decide ((200:Int)<(n2:Int))=true:=decide_eq_true (by omega)
  clear kl kp kc
  go_wp2_with fail
  refine (Ug _).mono ?_
  rintro e wz ⟨rfl,hbz⟩
  go_wp2
  go_ret
  exact ⟨rfl,Za hbl hbz⟩
 have d1:decide ((200:Int)<(n2:Int))=false:=decide_eq_false (by omega)
 have H200:=Lib.hid h200
 clear h200
 have cc:=kc.cell
 go_wp2_with fail
 refine (HBg.out w4).mono ?_
 rintro e w5 ⟨g,F,rfl,h5,hF5,hb5⟩
 have nfl:∀ b,b<w4.heap.size→¬F b:=fun b hb hf=>by have:=hF5 b hf;omega
 have nf0:¬F W.heap.size:=nfl _ kc.lt
 have nf1:¬F (W.heap.size+1):=nfl _ kp.lt
 have nfg:¬F gl:=nfl _ kl.lt
 have HFW:=Lib.hid (show ∀ b,F b→W.heap.size≤b from fun b hb=>Nat.le_trans hbl.size (hF5 b hb))
 replace kl:=kl.below hb5 kl.lt
 replace kp:=kp.below hb5 kp.lt
 replace kc:=kc.below hb5 kc.lt
 replace hbl:=Za hbl hb5
 clear hb5 hF5 nfl cc d1
 obtain ⟨NQ,hNQ⟩:∃ NQ,NQ=w5.heap.size:=⟨_,rfl⟩
 have lq0:W.heap.size<NQ:=by rw [hNQ];exact kc.lt
 have lq1:W.heap.size+1<NQ:=by rw [hNQ];exact kp.lt
 have lqg:gl<NQ:=by rw [hNQ];exact kl.lt
 have HNQ:=Lib.hid hNQ
 have cl:=kl.cell
 have cc:=kc.cell
 have cp:=kp.cell
 have H5:=Lib.hid h5
 have KL:=Lib.hid kl
 have KP:=Lib.hid kp
 have KC:=Lib.hid kc
 have HB:=Lib.hid hbl
 clear hNQ h5 kl kp kc hbl
 go_upto_region 7 with fail
 refine YI (F) (F) (NQ) [2,8,13] [0,1,3,4,5,6,7,2,8,9,10,11] [(12,46,#[.int .u64 0, .int .u64 0, .int .u64 0])] [13,14] (by kernel_rfl) (List.forall_mem_cons.2 ⟨⟨_,rfl,rfl,fun a w=>by go_simp <;> rfl⟩,List.forall_mem_nil _⟩) (by kernel_rfl) ?_
 refine Yp ?_
 intro Wc HWc hacc
 have hFT:Hid (X5 F NQ F Wc):=Lib.hid (by rw [HWc.out,HNQ.out];exact ⟨Nat.le_refl _,H5.out.lt,fun _ _ h=>h⟩)
 have H8:=Lib.hid (show OrcAt Wc g (Vp real seed) F by rw [HWc.out];exact H5.out.drew)
 have HB2:=Lib.hid (show Below W.heap.size W Wc by rw [HWc.out];exact HB.out.drew)
 have KL2:=Lib.hid (show Blk Wc _ _ _ by rw [HWc.out];exact KL.out.drew)
 have KP2:=Lib.hid (show Blk Wc _ _ _ by rw [HWc.out];exact KP.out.drew)
 have KC2:=Lib.hid (show Blk Wc _ _ _ by rw [HWc.out];exact KC.out.drew)
 clear HWc H5 KL KP KC HB
 repeat (first | (refine ZV rfl rfl (fun _ _ _ h=>h) ?_;simp only [Act.put,zLa,zLb,zLc]) | (refine ZJ (v:=?_) rfl rfl hFT (fun _ _ _ h=>h) ?_ ?_;rotate_left;(· (intro w' hR;(first | have hcells:=Zi ((Zb F NQ).trans _ _ _ hacc hR) | skip);go_simp;try with_reducible rfl));simp only [Act.put,zLa,zLb,zLc]))
 refine Y0 (f:=?_) (vals:=?_) rfl rfl rfl hFT ?_ (fun wF hxF=>?_)
 rotate_left 3
 replace H8:=Lib.hid (H8.out.below hxF)
 replace HB2:=Lib.hid (Za HB2.out hxF)
 replace KL2:=Lib.hid (KL2.out.below hxF KL2.out.lt)
 replace KP2:=Lib.hid (KP2.out.below hxF KP2.out.lt)
 replace KC2:=Lib.hid (KC2.out.below hxF KC2.out.lt)
 replace hacc:=(Zb F NQ).trans _ _ _ hacc (Zj hxF hFT.out.size)
 replace hFT:=Lib.hid (Zo hFT.out hxF)
 refine (HPg.out wF).mono ?_
 rotate_left
 ·intro w_;go_simp <;> rfl
 rintro e wA ⟨rfl,hbx⟩
 clear hxF
 refine ⟨_,F,rfl,Zp hbx,(H8.out.below hbx).lt,?_⟩
 replace hacc:=(Zb F NQ).trans _ _ _ hacc (Z0 hFT.out (Zp hbx))
 replace hFT:=Lib.hid (Z1 hFT.out (Zp hbx) ((H8.out.below hbx).lt))
 simp only [Act.put,zLa,zLb,zLc]
 have H9:=Lib.hid (H8.out.below hbx)
 have HB3:=Lib.hid (Za HB2.out hbx)
 have KL3:=Lib.hid (KL2.out.below hbx KL2.out.lt)
 have KP3:=Lib.hid (KP2.out.below hbx KP2.out.lt)
 have KC3:=Lib.hid (KC2.out.below hbx KC2.out.lt)
 clear hbx H8 HB2 KL2 KP2 KC2
 repeat (first | (refine ZV rfl rfl (fun _ _ _ h=>h) ?_;simp only [Act.put,zLa,zLb,zLc]) | (refine ZJ (v:=?_) rfl rfl hFT (fun _ _ _ h=>h) ?_ ?_;rotate_left;(· (intro w' hR;(first | have hcells:=Zi ((Zb F NQ).trans _ _ _ hacc hR) | skip);go_simp;try with_reducible rfl));simp only [Act.put,zLa,zLb,zLc]))
 refine Y0 (f:=?_) (vals:=?_) rfl rfl rfl hFT ?_ (fun wF hxF=>?_)
 rotate_left 3
 replace H9:=Lib.hid (H9.out.below hxF)
 replace HB3:=Lib.hid (Za HB3.out hxF)
 replace KL3:=Lib.hid (KL3.out.below hxF KL3.out.lt)
 replace KP3:=Lib.hid (KP3.out.below hxF KP3.out.lt)
 replace KC3:=Lib.hid (KC3.out.below hxF KC3.out.lt)
 replace hacc:=(Zb F NQ).trans _ _ _ hacc (Zj hxF hFT.out.size)
 replace hFT:=Lib.hid (Zo hFT.out hxF)
 refine (HC1.out H200.out wF g F H9.out HFW.out HB3.out).mono ?_
 rotate_left
 ·intro w_;go_simp <;> rfl
 rintro e wB ⟨Ap,dd,F2,rfl,h2,m2,ow2⟩
 clear hxF
 refine ⟨_,F2,rfl,m2,h2.lt,?_⟩
 replace hacc:=(Zb F NQ).trans _ _ _ hacc (Z0 hFT.out (m2))
 replace hFT:=Lib.hid (Z1 hFT.out (m2) (h2.lt))
 simp only [Act.put,zLa,zLb,zLc]
 have H10:=Lib.hid h2
 have HB4:=Lib.hid (Uc HB3.out m2 HFW.out)
 have KL4:=Lib.hid (KL3.out.moved m2 nfg)
 have KP4:=Lib.hid (KP3.out.moved m2 nf1)
 have KC4:=Lib.hid (KC3.out.moved m2 nf0)
 have OW:=Lib.hid ow2
 have NX0:=Lib.hid (And.intro (Yu m2 KC3.out.lt nf0) (And.intro (Yu m2 KP3.out.lt nf1) (Yu m2 KL3.out.lt nfg)))
 clear h2 m2 ow2 H9 HB3 KL3 KP3 KC3
 have nh0:¬F2 W.heap.size:=NX0.out.1
 have nh1:¬F2 (W.heap.size+1):=NX0.out.2.1
 have nhg:¬F2 gl:=NX0.out.2.2
 repeat (first | (refine ZV rfl rfl (fun _ _ _ h=>h) ?_;simp only [Act.put,zLa,zLb,zLc]) | (refine ZJ (v:=?_) rfl rfl hFT (fun _ _ _ h=>h) ?_ ?_;rotate_left;(· (intro w' hR;(first | have hcells:=Zi ((Zb F NQ).trans _ _ _ hacc hR) | skip);go_simp;try with_reducible rfl));simp only [Act.put,zLa,zLb,zLc]))
 refine Xp [(some 11,12)] rfl hFT (fun gsE wE hxE hflE=>?_)
 have fE12:=hflE.blk _ (.head _) rfl
 clear hflE
 unfold Jq VY
 simp only [List.foldl]
 dsimp only at fE12
 generalize gsE 12=g12 at fE12  ⊢
 obtain ⟨k12,hg12,hv12⟩:=fE12
 replace H10:=Lib.hid (H10.out.below hxE)
 replace HB4:=Lib.hid (Za HB4.out hxE)
 replace KL4:=Lib.hid (KL4.out.below hxE KL4.out.lt)
 replace KP4:=Lib.hid (KP4.out.below hxE KP4.out.lt)
 replace KC4:=Lib.hid (KC4.out.below hxE KC4.out.lt)
 replace OW:=Lib.hid (ZM OW.out hxE (Nat.le_refl _))
 replace hacc:=(Zb F NQ).trans _ _ _ hacc (Zj hxE hFT.out.size)
 replace hFT:=Lib.hid (Zo hFT.out hxE)
 try simp only [Act.put,zLa,zLb,zLc]
 have OWE:=Lib.hid (YM OW.out k12 (by decide))
 clear hxE
 have c12:=k12.cell
 have f12:=k12.frozen
 repeat (first | (refine Zh (Zb F NQ) rfl rfl (fun _ _ _ h=>h) ?_;simp only [Act.put,zLa,zLb,zLc]) | (refine Ze (v:=?_) (Zb F NQ) rfl rfl (fun _ _ _ h=>h) ?_ ?_;rotate_left;(· (intro w' hR;(first | have hcells:=Zi ((Zb F NQ).trans _ _ _ hacc hR) | skip);go_simp;try with_reducible rfl));simp only [Act.put,zLa,zLb,zLc]))
 refine Zs (Zb F NQ) rfl rfl rfl ?_
 go_simp
 refine ⟨Zj (Ys hg12 [.int .u64 (ch.al:Int), .int .u64 (ch.rh:Int), .int .u64 (ch.be:Int)] 0 _) (Nat.le_refl _),?_⟩
 try simp only [Act.put,zLa,zLb,zLc]
 have x12:=Zn [.int .u64 (ch.al:Int), .int .u64 (ch.rh:Int), .int .u64 (ch.be:Int)] k12 rfl
 have xl:=(Zg (g:=g12) (b:=gl) (by omega) [.int .u64 (ch.al:Int), .int .u64 (ch.rh:Int), .int .u64 (ch.be:Int)] 0 wE).trans KL4.out
 have xp:=(Zg (g:=g12) (b:=W.heap.size+1) (by omega) [.int .u64 (ch.al:Int), .int .u64 (ch.rh:Int), .int .u64 (ch.be:Int)] 0 wE).trans KP4.out
 have xc:=(Zg (g:=g12) (b:=W.heap.size) (by omega) [.int .u64 (ch.al:Int), .int .u64 (ch.rh:Int), .int .u64 (ch.be:Int)] 0 wE).trans KC4.out
 have xb:=Zq (xs:=[.int .u64 (ch.al:Int), .int .u64 (ch.rh:Int), .int .u64 (ch.be:Int)]) (g:=g12) HB4.out (by omega)
 have xo:=ZT OW.out (u:=Zm wE (g12) [.int .u64 (ch.al:Int), .int .u64 (ch.rh:Int), .int .u64 (ch.be:Int)] 0) fun b hb=>Zg (fun e=>OWE.out b hb (by rw [e])) _ 0 wE
 have xq:=((H10.out.set hv12 (.int .u64 (ch.al:Int)) (i:=0)).set hv12 (.int .u64 (ch.rh:Int)) (i:=1)).set hv12 (.int .u64 (ch.be:Int)) (i:=2)
 simp only [Zm,Nat.zero_add,Nat.reduceAdd] at x12 xl xp xc xb xo xq
 generalize World.setCell (World.setCell (World.setCell (wE) _ _) _ _) _ _=wG at x12 xl xp xc xb xo xq ⊢
 clear c12 f12 k12 H10 HB4 KL4 KP4 KC4 OW OWE hacc hFT
 have hacc:=(Zb F NQ).refl wG
 repeat (first | (refine Zh (Zb F NQ) rfl rfl (fun _ _ _ h=>h) ?_;simp only [Act.put,zLa,zLb,zLc]) | (refine Ze (v:=?_) (Zb F NQ) rfl rfl (fun _ _ _ h=>h) ?_ ?_;rotate_left;(· (intro w' hR;(first | have hcells:=Zi ((Zb F NQ).trans _ _ _ hacc hR) | skip);go_simp;try with_reducible rfl));simp only [Act.put,zLa,zLb,zLc]))
 refine Zt ?_
 have x12y:Blk wG g12 _ _:=x12
 have xly:Blk wG gl _ _:=xl
 have xpy:Blk wG (W.heap.size+1) _ _:=xp
 have xcy:Blk wG W.heap.size _ _:=xc
 clear x12 xl xp xc hacc cl cc cp lq0 lq1 lqg
 obtain ⟨NZ,hNZ⟩:∃ NZ,NZ=wG.heap.size:=⟨_,rfl⟩
 have lq0:W.heap.size<NZ:=by rw [hNZ];exact xcy.lt
 have lq1:W.heap.size+1<NZ:=by rw [hNZ];exact xpy.lt
 have lqg:gl<NZ:=by rw [hNZ];exact xly.lt
 have lq12:g12<NZ:=by rw [hNZ];exact x12y.lt
 have nx0:¬NoX W.heap.size:=id
 have nx1:¬NoX (W.heap.size+1):=id
 have nxg:¬NoX gl:=id
 have nx12:¬NoX g12:=id
 have HNZ:=Lib.hid hNZ
 have HF2L:=Lib.hid (show ∀ b,F2 b→b<NZ by rw [hNZ];exact xq.lt)
 have cl:=xly.cell
 have cc:=xcy.cell
 have cp:=xpy.cell
 have K12:=Lib.hid x12y
 have KL:=Lib.hid xly
 have KP:=Lib.hid xpy
 have KC:=Lib.hid xcy
 have HB:=Lib.hid xb
 have OW:=Lib.hid xo
 have HQ:=Lib.hid xq
 clear hNZ x12y xly xpy xcy xb xo xq
 go_upto_region 8 with fail
 refine YI (NoX) (NoX) (NZ) [1,8,15,17] [0,2,3,4,5,6,7,1,8,9,10,11,12] [(13,52,#[.int .u64 0, .int .u64 0, .int .u64 0]),(14,58,#[.bool false, .int .u64 0, .int .i64 0, .slice none 0 0, .slice none 0 0, .slice none 0 0])] [15,16,17] (by kernel_rfl) (List.forall_mem_cons.2 ⟨⟨_,rfl,rfl,fun a w=>by go_simp <;> rfl⟩,List.forall_mem_cons.2 ⟨⟨_,rfl,rfl,fun a w=>by go_simp <;> rfl⟩,List.forall_mem_nil _⟩⟩) (by kernel_rfl) ?_
 refine Yp ?_
 intro Wc HWc hacc
 have hFT:Hid (X5 NoX NZ NoX Wc):=Lib.hid (by rw [HWc.out,HNZ.out];exact ⟨Nat.le_refl _,fun _ h=>h.elim,fun _ _ h=>h⟩)
 have HB2:=Lib.hid (show Below W.heap.size W Wc by rw [HWc.out];exact HB.out.drew)
 have KL2:=Lib.hid (show Blk Wc _ _ _ by rw [HWc.out];exact KL.out.drew)
 have KP2:=Lib.hid (show Blk Wc _ _ _ by rw [HWc.out];exact KP.out.drew)
 have K122:=Lib.hid (show Blk Wc _ _ _ by rw [HWc.out];exact K12.out.drew)
 have HQ2:=Lib.hid (show OrcAt Wc g O1 F2 by rw [HWc.out];exact HQ.out.drew)
 have OW2:=Lib.hid (show Wc.ownsRow _ _ _ _ _ _ by rw [HWc.out];exact ZT OW.out fun _ _=>rfl)
 clear HWc HB KL KP KC K12 HQ OW
 repeat (first | (refine ZV rfl rfl (fun _ _ _ h=>h) ?_;simp only [Act.put,zLa,zLb,zLc]) | (refine ZJ (v:=?_) rfl rfl hFT (fun _ _ _ h=>h) ?_ ?_;rotate_left;(· (intro w' hR;(first | have hcells:=Zi ((Zb NoX NZ).trans _ _ _ hacc hR) | skip);go_simp;try with_reducible rfl));simp only [Act.put,zLa,zLb,zLc]))
 refine Y0 (f:=?_) (vals:=?_) rfl rfl rfl hFT ?_ (fun wF hxF=>?_)
 rotate_left 3
 replace HB2:=Lib.hid (Za HB2.out hxF)
 replace KL2:=Lib.hid (KL2.out.below hxF KL2.out.lt)
 replace KP2:=Lib.hid (KP2.out.below hxF KP2.out.lt)
 replace K122:=Lib.hid (K122.out.below hxF K122.out.lt)
 replace HQ2:=Lib.hid (HQ2.out.below hxF)
 replace OW2:=Lib.hid (ZM OW2.out hxF (Nat.le_refl _))
 replace hacc:=(Zb NoX NZ).trans _ _ _ hacc (Zj hxF hFT.out.size)
 replace hFT:=Lib.hid (Zo hFT.out hxF)
 refine (HOr.out wF).mono ?_
 rotate_left
 ·intro w_;go_simp <;> rfl
 rintro e wC ⟨rfl,hbx⟩
 clear hxF
 refine ⟨_,YU NoX wF wC,rfl,ZU hbx,YZ hFT.out hbx,?_⟩
 replace hacc:=(Zb NoX NZ).trans _ _ _ hacc (Z0 hFT.out (ZU hbx))
 replace hFT:=Lib.hid (Z1 hFT.out (ZU hbx) (YZ hFT.out hbx))
 simp only [Act.put,zLa,zLb,zLc]
 have HB3:=Lib.hid (Za HB2.out hbx)
 have KL3:=Lib.hid (KL2.out.below hbx KL2.out.lt)
 have KP3:=Lib.hid (KP2.out.below hbx KP2.out.lt)
 have K123:=Lib.hid (K122.out.below hbx K122.out.lt)
 have HQ3:=Lib.hid (HQ2.out.below hbx)
 have OW3:=Lib.hid (ZM OW2.out hbx (Nat.le_refl _))
 have lF0:W.heap.size+1<wF.heap.size:=KP2.out.lt
 have lFg:gl<wF.heap.size:=KL2.out.lt
 have nv0:¬YU NoX wF wC W.heap.size:=fun e=>e.elim (fun e=>e.elim) fun e=>by have:=e.1;omega
 have nv1:¬YU NoX wF wC (W.heap.size+1):=fun e=>e.elim (fun e=>e.elim) fun e=>by have:=e.1;omega
 have nvg:¬YU NoX wF wC gl:=fun e=>e.elim (fun e=>e.elim) fun e=>by have:=e.1;omega
 generalize YU NoX wF wC=V3 at hFT nv0 nv1 nvg ⊢
 clear lF0 lFg
 clear hbx HB2 KL2 KP2 K122 HQ2 OW2
 repeat (first | (refine ZV rfl rfl (fun _ _ _ h=>h) ?_;simp only [Act.put,zLa,zLb,zLc]) | (refine ZJ (v:=?_) rfl rfl hFT (fun _ _ _ h=>h) ?_ ?_;rotate_left;(· (intro w' hR;(first | have hcells:=Zi ((Zb NoX NZ).trans _ _ _ hacc hR) | skip);go_simp;try with_reducible rfl));simp only [Act.put,zLa,zLb,zLc]))
 refine Y0 (f:=?_) (vals:=?_) rfl rfl rfl hFT ?_ (fun wF hxF=>?_)
 rotate_left 3
 replace HB3:=Lib.hid (Za HB3.out hxF)
 replace KL3:=Lib.hid (KL3.out.below hxF KL3.out.lt)
 replace KP3:=Lib.hid (KP3.out.below hxF KP3.out.lt)
 replace K123:=Lib.hid (K123.out.below hxF K123.out.lt)
 replace HQ3:=Lib.hid (HQ3.out.below hxF)
 replace OW3:=Lib.hid (ZM OW3.out hxF (Nat.le_refl _))
 replace hacc:=(Zb NoX NZ).trans _ _ _ hacc (Zj hxF hFT.out.size)
 replace hFT:=Lib.hid (Zo hFT.out hxF)
 refine (HC2.out H200.out wF HB3.out).mono ?_
 rotate_left
 ·intro w_;go_simp <;> rfl
 rintro e wD ⟨Av,cv,A4,n4,c4,rfl,ow4,hd4,hbx⟩
 clear hxF
 refine ⟨_,YU V3 wF wD,rfl,ZU hbx,YZ hFT.out hbx,?_⟩
 replace hacc:=(Zb NoX NZ).trans _ _ _ hacc (Z0 hFT.out (ZU hbx))
 replace hFT:=Lib.hid (Z1 hFT.out (ZU hbx) (YZ hFT.out hbx))
 simp only [Act.put,zLa,zLb,zLc]
 obtain ⟨KM,hKM⟩:∃ KM:Nat→Prop,KM=fun b=>(False∨wF.heap.size≤b)∧b<wD.heap.size:=⟨_,rfl⟩
 have hd2:=V7 hd4
 rw [←hKM] at hd2
 have HD4:=Lib.hid hd2
 have HK3:=Lib.hid (show ∀ b,KM b→YU V3 wF wD b from fun b hb=>by
  rw [hKM] at hb
  exact .inr ⟨hb.1.elim (fun e=>e.elim) id,hb.2⟩)
 have HB4:=Lib.hid (Za HB3.out hbx)
 have K124:=Lib.hid (K123.out.below hbx K123.out.lt)
 have HQ4:=Lib.hid (HQ3.out.below hbx)
 have OW4:=Lib.hid (ZM OW3.out hbx (Nat.le_refl _))
 have OV4:=Lib.hid ow4
 generalize YU V3 wF wD=V4 at hFT HK3 ⊢
 clear hd4 hd2 hbx HB3 KL3 KP3 K123 HQ3 OW3 hKM ow4
 repeat (first | (refine ZV rfl rfl (fun _ _ _ h=>h) ?_;simp only [Act.put,zLa,zLb,zLc]) | (refine ZJ (v:=?_) rfl rfl hFT (fun _ _ _ h=>h) ?_ ?_;rotate_left;(· (intro w' hR;(first | have hcells:=Zi ((Zb NoX NZ).trans _ _ _ hacc hR) | skip);go_simp;try with_reducible rfl));simp only [Act.put,zLa,zLb,zLc]))
 refine Xp [(some 13,13),(some 15,14)] rfl hFT (fun gsE wE hxE hflE=>?_)
 have fE13:=hflE.blk _ (.head _) rfl
 have fE14:=hflE.blk _ (.tail _ (.head _)) rfl
 have n13_14:=hflE.dif _ (.head _) _ (.tail _ (.head _)) rfl rfl (by decide)
 clear hflE
 unfold Jq VY
 simp only [List.foldl]
 dsimp only at fE13 fE14 n13_14
 generalize gsE 13=g13 at fE13 n13_14 ⊢
 obtain ⟨k13,hg13,hv13⟩:=fE13
 generalize gsE 14=g14 at fE14 n13_14 ⊢
 obtain ⟨k14,hg14,hv14⟩:=fE14
 replace HB4:=Lib.hid (Za HB4.out hxE)
 replace K124:=Lib.hid (K124.out.below hxE K124.out.lt)
 replace HQ4:=Lib.hid (HQ4.out.below hxE)
 replace OW4:=Lib.hid (ZM OW4.out hxE (Nat.le_refl _))
 replace OV4:=Lib.hid (ZM OV4.out hxE (Nat.le_refl _))
 replace HD4:=Lib.hid (Zw HD4.out (Zz hxE))
 replace hacc:=(Zb NoX NZ).trans _ _ _ hacc (Zj hxE hFT.out.size)
 replace hFT:=Lib.hid (Zo hFT.out hxE)
 try simp only [Act.put,zLa,zLb,zLc]
 have nK13:¬KM g13:=fun e=>hv13 (HK3.out _ e)
 have nK14:¬KM g14:=fun e=>hv14 (HK3.out _ e)
 have NK13:=Lib.hid nK13
 have NK14:=Lib.hid nK14
 have OE1:=Lib.hid (YM OW4.out k13 (by decide))
 have OE2:=Lib.hid (YM OV4.out k13 (by decide))
 have OE3:=Lib.hid (YM OW4.out k14 (by decide))
 have OE4:=Lib.hid (YM OV4.out k14 (by decide))
 have q13:¬F2 g13:=fun e=>by have:=HF2L.out _ e;omega
 have q14:¬F2 g14:=fun e=>by have:=HF2L.out _ e;omega
 clear nK13 nK14 hxE
 have c13:=k13.cell
 have f13:=k13.frozen
 repeat (first | (refine Zh (Zb NoX NZ) rfl rfl (fun _ _ _ h=>h) ?_;simp only [Act.put,zLa,zLb,zLc]) | (refine Ze (v:=?_) (Zb NoX NZ) rfl rfl (fun _ _ _ h=>h) ?_ ?_;rotate_left;(· (intro w' hR;(first | have hcells:=Zi ((Zb NoX NZ).trans _ _ _ hacc hR) | skip);go_simp;try with_reducible rfl));simp only [Act.put,zLa,zLb,zLc]))
 refine Zs (Zb NoX NZ) rfl rfl rfl ?_
 go_simp
 refine ⟨Zj (Ys hg13 [.int .u64 (ch.al:Int), .int .u64 (ch.rh:Int), .int .u64 (ch.be:Int)] 0 _) (Nat.le_refl _),?_⟩
 try simp only [Act.put,zLa,zLb,zLc]
 have x13:=Zn [.int .u64 (ch.al:Int), .int .u64 (ch.rh:Int), .int .u64 (ch.be:Int)] k13 rfl
 have x14:=(Zg (g:=g13) (b:=g14) (fun e=>n13_14 e.symm) [.int .u64 (ch.al:Int), .int .u64 (ch.rh:Int), .int .u64 (ch.be:Int)] 0 wE).trans k14
 have x12:=(Zg (g:=g13) (b:=g12) (by omega) [.int .u64 (ch.al:Int), .int .u64 (ch.rh:Int), .int .u64 (ch.be:Int)] 0 wE).trans K124.out
 have xb:=Zq (xs:=[.int .u64 (ch.al:Int), .int .u64 (ch.rh:Int), .int .u64 (ch.be:Int)]) (g:=g13) HB4.out (by omega)
 have xd:=Zw HD4.out (Yc (g:=g13) NK13.out [.int .u64 (ch.al:Int), .int .u64 (ch.rh:Int), .int .u64 (ch.be:Int)] wE)
 have xo:=ZT OW4.out (u:=Zm wE (g13) [.int .u64 (ch.al:Int), .int .u64 (ch.rh:Int), .int .u64 (ch.be:Int)] 0) fun b hb=>Zg (fun e=>OE1.out b hb (by rw [e])) _ 0 wE
 have xv:=ZT OV4.out (u:=Zm wE (g13) [.int .u64 (ch.al:Int), .int .u64 (ch.rh:Int), .int .u64 (ch.be:Int)] 0) fun b hb=>Zg (fun e=>OE2.out b hb (by rw [e])) _ 0 wE
 have xq:=((HQ4.out.set q13 (.int .u64 (ch.al:Int)) (i:=0)).set q13 (.int .u64 (ch.rh:Int)) (i:=1)).set q13 (.int .u64 (ch.be:Int)) (i:=2)
 simp only [Zm,Nat.zero_add,Nat.reduceAdd] at x13 x14 x12 xb xd xo xv xq
 generalize World.setCell (World.setCell (World.setCell (wE) _ _) _ _) _ _=wG2 at x13 x14 x12 xb xd xo xv xq ⊢
 have X13:=Lib.hid x13
 have X12:=Lib.hid x12
 have XB:=Lib.hid xb
 have XD:=Lib.hid xd
 have XO:=Lib.hid xo
 have XV:=Lib.hid xv
 have XQ:=Lib.hid xq
 have y14:Blk wG2 g14 _ _:=x14
 have c14:=y14.cell
 have f14:=y14.frozen
 clear c13 f13 k13 k14 x13 x14 x12 xb xd xo xv xq HB4 K124 HQ4 OW4 OV4 HD4 hacc hFT
 have hacc:=(Zb NoX NZ).refl wG2
 repeat (first | (refine Zh (Zb NoX NZ) rfl rfl (fun _ _ _ h=>h) ?_;simp only [Act.put,zLa,zLb,zLc]) | (refine Ze (v:=?_) (Zb NoX NZ) rfl rfl (fun _ _ _ h=>h) ?_ ?_;rotate_left;(· (intro w' hR;(first | have hcells:=Zi ((Zb NoX NZ).trans _ _ _ hacc hR) | skip);go_simp;try with_reducible rfl));simp only [Act.put,zLa,zLb,zLc]))
 refine Zs (Zb NoX NZ) rfl rfl rfl ?_
 go_simp
 refine ⟨Zj (Ys hg14 [.bool O1.ideal, .int .u64 (O1.st:Int), .int .i64 (O1.dr:Int), .slice A4 n4 c4, .slice none 0 0, .slice none 0 0] 0 _) (Nat.le_refl _),?_⟩
 try simp only [Act.put,zLa,zLb,zLc]
 refine Zt ?_
 have z14:=Zn [.bool O1.ideal, .int .u64 (O1.st:Int), .int .i64 (O1.dr:Int), .slice A4 n4 c4, .slice none 0 0, .slice none 0 0] y14 rfl
 have z13:=(Zg (g:=g14) (b:=g13) n13_14 [.bool O1.ideal, .int .u64 (O1.st:Int), .int .i64 (O1.dr:Int), .slice A4 n4 c4, .slice none 0 0, .slice none 0 0] 0 wG2).trans X13.out
 have z12:=(Zg (g:=g14) (b:=g12) (by omega) [.bool O1.ideal, .int .u64 (O1.st:Int), .int .i64 (O1.dr:Int), .slice A4 n4 c4, .slice none 0 0, .slice none 0 0] 0 wG2).trans X12.out
 have zb:=Zq (xs:=[.bool O1.ideal, .int .u64 (O1.st:Int), .int .i64 (O1.dr:Int), .slice A4 n4 c4, .slice none 0 0, .slice none 0 0]) (g:=g14) XB.out (by omega)
 have zd:=Zw XD.out (Yc (g:=g14) NK14.out [.bool O1.ideal, .int .u64 (O1.st:Int), .int .i64 (O1.dr:Int), .slice A4 n4 c4, .slice none 0 0, .slice none 0 0] wG2)
 have zo:=ZT XO.out (u:=Zm wG2 (g14) [.bool O1.ideal, .int .u64 (O1.st:Int), .int .i64 (O1.dr:Int), .slice A4 n4 c4, .slice none 0 0, .slice none 0 0] 0) fun b hb=>Zg (fun e=>OE3.out b hb (by rw [e])) _ 0 wG2
 have zv:=ZT XV.out (u:=Zm wG2 (g14) [.bool O1.ideal, .int .u64 (O1.st:Int), .int .i64 (O1.dr:Int), .slice A4 n4 c4, .slice none 0 0, .slice none 0 0] 0) fun b hb=>Zg (fun e=>OE4.out b hb (by rw [e])) _ 0 wG2
 have zq:=(((((XQ.out.set q14 (.bool O1.ideal) (i:=0)).set q14 (.int .u64 (O1.st:Int)) (i:=1)).set q14 (.int .i64 (O1.dr:Int)) (i:=2)).set q14 (.slice A4 n4 c4) (i:=3)).set q14 (.slice none 0 0) (i:=4)).set q14 (.slice none 0 0) (i:=5)
 simp only [Zm,Nat.zero_add,Nat.reduceAdd] at z14 z13 z12 zb zd zo zv zq
 generalize World.setCell (World.setCell (World.setCell (World.setCell (World.setCell (World.setCell (wG2) _ _) _ _) _ _) _ _) _ _) _ _=wZ at z14 z13 z12 zb zd zo zv zq ⊢
 clear X13 X12 XB XD XO XV XQ y14 c14 f14 hacc OE1 OE2 OE3 OE4
 have z14y:Blk wZ g14 _ _:=z14
 have z13y:Blk wZ g13 _ _:=z13
 have z12y:Blk wZ g12 _ _:=z12
 clear z14 z13 z12
 have ca:=z12y.cell
 have cb:=z13y.cell
 have l12:=z12y.lt
 have l13:=z13y.lt
 obtain ⟨-,-,-,hra,-⟩:=yk zo
 obtain ⟨-,-,-,hrv,-⟩:=yk zv
 have K14:=Lib.hid z14y
 have HB:=Lib.hid zb
 have HD:=Lib.hid zd
 have HQ:=Lib.hid zq
 have hnl:=HNL.out
 clear z14y z13y z12y zb zd zq zo zv cl cc cp lq0 lq1 lqg lq12
 go_wp2_with fail
 clear ca cb l12 l13
 go_loopw [87] (fun y wr=>∃ i:Nat,i≤np∧y= .int .i64 (i:Int)∧Below wZ.heap.size wZ wr) (fun y _=>np-(intOf y).toNat)
 case atStart=>exact ⟨0,Nat.zero_le _,rfl,Below.refl _ _⟩
 case round =>
  obtain ⟨i,hi,rfl,hbr⟩:=hrel
  by_cases hlt:i<np
  ·have g1:(0:Int)≤(i:Int):=by omega
   have g2:(i:Int)<(np:Int):=by omega
   obtain ⟨b1,q1,e1,lb1,hc1⟩:=Kb (hra.below hbr) (by omega)
   obtain ⟨b2,q2,e2,lb2,hc2⟩:=Kb (hrv.below hbr) (by omega)
   subst e1 e2
   have a1:=hc1 i hlt
   have a2:=hc2 i hlt
   obtain ⟨u,hu⟩:∃ u:Nat,u=pos.getD i 0:=⟨_,rfl⟩
   rw [show (I64 (Xe pos))[i]?=some (.int .i64 (u:Int)) by rw [hu];exact zE1 (by rw [←HNP.out];exact hlt)] at a1 a2
   have HLT:=Lib.hid hlt
   have HBR:=Lib.hid hbr
   clear hc1 hc2 hu hlt hbr hra hrv
   go_wp2_with fail
   refine Zx (Yj) [] [0,1,2,3,4,5,6,7,8] (by kernel_rfl) (by kernel_rfl) ?_
   refine ZY (later_moves) ?_
   intro Wc HWc hacc
   have HB3:=Lib.hid (show Below wZ.heap.size wZ Wc by rw [HWc.out];exact HBR.out.drew)
   clear HWc
   repeat (first | (refine Zh (later_moves) rfl rfl (fun _ _ _ h=>h) ?_;simp only [Act.put,zLa,zLb,zLc]) | (refine Ze (v:=?_) (later_moves) rfl rfl (fun _ _ _ h=>h) ?_ ?_;rotate_left;(· (intro w' hR;(first | have hcells:=Zd ((later_moves).trans _ _ _ hacc hR) | skip);go_simp;try with_reducible rfl));simp only [Act.put,zLa,zLb,zLc]))
   refine Zt ?_
   clear hacc a1 a2
   go_wp2
   go_roundw
   case rel=>exact ⟨i+1,HLT.out,by go_num,HB3.out⟩
   case measure=>have:=HLT.out;simp [intOf];omega
  ·obtain rfl:i=np:=by omega
   have k14:=K14.out.below hbr K14.out.lt
   have c14:=k14.cell
   have HA:=Lib.hid (zBo (HQ.out.below hbr) HLe.out A4 n4 c4 (xW HD.out (Zz hbr)))
   have HBF:=Lib.hid (Za HB.out hbr)
   unfold Yg at HA
   clear hbr hra hrv hlt
   go_wp2_with fail
   refine HA.out.mono ?_
   rintro e wy ⟨rfl,hby⟩
   go_wp2
   go_ret
   exact ⟨rfl,Za HBF.out hby⟩
end Go.Proofs.YtdhhdplholkmdaaGreat
