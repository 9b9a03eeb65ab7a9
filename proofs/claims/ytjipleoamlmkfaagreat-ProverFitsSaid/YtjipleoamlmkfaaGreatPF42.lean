/- A part of the proof. No condition. -/
import Derived.Test.YtjipleoamlmkfaaGreatProg
import Derived.Test.YtjipleoamlmkfaaGreatPF41

set_option maxRecDepth 100000
set_option maxHeartbeats 8000000
set_option linter.unusedVariables false
set_option linter.unusedSimpArgs false
namespace Go.Proofs.YtjipleoamlmkfaaGreat
open Go.RowKit Go.Maps
theorem yS (O:La) (st ct root:Nat):(ve ⟨O,st,ct⟩ root).O=jc (jc (jc (jc O 18 [st,2,root]) 19 [Kc O 18 [st,2,root],0]) 19 [Kc O 18 [st,2,root],1]) 19 [Kc O 18 [st,2,root],2]:=rfl
theorem PE {O:La} {k:Nat} (h:Qc O k) (st ct root:Nat):Qc (ve ⟨O,st,ct⟩ root).O (k+4):=by
 rw [yS];exact Wl (Wl (Wl (Wl h 18 _) 19 _) 19 _) 19 _
theorem cQ {w:World} {g:Nat} {O:La} {F K:Nat -> Prop} (h:OrcAt w g O F) (L:Va) (j:Nat) (hL:Vc L) (hn:L.n=2^j) (hj:j <= 10) (Lb:L.p<18446744073709551616) (p:Nat) (pub:Nat) (vars:Int) (T B:Option Addr) (R cT m d:Nat) (rows:List Ya) (l:List Nat) (P:Ce) (S:PS)
  (hr:RSl 3 Md w [.slice T R cT] rows) (hD:Du p (pub:Int) vars rows) (Ia:Gb p (pub:Int) vars rows=true) (hl:RWd w [.slice B m d] l) (hP:Hd K w fun u=>Xg u P S) (hK:∀ b,K b -> ¬F b) (hO:Qc O 700000)
  (hv:Bj L j P=true) (hm:m=pub) (fw:m <= 90000) (Za:l.all (fun x=>decide (x<L.p))=true) (hlen:(P.code++P.linear++P.quad).length <= 100000) (fB:P.root<18446744073709551616) :
  Calls Tryz.prog 16 #[.pointer (some ⟨g,0,none⟩), .agg (Ua L),Ib p (pub:Int) vars (.slice T R cT), .slice B m d, .agg (Jc P S)] w fun e w' =>
   ∃ gr dd F',e= .returned (.tuple #[.agg #[.int .u64 ((tk (ef O L (pd p (pub:Int) vars rows) l) L.p P.root).al:Int), .int .u64 ((tk (ef O L (pd p (pub:Int) vars rows) l) L.p P.root).rh:Int), .int .u64 ((tk (ef O L (pd p (pub:Int) vars rows) l) L.p P.root).be:Int)], .slice (some ⟨gr,0,none⟩) L.queries dd]) /\
    OrcAt w' g (Li (ve (ef O L (pd p (pub:Int) vars rows) l) P.root) (P.code++P.linear++P.quad) L.queries) F' /\ Moved F F' w w' /\
    w'.ownsRow w.heap.size 3 1 (.slice (some ⟨gr,0,none⟩) L.queries dd) L.queries (sg (Hh (Zr (ve (ef O L (pd p (pub:Int) vars rows) l) P.root) (P.code++P.linear++P.quad) L.n L.queries))) /\ ¬F' gr:=by
 obtain ⟨kl,kt,kp,kr,aa,Ra⟩:=Hy w 68 25 46 65 (Ua L) #[.int .u64 p, .int .i64 pub, .int .i64 vars, .slice T R cT] (Jc P S) #[.int .u64 0, .int .u64 0, .int .u64 0];have HV:=zH (fun w1 (hb:Below w.heap.size w w1)=>by have:=zJ L j P S w1 hL hn hj (Xy hP (vf hb));rw [hv] at this;exact this)
 have Vp:=zH (fun w1 (hb:Below w.heap.size w w1)=>by have:=xA B m d l L.p w1 (ib hb hl);exact this)
 rw [Za] at Vp;obtain ⟨dg,To⟩:=zEX (pd p (pub:Int) vars rows);obtain ⟨s1,Gc⟩:=zEX (ef O L dg l);have h10:s1.ct=0:=by rw [Gc];rfl
 have Z3:s1.st<18446744073709551616:=by rw [Gc];exact Ti (Bt h.ok.ans 18 _)
 have nw:Qc s1.O 700001:=by rw [Gc];exact Wl hO 18 _
 have zm:=zH (fun w1 (hb:Below w.heap.size w w1)=>by have:=uJ (h.below hb) L hL p (pub:Int) vars T B R cT m d rows l (Le fq _ _ _ _ hb hr) hD Ia (ib hb hl) (Ih hO (by decide)) (by rw [<- (zb hl).1];exact fw);rw [<- To,<- Gc] at this;exact this)
 rw [<- To,<- Gc];have mx:0<L.p:=by have:=nc hL.p;omega
 have Hj:=zH h;have HP:=zH hP;have HK:=zH hK;have Qi:=zH hL;have Eg:=zH (And.intro h10 (And.intro Z3 nw));have Lh:=zH (And.intro mx (And.intro Lb fB));have nR:=zH hlen;have HS3:=zH (And.intro (show (ve s1 P.root).st<18446744073709551616 from Ti (Bt (by rw [Gc];exact GD h.ok.ans 18 _) 18 _)) (show Qc (ve s1 P.root).O 800000 from Ih (PE (ct:=s1.ct) nw s1.st P.root) (by decide)))
 have nF:∀ b,w.heap.size <= b -> ¬F b:=fun b hb e=>by have:=h.lt b e;omega
 subst hm;obtain ⟨s2,Df⟩:=zEX (ve s1 P.root);obtain ⟨ch,Hl⟩:=zEX (tk s1 L.p P.root);have ni:=zH (show tk ⟨s1.O,s1.st,0⟩ L.p P.root=ch from Hl.symm)
 have Em:=zH (show ve ⟨s1.O,s1.st,0⟩ P.root=s2 from Df.symm)
 have HS2':=zH Df;rw [<- Df,<- Hl];rw [<- Df] at HS3;clear Df Hl;clear h hL hn hj Lb hr hD Ia hl hP hK hO hv fw Za hlen fB To Gc h10 Z3 nw mx Ra;unfold Ua Jc Ib at *;have d1:((m:Int) != (m:Int))=false:=by simp
 go_enter Tryz.func16,Tryz.ntmps16
 go_upto_region 1 with fail
 generalize (((w.alloc _).alloc _).alloc _).alloc _=w1 at kl kt kp kr aa |-;have cl:=kl.cell;have cp:=kp.cell;go_wp2_with fail
 refine (HV.out w1 aa).mono ?_;rintro e w2 ⟨rfl,xa⟩;replace kl:=ea kl xa;replace kt:=ea kt xa;replace kp:=ea kp xa;replace kr:=ea kr xa;replace aa:=ja aa xa;clear cl cp xa;have ct:=kt.cell;have cl:=kl.cell;go_wp2_with fail
 refine (Vp.out w2 aa).mono ?_;rintro e _ ⟨rfl,rfl⟩;obtain ⟨NQ,Nd⟩:=zEX (w2.heap.size);have l0:w.heap.size<NQ:=by rw [Nd];exact kl.lt
 have l1:w.heap.size+1<NQ:=by rw [Nd];exact kt.lt
 have l2:w.heap.size+2<NQ:=by rw [Nd];exact kp.lt
 have n0:=nF w.heap.size zR;have n1:=nF (w.heap.size+1) (Nat.le_add_right _ _);have n2:=nF (w.heap.size+2) (Nat.le_add_right _ _);have cl:=kl.cell;have ct:=kt.cell;have cp:=kp.cell;have ye:=zH Nd;have KL:=zH kl;have KP:=zH kp;have KR:=zH kr;have HB:=zH aa;clear Nd kl kt kp kr aa;go_upto_region 3 with fail
 refine jy (F) (F) (NQ) [5,9,15,16] [0,1,2,3,4,6,7,8,5,9,10,11,12] [(13,65,#[.int .u64 0, .int .u64 0, .int .u64 0]),(14,96,#[.int .u64 0, .int .u64 0])] [15,16] (by kernel_rfl) (List.forall_mem_cons.2 ⟨⟨_,rfl,rfl,fun a w=>by go_simp <;> rfl⟩,List.forall_mem_cons.2 ⟨⟨_,rfl,rfl,fun a w=>by go_simp <;> rfl⟩,List.forall_mem_nil _⟩⟩) (by kernel_rfl) ?_
 refine ly ?_;intro Wc Ba da;have sc:=zH (show Below w.heap.size w Wc by rw [Ba.out];exact HB.out.drew)
 have Wa:Hid (xh F NQ F Wc):=zH (by rw [Ba.out,ye.out];exact ⟨zR,(Hj.out.below HB.out).lt,fun _ _ h=>h⟩)
 have M8:=zH (show Moved F F w2 Wc by rw [Ba.out];exact Ln (Ic (Below.refl _ _)))
 clear Ba;refine qg ?_;refine Cu (f:=?_) (vals:=?_) rfl rfl rfl Wa ?_ (fun wF Mb=>?_)
 rotate_left 3
 replace sc:=zH (ja sc.out Mb);replace M8:=zH (M8.out.trans (Ic Mb));replace da:=(Cb F NQ).trans _ _ _ da (xf Mb Wa.out.size);replace Wa:=zH (Xi Wa.out Mb);refine (zm.out wF sc.out).mono ?_
 rotate_left
 ·intro w_;go_simp <;> rfl
 rintro e wA ⟨rfl,F1,h1,m1⟩;clear Mb;refine ⟨_,F1,rfl,m1,h1.lt,?_⟩;replace da:=(Cb F NQ).trans _ _ _ da (Fq Wa.out (m1));replace Wa:=zH (qt Wa.out (m1) (h1.lt));simp only [Act.put,zLa,zLb,zLc];have H8:=zH h1;replace M8:=zH (M8.out.trans m1);clear h1 m1 sc;refine qg ?_;refine Cu (f:=?_) (vals:=?_) rfl rfl rfl Wa ?_ (fun wF Mb=>?_)
 rotate_left 3
 replace H8:=zH (H8.out.below Mb);replace M8:=zH (M8.out.trans (Ic Mb));replace da:=(Cb F NQ).trans _ _ _ da (xf Mb Wa.out.size);replace Wa:=zH (Xi Wa.out Mb);refine (vJ H8.out s1.st 0 Eg.out.2.1 L Lh.out.1 Lh.out.2.1 P.root Lh.out.2.2 (Ih Eg.out.2.2 (by decide))).mono ?_
 rotate_left
 ·intro w_;go_simp <;> rfl
 rintro e wB ⟨rfl,F2,h2,m2⟩;clear Mb;refine ⟨_,F2,rfl,m2,h2.lt,?_⟩;replace da:=(Cb F NQ).trans _ _ _ da (Fq Wa.out (m2));replace Wa:=zH (qt Wa.out (m2) (h2.lt));simp only [Act.put,zLa,zLb,zLc];rw [Em.out] at h2;simp only [ni.out,Em.out];replace H8:=zH h2;replace M8:=zH (M8.out.trans m2);clear h2 m2;refine qg ?_;refine ky [(some 12,13),(some 13,14)] rfl Wa (fun Jq wE Hc Bi=>?_)
 have Fv:=Bi.blk _ (.head _) rfl;have oD:=Bi.blk _ (.tail _ (.head _)) rfl;have Kx:=Bi.dif _ (.head _) _ (.tail _ (.head _)) rfl rfl (by decide)
 clear Bi;unfold vt RJ;simp only [List.foldl];dsimp only at Fv oD Kx
 generalize Jq 13=g13 at Fv Kx |-;obtain ⟨Cn,Fx,au⟩:=Fv;generalize Jq 14=g14 at oD Kx |-;obtain ⟨k14,WA,jB⟩:=oD;replace H8:=zH (H8.out.below Hc);replace M8:=zH (M8.out.trans (Ic Hc));replace da:=(Cb F NQ).trans _ _ _ da (xf Hc Wa.out.size);replace Wa:=zH (Xi Wa.out Hc)
 try simp only [Act.put,zLa,zLb,zLc]
 have uz:w2.heap.size <= g13:=by rw [<- ye.out];exact Fx
 have sB:w2.heap.size <= g14:=by rw [<- ye.out];exact WA
 have KRL:=zH (show w.heap.size+3<g13 /\ w.heap.size+3<g14 from ⟨Nat.lt_of_lt_of_le KR.out.lt uz,Nat.lt_of_lt_of_le KR.out.lt sB⟩)
 have c13:=Cn.cell;have f13:=Cn.frozen;refine xk ?_;refine de (Cb F NQ) rfl rfl rfl ?_;go_simp;refine ⟨xf (uF Fx [.int .u64 ch.al, .int .u64 ch.rh, .int .u64 ch.be] 0 _) zR,?_⟩
 try simp only [Act.put,zLa,zLb,zLc]
 have C4:=Sw [.int .u64 ch.al, .int .u64 ch.rh, .int .u64 ch.be] Cn rfl;have mB:=(Xr (g:=g13) (b:=g14) (fun e=>Kx e.symm) [.int .u64 ch.al, .int .u64 ch.rh, .int .u64 ch.be] 0 wE).trans k14
 simp only [ng,Nat.zero_add,Nat.reduceAdd] at C4 mB;have h9:=zH (((H8.out.set au (.int .u64 ch.al) (i:=0)).set au (.int .u64 ch.rh) (i:=1)).set au (.int .u64 ch.be) (i:=2));have m9:=zH (Ld (Ld (Ld M8.out uz 0 (.int .u64 ch.al)) uz 1 (.int .u64 ch.rh)) uz 2 (.int .u64 ch.be));generalize World.setCell (World.setCell (World.setCell wE _ _) _ _) _ _=wG at C4 mB h9 m9 |-;have nB:Blk wG g14 _ _:=mB;have c14:=nB.cell;have f14:=nB.frozen;have K13:=zH C4;clear c13 f13 Cn k14 C4 mB da Wa H8 M8 Hc;have da:=(Cb F NQ).refl wG;refine xk ?_;refine de (Cb F NQ) rfl rfl rfl ?_;go_simp;refine ⟨xf ((tt _ _ WA).trans (tt _ _ WA)) zR,?_⟩
 try simp only [Act.put,zLa,zLb,zLc]
 refine pc ?_;have qE:=Xs nB 0 1 (.int .u64 s2.st) (.int .u64 3);have oE:=(K13.out.far (p:=⟨g14,0,none⟩) Kx (.int .u64 s2.st)).far (p:=⟨g14,1,none⟩) Kx (.int .u64 3);have h10:=(h9.out.set jB (.int .u64 s2.st) (i:=0)).set jB (.int .u64 3) (i:=1);have nh:=Ld (Ld m9.out sB 0 (.int .u64 s2.st)) sB 1 (.int .u64 3);generalize World.setCell (World.setCell wG _ _) _ _=wZ at qE oE h10 nh |-;have pE:Blk wZ g14 96 #[.int .u64 s2.st, .int .u64 3]:=by simpa using qE
 have klz:=KL.out.moved nh n0;have kpz:=KP.out.moved nh n2;have n3:=nF (w.heap.size+3) (Nat.le_add_right _ _);have krz:=KR.out.moved nh n3;have n3z:=Me nh KR.out.lt n3;have nlz:=Me nh KL.out.lt n0;have npz:=Me nh KP.out.lt n2;have MZ:=zH ((Ic (F:=F) HB.out).trans nh);have HZ:=zH h10;clear c14 f14 da qE nB K13 h9 m9 h10 nh KL KP KR cl ct cp l0 l1 l2;have nE:Blk wZ g13 65 #[.int .u64 ch.al, .int .u64 ch.rh, .int .u64 ch.be]:=oE;have nz13:¬F2 g13:=au;have nz14:¬F2 g14:=jB;obtain ⟨NZ,hNZ⟩:=zEX (wZ.heap.size);have l13:g13<NZ:=by rw [hNZ];exact nE.lt
 have l14:g14<NZ:=by rw [hNZ];exact pE.lt
 have ll:w.heap.size<NZ:=by rw [hNZ];exact klz.lt
 have lp:w.heap.size+2<NZ:=by rw [hNZ];exact kpz.lt
 have q13:g13≠w.heap.size+3:=fun e=>by have:=KRL.out;omega
 have q14:g14≠w.heap.size+3:=fun e=>by have:=KRL.out;omega
 obtain ⟨V0,Wm⟩:∃ V0:Nat -> Prop,V0=fun b=>F2 b \/ b=w.heap.size+3:=⟨_,rfl⟩
 have Fj:¬V0 g13:=by rw [Wm];exact fun e=>e.elim nz13 q13
 have cZ:¬V0 g14:=by rw [Wm];exact fun e=>e.elim nz14 q14
 have wl:¬V0 w.heap.size:=by rw [Wm];exact fun e=>e.elim nlz (fun e=>by omega)
 have wp:¬V0 (w.heap.size+2):=by rw [Wm];exact fun e=>e.elim npz (fun e=>by omega)
 have kV:=zH (show V0 (w.heap.size+3) by rw [Wm];exact .inr rfl)
 have Gm:=zH (show ∀ b,F2 b -> V0 b from fun b e=>by rw [Wm];exact .inl e)
 have c13:=nE.cell;have c14:=pE.cell;have cl:=klz.cell;have cp:=kpz.cell;have KR:=zH krz;have HNZ:=zH hNZ;have AG:=zH (zl (K:=K) MZ.out HK.out);clear nE oE pE klz kpz krz hNZ Wm nlz npz nz13 nz14 au jB Fx WA uz sB q13 q14;go_upto_region 4 with fail
 have uS:=zH (fun w1 F1 (h1:OrcAt w1 g s2.O F1) (Pd:Xg w1 P S)=>by have:=yJ h1 s2.st 3 HS3.out.1 L Qi.out P S Pd HS3.out.2 nR.out;unfold Ua Jc at this;exact this)
 refine jy (V0) (F2) (NZ) [5,6] [0,1,2,3,4,5] [] [6,7] (by kernel_rfl) (List.forall_mem_nil _) (by kernel_rfl) ?_
 refine ly ?_;intro Wc Ba da;have Wa:Hid (xh V0 NZ F2 Wc):=zH (by rw [Ba.out,HNZ.out];exact ⟨zR,HZ.out.lt,fun b _ h=>Gm.out b h⟩)
 have H8:=zH (show OrcAt Wc g s2.O F2 by rw [Ba.out];exact HZ.out.drew)
 have M8:=zH (show Moved F F2 w Wc by rw [Ba.out];exact Ln MZ.out)
 have KR8:=zH (show Blk Wc _ _ _ by rw [Ba.out];exact KR.out.drew)
 have HP8:=zH (show Hd K Wc _ by rw [Ba.out];exact Mc HP.out (Ey AG.out XC))
 clear Ba HZ MZ KR HP AG;refine qg ?_;refine Cu (f:=?_) (vals:=?_) rfl rfl rfl Wa ?_ (fun wF Mb=>?_)
 rotate_left 3
 replace H8:=zH (H8.out.below Mb);replace M8:=zH (M8.out.trans (Ic Mb));replace KR8:=zH (KR8.out.below Mb KR8.out.lt);replace HP8:=zH (Mc HP8.out (vf Mb));replace da:=(Cb V0 NZ).trans _ _ _ da (xf Mb Wa.out.size);replace Wa:=zH (Xi Wa.out Mb);refine (uS.out wF F2 H8.out (dj HP8.out)).mono ?_
 rotate_left
 ·intro w_;go_simp <;> rfl
 rintro e wB ⟨gr,dr,F3,rfl,h3,m3,Qx,n3r⟩;clear Mb;refine ⟨_,F3,rfl,m3,h3.lt,?_⟩;replace da:=(Cb V0 NZ).trans _ _ _ da (Fq Wa.out (m3));replace Wa:=zH (qt Wa.out (m3) (h3.lt));simp only [Act.put,zLa,zLb,zLc];have OW:=zH (mg Qx M8.out.size);have Vu:=zH (KR8.out.moved m3 n3z);have n39:=Me m3 KR8.out.lt n3z;replace H8:=zH h3;replace M8:=zH (M8.out.trans m3);clear h3 m3 Qx KR8 HP8;refine qg ?_;refine ky [] rfl Wa (fun Jq wE Hc Bi=>?_)
 clear Bi;unfold vt
 try simp only [List.foldl]
 replace H8:=zH (H8.out.below Hc);replace M8:=zH (M8.out.trans (Ic Hc));replace Vu:=zH (Vu.out.below Hc Vu.out.lt);replace OW:=zH (db OW.out Hc zR);replace da:=(Cb V0 NZ).trans _ _ _ da (xf Hc Wa.out.size);replace Wa:=zH (Xi Wa.out Hc)
 try simp only [Act.put,zLa,zLb,zLc]
 clear Hc;have cr:=Vu.out.cell;have fr:=Vu.out.frozen;refine xk ?_;refine de (Cb V0 NZ) rfl rfl rfl ?_;go_simp;refine ⟨yD kV.out [.int .u64 ch.al, .int .u64 ch.rh, .int .u64 ch.be] _,?_⟩
 try simp only [Act.put,zLa,zLb,zLc]
 have kf:=Sw [.int .u64 ch.al, .int .u64 ch.rh, .int .u64 ch.be] Vu.out rfl;simp only [ng,Nat.zero_add,Nat.reduceAdd] at kf;have h9:=((H8.out.set n39 (.int .u64 ch.al) (i:=0)).set n39 (.int .u64 ch.rh) (i:=1)).set n39 (.int .u64 ch.be) (i:=2);have lr:w.heap.size <= w.heap.size+3:=Nat.le_add_right _ _;have m9:=Ld (Ld (Ld M8.out lr 0 (.int .u64 ch.al)) lr 1 (.int .u64 ch.rh)) lr 2 (.int .u64 ch.be);have OWE:=zH (RE OW.out Vu.out (by decide))
 have Da:gr≠w.heap.size+3:=fun e=>OWE.out gr rfl (by rw [e])
 have OW9:=zg OW.out (u:=((wE.setCell ⟨w.heap.size+3,0,none⟩ (.int .u64 ch.al)).setCell ⟨w.heap.size+3,1,none⟩ (.int .u64 ch.rh)).setCell ⟨w.heap.size+3,2,none⟩ (.int .u64 ch.be)) fun b hb=>by
  obtain rfl:gr=b:=Option.some.inj hb;rw [Below.heap_setCell _ ⟨w.heap.size+3,2,none⟩ _ gr Da,Below.heap_setCell _ ⟨w.heap.size+3,1,none⟩ _ gr Da,Below.heap_setCell _ ⟨w.heap.size+3,0,none⟩ _ gr Da]
 generalize World.setCell (World.setCell (World.setCell wE _ _) _ _) _ _=wf at kf h9 m9 OW9 |-;have cf:=kf.cell;clear cr fr da Wa;have da:=(Cb V0 NZ).refl wf;refine xk ?_;refine pc ?_;go_wp2;exact bodyPost_ret (by simp [results,Tryz.results16,go_sem,cf]) rfl ⟨gr,dr,F3,rfl,h9,m9,OW9,n3r⟩
end Go.Proofs.YtjipleoamlmkfaaGreat
