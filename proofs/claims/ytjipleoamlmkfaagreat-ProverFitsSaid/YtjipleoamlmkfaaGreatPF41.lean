/- A part of the proof. No condition. -/
import Derived.Test.YtjipleoamlmkfaaGreatProg
import Derived.Test.YtjipleoamlmkfaaGreatPF40
import Derived.Test.YtjipleoamlmkfaaGreatPF34

set_option maxRecDepth 100000
set_option maxHeartbeats 8000000
set_option linter.unusedVariables false
set_option linter.unusedSimpArgs false
namespace Go.Proofs.YtjipleoamlmkfaaGreat
open Go.RowKit Go.Maps
theorem yJ {w:World} {g:Nat} {O:La} {F:Nat -> Prop} (h:OrcAt w g O F) (st ct:Nat) (Ef:st<18446744073709551616) (L:Va) (hL:Vc L) (P:Ce) (S:PS) (hP:Xg w P S) (hO:Qc O 800000) (hlen:(P.code++P.linear++P.quad).length <= 100000) :
  Calls Tryz.prog 42 #[.pointer (some ⟨g,0,none⟩), .agg #[.int .u64 st, .int .u64 ct], .agg (Ua L), .agg (Jc P S)] w fun e w'=>∃ gr d F',e= .returned (.slice (some ⟨gr,0,none⟩) L.queries d) /\
   OrcAt w' g (Li ⟨O,st,ct⟩ (P.code++P.linear++P.quad) L.queries) F' /\ Moved F F' w w' /\ w'.ownsRow w.heap.size 3 1 (.slice (some ⟨gr,0,none⟩) L.queries d) L.queries (sg (Hh (Zr ⟨O,st,ct⟩ (P.code++P.linear++P.quad) L.n L.queries))) /\ ¬F' gr:=by
 obtain ⟨ks,kl,kp,aa,Ra⟩:=Bl w 96 68 46 #[.int .u64 st, .int .u64 ct] (Ua L) (Jc P S);obtain ⟨q1,-,-,e1,r1⟩:=zb hP.code;obtain ⟨q2,-,-,e2,r2⟩:=zb hP.linear;obtain ⟨q3,-,-,e3,r3⟩:=zb hP.quad;have hle:S.n1+S.n2+S.n3 <= 100000:=by simp at hlen;omega
 obtain ⟨all,Te⟩:=zEX (P.code++P.linear++P.quad);have Kl:∀ x∈all,x<18446744073709551616:=fun x hx=>by
  rw [Te,List.mem_append,List.mem_append] at hx;rcases hx with (hx | hx) | hx
  ·exact e1 x hx
  ·exact e2 x hx
  ·exact e3 x hx
 have tp:L.queries <= L.n:=by have:=hL.nk;have:=hL.k;omega
 have Od:=hL.n2;have Uy:=h.ok.ans;obtain ⟨uu,jz⟩:=zEX (Kc O 18 (st :: 3 :: all));obtain ⟨O2,xt⟩:=zEX (jc O 18 (st :: 3 :: all));have CC:=zH (show uu<18446744073709551616 by rw [jz];exact Ti (Bt Uy 18 _))
 have Ug:=zH (show Qc O2 900000 by rw [xt];exact Ih (Wl hO 18 _) (by decide))
 have hT1:Li ⟨O,st,ct⟩ (P.code++P.linear++P.quad) L.queries=Nb O2 19 (Rh uu 0 L.queries):=by rw [<- Te,xt,jz];rfl
 have hT2:Zr ⟨O,st,ct⟩ (P.code++P.linear++P.quad) L.n L.queries=Sr O2 uu 0 L.n L.queries:=by rw [<- Te,xt,jz];rfl
 rw [hT1,hT2];have Em:=zH jz;have po:=zH xt;have Gs:=zH Te;have yk:=zH Kl;have Qe:=zH (show all.length <= 100000 by rw [Te];exact hlen)
 have oH:=zH q1;have KU:=zH q2;have HN3:=zH q3;have R1:=zH r1;have R2:=zH r2;have R3:=zH r3;have Hj:=zH h;have HO:=zH hO;have Xf:=zH Ef;have HQN:=zH tp;have HN:=zH Od;have nF:∀ b,w.heap.size <= b -> ¬F b:=fun b hb e=>by have:=h.lt b e;omega
 clear hT1 hT2 jz xt Uy Od tp Kl Te hlen q1 q2 q3 e1 e2 e3 r1 r2 r3 hP hL hO Ef h Ra;unfold Ua Jc at *;go_enter Tryz.func42,Tryz.ntmps42
 go_upto_region 1 with fail
 generalize ((w.alloc _).alloc _).alloc _=w1 at ks kl kp aa |-;have cp:=kp.cell;have lp:=kp.lt;have Gc:=aa.size;have Vs:=(Below.refl w1.heap.size w1).alloc zR (.cells #[] 22);have Rn:=Tx w1 22 (Nat.le_refl w1.heap.size);have re:=(R1.out.below aa).below Vs;go_wp2_with (at_builtin;refine If rfl _ _ rfl Vi rfl Rn rfl re (yg _) (by omega) (by simp) ?_)
 intro v2 w2 Px Lk mn;have xa:=Vs.trans (mh Rn Lk (by simp))
 replace ks:=ea ks xa;replace kl:=ea kl xa;replace kp:=ea kp xa;replace aa:=ja aa xa;clear cp Rn re Vs Lk mn;have cp:=kp.cell;have xp:=R2.out.below aa;go_wp2_with (at_builtin;refine If rfl _ _ rfl Vi rfl Px rfl xp (yg _) (by omega) (by exact xa.size) ?_)
 intro v3 w3 Qx Ge hk3;have Ga:=mh Px Ge xa.size;have lp0:w.heap.size<w1.heap.size:=by omega
 have lp1:w.heap.size+1<w1.heap.size:=by omega
 have ks3:=ks.below Ga lp0;have sj:=kl.below Ga lp1;have kp3:=kp.below Ga lp;have ID:=aa.trans (Ga.mono Gc);have sz3:=Nat.le_trans xa.size Ga.size;clear cp Px xp Ge hk3 ks kl kp aa Ga;have cp:=kp3.cell;have cB:=R3.out.below ID;go_wp2_with (at_builtin;refine If rfl _ _ rfl Vi rfl Qx rfl cB (yg _) (by omega) sz3 ?_)
 intro v4 w4 Kw Ci hk4;have Pa:=mh Qx Ci sz3;have ks4:=ks3.below Pa lp0;have Tl:=sj.below Pa lp1;have hb04:=ID.trans (Pa.mono Gc);have Rx:w4.ownsRow w1.heap.size 22 1 v4 (S.n1+S.n2+S.n3) (Ca all):=by
  rw [Gs.out]
  simpa [Ca,List.append_assoc] using Kw
 obtain ⟨nv,hnv⟩:=zEX (S.n1+S.n2+S.n3);rw [<- hnv] at Rx;have hv4:∃ A' c',v4= .slice A' nv c':=by obtain ⟨A',c',e,-⟩:=Tb Rx;exact ⟨A',c',e⟩
 obtain ⟨Av,cv,rfl⟩:=hv4;have HKR:=zH (qz Rx yk.out);have HB:=zH hb04;have nW0:=nF w.heap.size zR;have nW1:=nF (w.heap.size+1) (Nat.le_add_right _ _);obtain ⟨NQ,Nd⟩:=zEX (w4.heap.size);have ye:=zH Nd;have l0:w.heap.size<NQ:=by rw [Nd];exact ks4.lt
 have l1:w.heap.size+1<NQ:=by rw [Nd];exact Tl.lt
 have cs:=ks4.cell;have cl:=Tl.cell;clear cp Qx cB Ci hk4 Pa ks3 sj kp3 ID Kw Rx ks4 Tl hb04 xa Gc sz3 lp lp0 lp1 hnv Nd hle;go_upto_region 4 with fail
 have Tz:Hid (xh F NQ F w4):=zH (by rw [ye.out];exact jN (Hj.out.below HB.out).lt)
 refine jy (F) (F) (NQ) [4,9,15] [0,1,2,3,5,6,7,8,4,9,10,11,12] [(13,96,#[.int .u64 0, .int .u64 0])] [14,15] (by kernel_rfl) (List.forall_mem_cons.2 ⟨⟨_,rfl,rfl,fun a w=>by go_simp <;> rfl⟩,List.forall_mem_nil _⟩) (by kernel_rfl) ?_
 refine ly ?_;intro Wc Ba da;have Wa:Hid (xh F NQ F Wc):=zH (by rw [Ba.out];exact ⟨Tz.out.size,Tz.out.lt,Tz.out.old⟩)
 have H8:=zH (show OrcAt Wc g O F by rw [Ba.out];exact (Hj.out.below HB.out).drew)
 have M8:=zH (show Moved F F w Wc by rw [Ba.out];exact Ln (Ic HB.out))
 have Uz:=zH (show Km _ Wc _ _ by rw [Ba.out];exact Dp HKR.out (w':=w4.drew) zR fun _ _ _=>rfl)
 clear Ba Tz HKR;refine qg ?_;refine Cu (f:=?_) (vals:=?_) rfl rfl rfl Wa ?_ (fun wF Mb=>?_)
 rotate_left 3
 replace H8:=zH (H8.out.below Mb);replace Uz:=zH (Bw Uz.out Mb);replace M8:=zH (M8.out.trans (Ic Mb));replace da:=(Cb F NQ).trans _ _ _ da (xf Mb Wa.out.size);replace Wa:=zH (Xi Wa.out Mb);refine (CF H8.out st ct 3 Av nv cv all Uz.out Qe.out Xf.out (by decide) (Ih HO.out (by decide))).mono ?_
 rotate_left
 ·intro w_;go_simp <;> rfl
 rintro e w9 ⟨rfl,F4,h9,m9⟩;clear Mb;refine ⟨_,F4,rfl,m9,h9.lt,?_⟩;replace da:=(Cb F NQ).trans _ _ _ da (Fq Wa.out (m9));replace Wa:=zH (qt Wa.out (m9) (h9.lt));simp only [Act.put,zLa,zLb,zLc];rw [<- po.out] at h9;simp only [<- Em.out];replace H8:=zH h9;replace M8:=zH (M8.out.trans m9);clear h9 m9 Uz;refine qg ?_;refine Cu (f:=?_) (vals:=?_) rfl rfl rfl Wa ?_ (fun wF Mb=>?_)
 rotate_left 3
 replace H8:=zH (H8.out.below Mb);replace M8:=zH (M8.out.trans (Ic Mb));replace da:=(Cb F NQ).trans _ _ _ da (xf Mb Wa.out.size);replace Wa:=zH (Xi Wa.out Mb);refine (MQ H8.out uu 0 L.n L.queries HN.out HQN.out CC.out (by decide) Ug.out).mono ?_
 rotate_left
 ·intro w_;go_simp <;> rfl
 rintro e ss ⟨gr,dr,F5,rfl,h10,nh,qJ,nr5⟩;clear Mb;refine ⟨_,F5,rfl,nh,h10.lt,?_⟩;replace da:=(Cb F NQ).trans _ _ _ da (Fq Wa.out (nh));replace Wa:=zH (qt Wa.out (nh) (h10.lt));simp only [Act.put,zLa,zLb,zLc];have OW:=zH (mg qJ M8.out.size);replace H8:=zH h10;replace M8:=zH (M8.out.trans nh);clear h10 nh qJ;refine qg ?_;refine ky [(some 11,13)] rfl Wa (fun Jq wE Hc Bi=>?_)
 have Fv:=Bi.blk _ (.head _) rfl;clear Bi;unfold vt RJ;simp only [List.foldl];dsimp only at Fv
 generalize Jq 13=g13 at Fv  |-;obtain ⟨Cn,Fx,au⟩:=Fv;replace H8:=zH (H8.out.below Hc);replace M8:=zH (M8.out.trans (Ic Hc));replace OW:=zH (db OW.out Hc zR);replace da:=(Cb F NQ).trans _ _ _ da (xf Hc Wa.out.size);replace Wa:=zH (Xi Wa.out Hc)
 try simp only [Act.put,zLa,zLb,zLc]
 have cE0:=Cn.cell 0;have cE1:=Cn.cell 1;have fE:=Cn.frozen;have lE:w.heap.size <= g13:=by omega
 refine xk ?_;refine de (Cb F NQ) rfl rfl rfl ?_;go_simp;refine ⟨xf ((tt _ _ Fx).trans (tt _ _ Fx)) zR,?_⟩
 try simp only [Act.put,zLa,zLb,zLc]
 refine pc ?_;have OWE:=zH (RE OW.out Cn (by decide))
 have Da:gr≠g13:=fun e=>OWE.out gr rfl (by rw [e])
 have M9:=Ld (Ld M8.out lE 0 (.int .u64 uu)) lE 1 (.int .u64 L.queries);have H9:=(H8.out.set au (.int .u64 uu) (i:=0)).set au (.int .u64 L.queries) (i:=1);have OW9:=zg OW.out (u:=(wE.setCell ⟨g13,0,none⟩ (.int .u64 uu)).setCell ⟨g13,1,none⟩ (.int .u64 L.queries)) fun b hb=>by
  obtain rfl:gr=b:=Option.some.inj hb;rw [Below.heap_setCell _ ⟨g13,1,none⟩ _ gr Da,Below.heap_setCell _ ⟨g13,0,none⟩ _ gr Da]
 generalize ((wE.setCell ⟨g13,0,none⟩ (.int .u64 uu)).setCell ⟨g13,1,none⟩ (.int .u64 L.queries))=wZ at M9 H9 OW9 |-;clear cE0 cE1 fE da;go_wp2;go_ret
 exact ⟨gr,dr,F5,rfl,H9,M9,OW9,nr5⟩
end Go.Proofs.YtjipleoamlmkfaaGreat
