/- A part of the proof. No condition. -/
import Derived.Test.YtjipleoamlmkfaaGreatProg
import Derived.Test.YtjipleoamlmkfaaGreatPF39

set_option maxRecDepth 100000
set_option maxHeartbeats 8000000
set_option linter.unusedVariables false
set_option linter.unusedSimpArgs false
namespace Go.Proofs.YtjipleoamlmkfaaGreat
open Go.RowKit Go.Maps
theorem TN:(Tryz.prog.info? 188).map (fun i=>(i.zero,i.size,i.bytes))=some (some (.pointer none),1,8):=by kernel_rfl
theorem LN {w:World} {g i:Nat} (h:i<3):(Instr.index 189 (.agg #[.pointer (some ⟨g,0,none⟩), .pointer (some ⟨g,1,none⟩), .pointer (some ⟨g,2,none⟩)]) (.int .i64 i)).run Tryz.prog w= .ok (.pointer (some ⟨g,i,none⟩)) w:=by
 obtain ⟨i0,hi,-,hs,-⟩:=info_parts TN;rcases (show i=0 \/ i=1 \/ i=2 by omega) with rfl | rfl | rfl <;> simp [Instr.index,run_underlying Tryz.underlying189,asIntOf,part,Result.andThen,isAgg,run_underlying Tryz.underlying188,sizeOf,typeInfo,hi,hs]
def Ho (s:Tr):Nat -> Tr
 | 0=>s
 | k+1=>Ed (Ho s k)
theorem fD (s:Tr):∀ k,(Ho s k).st=s.st
 | 0=>rfl
 | k+1=>fD s k
theorem eD (s:Tr):∀ k,(Ho s k).ct=s.ct+k
 | 0=>rfl
 | k+1=>by show (Ho s k).ct+1=_;rw [eD s k];omega
theorem vJ {w:World} {g:Nat} {O:La} {F:Nat -> Prop} (h:OrcAt w g O F) (st ct:Nat) (Ef:st<18446744073709551616) (L:Va) (hp:0<L.p) (Lb:L.p<18446744073709551616) (root:Nat) (hr:root<18446744073709551616) (hO:Qc O 900000) :
  Calls Tryz.prog 40 #[.pointer (some ⟨g,0,none⟩), .agg #[.int .u64 st, .int .u64 ct], .agg (Ua L), .int .u64 root] w fun e w' =>
   e= .returned (.tuple #[.agg #[.int .u64 ((tk ⟨O,st,ct⟩ L.p root).al:Int), .int .u64 ((tk ⟨O,st,ct⟩ L.p root).rh:Int), .int .u64 ((tk ⟨O,st,ct⟩ L.p root).be:Int)], .agg #[.int .u64 ((ve ⟨O,st,ct⟩ root).st:Int), .int .u64 3]]) /\
   ∃ F',OrcAt w' g (ve ⟨O,st,ct⟩ root).O F' /\ Moved F F' w w':=by
 obtain ⟨ks,kl,kc,kr,aa,Ra⟩:=Hy w 96 68 65 96 #[.int .u64 st, .int .u64 ct] (Ua L) #[.int .u64 0, .int .u64 0, .int .u64 0] #[.int .u64 0, .int .u64 0];have Uy:=h.ok.ans;have yk:=zH (show ∀ x∈[root],x<18446744073709551616 from Nj hr (fun _ h=>nomatch h))
 obtain ⟨je,iB⟩:=zEX (Kc O 18 [st,2,root]);have Eg:=zH iB;have Ot:=zH (show je<18446744073709551616 by rw [iB];exact Ti (Bt Uy 18 _))
 obtain ⟨a,ha⟩:=zEX (Zg ⟨O,st,ct⟩ 2 [root]);have Mq:a.st=je:=by rw [ha,iB];rfl
 have vY:a.ct=0:=by rw [ha];rfl
 obtain ⟨OO,hOO⟩:∃ OO:Nat -> La,OO=fun k=>(Ho a k).O:=⟨_,rfl⟩
 obtain ⟨V,hV⟩:∃ V:Nat -> Nat,V=fun k=>AA (Ho a k)%L.p:=⟨_,rfl⟩
 have HO0:=zH (show jc O 18 [st,2,root]=OO 0 by rw [hOO,ha];rfl)
 have HON:=zH (show ∀ k,jc (OO k) 19 [je,k]=OO (k+1) from fun k=>by rw [hOO,<- Mq,<- fD a k];show _=jc _ 19 [(Ho a k).st,(Ho a k).ct];rw [eD,vY,Nat.zero_add])
 have vl:=zH (show ∀ k,Kc (OO k) 19 [je,k]%L.p=V k from fun k=>by rw [hV,hOO,<- Mq,<- fD a k];show _=Kc _ 19 [(Ho a k).st,(Ho a k).ct]%L.p;rw [eD,vY,Nat.zero_add])
 have Lu:=zH (show ∀ k,Qc (OO k) (900001+k) from fun k=>by
  induction k with
  | zero=>rw [<- HO0.out];exact Wl hO 18 _
  | succ k ih=>rw [<- HON.out k];exact Wl ih 19 _)
 have Ux:=zH (show tk ⟨O,st,ct⟩ L.p root=⟨V 0,V 1,V 2⟩ by unfold tk;rw [<- ha,hV];rfl)
 have mo:=zH (show (ve ⟨O,st,ct⟩ root).st=je /\ (ve ⟨O,st,ct⟩ root).O=OO 3 by unfold ve;rw [<- ha,hOO,<- Mq];exact ⟨rfl,rfl⟩)
 rw [Ux.out,mo.out.1,mo.out.2];have Hj:=zH h;have HO:=zH hO;have Xf:=zH Ef;have HP:=zH (And.intro hp Lb);have nF:∀ b,w.heap.size <= b -> ¬F b:=fun b hb e=>by have:=h.lt b e;omega
 clear iB ha Mq vY hOO hV h hO Ef hr hp Lb Uy;unfold Ua at *;go_enter Tryz.func40,Tryz.ntmps40
 go_upto_region 2 with fail
 generalize (((w.alloc _).alloc _).alloc _).alloc _=w1 at ks kl kc kr aa Ra |-;have kx:=Blk.new w1 65 #[.int .u64 0, .int .u64 0, .int .u64 0];have Po:=(Below.refl w1.heap.size w1).alloc zR (.cells #[.int .u64 0, .int .u64 0, .int .u64 0] 65);replace ks:=ea ks Po;replace kl:=ea kl Po;replace kc:=ea kc Po;replace kr:=ea kr Po;replace aa:=ja aa Po;have cA:w1.heap.size=w.heap.size+4:=Ra;generalize w1.alloc _=w2 at ks kl kc kr kx aa |-;rw [cA] at kx;obtain ⟨gx,QD⟩:=zEX (w.heap.size+4);rw [<- QD] at kx |-;have Ku:=zH QD;have lx2:=kx.lt;clear Po cA Ra QD;have ia:=(Below.refl w2.heap.size w2).alloc zR (.cells #[.int .u64 root] 22);have kp:=Blk.new w2 22 #[.int .u64 root];have Hs:=zH (CF (Hj.out.below (ja aa ia)) st ct 2 (some ⟨w2.heap.size,0,none⟩) 1 1 [root] (oz (l:=[root]) kp rfl yk.out (by simp [maxLen])) (by simp) Xf.out (by decide) (Ih HO.out (by decide)))
 have ym:=zH (ja aa ia);have cs:=ks.cell;have lss:=ks.lt;have KS:=zH (ea ks ia);have KL:=zH (ea kl ia);have KC:=zH (ea kc ia);have KR:=zH (ea kr ia);have KX:=zH (ea kx ia);clear kp ia ks kl kc kr kx aa lx2;go_wp2_with fail
 refine Hs.out.mono ?_;rintro _ w3 ⟨rfl,F1,h3,m3⟩;simp only [<- Eg.out];rw [HO0.out] at h3;have ks:=KS.out.moved m3 (nF _ zR);have kl:=KL.out.moved m3 (nF _ (Nat.le_add_right _ _));have kc:=KC.out.moved m3 (nF _ (by omega))
 have kr:=KR.out.moved m3 (nF _ (by omega))
 have kx:=KX.out.moved m3 (nF _ (by rw [Ku.out];exact Nat.le_add_right _ _))
 have mm:=(Ic (F:=F) ym.out).trans m3;have nU:∀ b,w.heap.size <= b -> b<w.heap.size+5 -> ¬F1 b:=fun b h1 h2=>Me m3 (Nat.lt_of_lt_of_le h2 (by have:=KX.out.lt;rw [Ku.out] at this;exact this)) (nF b h1)
 have ngx:w.heap.size+3<gx:=by rw [Ku.out];exact Nat.lt_succ_self _
 have n0:=nU _ zR (by omega)
 have HO4:=zH ((h3.set n0 (.int .u64 je) (i:=0)).set n0 (.int .u64 0) (i:=1));have HM4:=zH (Ld (Ld mm zR 0 (.int .u64 je)) zR 1 (.int .u64 0));have NF1:=zH nU;have cl:=kl.cell;clear h3 mm m3 n0 nU Hs ym KS KL KC KR KX cs lss cl;have cs_:=ks.cell;have fs_:=ks.frozen;have ksS:=Sw [.int .u64 je, .int .u64 0] ks rfl;have klS:=(Xr (g:=w.heap.size) (by omega) [.int .u64 je, .int .u64 0] 0 w3).trans kl
 have kcS:=(Xr (g:=w.heap.size) (by omega) [.int .u64 je, .int .u64 0] 0 w3).trans kc
 have krS:=(Xr (g:=w.heap.size) (by omega) [.int .u64 je, .int .u64 0] 0 w3).trans kr
 have kxS:=(Xr (g:=w.heap.size) (by omega) [.int .u64 je, .int .u64 0] 0 w3).trans kx
 have hsS:w3.heap.size <= (ng w3 (w.heap.size) [.int .u64 je, .int .u64 0] 0).heap.size:=by simp [ng,World.setCell]
 simp only [ng,Nat.zero_add] at ksS klS kcS krS kxS hsS
 try simp only [Nat.reduceAdd] at ksS klS kcS krS kxS hsS
 have GC:=zH ksS;have EC:=zH klS;have DC:=zH kcS;have FC:=zH krS;have IC:=zH kxS;have B8:=zH hsS;clear ksS klS kcS krS kxS ks kl kc kr kx hsS;go_wp2_with fail
 generalize World.setCell (World.setCell (w3) _ _) _ _=w4 at GC EC DC FC IC B8 HO4 HM4 |-;clear cs_ fs_;have ks:Blk w4 _ _ _:=GC.out;have kl:Blk w4 _ _ _:=EC.out;have kc:Blk w4 _ _ _:=DC.out;have kr:Blk w4 _ _ _:=FC.out;have kx:Blk w4 _ _ _:=IC.out;clear GC EC DC FC IC;clear B8;go_loopw [23] (fun y wr=>∃ (i:Nat) (F2:Nat -> Prop),i <= 3 /\ y= .int .i64 i /\ OrcAt wr g (OO i) F2 /\ Moved F F2 w wr /\ Blk wr w.heap.size 96 #[.int .u64 je, .int .u64 i] /\ Blk wr (w.heap.size+1) 68 #[.int .u64 L.p, .int .i64 L.block, .int .i64 L.queries, .int .i64 L.k, .int .i64 L.n, .int .i64 L.secret, .int .i64 L.rows, .int .i64 L.a, .int .i64 L.b, .int .i64 L.b, .int .i64 L.b] /\ Blk wr (w.heap.size+2) 65 #[.int .u64 0, .int .u64 0, .int .u64 0] /\ Blk wr (w.heap.size+3) 96 #[.int .u64 0, .int .u64 0] /\ Blk wr gx 65 (Fa 3 fun k=>if k<i then V k else 0) /\ (∀ b,w.heap.size <= b -> b<w.heap.size+5 -> ¬F2 b)) (fun y _=>3-(intOf y).toNat)
 case atStart=>exact ⟨0,F1,by decide,rfl,HO4.out,HM4.out,ks,kl,kc,kr,kx,NF1.out⟩
 case round =>
  clear ks kl kc kr kx HO4 HM4;obtain ⟨i,F2,hi,rfl,h4,m4,ks,kl,kc,kr,kx,tf⟩:=hrel;by_cases oa:i<3
  ·have q1:(0:Int) <= (i:Int):=by omega
   have q2:(i:Int)<3:=by omega
   have ix:=fun w=>LN (w:=w) (g:=gx) oa
   have Fb:=zH oa;obtain ⟨hp,Lb⟩:=HP.out;have HC:=zH (xK h4 je i L.p hp Lb Ot.out (by omega) (Ih (Lu.out i) (by omega)))
   obtain ⟨i1,Di⟩:=zEX (i+1);rw [<- Di] at HC;have fl:=zH Di;have cs:=ks.cell;have cl:=kl.cell;have H4:=zH h4;clear Di;clear oa hp Lb h4;go_wp2_with fail
   refine HC.out.mono ?_;rintro _ w5 ⟨rfl,F3,h5,m5⟩;rw [HON.out i,<- fl.out] at h5;simp only [vl.out i];have k5s:=ks.moved m5 (tf _ zR (by omega))
   have k5l:=kl.moved m5 (tf _ (by omega) (by omega))
   have k5c:=kc.moved m5 (tf _ (by omega) (by omega))
   have k5r:=kr.moved m5 (tf _ (by omega) (by omega))
   have k5x:=kx.moved m5 (tf _ (by omega) (by rw [Ku.out];omega))
   have Mr:∀ b,w.heap.size <= b -> b<w.heap.size+5 -> ¬F3 b:=fun b h1 h2=>Me m5 (Nat.lt_of_lt_of_le h2 (by have:=kx.lt;rw [Ku.out] at this;exact this)) (tf b h1 h2)
   have UY:=Mr _ zR (by omega)
   have n3x:=Mr gx (by omega) (by rw [Ku.out];omega)
   have mm:=m4.trans m5;have H6:=zH (((h5.set n3x (.int .u64 (V i:Int)) (i:=i)).set UY (.int .u64 je) (i:=0)).set UY (.int .u64 i1) (i:=1));have M6:=zH (Ld (Ld (Ld mm (show w.heap.size <= gx by omega) i (.int .u64 (V i:Int))) zR 0 (.int .u64 je)) zR 1 (.int .u64 i1))
   have kx6:=((k5x.set_ i (.int .u64 (V i:Int))).far (p:=⟨w.heap.size,0,none⟩) (show gx≠w.heap.size by omega) (.int .u64 je)).far (p:=⟨w.heap.size,1,none⟩) (show gx≠w.heap.size by omega) (.int .u64 i1)
   rw [Tm,zF,<- fl.out] at kx6;have KX6:=zH kx6;have KS6:=zH (Xs (k5s.far (p:=⟨gx,i,none⟩) (show w.heap.size≠gx by omega) (.int .u64 (V i:Int))) 0 1 (.int .u64 je) (.int .u64 i1))
   have KL6:=zH (((k5l.far (p:=⟨gx,i,none⟩) (show w.heap.size+1≠gx by omega) (.int .u64 (V i:Int))).far (p:=⟨w.heap.size,0,none⟩) (show w.heap.size+1≠w.heap.size by omega) (.int .u64 je)).far (p:=⟨w.heap.size,1,none⟩) (show w.heap.size+1≠w.heap.size by omega) (.int .u64 i1))
   have KC6:=zH (((k5c.far (p:=⟨gx,i,none⟩) (show w.heap.size+2≠gx by omega) (.int .u64 (V i:Int))).far (p:=⟨w.heap.size,0,none⟩) (show w.heap.size+2≠w.heap.size by omega) (.int .u64 je)).far (p:=⟨w.heap.size,1,none⟩) (show w.heap.size+2≠w.heap.size by omega) (.int .u64 i1))
   have KR6:=zH (((k5r.far (p:=⟨gx,i,none⟩) (show w.heap.size+3≠gx by omega) (.int .u64 (V i:Int))).far (p:=⟨w.heap.size,0,none⟩) (show w.heap.size+3≠w.heap.size by omega) (.int .u64 je)).far (p:=⟨w.heap.size,1,none⟩) (show w.heap.size+3≠w.heap.size by omega) (.int .u64 i1))
   have NF3:=zH Mr;have kh:=k5x.cell i;rw [Fe _ Fb.out] at kh;have tb:=k5x.frozen;have lq:=k5s.cell;have hfs:=k5s.frozen;have nex:w.heap.size≠gx:=by omega
   clear h5 m5 mm m4 kx6 k5s k5l k5c k5r k5x Mr UY n3x tf ks kl kc kr kx cs cl HC H4;go_wp2;generalize ((w5.setCell ⟨gx,i,none⟩ _).setCell _ _).setCell _ _=w6 at H6 M6 KX6 KS6 KL6 KC6 KR6 |-;have ks7:Blk w6 w.heap.size 96 #[.int .u64 je, .int .u64 i1]:=by simpa using KS6.out
   clear kh tb lq hfs
   go_roundw
   case rel=>exact ⟨i1,F3,by rw [fl.out];exact Fb.out,by rw [fl.out];go_num,H6.out,M6.out,ks7,KL6.out,KC6.out,KR6.out,KX6.out,NF3.out⟩
   case measure=>have:=Fb.out;simp [intOf];omega
  ·obtain rfl:i=3:=by omega
   have En:Blk wr gx 65 #[.int .u64 (V 0:Int), .int .u64 (V 1:Int), .int .u64 (V 2:Int)]:=kx;have Yh:Blk wr w.heap.size 96 #[.int .u64 je, .int .u64 3]:=ks;obtain ⟨NQ,Nd⟩:=zEX (wr.heap.size);have lx:gx<NQ:=by rw [Nd];exact En.lt
   have l1:w.heap.size<NQ:=by rw [Nd];exact Yh.lt
   obtain ⟨Vr,hVr⟩:∃ Vr:Nat -> Prop,Vr=fun b=>b=w.heap.size+2 \/ b=w.heap.size+3:=⟨_,rfl⟩
   have v1:¬Vr w.heap.size:=by rw [hVr];omega
   have v2:¬Vr gx:=by rw [hVr];omega
   have xo:=zH (show Vr (w.heap.size+2) by rw [hVr];exact .inl rfl)
   have HV3:=zH (show Vr (w.heap.size+3) by rw [hVr];exact .inr rfl)
   have cs:=Yh.cell;have cx:=En.cell;have KC:=zH kc;have KR:=zH kr;have H5:=zH h4;have M5:=zH m4;have n2:=tf (w.heap.size+2) (by omega) (by omega)
   have n3:=tf (w.heap.size+3) (by omega) (by omega)
   have ye:=zH Nd;clear ks Yh kl kc kr kx En hVr h4 m4 Nd tf hi;go_upto_region 8 with fail
   refine jy (Vr) (Wu) (NQ) [2,3] [0,1] [] [2,3] (by kernel_rfl) (List.forall_mem_nil _) (by kernel_rfl) ?_
   refine ly ?_;intro Wc Ba da;have Wa:Hid (xh Vr NQ Wu Wc):=zH (by rw [Ba.out,ye.out];exact ⟨zR,fun _ h=>h.elim,fun _ _ h=>h.elim⟩)
   have ze:=zH (show Blk Wc _ _ _ by rw [Ba.out];exact KC.out.drew)
   have fe:=zH (show Blk Wc _ _ _ by rw [Ba.out];exact KR.out.drew)
   have H6:=zH (show OrcAt Wc _ _ _ by rw [Ba.out];exact H5.out.drew)
   have M6:=zH (show Moved F F2 w Wc by rw [Ba.out];exact Ln M5.out)
   clear Ba KC KR H5 M5;refine qg ?_;refine ky [] rfl Wa (fun Jq wE Hc Bi=>?_)
   clear Bi;unfold vt
   try simp only [List.foldl]
   replace ze:=zH (ze.out.below Hc ze.out.lt);replace fe:=zH (fe.out.below Hc fe.out.lt);replace H6:=zH (H6.out.below Hc);replace M6:=zH (M6.out.trans (Ic Hc));replace da:=(Cb Vr NQ).trans _ _ _ da (xf Hc Wa.out.size);replace Wa:=zH (Xi Wa.out Hc)
   try simp only [Act.put,zLa,zLb,zLc]
   clear Hc;have cc:=ze.out.cell;have fc:=ze.out.frozen;refine xk ?_;refine de (Cb Vr NQ) rfl rfl rfl ?_;go_simp;refine ⟨yD xo.out [.int .u64 (V 0:Int), .int .u64 (V 1:Int), .int .u64 (V 2:Int)] _,?_⟩
   try simp only [Act.put,zLa,zLb,zLc]
   have kc3:=Sw [.int .u64 (V 0:Int), .int .u64 (V 1:Int), .int .u64 (V 2:Int)] ze.out rfl;have Mg:=(Xr (g:=w.heap.size+2) (b:=w.heap.size+3) (by omega) [.int .u64 (V 0:Int), .int .u64 (V 1:Int), .int .u64 (V 2:Int)] 0 wE).trans fe.out
   simp only [ng,Nat.zero_add,Nat.reduceAdd] at kc3 Mg;have h7:=zH (((H6.out.set n2 (.int .u64 (V 0:Int)) (i:=0)).set n2 (.int .u64 (V 1:Int)) (i:=1)).set n2 (.int .u64 (V 2:Int)) (i:=2));have m7:=zH (Ld (Ld (Ld M6.out (show w.heap.size <= w.heap.size+2 by omega) 0 (.int .u64 (V 0:Int))) (show w.heap.size <= w.heap.size+2 by omega) 1 (.int .u64 (V 1:Int))) (show w.heap.size <= w.heap.size+2 by omega) 2 (.int .u64 (V 2:Int)))
   generalize World.setCell (World.setCell (World.setCell wE _ _) _ _) _ _=wG at kc3 Mg h7 m7 |-;have Ok:Blk wG _ _ _:=Mg;have cr:=Ok.cell;have fr:=Ok.frozen;have yo:=zH kc3;clear kc3 Mg cc fc da Wa H6 M6;have da:=(Cb Vr NQ).refl wG;refine xk ?_;refine de (Cb Vr NQ) rfl rfl rfl ?_;go_simp;refine ⟨yD HV3.out [.int .u64 je, .int .u64 3] _,?_⟩
   try simp only [Act.put,zLa,zLb,zLc]
   refine pc ?_;have kf:=Xs Ok 0 1 (.int .u64 je) (.int .u64 3);have kcf:=(yo.out.far (p:=⟨w.heap.size+3,0,none⟩) (show w.heap.size+2≠w.heap.size+3 by omega) (.int .u64 je)).far (p:=⟨w.heap.size+3,1,none⟩) (show w.heap.size+2≠w.heap.size+3 by omega) (.int .u64 3)
   have h8:=(h7.out.set n3 (.int .u64 je) (i:=0)).set n3 (.int .u64 3) (i:=1);have m8:=Ld (Ld m7.out (show w.heap.size <= w.heap.size+3 by omega) 0 (.int .u64 je)) (show w.heap.size <= w.heap.size+3 by omega) 1 (.int .u64 3)
   generalize World.setCell (World.setCell wG _ _) _ _=wf at kf kcf h8 m8 |-;have cf:=kf.cell;have ccf:=kcf.cell;clear cr fr da;go_wp2;exact bodyPost_ret (by simp [results,Tryz.results40,go_sem,cf,ccf]) rfl ⟨rfl,F2,h8,m8⟩
end Go.Proofs.YtjipleoamlmkfaaGreat
