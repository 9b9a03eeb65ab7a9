/- A part of the proof. No condition. -/
import Derived.Test.YtdhhdplholkmdaaGreatProg
import Derived.Test.YtdhhdplholkmdaaGreatPC34

namespace Go.Proofs.YtdhhdplholkmdaaGreat
open Go.RowKit Go.Maps
theorem kB:(Tryz.prog.info? 202).map (fun i=>(i.zero,i.size,i.bytes))=some (some (.pointer none),1,8):=by kernel_rfl
theorem zDf {w:World} {g i:Nat} (h:i<3):(Instr.index 203 (.agg #[.pointer (some ⟨g,0,none⟩), .pointer (some ⟨g,1,none⟩), .pointer (some ⟨g,2,none⟩)]) (.int .i64 (i:Int))).run Tryz.prog w= .ok (.pointer (some ⟨g,i,none⟩)) w:=by
 obtain ⟨i0,hi,-,hs,-⟩:=info_parts kB
 rcases (show i=0∨i=1∨i=2 by omega) with rfl | rfl | rfl <;> simp [Instr.index,run_underlying Tryz.underlying203,asIntOf,part,Result.andThen,isAgg,run_underlying Tryz.underlying202,sizeOf,typeInfo,hi,hs]
def YN (s:Tr):Nat→Tr
 | 0=>s
 | k+1=>Va (YN s k)
theorem Jf (s:Tr):∀ k,(YN s k).st=s.st
 | 0=>rfl
 | k+1=>Jf s k
theorem U5 (s:Tr):∀ k,(YN s k).ct=s.ct+k
 | 0=>rfl
 | k+1=>by show (YN s k).ct+1=_;rw [U5 s k];omega
set_option maxRecDepth 100000 in
set_option maxHeartbeats 2000000 in
theorem Gc {w:World} {g:Nat} {O:Orc} {F:Nat→Prop} (h:OrcAt w g O F) (st ct:Nat) (hst:st<18446744073709551616) (L:YO) (hp:0<L.p) (hp2:L.p<18446744073709551616) (root:Nat) (hr:root<18446744073709551616) (hO:YX O 900000) :
  Calls Tryz.prog 55 #[.pointer (some ⟨g,0,none⟩), .agg #[.int .u64 (st:Int), .int .u64 (ct:Int)], .agg (ZH L), .int .u64 (root:Int)] w fun e w' =>
   e= .returned (.tuple #[.agg #[.int .u64 ((Yy ⟨O,st,ct⟩ L.p root).al:Int), .int .u64 ((Yy ⟨O,st,ct⟩ L.p root).rh:Int), .int .u64 ((Yy ⟨O,st,ct⟩ L.p root).be:Int)], .agg #[.int .u64 ((Z7 ⟨O,st,ct⟩ root).st:Int), .int .u64 3]]) ∧
   ∃ F',OrcAt w' g (Z7 ⟨O,st,ct⟩ root).O F'∧Moved F F' w w':=by
 obtain ⟨ks,kl,kc,kr,hb0,hsz⟩:=JJ w 120 50 46 120 #[.int .u64 (st:Int), .int .u64 (ct:Int)] (ZH L) #[.int .u64 0, .int .u64 0, .int .u64 0] #[.int .u64 0, .int .u64 0]
 have hans:=h.ok.ans
 have H64:=Lib.hid (show ∀ x∈[root],x<18446744073709551616 from YJ hr (fun _ h=>nomatch h))
 obtain ⟨st1,hst1⟩:∃ st1,st1=Yl O 18 [st,2,root]:=⟨_,rfl⟩
 have HS1:=Lib.hid hst1
 have hl1:=Lib.hid (show st1<18446744073709551616 by rw [hst1];exact Xj (VO hans 18 _))
 obtain ⟨a,ha⟩:∃ a,a=XY ⟨O,st,ct⟩ 2 [root]:=⟨_,rfl⟩
 have ha1:a.st=st1:=by rw [ha,hst1];rfl
 have ha2:a.ct=0:=by rw [ha];rfl
 obtain ⟨OO,hOO⟩:∃ OO:Nat→Orc,OO=fun k=>(YN a k).O:=⟨_,rfl⟩
 obtain ⟨V,hV⟩:∃ V:Nat→Nat,V=fun k=>VE (YN a k)%L.p:=⟨_,rfl⟩
 have HO0:=Lib.hid (show Z3 O 18 [st,2,root]=OO 0 by rw [hOO,ha];rfl)
 have HON:=Lib.hid (show ∀ k,Z3 (OO k) 19 [st1,k]=OO (k+1) from fun k=>by rw [hOO,←ha1,←Jf a k];show _=Z3 _ 19 [(YN a k).st,(YN a k).ct];rw [U5,ha2,Nat.zero_add])
 have HVN:=Lib.hid (show ∀ k,Yl (OO k) 19 [st1,k]%L.p=V k from fun k=>by rw [hV,hOO,←ha1,←Jf a k];show _=Yl _ 19 [(YN a k).st,(YN a k).ct]%L.p;rw [U5,ha2,Nat.zero_add])
 have HLE:=Lib.hid (show ∀ k,YX (OO k) (900001+k) from fun k=>by
  induction k with
  | zero=>rw [←HO0.out];exact Y2 hO 18 _
  | succ k ih=>rw [←HON.out k];exact Y2 ih 19 _)
 have HF1:=Lib.hid (show Yy ⟨O,st,ct⟩ L.p root=⟨V 0,V 1,V 2⟩ by unfold Yy;rw [←ha,hV];rfl)
 have HF2:=Lib.hid (show (Z7 ⟨O,st,ct⟩ root).st=st1∧(Z7 ⟨O,st,ct⟩ root).O=OO 3 by unfold Z7;rw [←ha,hOO,←ha1];exact ⟨rfl,rfl⟩)
 rw [HF1.out,HF2.out.1,HF2.out.2]
 have HORC:=Lib.hid h
 have HO:=Lib.hid hO
 have HST:=Lib.hid hst
 have HP:=Lib.hid (And.intro hp hp2)
 have nF:∀ b,w.heap.size≤b→¬F b:=fun b hb e=>by have:=h.lt b e;omega
 clear hst1 ha ha1 ha2 hOO hV h hO hst hr hp hp2 hans
 unfold ZH at *
 go_enter Tryz.func55,Tryz.ntmps55
 go_upto_region 2 with fail
 generalize (((w.alloc _).alloc _).alloc _).alloc _=w1 at ks kl kc kr hb0 hsz ⊢
 have kx:=Blk.new w1 46 #[.int .u64 0, .int .u64 0, .int .u64 0]
 have hal0:=(Below.refl w1.heap.size w1).alloc (Nat.le_refl _) (.cells #[.int .u64 0, .int .u64 0, .int .u64 0] 46)
 replace ks:=ks.below hal0 ks.lt
 replace kl:=kl.below hal0 kl.lt
 replace kc:=kc.below hal0 kc.lt
 replace kr:=kr.below hal0 kr.lt
 replace hb0:=Za hb0 hal0
 have hgx:w1.heap.size=w.heap.size+4:=hsz
 generalize w1.alloc _=w2 at ks kl kc kr kx hb0 ⊢
 rw [hgx] at kx
 obtain ⟨gx,hgx2⟩:∃ gx,gx=w.heap.size+4:=⟨_,rfl⟩
 rw [←hgx2] at kx ⊢
 have HGX:=Lib.hid hgx2
 have lx2:=kx.lt
 clear hal0 hgx hsz hgx2
 have hal:=(Below.refl w2.heap.size w2).alloc (Nat.le_refl _) (.cells #[.int .u64 (root:Int)] 22)
 have kp:=Blk.new w2 22 #[.int .u64 (root:Int)]
 have HAb:=Lib.hid (UP (HORC.out.below (Za hb0 hal)) st ct 2 (some ⟨w2.heap.size,0,none⟩) 1 1 [root] (zAo (l:=[root]) kp rfl H64.out (by simp [maxLen])) (by simp) HST.out (by decide) (Yn HO.out (by decide)))
 have HB3:=Lib.hid (Za hb0 hal)
 have cs:=ks.cell
 have lss:=ks.lt
 have KS:=Lib.hid (ks.below hal ks.lt)
 have KL:=Lib.hid (kl.below hal kl.lt)
 have KC:=Lib.hid (kc.below hal kc.lt)
 have KR:=Lib.hid (kr.below hal kr.lt)
 have KX:=Lib.hid (kx.below hal kx.lt)
 clear kp hal ks kl kc kr kx hb0 lx2
 go_wp2_with fail
 refine HAb.out.mono ?_
 rintro _ w3 ⟨rfl,F1,h3,m3⟩
 simp only [←HS1.out]
 rw [HO0.out] at h3
 have ks:=KS.out.moved m3 (nF _ (Nat.le_refl _))
 have kl:=KL.out.moved m3 (nF _ (Nat.le_add_right _ _))
 have kc:=KC.out.moved m3 (nF _ (by omega))
 have kr:=KR.out.moved m3 (nF _ (by omega))
 have kx:=KX.out.moved m3 (nF _ (by rw [HGX.out];exact Nat.le_add_right _ _))
 have mm:=(Zp (F:=F) HB3.out).trans m3
 have nF1:∀ b,w.heap.size≤b→b<w.heap.size+5→¬F1 b:=fun b h1 h2=>Yu m3 (Nat.lt_of_lt_of_le h2 (by have:=KX.out.lt;rw [HGX.out] at this;exact this)) (nF b h1)
 have ngx:w.heap.size+3<gx:=by rw [HGX.out];exact Nat.lt_succ_self _
 have n0:=nF1 _ (Nat.le_refl _) (by omega)
 have HO4:=Lib.hid ((h3.set n0 (.int .u64 (st1:Int)) (i:=0)).set n0 (.int .u64 0) (i:=1))
 have HM4:=Lib.hid (Zy (Zy mm (Nat.le_refl _) 0 (.int .u64 (st1:Int))) (Nat.le_refl _) 1 (.int .u64 0))
 have NF1:=Lib.hid nF1
 have cl:=kl.cell
 clear h3 mm m3 n0 nF1 HAb HB3 KS KL KC KR KX cs lss cl
 have cs_:=ks.cell
 have fs_:=ks.frozen
 have ksS:=Zn [.int .u64 (st1:Int), .int .u64 0] ks rfl
 have klS:=(Zg (g:=w.heap.size) (by omega) [.int .u64 (st1:Int), .int .u64 0] 0 w3).trans kl
 have kcS:=(Zg (g:=w.heap.size) (by omega) [.int .u64 (st1:Int), .int .u64 0] 0 w3).trans kc
 have krS:=(Zg (g:=w.heap.size) (by omega) [.int .u64 (st1:Int), .int .u64 0] 0 w3).trans kr
 have kxS:=(Zg (g:=w.heap.size) (by omega) [.int .u64 (st1:Int), .int .u64 0] 0 w3).trans kx
 have hsS:w3.heap.size≤(Zm w3 (w.heap.size) [.int .u64 (st1:Int), .int .u64 0] 0).heap.size:=by simp [Zm,World.setCell]
 simp only [Zm,Nat.zero_add] at ksS klS kcS krS kxS hsS
 try simp only [Nat.reduceAdd] at ksS klS kcS krS kxS hsS
 have H_ks:=Lib.hid ksS
 have H_kl:=Lib.hid klS
 have H_kc:=Lib.hid kcS
 have H_kr:=Lib.hid krS
 have H_kx:=Lib.hid kxS
 have H_hsS:=Lib.hid hsS
 clear ksS klS kcS krS kxS ks kl kc kr kx hsS
 go_wp2_with fail
 generalize World.setCell (World.setCell (w3) _ _) _ _=w4 at H_ks H_kl H_kc H_kr H_kx H_hsS HO4 HM4 ⊢
 clear cs_ fs_
 have ks:Blk w4 _ _ _:=H_ks.out
 have kl:Blk w4 _ _ _:=H_kl.out
 have kc:Blk w4 _ _ _:=H_kc.out
 have kr:Blk w4 _ _ _:=H_kr.out
 have kx:Blk w4 _ _ _:=H_kx.out
 clear H_ks H_kl H_kc H_kr H_kx
 clear H_hsS
 go_loopw [23] (fun y wr=>∃ (i:Nat) (F2:Nat→Prop),i≤3∧y= .int .i64 (i:Int)∧OrcAt wr g (OO i) F2∧Moved F F2 w wr∧Blk wr w.heap.size 120 #[.int .u64 (st1:Int), .int .u64 (i:Int)]∧Blk wr (w.heap.size+1) 50 #[.int .u64 (L.p:Int), .int .i64 (L.block:Int), .int .i64 (L.queries:Int), .int .i64 (L.k:Int), .int .i64 (L.n:Int), .int .i64 (L.secret:Int), .int .i64 (L.rows:Int), .int .i64 (L.a:Int), .int .i64 (L.b:Int), .int .i64 (L.b:Int), .int .i64 (L.b:Int)]∧Blk wr (w.heap.size+2) 46 #[.int .u64 0, .int .u64 0, .int .u64 0]∧Blk wr (w.heap.size+3) 120 #[.int .u64 0, .int .u64 0]∧Blk wr gx 46 (Ua 3 fun k=>if k<i then V k else 0)∧(∀ b,w.heap.size≤b→b<w.heap.size+5→¬F2 b)) (fun y _=>3-(intOf y).toNat)
 case atStart=>exact ⟨0,F1,by decide,rfl,HO4.out,HM4.out,ks,kl,kc,kr,kx,NF1.out⟩
 case round =>
  clear ks kl kc kr kx HO4 HM4
  obtain ⟨i,F2,hi,rfl,h4,m4,ks,kl,kc,kr,kx,nF2⟩:=hrel
  by_cases hlt:i<3
  ·have q1:(0:Int)≤(i:Int):=by omega
   have q2:(i:Int)<3:=by omega
   have ix:=fun w=>zDf (w:=w) (g:=gx) hlt
   have HLT:=Lib.hid hlt
   obtain ⟨hp,hp2⟩:=HP.out
   have HC:=Lib.hid (US h4 st1 i L.p hp hp2 hl1.out (by omega) (Yn (HLE.out i) (by omega)))
   obtain ⟨i1,hi1⟩:∃ i1,i1=i+1:=⟨_,rfl⟩
   rw [←hi1] at HC
   have HI1:=Lib.hid hi1
   have cs:=ks.cell
   have cl:=kl.cell
   have H4:=Lib.hid h4
   clear hi1
   clear hlt hp hp2 h4
   go_wp2_with fail
   refine HC.out.mono ?_
   rintro _ w5 ⟨rfl,F3,h5,m5⟩
   rw [HON.out i,←HI1.out] at h5
   simp only [HVN.out i]
   have k5s:=ks.moved m5 (nF2 _ (Nat.le_refl _) (by omega))
   have k5l:=kl.moved m5 (nF2 _ (by omega) (by omega))
   have k5c:=kc.moved m5 (nF2 _ (by omega) (by omega))
   have k5r:=kr.moved m5 (nF2 _ (by omega) (by omega))
   have k5x:=kx.moved m5 (nF2 _ (by omega) (by rw [HGX.out];omega))
   have nF3:∀ b,w.heap.size≤b→b<w.heap.size+5→¬F3 b:=fun b h1 h2=>Yu m5 (Nat.lt_of_lt_of_le h2 (by have:=kx.lt;rw [HGX.out] at this;exact this)) (nF2 b h1 h2)
   have n30:=nF3 _ (Nat.le_refl _) (by omega)
   have n3x:=nF3 gx (by omega) (by rw [HGX.out];omega)
   have mm:=m4.trans m5
   have H6:=Lib.hid (((h5.set n3x (.int .u64 (V i:Int)) (i:=i)).set n30 (.int .u64 (st1:Int)) (i:=0)).set n30 (.int .u64 (i1:Int)) (i:=1))
   have M6:=Lib.hid (Zy (Zy (Zy mm (show w.heap.size≤gx by omega) i (.int .u64 (V i:Int))) (Nat.le_refl _) 0 (.int .u64 (st1:Int))) (Nat.le_refl _) 1 (.int .u64 (i1:Int)))
   have kx6:=((k5x.set_ i (.int .u64 (V i:Int))).far (p:=⟨w.heap.size,0,none⟩) (show gx≠w.heap.size by omega) (.int .u64 (st1:Int))).far (p:=⟨w.heap.size,1,none⟩) (show gx≠w.heap.size by omega) (.int .u64 (i1:Int))
   rw [zCy,zEy,←HI1.out] at kx6
   have KX6:=Lib.hid kx6
   have KS6:=Lib.hid (Uz (k5s.far (p:=⟨gx,i,none⟩) (show w.heap.size≠gx by omega) (.int .u64 (V i:Int))) 0 1 (.int .u64 (st1:Int)) (.int .u64 (i1:Int)))
   have KL6:=Lib.hid (((k5l.far (p:=⟨gx,i,none⟩) (show w.heap.size+1≠gx by omega) (.int .u64 (V i:Int))).far (p:=⟨w.heap.size,0,none⟩) (show w.heap.size+1≠w.heap.size by omega) (.int .u64 (st1:Int))).far (p:=⟨w.heap.size,1,none⟩) (show w.heap.size+1≠w.heap.size by omega) (.int .u64 (i1:Int)))
   have KC6:=Lib.hid (((k5c.far (p:=⟨gx,i,none⟩) (show w.heap.size+2≠gx by omega) (.int .u64 (V i:Int))).far (p:=⟨w.heap.size,0,none⟩) (show w.heap.size+2≠w.heap.size by omega) (.int .u64 (st1:Int))).far (p:=⟨w.heap.size,1,none⟩) (show w.heap.size+2≠w.heap.size by omega) (.int .u64 (i1:Int)))
   have KR6:=Lib.hid (((k5r.far (p:=⟨gx,i,none⟩) (show w.heap.size+3≠gx by omega) (.int .u64 (V i:Int))).far (p:=⟨w.heap.size,0,none⟩) (show w.heap.size+3≠w.heap.size by omega) (.int .u64 (st1:Int))).far (p:=⟨w.heap.size,1,none⟩) (show w.heap.size+3≠w.heap.size by omega) (.int .u64 (i1:Int)))
   have NF3:=Lib.hid nF3
   have hcx:=k5x.cell i
   rw [zEf _ HLT.out] at hcx
   have hfx:=k5x.frozen
   have hcs:=k5s.cell
   have hfs:=k5s.frozen
   have nex:w.heap.size≠gx:=by omega
   clear h5 m5 mm m4 kx6 k5s k5l k5c k5r k5x nF3 n30 n3x nF2 ks kl kc kr kx cs cl HC H4
   go_wp2
   generalize ((w5.setCell ⟨gx,i,none⟩ _).setCell _ _).setCell _ _=w6 at H6 M6 KX6 KS6 KL6 KC6 KR6 ⊢
   have ks7:Blk w6 w.heap.size 120 #[.int .u64 (st1:Int), .int .u64 (i1:Int)]:=by simpa using KS6.out
   clear hcx hfx hcs hfs
   go_roundw
   case rel=>exact ⟨i1,F3,by rw [HI1.out];exact HLT.out,by rw [HI1.out];go_num,H6.out,M6.out,ks7,KL6.out,KC6.out,KR6.out,KX6.out,NF3.out⟩
   case measure=>have:=HLT.out;simp [intOf];omega
  ·obtain rfl:i=3:=by omega
   have kx2:Blk wr gx 46 #[.int .u64 (V 0:Int), .int .u64 (V 1:Int), .int .u64 (V 2:Int)]:=kx
   have ks2:Blk wr w.heap.size 120 #[.int .u64 (st1:Int), .int .u64 3]:=ks
   obtain ⟨NQ,hNQ⟩:∃ NQ,NQ=wr.heap.size:=⟨_,rfl⟩
   have lx:gx<NQ:=by rw [hNQ];exact kx2.lt
   have l1:w.heap.size<NQ:=by rw [hNQ];exact ks2.lt
   obtain ⟨Vr,hVr⟩:∃ Vr:Nat→Prop,Vr=fun b=>b=w.heap.size+2∨b=w.heap.size+3:=⟨_,rfl⟩
   have v1:¬Vr w.heap.size:=by rw [hVr];omega
   have v2:¬Vr gx:=by rw [hVr];omega
   have HV2:=Lib.hid (show Vr (w.heap.size+2) by rw [hVr];exact .inl rfl)
   have HV3:=Lib.hid (show Vr (w.heap.size+3) by rw [hVr];exact .inr rfl)
   have cs:=ks2.cell
   have cx:=kx2.cell
   have KC:=Lib.hid kc
   have KR:=Lib.hid kr
   have H5:=Lib.hid h4
   have M5:=Lib.hid m4
   have n2:=nF2 (w.heap.size+2) (by omega) (by omega)
   have n3:=nF2 (w.heap.size+3) (by omega) (by omega)
   have HNQ:=Lib.hid hNQ
   clear ks ks2 kl kc kr kx kx2 hVr h4 m4 hNQ nF2 hi
   go_upto_region 8 with fail
   refine YI (Vr) (NoX) (NQ) [2,3] [0,1] [] [2,3] (by kernel_rfl) (List.forall_mem_nil _) (by kernel_rfl) ?_
   refine Yp ?_
   intro Wc HWc hacc
   have hFT:Hid (X5 Vr NQ NoX Wc):=Lib.hid (by rw [HWc.out,HNQ.out];exact ⟨Nat.le_refl _,fun _ h=>h.elim,fun _ _ h=>h.elim⟩)
   have KC2:=Lib.hid (show Blk Wc _ _ _ by rw [HWc.out];exact KC.out.drew)
   have KR2:=Lib.hid (show Blk Wc _ _ _ by rw [HWc.out];exact KR.out.drew)
   have H6:=Lib.hid (show OrcAt Wc _ _ _ by rw [HWc.out];exact H5.out.drew)
   have M6:=Lib.hid (show Moved F F2 w Wc by rw [HWc.out];exact YF M5.out)
   clear HWc KC KR H5 M5
   repeat (first | (refine ZV rfl rfl (fun _ _ _ h=>h) ?_;simp only [Act.put,zLa,zLb,zLc]) | (refine ZJ (v:=?_) rfl rfl hFT (fun _ _ _ h=>h) ?_ ?_;rotate_left;(· (intro w' hR;(first | have hcells:=Zi ((Zb Vr NQ).trans _ _ _ hacc hR) | skip);go_simp;try with_reducible rfl));simp only [Act.put,zLa,zLb,zLc]))
   refine Xp [] rfl hFT (fun gsE wE hxE hflE=>?_)
   clear hflE
   unfold Jq
   try simp only [List.foldl]
   replace KC2:=Lib.hid (KC2.out.below hxE KC2.out.lt)
   replace KR2:=Lib.hid (KR2.out.below hxE KR2.out.lt)
   replace H6:=Lib.hid (H6.out.below hxE)
   replace M6:=Lib.hid (M6.out.trans (Zp hxE))
   replace hacc:=(Zb Vr NQ).trans _ _ _ hacc (Zj hxE hFT.out.size)
   replace hFT:=Lib.hid (Zo hFT.out hxE)
   try simp only [Act.put,zLa,zLb,zLc]
   clear hxE
   have cc:=KC2.out.cell
   have fc:=KC2.out.frozen
   repeat (first | (refine Zh (Zb Vr NQ) rfl rfl (fun _ _ _ h=>h) ?_;simp only [Act.put,zLa,zLb,zLc]) | (refine Ze (v:=?_) (Zb Vr NQ) rfl rfl (fun _ _ _ h=>h) ?_ ?_;rotate_left;(· (intro w' hR;(first | have hcells:=Zi ((Zb Vr NQ).trans _ _ _ hacc hR) | skip);go_simp;try with_reducible rfl));simp only [Act.put,zLa,zLb,zLc]))
   refine Zs (Zb Vr NQ) rfl rfl rfl ?_
   go_simp
   refine ⟨YV HV2.out [.int .u64 (V 0:Int), .int .u64 (V 1:Int), .int .u64 (V 2:Int)] _,?_⟩
   try simp only [Act.put,zLa,zLb,zLc]
   have kc3:=Zn [.int .u64 (V 0:Int), .int .u64 (V 1:Int), .int .u64 (V 2:Int)] KC2.out rfl
   have kr3:=(Zg (g:=w.heap.size+2) (b:=w.heap.size+3) (by omega) [.int .u64 (V 0:Int), .int .u64 (V 1:Int), .int .u64 (V 2:Int)] 0 wE).trans KR2.out
   simp only [Zm,Nat.zero_add,Nat.reduceAdd] at kc3 kr3
   have h7:=Lib.hid (((H6.out.set n2 (.int .u64 (V 0:Int)) (i:=0)).set n2 (.int .u64 (V 1:Int)) (i:=1)).set n2 (.int .u64 (V 2:Int)) (i:=2))
   have m7:=Lib.hid (Zy (Zy (Zy M6.out (show w.heap.size≤w.heap.size+2 by omega) 0 (.int .u64 (V 0:Int))) (show w.heap.size≤w.heap.size+2 by omega) 1 (.int .u64 (V 1:Int))) (show w.heap.size≤w.heap.size+2 by omega) 2 (.int .u64 (V 2:Int)))
   generalize World.setCell (World.setCell (World.setCell wE _ _) _ _) _ _=wG at kc3 kr3 h7 m7 ⊢
   have kr4:Blk wG _ _ _:=kr3
   have cr:=kr4.cell
   have fr:=kr4.frozen
   have KC3:=Lib.hid kc3
   clear kc3 kr3 cc fc hacc hFT H6 M6
   have hacc:=(Zb Vr NQ).refl wG
   repeat (first | (refine Zh (Zb Vr NQ) rfl rfl (fun _ _ _ h=>h) ?_;simp only [Act.put,zLa,zLb,zLc]) | (refine Ze (v:=?_) (Zb Vr NQ) rfl rfl (fun _ _ _ h=>h) ?_ ?_;rotate_left;(· (intro w' hR;(first | have hcells:=Zi ((Zb Vr NQ).trans _ _ _ hacc hR) | skip);go_simp;try with_reducible rfl));simp only [Act.put,zLa,zLb,zLc]))
   refine Zs (Zb Vr NQ) rfl rfl rfl ?_
   go_simp
   refine ⟨YV HV3.out [.int .u64 (st1:Int), .int .u64 3] _,?_⟩
   try simp only [Act.put,zLa,zLb,zLc]
   refine Zt ?_
   have kf:=Uz kr4 0 1 (.int .u64 (st1:Int)) (.int .u64 3)
   have kcf:=(KC3.out.far (p:=⟨w.heap.size+3,0,none⟩) (show w.heap.size+2≠w.heap.size+3 by omega) (.int .u64 (st1:Int))).far (p:=⟨w.heap.size+3,1,none⟩) (show w.heap.size+2≠w.heap.size+3 by omega) (.int .u64 3)
   have h8:=(h7.out.set n3 (.int .u64 (st1:Int)) (i:=0)).set n3 (.int .u64 3) (i:=1)
   have m8:=Zy (Zy m7.out (show w.heap.size≤w.heap.size+3 by omega) 0 (.int .u64 (st1:Int))) (show w.heap.size≤w.heap.size+3 by omega) 1 (.int .u64 3)
   generalize World.setCell (World.setCell wG _ _) _ _=wf at kf kcf h8 m8 ⊢
   have cf:=kf.cell
   have ccf:=kcf.cell
   clear cr fr hacc
   go_wp2
   exact bodyPost_ret (by simp [results,Tryz.results55,go_sem,cf,ccf]) rfl ⟨rfl,F2,h8,m8⟩
end Go.Proofs.YtdhhdplholkmdaaGreat
