/- A part of the proof. No condition. -/
import Derived.Test.YtdhhdplholkmdaaGreatProg
import Derived.Test.YtdhhdplholkmdaaGreatPC32

namespace Go.Proofs.YtdhhdplholkmdaaGreat
open Go.RowKit
theorem zEg (w:World) (x:Nat) (t:TypeId):(w.alloc (.cells #[.int .u64 (x:Int)] t)).ownsRow w.heap.size t 1 (.slice (some ⟨w.heap.size,0,none⟩) 1 1) 1 (U64 [x]) :=
 ⟨rfl, .inr ⟨w.heap.size,1,_,rfl,Nat.le_refl _,heap_alloc_new w _,Nat.le_refl _,by simp [maxLen],rfl,rfl⟩⟩
structure KY (O:Orc) (k:Nat):Prop where
 fair:Gb O
 ans:K5 O
 le:YX O k
 st:O.st<18446744073709551616
theorem zDh {O:Orc} (h:O.st<18446744073709551616) (lab:Nat) (el:List Nat):(Z3 O lab el).st<18446744073709551616:=by
 unfold Z3
 split
 ·split
  ·exact h
  ·split
   ·exact Nat.mod_lt _ (by decide)
   ·exact h
 ·exact h
theorem GN {O:Orc} {k:Nat} (h:KY O k) (lab:Nat) (el:List Nat):KY (Z3 O lab el) (k+1):=⟨zBf h.fair lab el,Kz h.ans lab el,Y2 h.le lab el,zDh h.st lab el⟩
structure Ue (s:Tr) (k c:Nat):Prop where
 o:KY s.O k
 st:s.st<18446744073709551616
 ct:s.ct≤c
theorem Jg {s:Tr} {k c:Nat} (h:Ue s k c) (tag:Nat) (l:List Nat):Ue (XY s tag l) (k+1) 0:=⟨GN h.o _ _,Xj (VO h.o.ans _ _),Nat.le_refl _⟩
theorem VK {s:Tr} {k c:Nat} (h:Ue s k c):Ue (Va s) (k+1) (c+1):=⟨GN h.o _ _,h.st,Nat.succ_le_succ h.ct⟩
theorem KW {K:Nat→Prop} {s:Tr} {k ct:Nat} (h:Ue s k ct) (hk:k≤1000000) (A B:Option Addr) (n c m d tag:Nat) (l:List Nat) (w:World) (hq:Hd K w fun u=>RQs u [.slice A n c] s.O.qs) (hl:RWd w [.slice B m d] l) (htag:tag<18446744073709551616) (hm:l.length≤100000) :
  Calls Tryz.prog 120 #[.agg (VH s (.slice A n c)), .int .u64 (tag:Int), .slice B m d] w fun e w'=>∃ A' n' c',e= .returned (.agg (VH (XY s tag l) (.slice A' n' c')))∧Hd (fun b=>K b∨w.heap.size≤b) w' (fun u=>RQs u [.slice A' n' c'] (XY s tag l).O.qs)∧Below w.heap.size w w' :=
 JS s h.o.fair A B n c m d tag l w hq hl h.o.st h.st htag (Yn h.o.le hk) hm
theorem XZ {K:Nat→Prop} {s:Tr} {k ct:Nat} (h:Ue s k ct) (hk:k≤1000000) (hct:ct<1000000) (A:Option Addr) (n c:Nat) (w:World) (hq:Hd K w fun u=>RQs u [.slice A n c] s.O.qs) :
  Calls Tryz.prog 121 #[.agg (VH s (.slice A n c))] w fun e w'=>∃ A' n' c',e= .returned (.tuple #[.int .u64 (VE s:Int), .agg (VH (Va s) (.slice A' n' c'))])∧Hd (fun b=>K b∨w.heap.size≤b) w' (fun u=>RQs u [.slice A' n' c'] (Va s).O.qs)∧Below w.heap.size w w' :=
 K8 s h.o.fair A n c w hq h.o.st h.st (Nat.lt_of_le_of_lt h.ct hct) (Yn h.o.le hk)
theorem zEh {r:Nat} (h:r<18446744073709551616):IntKind.u64.wrap (r:Int)=(r:Int):=by rw [IntKind.wrap_u64];omega
theorem Gj {K:Nat→Prop} {w w':World} {Q:World→Prop} (h:Hd (fun b=>(K b∨w.heap.size≤b)) w' Q) (hK:∀ b,w.heap.size≤b→K b):Hd K w' Q:=YT h fun b hb=>hb.elim id (hK b)
theorem zAv {K:Nat→Prop} {N:Nat} {w w':World} {Q:World→Prop} (h:Hd (fun b=>(K b∨w.heap.size≤b)) w' Q) (hN:N≤w.heap.size):Hd (fun b=>K b∨N≤b) w' Q:=YT h fun _ hb=>hb.elim .inl fun e=>.inr (Nat.le_trans hN e)
set_option maxRecDepth 100000 in
set_option maxHeartbeats 2000000 in
theorem yY {K:Nat→Prop} {s:Tr} {k ct:Nat} (h:Ue s k ct) (hk:k≤900000) (L:YO) (hp:0<L.p) (hp2:L.p<18446744073709551616) (A:Option Addr) (n c root:Nat) (w:World) (hq:Hd K w fun u=>RQs u [.slice A n c] s.O.qs) (hr:root<18446744073709551616) :
  Calls Tryz.prog 59 #[.agg (VH s (.slice A n c)), .agg (ZH L), .int .u64 (root:Int)] w fun e w'=>∃ A' n' c',e= .returned (.tuple #[.agg #[.int .u64 ((Yy s L.p root).al:Int), .int .u64 ((Yy s L.p root).rh:Int), .int .u64 ((Yy s L.p root).be:Int)], .agg (VH (Z7 s root) (.slice A' n' c'))]) ∧
   Hd (fun b=>K b∨w.heap.size≤b) w' (fun u=>RQs u [.slice A' n' c'] (Z7 s root).O.qs)∧Below w.heap.size w w':=by
 obtain ⟨ks,kl,kc,kr,hb0,hsz⟩:=JJ w 127 38 52 127 (VH s (.slice A n c)) (ZH L) #[.int .u64 0, .int .u64 0, .int .u64 0] #[.bool false, .int .u64 0, .int .i64 0, .slice none 0 0, .slice none 0 0, .slice none 0 0, .int .u64 0, .int .u64 0]
 obtain ⟨s1,hs1⟩:∃ s1,s1=XY s 2 [root]:=⟨_,rfl⟩
 obtain ⟨s2,hs2⟩:∃ s2,s2=Va s1:=⟨_,rfl⟩
 obtain ⟨s3,hs3⟩:∃ s3,s3=Va s2:=⟨_,rfl⟩
 obtain ⟨s4,hs4⟩:∃ s4,s4=Va s3:=⟨_,rfl⟩
 have t1:Ue s1 (k+1) 0:=by rw [hs1];exact Jg h 2 _
 have t2:Ue s2 (k+2) 1:=by rw [hs2];exact VK t1
 have t3:Ue s3 (k+3) 2:=by rw [hs3];exact VK t2
 have H1:=Lib.hid (fun A1 n1 c1 w1 (hb:Below w.heap.size w w1) (h1:RWd w1 [.slice A1 n1 c1] [root])=>by have:=KW (K:=fun b=>K b∧b<w.heap.size) h (Nat.le_trans hk (by decide)) A A1 n c n1 c1 2 [root] w1 (Zw (V7 hq) (Zz hb)) h1 (by decide) (by simp);rw [←hs1] at this;exact this)
 have H2:=Lib.hid (fun KK A1 n1 c1 w1 (hq:Hd KK w1 fun u=>RQs u [.slice A1 n1 c1] s1.O.qs)=>by have:=XZ (K:=KK) t1 (by omega) (by decide) A1 n1 c1 w1 hq;rw [←hs2] at this;exact this)
 have H3:=Lib.hid (fun KK A1 n1 c1 w1 (hq:Hd KK w1 fun u=>RQs u [.slice A1 n1 c1] s2.O.qs)=>by have:=XZ (K:=KK) t2 (by omega) (by decide) A1 n1 c1 w1 hq;rw [←hs3] at this;exact this)
 have H4:=Lib.hid (fun KK A1 n1 c1 w1 (hq:Hd KK w1 fun u=>RQs u [.slice A1 n1 c1] s3.O.qs)=>by have:=XZ (K:=KK) t3 (by omega) (by decide) A1 n1 c1 w1 hq;rw [←hs4] at this;exact this)
 have e1:Z7 s root=s4:=by unfold Z7;rw [←hs1,←hs2,←hs3,←hs4]
 obtain ⟨x1,hx1⟩:∃ x1,x1=VE s1:=⟨_,rfl⟩
 obtain ⟨x2,hx2⟩:∃ x2,x2=VE s2:=⟨_,rfl⟩
 obtain ⟨x3,hx3⟩:∃ x3,x3=VE s3:=⟨_,rfl⟩
 have e2:Yy s L.p root=⟨x1%L.p,x2%L.p,x3%L.p⟩:=by unfold Yy;rw [←hs1,←hs2,←hs3,hx1,hx2,hx3]
 rw [e1,e2]
 rw [←hx1] at H2
 rw [←hx2] at H3
 rw [←hx3] at H4
 obtain ⟨r1,hr1⟩:∃ r1,r1=x1%L.p:=⟨_,rfl⟩
 obtain ⟨r2,hr2⟩:∃ r2,r2=x2%L.p:=⟨_,rfl⟩
 obtain ⟨r3,hr3⟩:∃ r3,r3=x3%L.p:=⟨_,rfl⟩
 have m1:(x1:Int).tmod (L.p:Int)=(r1:Int):=by rw [hr1];rfl
 have m2:(x2:Int).tmod (L.p:Int)=(r2:Int):=by rw [hr2];rfl
 have m3:(x3:Int).tmod (L.p:Int)=(r3:Int):=by rw [hr3];rfl
 have m4:¬((L.p:Int)=0):=by omega
 have m4':((L.p:Int) == 0)=false:=by simp;omega
 have n1':(x1:Int)%(L.p:Int)=(r1:Int):=by rw [hr1];rfl
 have n2':(x2:Int)%(L.p:Int)=(r2:Int):=by rw [hr2];rfl
 have n3':(x3:Int)%(L.p:Int)=(r3:Int):=by rw [hr3];rfl
 have hl1:r1<18446744073709551616:=by rw [hr1];exact Nat.lt_trans (Nat.mod_lt _ hp) hp2
 have hl2:r2<18446744073709551616:=by rw [hr2];exact Nat.lt_trans (Nat.mod_lt _ hp) hp2
 have hl3:r3<18446744073709551616:=by rw [hr3];exact Nat.lt_trans (Nat.mod_lt _ hp) hp2
 have o1:IntKind.u64.wrap (r1:Int)=(r1:Int):=zEh hl1
 have o2:IntKind.u64.wrap (r2:Int)=(r2:Int):=zEh hl2
 have o3:IntKind.u64.wrap (r3:Int)=(r3:Int):=zEh hl3
 have HM:=Lib.hid (And.intro m1 (And.intro m2 (And.intro m3 (And.intro m4 (And.intro m4' (And.intro n1' (And.intro n2' (And.intro n3' (And.intro o1 (And.intro o2 o3))))))))))
 simp only [←hr1,←hr2,←hr3]
 clear m1 m2 m3 m4 m4' n1' n2' n3' hl1 hl2 hl3 o1 o2 o3 hp2
 have H64:=Lib.hid (show ∀ x∈[root],x<18446744073709551616 from YJ hr (fun _ h=>nomatch h))
 clear hs1 hs2 hs3 hs4 t1 t2 t3 h hk hq hr e1 e2 hx1 hx2 hx3 hr1 hr2 hr3 hp
 unfold VH ZH at *
 go_enter Tryz.func59,Tryz.ntmps59
 go_upto_region 1 with fail
 generalize (((w.alloc _).alloc _).alloc _).alloc _=w1 at ks kl kc kr hb0 hsz ⊢
 have hal:=(Below.refl w1.heap.size w1).alloc (Nat.le_refl _) (.cells #[.int .u64 (root:Int)] 22)
 have hwr:=Vj (zEg w1 root 22) H64.out
 have HC:=Lib.hid (H1.out (some ⟨w1.heap.size,0,none⟩) 1 1 _ (Za hb0 hal) hwr)
 have cs:=ks.cell
 have ls:=ks.lt
 have HAL:=Lib.hid hal
 have W1:=Lib.hid (Nat.le_of_eq hsz.symm)
 clear hal hwr H1 hsz
 go_wp2_with fail
 refine HC.out.mono ?_
 rintro e w2 ⟨A2,n2,c2,rfl,hd2,hb2⟩
 have hb2':=Za HAL.out hb2
 have LA:=Lib.hid HAL.out.size
 replace ks:=ks.below hb2' ks.lt
 replace kl:=kl.below hb2' kl.lt
 replace kc:=kc.below hb2' kc.lt
 replace kr:=kr.below hb2' kr.lt
 replace hb0:=Za hb0 hb2'
 have hdA:=zAv hd2 (Nat.le_trans W1.out HAL.out.size)
 clear hb2 hb2' hd2 HC cs ls HAL
 have cs_:=ks.cell
 have fs_:=ks.frozen
 have ksS:=Zn [.bool s1.O.ideal, .int .u64 (s1.O.st:Int), .int .i64 (s1.O.dr:Int), .slice A2 n2 c2, .slice none 0 0, .slice none 0 0, .int .u64 (s1.st:Int), .int .u64 (s1.ct:Int)] ks rfl
 have klS:=(Zg (g:=w.heap.size) (by omega) [.bool s1.O.ideal, .int .u64 (s1.O.st:Int), .int .i64 (s1.O.dr:Int), .slice A2 n2 c2, .slice none 0 0, .slice none 0 0, .int .u64 (s1.st:Int), .int .u64 (s1.ct:Int)] 0 w2).trans kl
 have kcS:=(Zg (g:=w.heap.size) (by omega) [.bool s1.O.ideal, .int .u64 (s1.O.st:Int), .int .i64 (s1.O.dr:Int), .slice A2 n2 c2, .slice none 0 0, .slice none 0 0, .int .u64 (s1.st:Int), .int .u64 (s1.ct:Int)] 0 w2).trans kc
 have krS:=(Zg (g:=w.heap.size) (by omega) [.bool s1.O.ideal, .int .u64 (s1.O.st:Int), .int .i64 (s1.O.dr:Int), .slice A2 n2 c2, .slice none 0 0, .slice none 0 0, .int .u64 (s1.st:Int), .int .u64 (s1.ct:Int)] 0 w2).trans kr
 have hb0S:=Zq (xs:=[.bool s1.O.ideal, .int .u64 (s1.O.st:Int), .int .i64 (s1.O.dr:Int), .slice A2 n2 c2, .slice none 0 0, .slice none 0 0, .int .u64 (s1.st:Int), .int .u64 (s1.ct:Int)]) (g:=w.heap.size) hb0 (by omega)
 have hdAS:=Zw hdA (Yc (g:=w.heap.size) (fun h=>h.elim (fun h=>by have:=h.2;omega) (fun h=>by omega)) [.bool s1.O.ideal, .int .u64 (s1.O.st:Int), .int .i64 (s1.O.dr:Int), .slice A2 n2 c2, .slice none 0 0, .slice none 0 0, .int .u64 (s1.st:Int), .int .u64 (s1.ct:Int)] w2)
 have hsS:w2.heap.size≤(Zm w2 (w.heap.size) [.bool s1.O.ideal, .int .u64 (s1.O.st:Int), .int .i64 (s1.O.dr:Int), .slice A2 n2 c2, .slice none 0 0, .slice none 0 0, .int .u64 (s1.st:Int), .int .u64 (s1.ct:Int)] 0).heap.size:=by simp [Zm,World.setCell]
 simp only [Zm,Nat.zero_add] at ksS klS kcS krS hb0S hdAS hsS
 try simp only [Nat.reduceAdd] at ksS klS kcS krS hb0S hdAS hsS
 have H_ks:=Lib.hid ksS
 have H_kl:=Lib.hid klS
 have H_kc:=Lib.hid kcS
 have H_kr:=Lib.hid krS
 have H_hb0:=Lib.hid hb0S
 have H_hdA:=Lib.hid hdAS
 have H_hsS:=Lib.hid hsS
 clear ksS klS kcS krS hb0S hdAS ks kl kc kr hb0 hdA hsS
 go_upto_region 2 with fail
 generalize World.setCell (World.setCell (World.setCell (World.setCell (World.setCell (World.setCell (World.setCell (World.setCell (w2) _ _) _ _) _ _) _ _) _ _) _ _) _ _) _ _=w3 at H_ks H_kl H_kc H_kr H_hb0 H_hdA H_hsS  ⊢
 clear cs_ fs_
 have ks:Blk w3 _ _ _:=H_ks.out
 have kl:Blk w3 _ _ _:=H_kl.out
 have kc:Blk w3 _ _ _:=H_kc.out
 have kr:Blk w3 _ _ _:=H_kr.out
 have hb0:=H_hb0.out
 have hdA:=H_hdA.out
 clear H_ks H_kl H_kc H_kr H_hb0 H_hdA
 have cs:=ks.cell
 have HC:=Lib.hid (H2.out _ A2 n2 c2 w3 hdA)
 have W3:=kr.lt
 clear hdA
 go_wp2_with fail
 refine HC.out.mono ?_
 rintro e w4 ⟨A3,n3,c3,rfl,hd_,hb_⟩
 replace ks:=ks.below hb_ ks.lt
 replace kl:=kl.below hb_ kl.lt
 replace kc:=kc.below hb_ kc.lt
 replace kr:=kr.below hb_ kr.lt
 replace hb0:=Za hb0 hb_
 have hdB:=Gj hd_ (fun b h=>.inr (by omega))
 clear hb_ hd_ HC cs W3 H_hsS
 have cs_:=ks.cell
 have fs_:=ks.frozen
 have ksS:=Zn [.bool s2.O.ideal, .int .u64 (s2.O.st:Int), .int .i64 (s2.O.dr:Int), .slice A3 n3 c3, .slice none 0 0, .slice none 0 0, .int .u64 (s2.st:Int), .int .u64 (s2.ct:Int)] ks rfl
 have klS:=(Zg (g:=w.heap.size) (by omega) [.bool s2.O.ideal, .int .u64 (s2.O.st:Int), .int .i64 (s2.O.dr:Int), .slice A3 n3 c3, .slice none 0 0, .slice none 0 0, .int .u64 (s2.st:Int), .int .u64 (s2.ct:Int)] 0 w4).trans kl
 have kcS:=(Zg (g:=w.heap.size) (by omega) [.bool s2.O.ideal, .int .u64 (s2.O.st:Int), .int .i64 (s2.O.dr:Int), .slice A3 n3 c3, .slice none 0 0, .slice none 0 0, .int .u64 (s2.st:Int), .int .u64 (s2.ct:Int)] 0 w4).trans kc
 have krS:=(Zg (g:=w.heap.size) (by omega) [.bool s2.O.ideal, .int .u64 (s2.O.st:Int), .int .i64 (s2.O.dr:Int), .slice A3 n3 c3, .slice none 0 0, .slice none 0 0, .int .u64 (s2.st:Int), .int .u64 (s2.ct:Int)] 0 w4).trans kr
 have hb0S:=Zq (xs:=[.bool s2.O.ideal, .int .u64 (s2.O.st:Int), .int .i64 (s2.O.dr:Int), .slice A3 n3 c3, .slice none 0 0, .slice none 0 0, .int .u64 (s2.st:Int), .int .u64 (s2.ct:Int)]) (g:=w.heap.size) hb0 (by omega)
 have hdBS:=Zw hdB (Yc (g:=w.heap.size) (fun h=>h.elim (fun h=>by have:=h.2;omega) (fun h=>by omega)) [.bool s2.O.ideal, .int .u64 (s2.O.st:Int), .int .i64 (s2.O.dr:Int), .slice A3 n3 c3, .slice none 0 0, .slice none 0 0, .int .u64 (s2.st:Int), .int .u64 (s2.ct:Int)] w4)
 have hsS:w4.heap.size≤(Zm w4 (w.heap.size) [.bool s2.O.ideal, .int .u64 (s2.O.st:Int), .int .i64 (s2.O.dr:Int), .slice A3 n3 c3, .slice none 0 0, .slice none 0 0, .int .u64 (s2.st:Int), .int .u64 (s2.ct:Int)] 0).heap.size:=by simp [Zm,World.setCell]
 simp only [Zm,Nat.zero_add] at ksS klS kcS krS hb0S hdBS hsS
 try simp only [Nat.reduceAdd] at ksS klS kcS krS hb0S hdBS hsS
 have H_ks:=Lib.hid ksS
 have H_kl:=Lib.hid klS
 have H_kc:=Lib.hid kcS
 have H_kr:=Lib.hid krS
 have H_hb0:=Lib.hid hb0S
 have H_hdB:=Lib.hid hdBS
 have H_hsS:=Lib.hid hsS
 clear ksS klS kcS krS hb0S hdBS ks kl kc kr hb0 hdB hsS
 go_upto_region 3 with fail
 generalize World.setCell (World.setCell (World.setCell (World.setCell (World.setCell (World.setCell (World.setCell (World.setCell (w4) _ _) _ _) _ _) _ _) _ _) _ _) _ _) _ _=w5 at H_ks H_kl H_kc H_kr H_hb0 H_hdB H_hsS  ⊢
 clear cs_ fs_
 have ks:Blk w5 _ _ _:=H_ks.out
 have kl:Blk w5 _ _ _:=H_kl.out
 have kc:Blk w5 _ _ _:=H_kc.out
 have kr:Blk w5 _ _ _:=H_kr.out
 have hb0:=H_hb0.out
 have hdB:=H_hdB.out
 clear H_ks H_kl H_kc H_kr H_hb0 H_hdB
 have cs:=ks.cell
 have HC:=Lib.hid (H3.out _ A3 n3 c3 w5 hdB)
 have W3:=kr.lt
 clear hdB
 go_wp2_with fail
 refine HC.out.mono ?_
 rintro e w6 ⟨A4,n4,c4,rfl,hd_,hb_⟩
 replace ks:=ks.below hb_ ks.lt
 replace kl:=kl.below hb_ kl.lt
 replace kc:=kc.below hb_ kc.lt
 replace kr:=kr.below hb_ kr.lt
 replace hb0:=Za hb0 hb_
 have hdC:=Gj hd_ (fun b h=>.inr (by omega))
 clear hb_ hd_ HC cs W3 H_hsS
 have cs_:=ks.cell
 have fs_:=ks.frozen
 have ksS:=Zn [.bool s3.O.ideal, .int .u64 (s3.O.st:Int), .int .i64 (s3.O.dr:Int), .slice A4 n4 c4, .slice none 0 0, .slice none 0 0, .int .u64 (s3.st:Int), .int .u64 (s3.ct:Int)] ks rfl
 have klS:=(Zg (g:=w.heap.size) (by omega) [.bool s3.O.ideal, .int .u64 (s3.O.st:Int), .int .i64 (s3.O.dr:Int), .slice A4 n4 c4, .slice none 0 0, .slice none 0 0, .int .u64 (s3.st:Int), .int .u64 (s3.ct:Int)] 0 w6).trans kl
 have kcS:=(Zg (g:=w.heap.size) (by omega) [.bool s3.O.ideal, .int .u64 (s3.O.st:Int), .int .i64 (s3.O.dr:Int), .slice A4 n4 c4, .slice none 0 0, .slice none 0 0, .int .u64 (s3.st:Int), .int .u64 (s3.ct:Int)] 0 w6).trans kc
 have krS:=(Zg (g:=w.heap.size) (by omega) [.bool s3.O.ideal, .int .u64 (s3.O.st:Int), .int .i64 (s3.O.dr:Int), .slice A4 n4 c4, .slice none 0 0, .slice none 0 0, .int .u64 (s3.st:Int), .int .u64 (s3.ct:Int)] 0 w6).trans kr
 have hb0S:=Zq (xs:=[.bool s3.O.ideal, .int .u64 (s3.O.st:Int), .int .i64 (s3.O.dr:Int), .slice A4 n4 c4, .slice none 0 0, .slice none 0 0, .int .u64 (s3.st:Int), .int .u64 (s3.ct:Int)]) (g:=w.heap.size) hb0 (by omega)
 have hdCS:=Zw hdC (Yc (g:=w.heap.size) (fun h=>h.elim (fun h=>by have:=h.2;omega) (fun h=>by omega)) [.bool s3.O.ideal, .int .u64 (s3.O.st:Int), .int .i64 (s3.O.dr:Int), .slice A4 n4 c4, .slice none 0 0, .slice none 0 0, .int .u64 (s3.st:Int), .int .u64 (s3.ct:Int)] w6)
 have hsS:w6.heap.size≤(Zm w6 (w.heap.size) [.bool s3.O.ideal, .int .u64 (s3.O.st:Int), .int .i64 (s3.O.dr:Int), .slice A4 n4 c4, .slice none 0 0, .slice none 0 0, .int .u64 (s3.st:Int), .int .u64 (s3.ct:Int)] 0).heap.size:=by simp [Zm,World.setCell]
 simp only [Zm,Nat.zero_add] at ksS klS kcS krS hb0S hdCS hsS
 try simp only [Nat.reduceAdd] at ksS klS kcS krS hb0S hdCS hsS
 have H_ks:=Lib.hid ksS
 have H_kl:=Lib.hid klS
 have H_kc:=Lib.hid kcS
 have H_kr:=Lib.hid krS
 have H_hb0:=Lib.hid hb0S
 have H_hdC:=Lib.hid hdCS
 have H_hsS:=Lib.hid hsS
 clear ksS klS kcS krS hb0S hdCS ks kl kc kr hb0 hdC hsS
 go_upto_region 4 with fail
 generalize World.setCell (World.setCell (World.setCell (World.setCell (World.setCell (World.setCell (World.setCell (World.setCell (w6) _ _) _ _) _ _) _ _) _ _) _ _) _ _) _ _=w7 at H_ks H_kl H_kc H_kr H_hb0 H_hdC H_hsS  ⊢
 clear cs_ fs_
 have ks:Blk w7 _ _ _:=H_ks.out
 have kl:Blk w7 _ _ _:=H_kl.out
 have kc:Blk w7 _ _ _:=H_kc.out
 have kr:Blk w7 _ _ _:=H_kr.out
 have hb0:=H_hb0.out
 have hdC:=H_hdC.out
 clear H_ks H_kl H_kc H_kr H_hb0 H_hdC
 have cs:=ks.cell
 have HC:=Lib.hid (H4.out _ A4 n4 c4 w7 hdC)
 have W3:=kr.lt
 clear hdC
 go_wp2_with fail
 refine HC.out.mono ?_
 rintro e w8 ⟨A5,n5,c5,rfl,hd_,hb_⟩
 replace ks:=ks.below hb_ ks.lt
 replace kl:=kl.below hb_ kl.lt
 replace kc:=kc.below hb_ kc.lt
 replace kr:=kr.below hb_ kr.lt
 replace hb0:=Za hb0 hb_
 have hdD:=Gj hd_ (fun b h=>.inr (by omega))
 clear hb_ hd_ HC cs W3 H_hsS
 have cs_:=ks.cell
 have fs_:=ks.frozen
 have ksS:=Zn [.bool s4.O.ideal, .int .u64 (s4.O.st:Int), .int .i64 (s4.O.dr:Int), .slice A5 n5 c5, .slice none 0 0, .slice none 0 0, .int .u64 (s4.st:Int), .int .u64 (s4.ct:Int)] ks rfl
 have klS:=(Zg (g:=w.heap.size) (by omega) [.bool s4.O.ideal, .int .u64 (s4.O.st:Int), .int .i64 (s4.O.dr:Int), .slice A5 n5 c5, .slice none 0 0, .slice none 0 0, .int .u64 (s4.st:Int), .int .u64 (s4.ct:Int)] 0 w8).trans kl
 have kcS:=(Zg (g:=w.heap.size) (by omega) [.bool s4.O.ideal, .int .u64 (s4.O.st:Int), .int .i64 (s4.O.dr:Int), .slice A5 n5 c5, .slice none 0 0, .slice none 0 0, .int .u64 (s4.st:Int), .int .u64 (s4.ct:Int)] 0 w8).trans kc
 have krS:=(Zg (g:=w.heap.size) (by omega) [.bool s4.O.ideal, .int .u64 (s4.O.st:Int), .int .i64 (s4.O.dr:Int), .slice A5 n5 c5, .slice none 0 0, .slice none 0 0, .int .u64 (s4.st:Int), .int .u64 (s4.ct:Int)] 0 w8).trans kr
 have hb0S:=Zq (xs:=[.bool s4.O.ideal, .int .u64 (s4.O.st:Int), .int .i64 (s4.O.dr:Int), .slice A5 n5 c5, .slice none 0 0, .slice none 0 0, .int .u64 (s4.st:Int), .int .u64 (s4.ct:Int)]) (g:=w.heap.size) hb0 (by omega)
 have hdDS:=Zw hdD (Yc (g:=w.heap.size) (fun h=>h.elim (fun h=>by have:=h.2;omega) (fun h=>by omega)) [.bool s4.O.ideal, .int .u64 (s4.O.st:Int), .int .i64 (s4.O.dr:Int), .slice A5 n5 c5, .slice none 0 0, .slice none 0 0, .int .u64 (s4.st:Int), .int .u64 (s4.ct:Int)] w8)
 have hsS:w8.heap.size≤(Zm w8 (w.heap.size) [.bool s4.O.ideal, .int .u64 (s4.O.st:Int), .int .i64 (s4.O.dr:Int), .slice A5 n5 c5, .slice none 0 0, .slice none 0 0, .int .u64 (s4.st:Int), .int .u64 (s4.ct:Int)] 0).heap.size:=by simp [Zm,World.setCell]
 simp only [Zm,Nat.zero_add] at ksS klS kcS krS hb0S hdDS hsS
 try simp only [Nat.reduceAdd] at ksS klS kcS krS hb0S hdDS hsS
 have H_ks:=Lib.hid ksS
 have H_kl:=Lib.hid klS
 have H_kc:=Lib.hid kcS
 have H_kr:=Lib.hid krS
 have H_hb0:=Lib.hid hb0S
 have H_hdD:=Lib.hid hdDS
 have H_hsS:=Lib.hid hsS
 clear ksS klS kcS krS hb0S hdDS ks kl kc kr hb0 hdD hsS
 go_upto_region 5 with fail
 generalize World.setCell (World.setCell (World.setCell (World.setCell (World.setCell (World.setCell (World.setCell (World.setCell (w8) _ _) _ _) _ _) _ _) _ _) _ _) _ _) _ _=w9 at H_ks H_kl H_kc H_kr H_hb0 H_hdD H_hsS  ⊢
 clear cs_ fs_
 have ks:Blk w9 _ _ _:=H_ks.out
 have kl:Blk w9 _ _ _:=H_kl.out
 have kc:Blk w9 _ _ _:=H_kc.out
 have kr:Blk w9 _ _ _:=H_kr.out
 have hb0:=H_hb0.out
 have hdD:=H_hdD.out
 clear H_ks H_kl H_kc H_kr H_hb0 H_hdD
 obtain ⟨m1,m2,m3,m4,m4',n1',n2',n3',o1,o2,o3⟩:=HM.out
 have m5:¬(L.p=0):=fun e=>m4 (by rw [e];rfl)
 obtain ⟨NQ,hNQ⟩:∃ NQ,NQ=w9.heap.size:=⟨_,rfl⟩
 have lr:w.heap.size+3<NQ:=by rw [hNQ];exact kr.lt
 have l1:w.heap.size<NQ:=Nat.lt_of_le_of_lt (Nat.le_add_right _ 3) lr
 have l2:w.heap.size+1<NQ:=Nat.lt_trans (Nat.add_lt_add_left (by decide:1<3) _) lr
 obtain ⟨Vr,hVr⟩:∃ Vr:Nat→Prop,Vr=fun b=>b=w.heap.size+2∨b=w.heap.size+3:=⟨_,rfl⟩
 have v1:¬Vr w.heap.size:=by rw [hVr];exact fun e=>e.elim (fun e=>by have:=congrArg (·-w.heap.size) e;simp at this) (fun e=>by have:=congrArg (·-w.heap.size) e;simp at this)
 have v2:¬Vr (w.heap.size+1):=by rw [hVr];exact fun e=>e.elim (fun e=>by have:=congrArg (·-w.heap.size) e;simp at this) (fun e=>by have:=congrArg (·-w.heap.size) e;simp at this)
 have HV2:=Lib.hid (show Vr (w.heap.size+2) by rw [hVr];exact .inl rfl)
 have HV3:=Lib.hid (show Vr (w.heap.size+3) by rw [hVr];exact .inr rfl)
 have cs:=ks.cell
 have cl:=kl.cell
 have KC:=Lib.hid kc
 have KR:=Lib.hid kr
 have HB:=Lib.hid hb0
 have HD:=Lib.hid hdD
 have HNQ:=Lib.hid hNQ
 clear ks kl kc kr hb0 hdD hNQ hVr H_hsS
 refine YI (Vr) (NoX) (NQ) [14,15] [0,1,2,3,4,5,6,7,8,9,10,11,12,13] [] [14,15] (by kernel_rfl) (List.forall_mem_nil _) (by kernel_rfl) ?_
 refine Yp ?_
 intro Wc HWc hacc
 have hFT:Hid (X5 Vr NQ NoX Wc):=Lib.hid (by rw [HWc.out,HNQ.out];exact ⟨Nat.le_refl _,fun _ h=>h.elim,fun _ _ h=>h.elim⟩)
 have KC2:=Lib.hid (show Blk Wc _ _ _ by rw [HWc.out];exact KC.out.drew)
 have KR2:=Lib.hid (show Blk Wc _ _ _ by rw [HWc.out];exact KR.out.drew)
 have HB2:=Lib.hid (show Below w.heap.size w Wc by rw [HWc.out];exact HB.out.drew)
 have HD2:=Lib.hid (Zw HD.out (show Agr _ _ Wc by rw [HWc.out];exact X4))
 clear HWc KC KR HB HD
 repeat (first | (refine ZV rfl rfl (fun _ _ _ h=>h) ?_;simp only [Act.put,zLa,zLb,zLc]) | (refine ZJ (v:=?_) rfl rfl hFT (fun _ _ _ h=>h) ?_ ?_;rotate_left;(· (intro w' hR;(first | have hcells:=Zi ((Zb Vr NQ).trans _ _ _ hacc hR) | skip);go_simp;try with_reducible rfl));simp only [Act.put,zLa,zLb,zLc]))
 refine Xp [] rfl hFT (fun gsE wE hxE hflE=>?_)
 clear hflE
 unfold Jq
 try simp only [List.foldl]
 replace HB2:=Lib.hid (Za HB2.out hxE)
 replace KC2:=Lib.hid (KC2.out.below hxE KC2.out.lt)
 replace KR2:=Lib.hid (KR2.out.below hxE KR2.out.lt)
 replace HD2:=Lib.hid (Zw HD2.out (Zz hxE))
 replace hacc:=(Zb Vr NQ).trans _ _ _ hacc (Zj hxE hFT.out.size)
 replace hFT:=Lib.hid (Zo hFT.out hxE)
 try simp only [Act.put,zLa,zLb,zLc]
 clear hxE
 have cc:=KC2.out.cell
 have fc:=KC2.out.frozen
 repeat (first | (refine Zh (Zb Vr NQ) rfl rfl (fun _ _ _ h=>h) ?_;simp only [Act.put,zLa,zLb,zLc]) | (refine Ze (v:=?_) (Zb Vr NQ) rfl rfl (fun _ _ _ h=>h) ?_ ?_;rotate_left;(· (intro w' hR;(first | have hcells:=Zi ((Zb Vr NQ).trans _ _ _ hacc hR) | skip);go_simp;try with_reducible rfl));simp only [Act.put,zLa,zLb,zLc]))
 refine Zs (Zb Vr NQ) rfl rfl rfl ?_
 go_simp
 refine ⟨YV HV2.out [.int .u64 (r1:Int), .int .u64 (r2:Int), .int .u64 (r3:Int)] _,?_⟩
 try simp only [Act.put,zLa,zLb,zLc]
 have kc3:=Zn [.int .u64 (r1:Int), .int .u64 (r2:Int), .int .u64 (r3:Int)] KC2.out rfl
 have kr3:=(Zg (g:=w.heap.size+2) (b:=w.heap.size+3) (by omega) [.int .u64 (r1:Int), .int .u64 (r2:Int), .int .u64 (r3:Int)] 0 wE).trans KR2.out
 have hb3:=Zq (xs:=[.int .u64 (r1:Int), .int .u64 (r2:Int), .int .u64 (r3:Int)]) (g:=w.heap.size+2) HB2.out (by omega)
 have hd3:=Zw HD2.out (Yc (g:=w.heap.size+2) (fun h=>h.elim (fun h=>by have:=h.2;omega) (fun h=>by omega)) [.int .u64 (r1:Int), .int .u64 (r2:Int), .int .u64 (r3:Int)] wE)
 simp only [Zm,Nat.zero_add,Nat.reduceAdd] at kc3 kr3 hb3 hd3
 generalize World.setCell (World.setCell (World.setCell wE _ _) _ _) _ _=wG at kc3 kr3 hb3 hd3 ⊢
 have kr4:Blk wG _ _ _:=kr3
 have cr:=kr4.cell
 have fr:=kr4.frozen
 have KC3:=Lib.hid kc3
 have HB3:=Lib.hid hb3
 have HD3:=Lib.hid hd3
 clear kc3 hb3 hd3 kr3 cc fc hacc hFT
 have hacc:=(Zb Vr NQ).refl wG
 repeat (first | (refine Zh (Zb Vr NQ) rfl rfl (fun _ _ _ h=>h) ?_;simp only [Act.put,zLa,zLb,zLc]) | (refine Ze (v:=?_) (Zb Vr NQ) rfl rfl (fun _ _ _ h=>h) ?_ ?_;rotate_left;(· (intro w' hR;(first | have hcells:=Zi ((Zb Vr NQ).trans _ _ _ hacc hR) | skip);go_simp;try with_reducible rfl));simp only [Act.put,zLa,zLb,zLc]))
 refine Zs (Zb Vr NQ) rfl rfl rfl ?_
 go_simp
 refine ⟨YV HV3.out [.bool s4.O.ideal, .int .u64 (s4.O.st:Int), .int .i64 (s4.O.dr:Int), .slice A5 n5 c5, .slice none 0 0, .slice none 0 0, .int .u64 (s4.st:Int), .int .u64 (s4.ct:Int)] _,?_⟩
 try simp only [Act.put,zLa,zLb,zLc]
 refine Zt ?_
 have kf:=Zn [.bool s4.O.ideal, .int .u64 (s4.O.st:Int), .int .i64 (s4.O.dr:Int), .slice A5 n5 c5, .slice none 0 0, .slice none 0 0, .int .u64 (s4.st:Int), .int .u64 (s4.ct:Int)] kr4 rfl
 have kcf:=(Zg (g:=w.heap.size+3) (b:=w.heap.size+2) (by omega) [.bool s4.O.ideal, .int .u64 (s4.O.st:Int), .int .i64 (s4.O.dr:Int), .slice A5 n5 c5, .slice none 0 0, .slice none 0 0, .int .u64 (s4.st:Int), .int .u64 (s4.ct:Int)] 0 wG).trans KC3.out
 have hbf:=Zq (xs:=[.bool s4.O.ideal, .int .u64 (s4.O.st:Int), .int .i64 (s4.O.dr:Int), .slice A5 n5 c5, .slice none 0 0, .slice none 0 0, .int .u64 (s4.st:Int), .int .u64 (s4.ct:Int)]) (g:=w.heap.size+3) HB3.out (by omega)
 have hdf:=Zw HD3.out (Yc (g:=w.heap.size+3) (fun h=>h.elim (fun h=>by have:=h.2;omega) (fun h=>by omega)) [.bool s4.O.ideal, .int .u64 (s4.O.st:Int), .int .i64 (s4.O.dr:Int), .slice A5 n5 c5, .slice none 0 0, .slice none 0 0, .int .u64 (s4.st:Int), .int .u64 (s4.ct:Int)] wG)
 simp only [Zm,Nat.zero_add,Nat.reduceAdd] at kf kcf hbf hdf
 generalize World.setCell (World.setCell (World.setCell (World.setCell (World.setCell (World.setCell (World.setCell (World.setCell wG _ _) _ _) _ _) _ _) _ _) _ _) _ _) _ _=wf at kf kcf hbf hdf ⊢
 have cf:=kf.cell
 have kcf2:Blk wf _ _ _:=kcf
 have ccf:=kcf2.cell
 clear cr fr hacc
 go_wp2
 exact bodyPost_ret (by simp [results,Tryz.results59,go_sem,cf,ccf]) rfl ⟨A5,n5,c5,rfl,YT hdf (fun b h=>h.elim (fun h=>.inl h.1) fun h=>.inr (Nat.le_trans (Nat.le_add_right _ 4) h)),hbf⟩
end Go.Proofs.YtdhhdplholkmdaaGreat
