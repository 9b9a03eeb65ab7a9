/- A part of the proof. No condition. -/
import Derived.Test.YtdhhdplholkmdaaGreatProg
import Derived.Test.YtdhhdplholkmdaaGreatPE38
import Derived.Test.YtdhhdplholkmdaaGreatPE43
import Derived.Test.YtdhhdplholkmdaaGreatPE34

namespace Go.Proofs.YtdhhdplholkmdaaGreat
open Go.RowKit Go.Maps
theorem JR (real:Bool) (seed:Nat):(V9 real seed).dr=0:=by cases real <;> rfl
theorem J4 (w:World):∃ P S,XH P S=#[.int .u64 0, .slice none 0 0, .slice none 0 0, .slice none 0 0, .slice none 0 0, .slice none 0 0, .slice none 0 0]∧Us w P S∧(ZU P).length≤1000000:=by
 have hw:RWd w [.slice none 0 0] []:=⟨none,0,0,rfl,Nat.le_refl _,by simp [maxLen],⟨rfl,fun h=>absurd h (by decide)⟩,fun _ h=>nomatch h⟩
 have hs:RSl 1 RWd w [.slice none 0 0] []:=⟨none,0,0,rfl,rfl,Nat.le_refl _,by simp [maxLen],fun i hi=>absurd hi (by simp)⟩
 exact ⟨⟨0,[],[],[],[],[],[]⟩,⟨none,0,0,none,0,0,none,0,0,none,0,0,none,0,0,none,0,0⟩,rfl,⟨by decide,hw,hw,hw,hs,hw,hs⟩,by simp [ZU]⟩
set_option maxRecDepth 100000 in
set_option maxHeartbeats 2000000 in
theorem Xn (W:World) (cs0:Array Value) (f0:Fits Tryz.prog W 32 (Value.agg cs0).cells.toList) (A5:Option Addr) (n5 c5:Nat) (f1:Fits Tryz.prog W 28 (Value.slice A5 n5 c5).cells.toList) (cs2:Array Value) (f2:Fits Tryz.prog W 67 (Value.agg cs2).cells.toList) :
  Calls Tryz.prog 9 #[.agg cs0, .slice A5 n5 c5, .agg cs2] W fun e W'=>e= .returned (.bool true)∧Below W.heap.size W W':=by
 obtain ⟨p,pub,vars,A,B,n,c,m,d,rows,ws,bl,bw,qs,coin,seed,real,rfl,hin,hcoin,hseed⟩:=Ud f0
 obtain ⟨wl,hwl⟩:=UF f1
 obtain ⟨A0,A1,A2,A3,A4,n0,c0,n1,c1,n2,c2,n3,c3,n4,c4,crs,l1,l2,l3,l4,rfl,h0,h1,h2,h3,h4⟩:=Ur f2
 clear f0 f1 f2
 obtain ⟨kc,kn,hb0,-⟩:=Xe W 32 67 #[.int .u64 (p:Int), .int .i64 pub, .int .i64 vars, .slice A n c, .int .i64 bl, .int .i64 bw, .int .i64 qs, .slice B m d, .int .u64 (coin:Int), .bool real, .int .u64 (seed:Int)] #[.slice A0 n0 c0, .slice A1 n1 c1, .slice A2 n2 c2, .slice A3 n3 c3, .slice A4 n4 c4]
 have HSm:=Lib.hid (fun w' (hb:Below W.heap.size W w')=>Uv p pub vars A n c rows w' (Zn Zj _ _ _ _ hb hin.rows))
 have HBg:=Lib.hid (fun w'=>VL p pub vars A B n c m d bl bw qs coin real seed w' hseed)
 have HN:=Lib.hid (fun w' (hb:Below W.heap.size W w')=>JE p pub vars A n c rows bl bw qs w' (Zn Zj _ _ _ _ hb hin.rows) hin.p)
 have HA:=Lib.hid (fun w' (hb:Below W.heap.size W w')=>YN p pub vars (.slice A n c) A5 n5 c5 wl w' (Zd _ _ _ _ hb hwl) hin.p)
 have HV:=Lib.hid (fun L (hL:Yr L) w' (hb:Below W.heap.size W w')=>VE L A0 A1 A2 A3 A4 n0 c0 n1 c1 n2 c2 n3 c3 n4 c4 crs l1 l2 l3 l4 w' hL (Y3 _ _ _ _ hb h0) (Zd _ _ _ _ hb h1) (Zd _ _ _ _ hb h2) (Zd _ _ _ _ hb h3) (Zd _ _ _ _ hb h4))
 have HSat:=Lib.hid (fun ht ha w' (hb:Below W.heap.size W w')=>XU p pub vars A A5 n c n5 c5 rows wl w' (Zn Zj _ _ _ _ hb hin.rows) (Zd _ _ _ _ hb hwl) ht ha)
 have HPv0:=Lib.hid (fun good hgood (hne:YI p pub vars rows bl bw qs wl good≠0) g w' (hb:Below W.heap.size W w')=>UR g p pub vars A A5 A0 A1 A2 A3 A4 n c n5 c5 n0 c0 n1 c1 n2 c2 n3 c3 n4 c4 rows wl bl bw qs crs l1 l2 l3 l4 w' (Zn Zj _ _ _ _ hb hin.rows) (Zd _ _ _ _ hb hwl) (Y3 _ _ _ _ hb h0) (Zd _ _ _ _ hb h1) (Zd _ _ _ _ hb h2) (Zd _ _ _ _ hb h3) (Zd _ _ _ _ hb h4) good hgood hne)
 have HSame:=Lib.hid (fun w'=>by
  obtain ⟨P,S,hz,hp,hl⟩:=J4 w'
  have:=UI P S S w' hp hp hl
  rw [hz] at this
  exact this)
 have HQ:=Lib.hid (fun w' g F (h:OrcAt w' g (V9 real seed) F)=>by
  have:=Vc h (by rw [V4];decide)
  rw [V4] at this
  exact this)
 have HD:=Lib.hid (fun w' g F (h:OrcAt w' g (V9 real seed) F)=>by
  have:=Jc h
  rw [JR] at this
  exact this)
 have gm5:=YD (Xh hwl).2.1 (Xh hwl).2.2.1
 obtain ⟨gmn,gm0⟩:(n:Int)≤9223372036854775807∧(n0:Int)≤9223372036854775807:=by
  obtain ⟨A',n',c',he,-,hnc,hmx,-⟩:=hin.rows
  simp at he
  obtain ⟨rfl,rfl,rfl⟩:=he
  obtain ⟨-,q1,q2,-⟩:=VC h0
  exact ⟨YD hnc hmx,YD q1 q2⟩
 clear hin hwl h0 h1 h2 h3 h4 hcoin hseed
 unfold ZE Zq at *
 go_enter Tryz.func9,Tryz.ntmps9
 go_upto_region 1 with fail
 generalize (W.alloc _).alloc _=w1 at kc kn hb0 ⊢
 go_wp2_with fail
 refine (YE _).mono ?_
 rintro e w2 ⟨rfl,hb2⟩
 replace kc:=kc.below hb2 kc.lt
 replace kn:=kn.below hb2 kn.lt
 replace hb0:=Za hb0 hb2
 clear hb2
 have cc:=kc.cell
 have cn:=kn.cell
 by_cases z1:(12:Int)<(n:Int)
 ·have d1:decide ((12:Int)<(n:Int))=true:=decide_eq_true z1
  clear kc kn
  go_wp2_with fail
  refine (YE _).mono ?_
  rintro e wz ⟨rfl,hbz⟩
  go_wp2
  go_ret
  exact ⟨rfl,Za hb0 hbz⟩
 have d1:decide ((12:Int)<(n:Int))=false:=decide_eq_false z1
 clear z1
 go_wp2_with fail
 refine (HSm.out w2 hb0).mono ?_
 rintro e w3 ⟨⟨sm,rfl⟩,hb3⟩
 replace kc:=kc.below hb3 kc.lt
 replace kn:=kn.below hb3 kn.lt
 replace hb0:=Za hb0 hb3
 clear hb3 cc cn d1
 have cc:=kc.cell
 have cn:=kn.cell
 cases sm
 ·clear kc kn
  go_wp2_with fail
  refine (YE _).mono ?_
  rintro e wz ⟨rfl,hbz⟩
  go_wp2
  go_ret
  exact ⟨rfl,Za hb0 hbz⟩
 by_cases z2:(200:Int)<(n5:Int)
 ·have d2:decide ((200:Int)<(n5:Int))=true:=decide_eq_true z2
  clear kc kn
  go_wp2_with fail
  refine (YE _).mono ?_
  rintro e wz ⟨rfl,hbz⟩
  go_wp2
  go_ret
  exact ⟨rfl,Za hb0 hbz⟩
 have d2:decide ((200:Int)<(n5:Int))=false:=decide_eq_false z2
 by_cases z3:(100:Int)<(n0:Int)
 ·have d3:decide ((100:Int)<(n0:Int))=true:=decide_eq_true z3
  clear kc kn
  go_wp2_with fail
  refine (YE _).mono ?_
  rintro e wz ⟨rfl,hbz⟩
  go_wp2
  go_ret
  exact ⟨rfl,Za hb0 hbz⟩
 have d3:decide ((100:Int)<(n0:Int))=false:=decide_eq_false z3
 clear z2 z3
 go_wp2_with fail
 refine (HBg.out w3).mono ?_
 rintro e w5 ⟨g,F,rfl,ho0,-,hb5⟩
 replace kc:=kc.below hb5 kc.lt
 replace kn:=kn.below hb5 kn.lt
 replace hb0:=Za hb0 hb5
 clear hb5 cc cn d2 d3
 have HPvg:=Lib.hid (fun good hgood hne w' hb=>HPv0.out good hgood hne (.pointer (some ⟨g,0,none⟩)) w' hb)
 have cc:=kc.cell
 go_wp2_with fail
 refine (HN.out w5 hb0).mono ?_
 rintro e w6 ⟨⟨lcs,rfl,hpost⟩,hb6⟩
 obtain ⟨er,her⟩:∃ er,er=XY p pub vars rows bl bw qs:=⟨_,rfl⟩
 rw [←her] at hpost ⊢
 replace kc:=kc.below hb6 kc.lt
 replace kn:=kn.below hb6 kn.lt
 replace hb0:=Za hb0 hb6
 have ho1:=ho0.below hb6
 clear hb6 cc ho0
 rcases hpost with ⟨hne,rfl⟩ | ⟨hz,htab,L,hL,hfor,rfl⟩
 ·obtain ⟨good,hgood⟩:∃ good,∀ L,Yr L→YB L ⟨p,pub,vars,rows.length,bl,bw,qs⟩→Yh L crs l1 l2 l3 l4=good:=⟨Yh (Y6 ⟨p,pub,vars,rows.length,bl,bw,qs⟩) crs l1 l2 l3 l4,fun L _ hf=>by rw [←hf.eq]⟩
  have E:=Lib.hid (show YI p pub vars rows bl bw qs wl good=er by unfold YI;rw [←her,if_pos hne])
  have HPv:=Lib.hid (fun h w' hb=>HPvg.out good hgood h w' hb)
  have d1:(er != 0)=true:=by rw [bne_iff_ne];exact hne
  unfold Zm at *
  have hal:=(Below.refl w6.heap.size w6).alloc (Nat.le_refl _) (.cells #[.int .u64 0, .int .i64 0, .int .i64 0, .int .i64 0, .int .i64 0, .int .i64 0, .int .i64 0, .int .i64 0, .int .i64 0, .int .i64 0, .int .i64 0] 38)
  replace kc:=kc.below hal kc.lt
  replace kn:=kn.below hal kn.lt
  replace hb0:=Za hb0 hal
  have ho0:=ho1.below hal
  clear hal ho1 hgood
  go_upto_region 8 with fail
  generalize w6.alloc _=w6' at kc kn hb0 ho0 ⊢
  have cc:=kc.cell
  have cn:=kn.cell
  go_wp2_with fail
  refine (HPv.out (by rw [E.out];exact hne) w6' hb0).mono ?_
  rintro e w7 ⟨rfl,hb7⟩
  rw [E.out]
  have ho:=ho0.below hb7
  have HB:=Lib.hid (Za hb0 hb7)
  clear hb7 hb0 kc kn cc cn ho0
  have hal:=(Below.refl w7.heap.size w7).alloc (Nat.le_refl _) (.cells #[.int .u64 0, .slice none 0 0, .slice none 0 0, .slice none 0 0, .slice none 0 0, .slice none 0 0, .slice none 0 0] 35)
  have kz:=Blk.new w7 35 #[.int .u64 0, .slice none 0 0, .slice none 0 0, .slice none 0 0, .slice none 0 0, .slice none 0 0, .slice none 0 0]
  have HO:=Lib.hid (ho.below hal)
  replace HB:=Lib.hid (Za HB.out hal)
  clear hal ho
  go_upto_region 14 with fail
  generalize w7.alloc _=w8 at kz HO HB ⊢
  have cz:=kz.cell
  go_wp2_with fail
  refine (HSame.out w8).mono ?_
  rintro e w9 ⟨rfl,hb9⟩
  replace HO:=Lib.hid (HO.out.below hb9)
  replace HB:=Lib.hid (Za HB.out hb9)
  clear hb9 kz cz
  go_wp2_with fail
  refine (HQ.out w9 g F HO.out).mono ?_
  rintro e w10 ⟨gq,rfl,-,hb10⟩
  replace HO:=Lib.hid (HO.out.below hb10)
  replace HB:=Lib.hid (Za HB.out hb10)
  clear hb10
  go_wp2_with fail
  refine (HD.out w10 g F HO.out).mono ?_
  rintro e _ ⟨rfl,rfl⟩
  go_wp2
  go_ret
  exact ⟨by simp,HB.out⟩
 subst hz
 obtain ⟨good,hgd⟩:∃ good,good=Yh L crs l1 l2 l3 l4:=⟨_,rfl⟩
 have hgood:∀ L',Yr L'→YB L' ⟨p,pub,vars,rows.length,bl,bw,qs⟩→Yh L' crs l1 l2 l3 l4=good:=fun L' _ hf=>by rw [hgd,hf.eq,hfor.eq]
 have E0:=Lib.hid (show YI p pub vars rows bl bw qs wl good=if ZJ p vars wl&&good then (if Xi p rows wl then 0 else 9) else 1 by unfold YI;rw [←her,if_neg (by simp)])
 have HPv1:=Lib.hid (fun h w' hb=>HPvg.out good hgood h w' hb)
 have HVL:=Lib.hid (fun w' hb=>HV.out L hL w' hb)
 rw [←hgd] at HVL
 have HTB:=Lib.hid htab
 unfold ZP at *
 have hal:=(Below.refl w6.heap.size w6).alloc (Nat.le_refl _) (.cells #[.int .u64 (L.p:Int), .int .i64 (L.block:Int), .int .i64 (L.queries:Int), .int .i64 (L.k:Int), .int .i64 (L.n:Int), .int .i64 (L.secret:Int), .int .i64 (L.rows:Int), .int .i64 (L.a:Int), .int .i64 (L.b:Int), .int .i64 (L.b:Int), .int .i64 (L.b:Int)] 38)
 have kl:=Blk.new w6 38 #[.int .u64 (L.p:Int), .int .i64 (L.block:Int), .int .i64 (L.queries:Int), .int .i64 (L.k:Int), .int .i64 (L.n:Int), .int .i64 (L.secret:Int), .int .i64 (L.rows:Int), .int .i64 (L.a:Int), .int .i64 (L.b:Int), .int .i64 (L.b:Int), .int .i64 (L.b:Int)]
 replace kc:=kc.below hal kc.lt
 replace kn:=kn.below hal kn.lt
 replace hb0:=Za hb0 hal
 have ho:=ho1.below hal
 clear hal ho1 hgood hL hfor hgd her htab HPv0 HPvg HV HN
 go_upto_region 8 with fail
 generalize w6.alloc _=w6' at kc kn kl hb0 ho ⊢
 generalize w6.heap.size=gl at kl ⊢
 have cc:=kc.cell
 go_wp2_with fail
 refine (HA.out w6' hb0).mono ?_
 rintro e w7' ⟨rfl,hb7⟩
 obtain ⟨ba,hba⟩:∃ ba,ba=ZJ p vars wl:=⟨_,rfl⟩
 rw [←hba] at E0 ⊢
 replace kc:=kc.below hb7 kc.lt
 replace kn:=kn.below hb7 kn.lt
 replace kl:=kl.below hb7 kl.lt
 replace hb0:=Za hb0 hb7
 have ho2:=ho.below hb7
 clear hb7 cc ho
 cases ba
 ·have hne:(1:Int)≠0:=by decide
  have E:=Lib.hid (show YI p pub vars rows bl bw qs wl good=1 by rw [E0.out];rfl)
  have HPv:=HPv1
  have ho0:=ho2
  clear ho2 hba kl
  have cc:=kc.cell
  have cn:=kn.cell
  go_wp2_with fail
  refine (HPv.out (by rw [E.out];exact hne) w7' hb0).mono ?_
  rintro e w7 ⟨rfl,hb7⟩
  rw [E.out]
  have ho:=ho0.below hb7
  have HB:=Lib.hid (Za hb0 hb7)
  clear hb7 hb0 kc kn cc cn ho0
  have hal:=(Below.refl w7.heap.size w7).alloc (Nat.le_refl _) (.cells #[.int .u64 0, .slice none 0 0, .slice none 0 0, .slice none 0 0, .slice none 0 0, .slice none 0 0, .slice none 0 0] 35)
  have kz:=Blk.new w7 35 #[.int .u64 0, .slice none 0 0, .slice none 0 0, .slice none 0 0, .slice none 0 0, .slice none 0 0, .slice none 0 0]
  have HO:=Lib.hid (ho.below hal)
  replace HB:=Lib.hid (Za HB.out hal)
  clear hal ho
  go_upto_region 14 with fail
  generalize w7.alloc _=w8 at kz HO HB ⊢
  have cz:=kz.cell
  go_wp2_with fail
  refine (HSame.out w8).mono ?_
  rintro e w9 ⟨rfl,hb9⟩
  replace HO:=Lib.hid (HO.out.below hb9)
  replace HB:=Lib.hid (Za HB.out hb9)
  clear hb9 kz cz
  go_wp2_with fail
  refine (HQ.out w9 g F HO.out).mono ?_
  rintro e w10 ⟨gq,rfl,-,hb10⟩
  replace HO:=Lib.hid (HO.out.below hb10)
  replace HB:=Lib.hid (Za HB.out hb10)
  clear hb10
  go_wp2_with fail
  refine (HD.out w10 g F HO.out).mono ?_
  rintro e _ ⟨rfl,rfl⟩
  go_wp2
  go_ret
  exact ⟨by simp,HB.out⟩
 have hasg:=hba.symm
 have HBA:=Lib.hid hba
 clear hba
 have cl:=kl.cell
 have cn:=kn.cell
 go_wp2_with fail
 refine (HVL.out w7' hb0).mono ?_
 rintro e w8' ⟨rfl,hb8⟩
 replace kc:=kc.below hb8 kc.lt
 replace kn:=kn.below hb8 kn.lt
 replace kl:=kl.below hb8 kl.lt
 replace hb0:=Za hb0 hb8
 have ho3:=ho2.below hb8
 clear hb8 ho2 cl cn
 cases good
 ·have hne:(1:Int)≠0:=by decide
  have E:=Lib.hid (show YI p pub vars rows bl bw qs wl false=1 by rw [E0.out];rfl)
  have HPv:=HPv1
  have ho0:=ho3
  clear ho3 kl
  go_upto_region 13 with fail
  clear hasg
  have cc:=kc.cell
  have cn:=kn.cell
  go_wp2_with fail
  refine (HPv.out (by rw [E.out];exact hne) w8' hb0).mono ?_
  rintro e w7 ⟨rfl,hb7⟩
  rw [E.out]
  have ho:=ho0.below hb7
  have HB:=Lib.hid (Za hb0 hb7)
  clear hb7 hb0 kc kn cc cn ho0
  have hal:=(Below.refl w7.heap.size w7).alloc (Nat.le_refl _) (.cells #[.int .u64 0, .slice none 0 0, .slice none 0 0, .slice none 0 0, .slice none 0 0, .slice none 0 0, .slice none 0 0] 35)
  have kz:=Blk.new w7 35 #[.int .u64 0, .slice none 0 0, .slice none 0 0, .slice none 0 0, .slice none 0 0, .slice none 0 0, .slice none 0 0]
  have HO:=Lib.hid (ho.below hal)
  replace HB:=Lib.hid (Za HB.out hal)
  clear hal ho
  go_upto_region 14 with fail
  generalize w7.alloc _=w8 at kz HO HB ⊢
  have cz:=kz.cell
  go_wp2_with fail
  refine (HSame.out w8).mono ?_
  rintro e w9 ⟨rfl,hb9⟩
  replace HO:=Lib.hid (HO.out.below hb9)
  replace HB:=Lib.hid (Za HB.out hb9)
  clear hb9 kz cz
  go_wp2_with fail
  refine (HQ.out w9 g F HO.out).mono ?_
  rintro e w10 ⟨gq,rfl,-,hb10⟩
  replace HO:=Lib.hid (HO.out.below hb10)
  replace HB:=Lib.hid (Za HB.out hb10)
  clear hb10
  go_wp2_with fail
  refine (HD.out w10 g F HO.out).mono ?_
  rintro e _ ⟨rfl,rfl⟩
  go_wp2
  go_ret
  exact ⟨by simp,HB.out⟩
 have cc:=kc.cell
 have HS1:=Lib.hid (HSat.out HTB.out HBA.out.symm)
 obtain ⟨bs,hbs⟩:∃ bs,bs=Xi p rows wl:=⟨_,rfl⟩
 rw [←hbs] at E0 HS1
 clear hbs HSat kl
 go_wp2_with fail
 refine (HS1.out w8' hb0).mono ?_
 rintro e w9' ⟨rfl,hb9⟩
 replace kc:=kc.below hb9 kc.lt
 replace kn:=kn.below hb9 kn.lt
 replace hb0:=Za hb0 hb9
 have ho0:=ho3.below hb9
 clear hb9 ho3 cc hasg
 cases bs
 ·have hne:(9:Int)≠0:=by decide
  have E:=Lib.hid (show YI p pub vars rows bl bw qs wl true=9 by rw [E0.out];rfl)
  have HPv:=HPv1
  have cc:=kc.cell
  have cn:=kn.cell
  go_wp2_with fail
  refine (HPv.out (by rw [E.out];exact hne) w9' hb0).mono ?_
  rintro e w7 ⟨rfl,hb7⟩
  rw [E.out]
  have ho:=ho0.below hb7
  have HB:=Lib.hid (Za hb0 hb7)
  clear hb7 hb0 kc kn cc cn ho0
  have hal:=(Below.refl w7.heap.size w7).alloc (Nat.le_refl _) (.cells #[.int .u64 0, .slice none 0 0, .slice none 0 0, .slice none 0 0, .slice none 0 0, .slice none 0 0, .slice none 0 0] 35)
  have kz:=Blk.new w7 35 #[.int .u64 0, .slice none 0 0, .slice none 0 0, .slice none 0 0, .slice none 0 0, .slice none 0 0, .slice none 0 0]
  have HO:=Lib.hid (ho.below hal)
  replace HB:=Lib.hid (Za HB.out hal)
  clear hal ho
  go_upto_region 14 with fail
  generalize w7.alloc _=w8 at kz HO HB ⊢
  have cz:=kz.cell
  go_wp2_with fail
  refine (HSame.out w8).mono ?_
  rintro e w9 ⟨rfl,hb9⟩
  replace HO:=Lib.hid (HO.out.below hb9)
  replace HB:=Lib.hid (Za HB.out hb9)
  clear hb9 kz cz
  go_wp2_with fail
  refine (HQ.out w9 g F HO.out).mono ?_
  rintro e w10 ⟨gq,rfl,-,hb10⟩
  replace HO:=Lib.hid (HO.out.below hb10)
  replace HB:=Lib.hid (Za HB.out hb10)
  clear hb10
  go_wp2_with fail
  refine (HD.out w10 g F HO.out).mono ?_
  rintro e _ ⟨rfl,rfl⟩
  go_wp2
  go_ret
  exact ⟨by simp,HB.out⟩
 ·clear kc kn
  go_wp2
  go_ret
  exact ⟨rfl,hb0⟩
end Go.Proofs.YtdhhdplholkmdaaGreat
