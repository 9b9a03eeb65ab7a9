/- A part of the proof. No condition. -/
import Derived.Test.YtdhhdplholkmdaaGreatProg
import Derived.Test.YtdhhdplholkmdaaGreatPE34
import Derived.Test.YtdhhdplholkmdaaGreatPE37
import Derived.Test.YtdhhdplholkmdaaGreatPE33

namespace Go.Proofs.YtdhhdplholkmdaaGreat
open Go.RowKit
abbrev KM:Array Value:=#[.int .u64 0, .slice none 0 0, .slice none 0 0, .slice none 0 0, .slice none 0 0, .slice none 0 0, .slice none 0 0]
def YI (p:Nat) (pub vars:Int) (rows:List Zv) (bl bw qs:Int) (ws:List Nat) (good:Bool):Int :=
 if XY p pub vars rows bl bw qs≠0 then XY p pub vars rows bl bw qs else if ZJ p vars ws&&good then (if Xi p rows ws then 0 else 9) else 1
set_option maxRecDepth 100000 in
set_option maxHeartbeats 2000000 in
theorem UR (g:Value) (p:Nat) (pub vars:Int) (A B A0 A1 A2 A3 A4:Option Addr) (n c m d n0 c0 n1 c1 n2 c2 n3 c3 n4 c4:Nat) (rows:List Zv) (ws:List Nat) (bl bw qs:Int) (crs:List (List Nat)) (l1 l2 l3 l4:List Nat) (w:World)
  (hr:RSl 3 Z9 w [.slice A n c] rows) (hw:RWd w [.slice B m d] ws) (h0:XL w [.slice A0 n0 c0] crs) (h1:RWd w [.slice A1 n1 c1] l1) (h2:RWd w [.slice A2 n2 c2] l2) (h3:RWd w [.slice A3 n3 c3] l3) (h4:RWd w [.slice A4 n4 c4] l4)
  (good:Bool) (hgood:∀ L,Yr L→YB L ⟨p,pub,vars,rows.length,bl,bw,qs⟩→Yh L crs l1 l2 l3 l4=good) (herr:YI p pub vars rows bl bw qs ws good≠0) :
  Calls Tryz.prog 34 #[g,ZE p pub vars (.slice A n c), .agg #[.int .i64 bl, .int .i64 bw, .int .i64 qs], .slice B m d, .agg #[.slice A0 n0 c0, .slice A1 n1 c1, .slice A2 n2 c2, .slice A3 n3 c3, .slice A4 n4 c4]] w fun e w' =>
   e= .returned (.tuple #[.agg KM, .int .i64 (YI p pub vars rows bl bw qs ws good)])∧Below w.heap.size w w':=by
 obtain ⟨kt,kx,kc,kr,hb0,hsz⟩:=KO w 25 27 67 35 #[.int .u64 (p:Int), .int .i64 pub, .int .i64 vars, .slice A n c] #[.int .i64 bl, .int .i64 bw, .int .i64 qs] #[.slice A0 n0 c0, .slice A1 n1 c1, .slice A2 n2 c2, .slice A3 n3 c3, .slice A4 n4 c4] #[.int .u64 0, .slice none 0 0, .slice none 0 0, .slice none 0 0, .slice none 0 0, .slice none 0 0, .slice none 0 0]
 have HN:=Lib.hid (fun w' (hb:Below w.heap.size w w')=>JX p pub vars A n c rows bl bw qs w' (Zn Zj _ _ _ _ hb hr))
 have HV:=Lib.hid (fun L (hL:Yr L) w' (hb:Below w.heap.size w w')=>Um L A0 A1 A2 A3 A4 n0 c0 n1 c1 n2 c2 n3 c3 n4 c4 crs l1 l2 l3 l4 w' hL (Y3 _ _ _ _ hb h0) (Zd _ _ _ _ hb h1) (Zd _ _ _ _ hb h2) (Zd _ _ _ _ hb h3) (Zd _ _ _ _ hb h4))
 have HBl:=Lib.hid (fun w' (hb:Below w.heap.size w w')=>Jo B m d ws p w' (Zd _ _ _ _ hb hw))
 have HS:=Lib.hid (fun w' (hb:Below w.heap.size w w')=>X3 p pub vars A B n c m d rows ws w' (Zn Zj _ _ _ _ hb hr) (Zd _ _ _ _ hb hw))
 obtain ⟨hml,hmd,hmx,hlt,hrd⟩:=Xh hw
 have gm:=YD hmd hmx
 have HML:=Lib.hid hml
 have HRD:=Lib.hid hrd
 have HG:=Lib.hid hgood
 have HE:=Lib.hid herr
 clear hr hw h0 h1 h2 h3 h4 hsz hml hmd hmx hlt hrd hgood herr
 obtain ⟨pe,hpe⟩:∃ pe,pe=YI p pub vars rows bl bw qs ws good:=⟨_,rfl⟩
 rw [←hpe] at HE ⊢
 have HPE:=Lib.hid hpe
 clear hpe
 obtain ⟨er,her⟩:∃ er,er=XY p pub vars rows bl bw qs:=⟨_,rfl⟩
 unfold ZE Zq at *
 go_enter Tryz.func34,Tryz.ntmps34
 go_upto_region 1 with fail
 generalize (((w.alloc _).alloc _).alloc _).alloc _=w1 at kt kx kc kr hb0 ⊢
 have ct:=kt.cell
 have cx:=kx.cell
 go_wp2_with fail
 refine (HN.out w1 hb0).mono ?_
 rintro e w2 ⟨⟨lcs,rfl,hpost⟩,hb2⟩
 rw [←her] at hpost ⊢
 replace kt:=kt.below hb2 kt.lt
 replace kx:=kx.below hb2 kx.lt
 replace kc:=kc.below hb2 kc.lt
 replace kr:=kr.below hb2 kr.lt
 replace hb0:=Za hb0 hb2
 clear ct cx hb2
 rcases hpost with ⟨hne,rfl⟩ | ⟨hz,htab,L,hL,hfor,rfl⟩
 ·have E:=Lib.hid (show pe=er by rw [HPE.out];unfold YI;rw [←her,if_pos hne])
  have d1:(er != 0)=true:=by rw [bne_iff_ne];exact hne
  unfold Zm
  have hal:=(Below.refl w2.heap.size w2).alloc (Nat.le_refl _) (.cells #[.int .u64 0, .int .i64 0, .int .i64 0, .int .i64 0, .int .i64 0, .int .i64 0, .int .i64 0, .int .i64 0, .int .i64 0, .int .i64 0, .int .i64 0] 50)
  replace kr:=kr.below hal kr.lt
  replace hb0:=Za hb0 hal
  clear kt kx kc hal
  go_upto_region 2 with fail
  generalize w2.alloc _=w3 at kr hb0 ⊢
  have cr:=kr.cell
  have fr:=kr.frozen
  have kf:=Yb [.int .u64 0, .slice none 0 0, .slice none 0 0, .slice none 0 0, .slice none 0 0, .slice none 0 0, .slice none 0 0] kr rfl
  have hbf:=Z5 (xs:=[.int .u64 0, .slice none 0 0, .slice none 0 0, .slice none 0 0, .slice none 0 0, .slice none 0 0, .slice none 0 0]) (g:=w.heap.size+3) hb0 (by omega)
  simp only [Yd,Nat.zero_add,Nat.reduceAdd] at kf hbf
  have HF:=Lib.hid (And.intro kf hbf)
  clear kf hbf kr hb0
  go_wp2
  generalize World.setCell (World.setCell (World.setCell (World.setCell (World.setCell (World.setCell (World.setCell (w3) _ _) _ _) _ _) _ _) _ _) _ _) _ _=wf at HF ⊢
  have cf:=HF.out.1.cell
  exact bodyPost_ret (by simp [results,Tryz.results34,go_sem,cf];rfl) rfl ⟨by rw [E.out,her],HF.out.2⟩
 subst hz
 have E0:=Lib.hid (show pe=if ZJ p vars ws&&good then (if Xi p rows ws then 0 else 9) else 1 by rw [HPE.out];unfold YI;rw [←her,if_neg (by simp)])
 have hgd:=HG.out L hL hfor
 have HVL:=Lib.hid (fun w' (hb:Below w.heap.size w w')=>HV.out L hL w' hb)
 rw [hgd] at HVL
 have hv0:0<vars:=by have:=hfor.vars;have:=hfor.pub;simp only at *;omega
 have HT:=Lib.hid htab
 clear her HG HV hgd hfor hL htab
 unfold ZP at *
 have hal:=(Below.refl w2.heap.size w2).alloc (Nat.le_refl _) (.cells #[.int .u64 (L.p:Int), .int .i64 (L.block:Int), .int .i64 (L.queries:Int), .int .i64 (L.k:Int), .int .i64 (L.n:Int), .int .i64 (L.secret:Int), .int .i64 (L.rows:Int), .int .i64 (L.a:Int), .int .i64 (L.b:Int), .int .i64 (L.b:Int), .int .i64 (L.b:Int)] 50)
 have kl:=Blk.new w2 50 #[.int .u64 (L.p:Int), .int .i64 (L.block:Int), .int .i64 (L.queries:Int), .int .i64 (L.k:Int), .int .i64 (L.n:Int), .int .i64 (L.secret:Int), .int .i64 (L.rows:Int), .int .i64 (L.a:Int), .int .i64 (L.b:Int), .int .i64 (L.b:Int), .int .i64 (L.b:Int)]
 have hgl:w.heap.size+3<w2.heap.size:=kr.lt
 replace kt:=kt.below hal kt.lt
 replace kx:=kx.below hal kx.lt
 replace kc:=kc.below hal kc.lt
 replace kr:=kr.below hal kr.lt
 replace hb0:=Za hb0 hal
 clear hal kx
 go_upto_region 2 with fail
 generalize w2.alloc _=w3 at kl kt kc kr hb0 ⊢
 generalize w2.heap.size=gl at kl hgl ⊢
 have ct:=kt.cell
 by_cases z1:(m:Int)=vars
 rotate_left
 ·have d1:((m:Int) != vars)=true:=by rw [bne_iff_ne];exact z1
  have E:=Lib.hid (show ZJ p vars ws=false by have:=HML.out;unfold ZJ;rw [show ((ws.length:Int) != vars)=true by rw [←this];exact d1];rfl)
  have E1:=Lib.hid (show pe=1 by rw [E0.out,E.out];rfl)
  clear z1 E E0 HE kl kt kc
  have cr:=kr.cell
  have fr:=kr.frozen
  have kf:=Yb [.int .u64 0, .slice none 0 0, .slice none 0 0, .slice none 0 0, .slice none 0 0, .slice none 0 0, .slice none 0 0] kr rfl
  have hbf:=Z5 (xs:=[.int .u64 0, .slice none 0 0, .slice none 0 0, .slice none 0 0, .slice none 0 0, .slice none 0 0, .slice none 0 0]) (g:=w.heap.size+3) hb0 (by omega)
  simp only [Yd,Nat.zero_add,Nat.reduceAdd] at kf hbf
  have HF:=Lib.hid (And.intro kf hbf)
  clear kf hbf kr hb0
  go_wp2
  generalize World.setCell (World.setCell (World.setCell (World.setCell (World.setCell (World.setCell (World.setCell (w3) _ _) _ _) _ _) _ _) _ _) _ _) _ _=wf at HF ⊢
  have cf:=HF.out.1.cell
  exact bodyPost_ret (by simp [results,Tryz.results34,go_sem,cf];rfl) rfl ⟨by rw [E1.out],HF.out.2⟩
 have d1:((m:Int) != vars)=false:=by rw [z1];simp
 have z2:0<ws.length:=by have:=HML.out;omega
 have g1:(0:Int)<(m:Int):=by omega
 have hrd:=HRD.out.below hb0
 rw [HML.out] at hrd
 obtain ⟨b,q,rfl,hbl,hc⟩:=XN hrd z2
 have hc0:w3.cell? ⟨b,q,none⟩=some (.int .u64 ((ws.getD 0 0:Nat):Int)):=hc
 have HAS:=Lib.hid (show ws.getD 0 0=1→ZJ p vars ws=ws.all fun x=>decide (x<p) from fun h=>by
  have:=HML.out
  unfold ZJ
  rw [←this,d1,h,show ((m:Int) == 0)=false by rw [beq_eq_false_iff_ne];omega]
  simp)
 have HAN:=Lib.hid (show ¬ws.getD 0 0=1→ZJ p vars ws=false from fun h=>by
  unfold ZJ
  rw [show (((ws.getD 0 0:Nat):Int) != 1)=true by rw [bne_iff_ne];omega]
  simp)
 clear hc hrd z1
 by_cases z3:ws.getD 0 0=1
 rotate_left
 ·have d3:(((ws.getD 0 0:Nat):Int) != 1)=true:=by rw [bne_iff_ne];omega
  have E1:=Lib.hid (show pe=1 by rw [E0.out,HAN.out z3];rfl)
  clear z3 E0 HE HAS HAN kl kt kc
  revert hc0 d3
  generalize ws.getD 0 0=y
  intro hc0 d3
  have cr:=kr.cell
  have fr:=kr.frozen
  have kf:=Yb [.int .u64 0, .slice none 0 0, .slice none 0 0, .slice none 0 0, .slice none 0 0, .slice none 0 0, .slice none 0 0] kr rfl
  have hbf:=Z5 (xs:=[.int .u64 0, .slice none 0 0, .slice none 0 0, .slice none 0 0, .slice none 0 0, .slice none 0 0, .slice none 0 0]) (g:=w.heap.size+3) hb0 (by omega)
  simp only [Yd,Nat.zero_add,Nat.reduceAdd] at kf hbf
  have HF:=Lib.hid (And.intro kf hbf)
  clear kf hbf kr hb0
  go_wp2
  generalize World.setCell (World.setCell (World.setCell (World.setCell (World.setCell (World.setCell (World.setCell (w3) _ _) _ _) _ _) _ _) _ _) _ _) _ _=wf at HF ⊢
  have cf:=HF.out.1.cell
  exact bodyPost_ret (by simp [results,Tryz.results34,go_sem,cf];rfl) rfl ⟨by rw [E1.out],HF.out.2⟩
 have HAS2:=Lib.hid (HAS.out z3)
 rw [z3] at hc0
 obtain ⟨ba,hba⟩:∃ ba,ba=ws.all fun x=>decide (x<p):=⟨_,rfl⟩
 rw [←hba] at HAS2 HBl
 rw [HAS2.out] at E0
 clear HAS HAN z3 hba z2
 go_wp2_with fail
 refine (HBl.out w3 hb0).mono ?_
 rintro e _ ⟨rfl,rfl⟩
 cases ba
 ·have E1:=Lib.hid (show pe=1 by rw [E0.out];rfl)
  clear E0 HE HAS2 kl kt kc
  have cr:=kr.cell
  have fr:=kr.frozen
  have kf:=Yb [.int .u64 0, .slice none 0 0, .slice none 0 0, .slice none 0 0, .slice none 0 0, .slice none 0 0, .slice none 0 0] kr rfl
  have hbf:=Z5 (xs:=[.int .u64 0, .slice none 0 0, .slice none 0 0, .slice none 0 0, .slice none 0 0, .slice none 0 0, .slice none 0 0]) (g:=w.heap.size+3) hb0 (by omega)
  simp only [Yd,Nat.zero_add,Nat.reduceAdd] at kf hbf
  have HF:=Lib.hid (And.intro kf hbf)
  clear kf hbf kr hb0
  go_wp2
  generalize World.setCell (World.setCell (World.setCell (World.setCell (World.setCell (World.setCell (World.setCell (w3) _ _) _ _) _ _) _ _) _ _) _ _) _ _=wf at HF ⊢
  have cf:=HF.out.1.cell
  exact bodyPost_ret (by simp [results,Tryz.results34,go_sem,cf];rfl) rfl ⟨by rw [E1.out],HF.out.2⟩
 have cl:=kl.cell
 have cc:=kc.cell
 clear hc0
 go_wp2_with fail
 refine (HVL.out w3 hb0).mono ?_
 rintro e w4 ⟨rfl,hb4⟩
 replace kl:=kl.below hb4 kl.lt
 replace kt:=kt.below hb4 kt.lt
 replace kc:=kc.below hb4 kc.lt
 replace kr:=kr.below hb4 kr.lt
 replace hb0:=Za hb0 hb4
 clear cl cc ct hb4
 cases good
 ·have E1:=Lib.hid (show pe=1 by rw [E0.out];rfl)
  clear E0 HE HAS2 kl kt kc
  have cr:=kr.cell
  have fr:=kr.frozen
  have kf:=Yb [.int .u64 0, .slice none 0 0, .slice none 0 0, .slice none 0 0, .slice none 0 0, .slice none 0 0, .slice none 0 0] kr rfl
  have hbf:=Z5 (xs:=[.int .u64 0, .slice none 0 0, .slice none 0 0, .slice none 0 0, .slice none 0 0, .slice none 0 0, .slice none 0 0]) (g:=w.heap.size+3) hb0 (by omega)
  simp only [Yd,Nat.zero_add,Nat.reduceAdd] at kf hbf
  have HF:=Lib.hid (And.intro kf hbf)
  clear kf hbf kr hb0
  go_wp2
  generalize World.setCell (World.setCell (World.setCell (World.setCell (World.setCell (World.setCell (World.setCell (w4) _ _) _ _) _ _) _ _) _ _) _ _) _ _=wf at HF ⊢
  have cf:=HF.out.1.cell
  exact bodyPost_ret (by simp [results,Tryz.results34,go_sem,cf];rfl) rfl ⟨by rw [E1.out],HF.out.2⟩
 have ct:=kt.cell
 go_wp2_with fail
 refine (HS.out w4 hb0).mono ?_
 rintro e w5 ⟨rfl,hb5⟩
 replace kr:=kr.below hb5 kr.lt
 replace hb0:=Za hb0 hb5
 clear ct hb5 kl kt kc
 rw [HT.out,HAS2.out]
 cases hs:Xi p rows ws
 ·have HSF:=Lib.hid hs
  have E1:=Lib.hid (show pe=9 by rw [E0.out,HSF.out];rfl)
  clear E0 HE HAS2 hs
  have cr:=kr.cell
  have fr:=kr.frozen
  have kf:=Yb [.int .u64 0, .slice none 0 0, .slice none 0 0, .slice none 0 0, .slice none 0 0, .slice none 0 0, .slice none 0 0] kr rfl
  have hbf:=Z5 (xs:=[.int .u64 0, .slice none 0 0, .slice none 0 0, .slice none 0 0, .slice none 0 0, .slice none 0 0, .slice none 0 0]) (g:=w.heap.size+3) hb0 (by omega)
  simp only [Yd,Nat.zero_add,Nat.reduceAdd] at kf hbf
  have HF:=Lib.hid (And.intro kf hbf)
  clear kf hbf kr hb0
  go_wp2
  generalize World.setCell (World.setCell (World.setCell (World.setCell (World.setCell (World.setCell (World.setCell (w5) _ _) _ _) _ _) _ _) _ _) _ _) _ _=wf at HF ⊢
  have cf:=HF.out.1.cell
  exact bodyPost_ret (by simp [results,Tryz.results34,go_sem,cf];rfl) rfl ⟨by rw [E1.out],HF.out.2⟩
 ·exact absurd (by rw [E0.out,hs];rfl) HE.out
end Go.Proofs.YtdhhdplholkmdaaGreat
