/-
  ResponseColumns, for every input: the law returns true and leaves its arguments as they were. No condition.
-/
import Derived.Test.YtakjnmojigechaaGreatProg
import Derived.Test.YtakjnmojigechaaGreatJB30
import Derived.Test.YtakjnmojigechaaGreatJB45
import Derived.Test.YtakjnmojigechaaGreatJB35
import Derived.Test.YtakjnmojigechaaGreatJB41
import Derived.Test.YtakjnmojigechaaGreatRows

namespace Go.Proofs.YtakjnmojigechaaGreat
open Go.RowKit
theorem zJc {L:ZO} (m r:List (List Nat)) (co:List Nat) (al:Nat) (x:Int):Cg L.p (evL (XW L m r co al) x) (evL co x+ZY (fun j=>(X7 L.p al (j+1):Int)*evL ((YY L m r).getD j []) x) m.length):=by
 unfold XW
 rw [zAm]
 exact (Jw _ _ _).trans (Cg.rfl'.add (yB _ _ _ _))
theorem zAb {p:Nat} (hp:0<p) {a c:List Nat} {s x:Nat} {S:Int} (h1:Cg p (evL a x) (evL c x+S)) (h2:Cg p (s:Int) S):jg p (ZT p a x) s=ZT p c x:=by
 refine Cg.eq (p:=p) ?_ (UX hp _ _) (XP hp _ _)
 refine (Js hp _ _).trans ?_
 refine Cg.trans ?_ (Xr c).symm
 refine (Cg.less ((Xr a).trans h1) h2).trans (Cg.of_eq ?_)
 omega
theorem zIx {L:ZO} (hL:ZU L) {cs:List (List Nat)} {a b c co ml qd:List Nat} {R:List (List Nat)} {al be x:Nat} {v:List Nat} (hv:v.length=L.a+L.b+L.b+L.b) (hvx:∀ j,j<v.length→v.getD j 0=ZT L.p (R.getD j []) x)
  (ha:Cg L.p (evL a x) (evL co x+ZY (fun j=>(X7 L.p al (j+1):Int)*evL (R.getD j []) x) v.length))
  (hb:Cg L.p (evL b x) (evL ml x+ZY (fun j=>evL ((wtD L.p cs).getD j []) x*evL (R.getD j []) x) v.length))
  (hc:Cg L.p (evL c x) (evL qd x+ZY (fun j=>(X7 L.p be (j+1):Int)*(evL (R.getD (L.a+j) []) x*evL (R.getD (L.a+L.b+j) []) x-evL (R.getD (L.a+L.b+L.b+j) []) x)) L.b)) :
  UN L cs al be a b c x v=[ZT L.p co x,ZT L.p ml x,ZT L.p qd x]:=by
 obtain ⟨hp,-⟩:=Zr hL.p
 have hp0:0<L.p:=by omega
 have hf:∀ j,j<v.length→Cg L.p ((v.getD j 0:Nat):Int) (evL (R.getD j []) x):=fun j h=>by rw [hvx j h];exact Xr _
 unfold UN
 rw [zAb hp0 ha ((zBl _ al _).trans (Y8 _ fun j hj=>Cg.rfl'.mul (hf j hj)))]
 rw [zAb hp0 hb ((zE4 _ _ _).trans (Y8 _ fun j hj=>(Xr _).mul (hf j hj)))]
 rw [zAb hp0 hc ((xV (by omega) hv.symm _ be).trans (Y8 _ fun j hj=>Cg.rfl'.mul (((hf _ (by omega)).mul (hf _ (by omega))).less (hf _ (by omega)))))]
theorem zFn {L:ZO} (hL:ZU L) {m r:List (List Nat)} (h:VG L m r) (co li qu:List Nat) {j:Nat} (hj:j<m.length):(Xp L m r co li qu).getD j []=(YY L m r).getD j []:=by
 rw [Vz hL h hj]
 have h1:(Xp L m r co li qu).getD j []=Jy L m r j:=by
  unfold Xp
  rw [List.getD_eq_getElem?_getD,List.getElem?_append_left (by simp [Vj];exact hj)]
  simp [Vj,hj]
 have h2:(r.getD j []).length=L.queries:=XM h.rr (by rw [h.rl];exact hj)
 rw [h1]
 unfold Jy VS UO
 rw [h2,←hL.k]
theorem zG0 (L:ZO) (m r:List (List Nat)) (co li qu:List Nat):(Xp L m r co li qu).getD m.length []=co∧(Xp L m r co li qu).getD (m.length+1) []=YL L li∧(Xp L m r co li qu).getD (m.length+2) []=zCf L qu:=by
 have hl:(Vj L m r m.length).length=m.length:=by simp [Vj]
 unfold Xp
 simp only [List.getD_eq_getElem?_getD]
 refine ⟨?_,?_,?_⟩
 ·rw [List.getElem?_append_right (by omega),hl,Nat.sub_self];rfl
 ·rw [List.getElem?_append_right (by omega),hl,Nat.add_sub_cancel_left];rfl
 ·rw [List.getElem?_append_right (by omega),hl,Nat.add_sub_cancel_left];rfl
theorem zHl {L:ZO} (hL:ZU L) {cs m r:List (List Nat)} (h:VG L m r) (hcs:∀ x∈cs,x.length=L.block) (hcl:cs.length=m.length) {co li qu:List Nat} (hc:co.length=L.k∧∀ y∈co,y<L.p) (hl:li.length=L.k+L.block-2∧∀ y∈li,y<L.p) (hq:qu.length=L.block+2*L.queries-1) (al be:Nat) {i:Nat} (hi:i<L.n) :
  Vo L cs al be (XW L m r co al) (XV L cs m r li) (XN L m r qu be) (i:Int) ((List.range (m.length+3)).map (zJ L (Xp L m r co li qu) i))=true:=by
 obtain ⟨hp,-⟩:=Zr hL.p
 have hp0:0<L.p:=by omega
 obtain ⟨hn1,hn2⟩:=GU hL
 have hcv:∀ j,zJ L (Xp L m r co li qu) i j=ZT L.p ((Xp L m r co li qu).getD j []) (Xv L.p (ZJ L.p).1 L.n i):=fun j=>by
  unfold zJ
  exact zAu hL.p hn1 hn2 _ hi
 obtain ⟨F,hF⟩:∃ F,F=(List.range m.length).map (zJ L (Xp L m r co li qu) i):=⟨_,rfl⟩
 have hFl:F.length=m.length:=by rw [hF];simp
 have hsplit:(List.range (m.length+3)).map (zJ L (Xp L m r co li qu) i)=F++[zJ L (Xp L m r co li qu) i m.length,zJ L (Xp L m r co li qu) i (m.length+1),zJ L (Xp L m r co li qu) i (m.length+2)]:=by
  rw [hF,show m.length+3=m.length+1+1+1 by omega,List.range_succ,List.range_succ,List.range_succ]
  simp
 obtain ⟨p0,p1,p2⟩:=zG0 L m r co li qu
 rw [hsplit,hcv m.length,hcv (m.length+1),hcv (m.length+2),p0,p1,p2]
 rw [zF (UU hL h hcs hcl hc hl hq al be) hi (by rw [hFl];exact h.ml) (fun x hx=>by
  rw [hF] at hx
  obtain ⟨j,-,rfl⟩:=List.mem_map.1 hx
  rw [hcv]
  exact XP hp0 _ _) rfl (fun x hx=>by
  simp only [List.mem_cons,List.not_mem_nil,or_false] at hx
  rcases hx with rfl | rfl | rfl <;> exact XP hp0 _ _)]
 refine decide_eq_true ?_
 refine zIx hL (R:=YY L m r) (by rw [hFl];exact h.ml) (fun j hj=>?_) ?_ ?_ ?_
 ·have hj':j<m.length:=by rw [←hFl];exact hj
  rw [hF,Yp,if_pos hj',hcv,zFn hL h _ _ _ hj']
 ·rw [hFl];exact zJc _ _ _ _ _
 ·rw [hFl];exact zCa _ _ _ _ _
 ·refine (zAx (by omega) m r qu be _).trans ?_
  rw [KC hL hq]
  exact Cg.rfl'
theorem jS {L:ZO} {cs:List (List Nat)} {al be:Nat} {a b q v:List Nat} {i:Int} (h:i<0∨(L.n:Int)≤i):Vo L cs al be a b q i v=false:=by
 unfold Vo
 rcases h with h | h
 ·rw [decide_eq_false (show ¬(0:Int)≤i by omega)];simp
 ·rw [decide_eq_false (show ¬i<(L.n:Int) by omega)];simp
set_option maxRecDepth 100000 in
set_option maxHeartbeats 2000000 in
theorem KL (W:World) (cs0:Array Value) (f0:Fits Tryz.prog W 35 (Value.agg cs0).cells.toList) :
  Calls Tryz.prog 5 #[.agg cs0] W fun e W'=>e= .returned (.bool true)∧Below W.heap.size W W':=by
 obtain ⟨p,pub,vars,A,B,A1,B1,n,c,m,d,na,ca,nb,cb,rows,ws,lat,lby,bl,bw,qs,seed,al,rho,be,rfl,hin⟩:=V7 f0
 clear f0
 have HSet:=Lib.hid (fun w' (hb:Below W.heap.size W w')=>UZ 24 p pub vars A B A1 B1 n c m d na ca nb cb rows ws lat lby bl bw qs seed al rho be w' (ZA ZB _ _ _ _ hb hin.rows) (Zc _ _ _ _ hb hin.ws) hin.p (ZA JY _ _ _ _ hb hin.lat) (Zc _ _ _ _ hb hin.lby) hin.seed)
 have HRows:=Lib.hid (fun w' (hb:Below W.heap.size W w')=>ZA ZB _ _ _ _ hb hin.rows)
 have HWs:=Lib.hid (fun w' (hb:Below W.heap.size W w')=>Zc _ _ _ _ hb hin.ws)
 have HAw:=Lib.hid (fun w=>VW w)
 clear hin
 unfold J9 at *
 have kb:=Blk.new W 35 #[.int .u64 (p:Int), .int .i64 pub, .int .i64 vars, .slice A n c, .int .i64 bl, .int .i64 bw, .int .i64 qs, .slice B m d, .int .u64 (seed:Int), .int .u64 (al:Int), .int .u64 (rho:Int), .int .u64 (be:Int), .slice A1 na ca, .slice B1 nb cb]
 have hb0:Below W.heap.size W (W.alloc (.cells #[.int .u64 (p:Int), .int .i64 pub, .int .i64 vars, .slice A n c, .int .i64 bl, .int .i64 bw, .int .i64 qs, .slice B m d, .int .u64 (seed:Int), .int .u64 (al:Int), .int .u64 (rho:Int), .int .u64 (be:Int), .slice A1 na ca, .slice B1 nb cb] 35)):=(Below.refl _ W).alloc (Nat.le_refl _) _
 go_enter Tryz.func5,Tryz.ntmps5
 go_upto_region 1 with fail
 generalize W.alloc _=w0 at hb0 kb ⊢
 go_wp2_with fail
 refine (HAw.out _).mono ?_
 rintro e w1 ⟨rfl,hb1⟩
 replace kb:=kb.below hb1 kb.lt
 replace hb0:=Za hb0 hb1
 clear hb1 HAw
 have cb0:=kb.cell
 go_wp2_with fail
 refine (HSet.out _ hb0).mono ?_
 rintro e w2 ⟨⟨y0,y1,y2,y3,y4,y5,y6,y7,y8,y9,y10,b,vm,c0,c1,c2,c3,c4,z0,z1,z2,rfl,⟨AM,nM,cM,rfl⟩,⟨D0,n0,k0,rfl⟩,⟨D1,n1,k1,rfl⟩,⟨D2,n2,k2,rfl⟩,⟨D3,n3,k3,rfl⟩,⟨D4,n4,k4,rfl⟩,hT⟩,hb2⟩
 have HT:=Lib.hid hT
 replace kb:=kb.below hb2 kb.lt
 replace hb0:=Za hb0 hb2
 clear hb2 HSet cb0 hT
 obtain ⟨kl,kc,kx,hbx,-⟩:=XH w2 39 42 32 #[.int .u64 y0, .int .i64 y1, .int .i64 y2, .int .i64 y3, .int .i64 y4, .int .i64 y5, .int .i64 y6, .int .i64 y7, .int .i64 y8, .int .i64 y9, .int .i64 y10] #[.slice D0 n0 k0, .slice D1 n1 k1, .slice D2 n2 k2, .slice D3 n3 k3, .slice D4 n4 k4] #[.int .u64 (z0:Int), .int .u64 (z1:Int), .int .u64 (z2:Int)]
 go_upto_region 4 with fail
 generalize ((w2.alloc _).alloc _).alloc _=w3 at kl kc kx hbx ⊢
 replace kb:=kb.below hbx kb.lt
 replace hb0:=Za hb0 hbx
 generalize w2.heap.size+1+1=gx at kx ⊢
 generalize w2.heap.size+1=gc at kc ⊢
 obtain ⟨gl,hgl⟩:∃ gl,gl=w2.heap.size:=⟨_,rfl⟩
 rw [←hgl] at kl ⊢
 clear hgl
 cases b
 ·clear HT kc kx hbx HRows HWs kl
  go_wp2
  go_ret
  exact ⟨rfl,hb0⟩
 obtain ⟨L,pu,M,rfl,hcs,hin,-,-,-⟩:=HT.out rfl
 clear HT
 rw [hcs] at kl
 clear hcs
 replace hin:=VU hbx hin
 obtain rfl:p=L.p:=hin.p.symm
 clear hbx
 obtain ⟨hp1,hp2⟩:=Zr hin.ok.p
 have hco:=VR L seed (by omega)
 have hml:M.length=(Yo L seed (L.a+L.b+L.b+L.b)).length:=by rw [Us];exact hin.ml
 have hok:VG L M (Yo L seed (L.a+L.b+L.b+L.b)):=⟨hin.ml,by omega,hin.mr,fun x hx=>by obtain ⟨i,hi,rfl⟩:=List.getElem_of_mem hx;exact Up hi⟩
 obtain ⟨-,-,hc1,hc2,hc3⟩:=Y4 hco
 have hcl:(Z9 L pu z1 rows).length=M.length:=by rw [Xy,hin.ml]
 have hfit:=UU hin.ok hok (cs:=Z9 L pu z1 rows) YU hcl hc1 hc2 hc3.1 z0 z2
 obtain ⟨fl1,fl2,fl3⟩:=Jj hp2 hfit
 have HF1:=Lib.hid fl1
 have HF2:=Lib.hid fl2
 have HF3:=Lib.hid fl3
 obtain ⟨fl4,fl5,fl6⟩:=Ux hfit
 clear fl1 fl2 fl3
 have HAn:=Lib.hid (fun w' (hb:Below w3.heap.size w3 w')=>UW L pu z1 z0 z2 vars A AM D0 D1 D2 D3 D4 n c nM cM n0 n1 n2 n3 n4 k0 k1 k2 k3 k4 rows M _ _ _ _ _ w' hin.ok hin.tf (HRows.out w' (Za hb0 hb)) hin.vo (Zx _ _ _ _ hb hin.m) (Zx _ _ _ _ hb hin.r) (Zc _ _ _ _ hb hin.co) (Zc _ _ _ _ hb hin.li) (Zc _ _ _ _ hb hin.qu) (Zc _ _ _ _ hb hin.sa) hco hin.ml hin.mr)
 have hla:=hin.ok.a
 have hlb:=hin.ok.b
 have lk1:=hin.ok.k
 have lk2:=hin.ok.b2
 have lk3:=hin.ok.q2
 have lk4:=hin.ok.nk
 have lk5:=hin.ok.b1
 have lk6:=hin.ok.n2
 have hnM:=(Yi hin.m).1
 have hMl:=hin.ml
 have HOf:=Lib.hid (fun w=>U8 L w)
 have HCp:=Lib.hid (fun w' (hb:Below w3.heap.size w3 w')=>Kd AM nM cM M w' (Zx _ _ _ _ hb hin.m) (by omega) (fun x hx=>by rw [hin.mr x hx];omega))
 obtain ⟨CC,hCC⟩:∃ CC,CC=(List.range L.n).map fun i=>(List.range (M.length+3)).map (zJ L (Xp L M (Yo L seed (L.a+L.b+L.b+L.b)) (Yb L.p seed [1] L.k) (Yb L.p seed [2] (L.k+L.block-2)) (Yb L.p seed [3] (L.block+2*L.queries-1))) i):=⟨_,rfl⟩
 have HCo:=Lib.hid (fun AM' nM' cM' w' (hb:Below w3.heap.size w3 w') hm=>GO L D0 D1 D2 D3 D4 AM' n0 n1 n2 n3 n4 nM' k0 k1 k2 k3 k4 cM' M (Yo L seed (L.a+L.b+L.b+L.b)) (Yb L.p seed [1] L.k) (Yb L.p seed [2] (L.k+L.block-2)) (Yb L.p seed [3] (L.block+2*L.queries-1)) w' hin.ok hm (Zx _ _ _ _ hb hin.r) (Zc _ _ _ _ hb hin.co) (Zc _ _ _ _ hb hin.li) (Zc _ _ _ _ hb hin.qu) hml hin.mr (fun x hx=>by rw [hok.rr x hx];omega) (by omega) (by rw [hc1.1];omega) (by rw [hc2.1];omega) (by rw [hc3.1];omega))
 rw [←hCC] at HCo
 have hCn:CC.length=L.n:=by rw [hCC];simp
 have HRl:=Lib.hid (show ∀ i (h:i<CC.length),CC[i].length≤5000000000 from fun i h=>by
  have h2:i<L.n:=by omega
  simp only [hCC,List.getElem_map,List.length_map,List.length_range]
  omega)
 have HCol:=Lib.hid (show ∀ i (h:i<CC.length),Vo L (Z9 L pu z1 rows) z0 z2 (XW L M (Yo L seed (L.a+L.b+L.b+L.b)) (Yb L.p seed [1] L.k) z0) (XV L (Z9 L pu z1 rows) M (Yo L seed (L.a+L.b+L.b+L.b)) (Yb L.p seed [2] (L.k+L.block-2))) (XN L M (Yo L seed (L.a+L.b+L.b+L.b)) (Yb L.p seed [3] (L.block+2*L.queries-1)) z2) (i:Int) CC[i]=true from fun i h=>by
  have h2:i<L.n:=by omega
  simp only [hCC,List.getElem_map,List.getElem_range]
  exact zHl hin.ok hok YU hcl hc1 hc2 hc3.1 z0 z2 h2)
 generalize XW L M (Yo L seed (L.a+L.b+L.b+L.b)) (Yb L.p seed [1] L.k) z0=N1 at *
 generalize XV L (Z9 L pu z1 rows) M (Yo L seed (L.a+L.b+L.b+L.b)) (Yb L.p seed [2] (L.k+L.block-2))=N2 at *
 generalize XN L M (Yo L seed (L.a+L.b+L.b+L.b)) (Yb L.p seed [3] (L.block+2*L.queries-1)) z2=N3 at *
 have g1N:N1.length≤5000000000:=by omega
 have g2N:N2.length≤5000000000:=by omega
 have g3N:N3.length≤5000000000:=by omega
 have HCl:=Lib.hid (fun (i:Int) (r:Bool) (v:List Nat) (hc:Vo L (Z9 L pu z1 rows) z0 z2 N1 N2 N3 i v=r) B1 B2 B3 F d1 d2 d3 m d w' (h:Below w3.heap.size w3 w') ha hb hq hv hm=>Jz L pu z1 z0 z2 vars i A B1 B2 B3 F n c N1.length d1 N2.length d2 N3.length d3 m d rows N1 N2 N3 v w' hin.ok hin.tf (HRows.out w' (Za hb0 h)) hin.vo ha hb hq hv g1N g2N g3N hm hc)
 have HN0:=Lib.hid (show 0<L.n∧CC.length=L.n by omega)
 have gn:(L.n:Int)≤1024:=by omega
 clear hla hlb lk1 lk2 lk3 lk4 lk5 lk6 hnM hMl hCC hCn hcl fl4 fl5 fl6 hfit hok hco hml hc1 hc2 hc3 hin HWs hp1 hp2 g1N g2N g3N
 unfold Zz Yr at *
 have cl:=kl.cell
 by_cases h64:64<L.n
 ·have q1:(64:Int)<(L.n:Int):=by omega
  have q2:decide ((64:Int)<(L.n:Int))=true:=decide_eq_true q1
  clear HAn HCp HCo HCol HCl h64
  go_wp2
  go_ret
  exact ⟨rfl,hb0⟩
 have q1:¬((64:Int)<(L.n:Int)):=by omega
 have q2:decide ((64:Int)<(L.n:Int))=false:=decide_eq_false q1
 clear h64
 have cc:=kc.cell
 have cx:=kx.cell
 have cb:=kb.cell
 go_wp2_with fail
 refine (HAn.out _ (Below.refl _ _)).mono ?_
 rintro e w4 ⟨v1,v2,v3,rfl,o1,o2,o3,hb3⟩
 obtain ⟨P1,p1,rfl,-⟩:=Zo o1
 obtain ⟨P2,p2,rfl,-⟩:=Zo o2
 obtain ⟨P3,p3,rfl,-⟩:=Zo o3
 have g1:=ZZ o1 HF1.out
 have g2:=ZZ o2 HF2.out
 have g3:=ZZ o3 HF3.out
 replace kl:=kl.below hb3 kl.lt
 replace kx:=kx.below hb3 kx.lt
 replace kc:=kc.below hb3 kc.lt
 replace kb:=kb.below hb3 kb.lt
 replace hb0:=Za hb0 hb3
 clear cl cc cx cb o1 o2 o3 HAn q1 q2
 go_upto_region 7 with fail
 have kA:=Blk.new w4 46 #[.slice P1 N1.length p1, .slice P2 N2.length p2, .slice P3 N3.length p3]
 have hal:=(Below.refl w4.heap.size w4).alloc (Nat.le_refl _) (.cells #[.slice P1 N1.length p1, .slice P2 N2.length p2, .slice P3 N3.length p3] 46)
 replace kl:=kl.below hal kl.lt
 replace kx:=kx.below hal kx.lt
 replace kc:=kc.below hal kc.lt
 replace kb:=kb.below hal kb.lt
 replace hb0:=Za hb0 hal
 replace hb3:=Za hb3 hal
 replace g1:=Zc _ _ _ _ hal g1
 replace g2:=Zc _ _ _ _ hal g2
 replace g3:=Zc _ _ _ _ hal g3
 generalize w4.alloc _=w6 at kl kx kc kb kA hb0 hb3 g1 g2 g3 ⊢
 generalize w4.heap.size=gA at kA ⊢
 clear hal
 have cl:=kl.cell
 have ll:=kl.lt
 have cc:=kc.cell
 have lc:=kc.lt
 refine Zq (ZK) [1,3,5] [0,2,4,1,3,5,6] (by kernel_rfl) (by kernel_rfl) ?_
 refine Zp (later_moves) ?_
 intro Wc HWc hacc
 have hbW:Below w6.heap.size w6 Wc:=by rw [HWc.out];exact (Below.refl _ _).drew
 repeat (first | (refine Zf (later_moves) rfl rfl (fun _ _ _ h=>h) ?_;simp only [Act.put,zLa,zLb,zLc]) | (refine Ze (v:=?_) (later_moves) rfl rfl (fun _ _ _ h=>h) ?_ ?_;rotate_left;(· (intro w' hR;(first | have hcells:=Zb ((later_moves).trans _ _ _ hacc hR) | skip);go_simp;try with_reducible rfl));simp only [Act.put,zLa,zLb,zLc]))
 refine Zk (later_moves) rfl rfl rfl (fun _=>by go_simp <;> rfl) ((HOf.out _).mono ?_)
 rintro e w7 ⟨rfl,hbx⟩
 refine ⟨_,rfl,hbx,?_⟩
 replace hacc:=(later_moves).trans _ _ _ hacc (hbx)
 simp only [Act.put,zLa,zLb,zLc]
 replace hbW:=Za hbW hbx
 clear hbx
 repeat (first | (refine Zf (later_moves) rfl rfl (fun _ _ _ h=>h) ?_;simp only [Act.put,zLa,zLb,zLc]) | (refine Ze (v:=?_) (later_moves) rfl rfl (fun _ _ _ h=>h) ?_ ?_;rotate_left;(· (intro w' hR;(first | have hcells:=Zb ((later_moves).trans _ _ _ hacc hR) | skip);go_simp;try with_reducible rfl));simp only [Act.put,zLa,zLb,zLc]))
 refine Zk (later_moves) rfl rfl rfl (fun _=>by go_simp <;> rfl) ((HCp.out _ (Za hb3 hbW)).mono ?_)
 rintro e w8 ⟨v4,rfl,m4,hbx⟩
 refine ⟨_,rfl,hbx,?_⟩
 replace hacc:=(later_moves).trans _ _ _ hacc (hbx)
 simp only [Act.put,zLa,zLb,zLc]
 replace hbW:=Za hbW hbx
 clear hbx
 obtain ⟨A4,n4,c4,rfl⟩:=RSl.slc m4
 repeat (first | (refine Zf (later_moves) rfl rfl (fun _ _ _ h=>h) ?_;simp only [Act.put,zLa,zLb,zLc]) | (refine Ze (v:=?_) (later_moves) rfl rfl (fun _ _ _ h=>h) ?_ ?_;rotate_left;(· (intro w' hR;(first | have hcells:=Zb ((later_moves).trans _ _ _ hacc hR) | skip);go_simp;try with_reducible rfl));simp only [Act.put,zLa,zLb,zLc]))
 refine Zk (later_moves) rfl rfl rfl (fun _=>by go_simp <;> rfl) ((HCo.out _ _ _ _ (Za hb3 hbW) m4).mono ?_)
 rintro e w9 ⟨v5,rfl,m5,hbx⟩
 refine ⟨_,rfl,hbx,?_⟩
 replace hacc:=(later_moves).trans _ _ _ hacc (hbx)
 simp only [Act.put,zLa,zLb,zLc]
 replace hbW:=Za hbW hbx
 clear hbx m4
 obtain ⟨A5,n5,c5,rfl⟩:=RSl.slc m5
 obtain ⟨e5,-,-,hmd⟩:=Yi m5
 obtain rfl:L.n=n5:=by rw [←HN0.out.2];exact e5
 clear e5
 repeat (first | (refine Zf (later_moves) rfl rfl (fun _ _ _ h=>h) ?_;simp only [Act.put,zLa,zLb,zLc]) | (refine Ze (v:=?_) (later_moves) rfl rfl (fun _ _ _ h=>h) ?_ ?_;rotate_left;(· (intro w' hR;(first | have hcells:=Zb ((later_moves).trans _ _ _ hacc hR) | skip);go_simp;try with_reducible rfl));simp only [Act.put,zLa,zLb,zLc]))
 refine Zt ?_
 replace kl:=kl.below hbW kl.lt
 replace kx:=kx.below hbW kx.lt
 replace kb:=kb.below hbW kb.lt
 replace kA:=kA.below hbW kA.lt
 replace hb0:=Za hb0 hbW
 replace hb3:=Za hb3 hbW
 replace g1:=Zc _ _ _ _ hbW g1
 replace g2:=Zc _ _ _ _ hbW g2
 replace g3:=Zc _ _ _ _ hbW g3
 clear hbW HWc hacc cl ll cc lc kc HOf HCp HCo m5
 have cl:=kl.cell
 have q3:((L.n:Int) != (L.n:Int))=false:=by simp
 go_wp2_with fail
 clear q3
 go_loopw [50] (fun y wr=>∃ k:Nat,k≤L.n∧y= .int .i64 (k:Int)∧Below w9.heap.size w9 wr) (fun y _=>L.n-(intOf y).toNat)
 case atStart=>exact ⟨0,Nat.zero_le _,rfl,Below.refl _ _⟩
 case round =>
  clear cl
  obtain ⟨k,hk,rfl,hb⟩:=hrel
  replace kl:=kl.below hb kl.lt
  replace kx:=kx.below hb kx.lt
  replace kb:=kb.below hb kb.lt
  replace kA:=kA.below hb kA.lt
  replace hb0:=Za hb0 hb
  replace hb3:=Za hb3 hb
  replace g1:=Zc _ _ _ _ hb g1
  replace g2:=Zc _ _ _ _ hb g2
  replace g3:=Zc _ _ _ _ hb g3
  have cl:=kl.cell
  have cx:=kx.cell
  have cb:=kb.cell
  have cA:=kA.cell
  by_cases hlt:k<L.n
  ·have q4:(k:Int)<(L.n:Int):=by omega
   have q5:(0:Int)≤(k:Int):=by omega
   have hkC:k<CC.length:=by have:=HN0.out.2;omega
   obtain ⟨bw,qw,A6,n6,c6,rfl,hbl,hcw,hrw⟩:=Yq hmd hkC
   have hn6:=(Zy hrw).1
   have HR:=Lib.hid (HRl.out k hkC)
   have HC1:=Lib.hid (HCl.out (k:Int) true CC[k] (HCol.out k hkC))
   obtain ⟨pk,hpk⟩:∃ pk,pk=CC[k]:=⟨_,rfl⟩
   rw [←hpk] at hrw HR HC1 hn6
   have HN6:=Lib.hid (show n6≤5000000000 by rw [hn6];exact HR.out)
   have c7:=(hb.cell (p:=⟨bw,qw+k,none⟩) hbl).trans hcw
   have hr7:=Zc _ _ _ _ hb hrw
   clear hpk hn6 hkC hrw hcw
   go_wp2_with fail
   refine (HC1.out _ _ _ _ _ _ _ _ _ _ hb3 g1 g2 g3 hr7 HN6.out).mono ?_
   rintro e w10 ⟨rfl,hbx⟩
   replace hb:=Za hb hbx
   clear hbx c7 hr7 cl cx cb cA
   go_wp2
   go_roundw
   case rel=>exact ⟨k+1,by omega,by go_num,hb⟩
   case measure=>simp [intOf];omega
  obtain rfl:k=L.n:=by omega
  have q4:¬((L.n:Int)<(L.n:Int)):=by omega
  have hkC:0<CC.length:=by have:=HN0.out;omega
  obtain ⟨bw,qw,A6,n6,c6,rfl,hbl,hcw,hrw⟩:=Yq hmd hkC
  have hn6:=(Zy hrw).1
  have HR:=Lib.hid (HRl.out 0 hkC)
  have HC1:=Lib.hid (HCl.out (-1) false CC[0] (jS (.inl (by omega))))
  have HC2:=Lib.hid (HCl.out (L.n:Int) false CC[0] (jS (.inr (by omega))))
  obtain ⟨pk,hpk⟩:∃ pk,pk=CC[0]:=⟨_,rfl⟩
  rw [←hpk] at hrw HR HC1 HC2 hn6
  have HN6:=Lib.hid (show n6≤5000000000 by rw [hn6];exact HR.out)
  have c7:=(hb.cell (p:=⟨bw,qw+0,none⟩) hbl).trans hcw
  rw [Nat.add_zero] at c7
  have hr7:=Zc _ _ _ _ hb hrw
  have hbl7:=Nat.lt_of_lt_of_le hbl hb.size
  have q6:(0:Int)<(L.n:Int):=by have:=HN0.out.1;omega
  have q7:0<L.n:=HN0.out.1
  clear hpk hn6 hkC hrw hcw hbl
  have ll:=kl.lt
  have lx:=kx.lt
  have lb:=kb.lt
  have lA:=kA.lt
  go_upto_region 16 with fail
  refine Zq (ZK) [9,23] [0,1,2,3,4,5,6,7,8,9,10,11,12,13,14,15,16,17,18,19,20,21,22,23,24,25,26] (by kernel_rfl) (by kernel_rfl) ?_
  refine Zp (later_moves) ?_
  intro Wc HWc hacc
  have hbW:Below wr.heap.size wr Wc:=by rw [HWc.out];exact (Below.refl _ _).drew
  replace hb0:=Za hb0 hbW
  replace hb3:=Za hb3 hbW
  replace g1:=Zc _ _ _ _ hbW g1
  replace g2:=Zc _ _ _ _ hbW g2
  replace g3:=Zc _ _ _ _ hbW g3
  replace hr7:=Zc _ _ _ _ hbW hr7
  clear hbW HWc
  repeat (first | (refine Zf (later_moves) rfl rfl (fun _ _ _ h=>h) ?_;simp only [Act.put,zLa,zLb,zLc]) | (refine Ze (v:=?_) (later_moves) rfl rfl (fun _ _ _ h=>h) ?_ ?_;rotate_left;(· (intro w' hR;(first | have hcells:=Zb ((later_moves).trans _ _ _ hacc hR) | skip);go_simp;try with_reducible rfl));simp only [Act.put,zLa,zLb,zLc]))
  refine Zk (later_moves) rfl rfl rfl (fun _=>by go_simp <;> rfl) ((HC1.out _ _ _ _ _ _ _ _ _ _ hb3 g1 g2 g3 hr7 HN6.out).mono ?_)
  rintro e w10 ⟨rfl,hbx⟩
  refine ⟨_,rfl,hbx,?_⟩
  replace hacc:=(later_moves).trans _ _ _ hacc (hbx)
  simp only [Act.put,zLa,zLb,zLc]
  replace hb0:=Za hb0 hbx
  replace hb3:=Za hb3 hbx
  replace g1:=Zc _ _ _ _ hbx g1
  replace g2:=Zc _ _ _ _ hbx g2
  replace g3:=Zc _ _ _ _ hbx g3
  replace hr7:=Zc _ _ _ _ hbx hr7
  clear hbx
  repeat (first | (refine Zf (later_moves) rfl rfl (fun _ _ _ h=>h) ?_;simp only [Act.put,zLa,zLb,zLc]) | (refine Ze (v:=?_) (later_moves) rfl rfl (fun _ _ _ h=>h) ?_ ?_;rotate_left;(· (intro w' hR;(first | have hcells:=Zb ((later_moves).trans _ _ _ hacc hR) | skip);go_simp;try with_reducible rfl));simp only [Act.put,zLa,zLb,zLc]))
  refine Zk (later_moves) rfl rfl rfl (fun _=>by go_simp <;> rfl) ((HC2.out _ _ _ _ _ _ _ _ _ _ hb3 g1 g2 g3 hr7 HN6.out).mono ?_)
  rintro e w11 ⟨rfl,hbx⟩
  refine ⟨_,rfl,hbx,?_⟩
  replace hacc:=(later_moves).trans _ _ _ hacc (hbx)
  simp only [Act.put,zLa,zLb,zLc]
  replace hb0:=Za hb0 hbx
  clear hbx
  repeat (first | (refine Zf (later_moves) rfl rfl (fun _ _ _ h=>h) ?_;simp only [Act.put,zLa,zLb,zLc]) | (refine Ze (v:=?_) (later_moves) rfl rfl (fun _ _ _ h=>h) ?_ ?_;rotate_left;(· (intro w' hR;(first | have hcells:=Zb ((later_moves).trans _ _ _ hacc hR) | skip);go_simp;try with_reducible rfl));simp only [Act.put,zLa,zLb,zLc]))
  refine Zt ?_
  clear hacc
  go_wp2
  go_ret
  exact ⟨rfl,hb0⟩
end Go.Proofs.YtakjnmojigechaaGreat
namespace Go.Proofs.YtakjnmojigechaaGreat.responseColumns
open Go.ChangeShapes Go.WideShapes Go.ChangeAt Go.RowKit
open Go.ChangeMaps (open_string shut_string)
set_option linter.unusedVariables false
theorem own:ownKnob Tryz.prog.godebug=none:=by kernel_rfl
theorem laidOut:laidOutB Tryz.prog=true:=by kernel_rfl
set_option maxRecDepth 100000 in
theorem lifted (os:Os) (started:os.Started) (H:Type) (enc:TypeId × Value→H) :
  ReturnsInHanded {} Tryz.checked os 5 .any (Rows.responseColumnsSpec.pre6 enc Tryz.prog Tryz.f5 Rows.responseColumnsRow.domain false) (Rows.responseColumnsSpec.post enc Tryz.prog Tryz.f5 false true false false):=by
 refine returnsInHanded_of_change (C:=Tryz.checked) own started (by kernel_rfl) Tryz.func5
  (ChangeSpec.witness6 (enc:=enc) (C:=Tryz.checked) false ⟨#[],#[.agg #[.int .u64 0, .int .i64 0, .int .i64 0, .slice none 0 0, .int .i64 0, .int .i64 0, .int .i64 0, .slice none 0 0, .int .u64 0, .int .u64 0, .int .u64 0, .int .u64 0, .slice none 0 0, .slice none 0 0]],[]⟩ 12 (by kernel_rfl) (by kernel_rfl) (by kernel_rfl) (by kernel_rfl)) ?_
 intro W base args ds gs before hval0 hW hcnd _
 have hval:∀ (j:Nat) t v,Tryz.f5.params[j]?=some t→args[j]?=some v→Value.okWide Tryz.prog W .any base t v:=hval0
 have hW':=hW
 obtain ⟨p,q,hA0,hV,rfl,hfz,hnd⟩:=hW
 have hA:DataW.TrodAll enc Tryz.prog W 0 (fun _=>true) true Tryz.f5.params.toList args.toList ds p:=hA0
 rw [Tryz.params5] at hA hval
 obtain ⟨v0,vs0,d0,ds0,p0,q0,hargs,rfl,rfl,h0,r0⟩:=trodAll_cons hA
 obtain ⟨rfl,rfl,rfl⟩:=trodAll_nil r0
 obtain rfl:args=#[v0]:=by cases args;simp_all
 obtain ⟨rfl,rfl⟩:=trodVars_none hV
 have lt0:∀ x∈p0,x.block<W.heap.size:=by obtain ⟨m,hm⟩:=h0;exact DataW.trod_lt m _ _ _ hm
 have k0:=h0
 obtain ⟨cs0,rfl,z0⟩:=okWide_struct Tryz.underlying35 (hval 0 35 v0 rfl rfl)
 clear hA0 hval0
 refine (KL W cs0 (Fits.of_trod k0)).mono fun e W' ⟨he,bel⟩=>?_
 subst he
 exact ⟨_,rfl,_,_,_,[],_,[],hW',trodAll_mk1 (shut_bool Tryz.underlying4 _),(trodAll_cons_mk (Below.trod laidOut (by kernel_rfl) (of_decide_eq_true (by kernel_rfl)) k0 bel lt0) trodAll_mk0),rfl,bel.frame _,fun h=>by cases h⟩
theorem over:Rows.responseColumnsRow.holds Tryz.pinned (OpenSpec.ofChange Rows.responseColumnsSpec) :=
 OpenClaim.holds_of_wide 5 Tryz.f5 rfl rfl rfl rfl rfl rfl rfl ⟨rfl,rfl,rfl,rfl,rfl⟩ rfl rfl rfl rfl rfl (by kernel_rfl) Tryz.func5 (by kernel_rfl)
  (of_decide_eq_true (by kernel_rfl)) (by unfold Func.isWrapper;first | (rw [if_pos (by decide +kernel)];kernel_rfl) | (rw [if_neg (by decide +kernel)];exact ⟨rfl,rfl⟩))
  (fun os started H enc _=>lifted os started H enc)
theorem proved:Rows.ResponseColumnsSaid:=over
#print axioms proved
end Go.Proofs.YtakjnmojigechaaGreat.responseColumns
