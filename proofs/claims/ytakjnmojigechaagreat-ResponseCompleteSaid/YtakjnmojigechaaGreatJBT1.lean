/-
  ResponseComplete, for every input: the law returns true and leaves its arguments as they were. No condition.
-/
import Derived.Test.YtakjnmojigechaaGreatProg
import Derived.Test.YtakjnmojigechaaGreatJB29
import Derived.Test.YtakjnmojigechaaGreatJB40
import Derived.Test.YtakjnmojigechaaGreatJB45
import Derived.Test.YtakjnmojigechaaGreatJB46
import Derived.Test.YtakjnmojigechaaGreatRows

namespace Go.Proofs.YtakjnmojigechaaGreat
open Go.RowKit
theorem zIb {L:ZO} (hp:0<L.p) (cs:List (List Nat)) (al be:Nat) (a b c:List Nat) (x:Nat) (v:List Nat):∀ y∈UN L cs al be a b c x v,y<L.p:=by
 unfold UN
 intro y hy
 simp only [List.mem_cons,List.not_mem_nil,or_false] at hy
 rcases hy with rfl | rfl | rfl <;> exact UX hp _ _
theorem add_ne {p c y:Nat} (hc:c<p) (hy:¬y%p=0):¬(c+y)%p=c:=fun h=>by
 have h1:(c+y)%p=c%p:=by rw [h,Nat.mod_eq_of_lt hc]
 have h2:=Nat.sub_mod_eq_zero_of_mod_eq h1
 rw [Nat.add_sub_cancel_left] at h2
 exact hy h2
theorem set_ne {p y k:Nat} {l:List Nat} (hk:k<l.length) (hl:∀ x∈l,x<p) (hy:¬y%p=0):¬l=l.set k ((l.getD k 0+y)%p):=fun h=>by
 obtain ⟨z,hz⟩:∃ z,z=(l.getD k 0+y)%p:=⟨_,rfl⟩
 rw [←hz] at h
 have h0:l[k]?=some z:=by
  have h1:=congrArg (fun m:List Nat=>m[k]?) h
  simp only [List.getElem?_set_self hk] at h1
  exact h1
 have h1:l.getD k 0=z:=by rw [List.getD_eq_getElem?_getD,h0];rfl
 have h2:l.getD k 0<p:=by
  rw [List.getD_eq_getElem?_getD,List.getElem?_eq_getElem hk]
  exact hl _ (List.getElem_mem hk)
 rw [hz] at h1
 exact add_ne h2 hy h1.symm
set_option maxRecDepth 100000 in
theorem zC9 (y0 y1 y2 y3 y4 y5 y6 a b c d:Int) (w:World) :
  Calls Tryz.prog 15 #[.agg #[.int .u64 y0, .int .i64 y1, .int .i64 y2, .int .i64 y3, .int .i64 y4, .int .i64 y5, .int .i64 y6, .int .i64 a, .int .i64 b, .int .i64 c, .int .i64 d]] w fun e w'=>(∃ z:Int,e= .returned (.int .i64 z))∧Below w.heap.size w w':=by
 go_enter Tryz.func15,Tryz.ntmps15
 go_wp2_with fail
 go_ret
 exact ⟨⟨_,rfl⟩,(Below.refl _ _).alloc (Nat.le_refl _) _⟩
set_option maxRecDepth 100000 in
set_option maxHeartbeats 2000000 in
theorem Kr (W:World) (cs0:Array Value) (f0:Fits Tryz.prog W 35 (Value.agg cs0).cells.toList) (cs1:Array Value) (f1:Fits Tryz.prog W 52 (Value.agg cs1).cells.toList) (A5:Option Addr) (n5 c5:Nat) (f2:Fits Tryz.prog W 28 (Value.slice A5 n5 c5).cells.toList) :
  Calls Tryz.prog 4 #[.agg cs0, .agg cs1, .slice A5 n5 c5] W fun e W'=>e= .returned (.bool true)∧Below W.heap.size W W':=by
 obtain ⟨si,sw,sa,sb,sc,rfl,hs1,hs2,hs3,hs4⟩:=xd f1
 obtain ⟨front,hfr⟩:=yK Tryz.underlying28 Tryz.underlying22 Xf f2
 have hfr':RWd W [.slice A5 n5 c5] front:=hfr
 obtain rfl:n5=front.length:=(Zy hfr').1
 have HFr:=Lib.hid (fun w' (hb:Below W.heap.size W w')=>Zc _ _ _ _ hb hfr')
 have gfn:=YR (Zy hfr).2.1 (Zy hfr).2.2.1
 clear f1 f2 hfr hfr'
 obtain ⟨p,pub,vars,A,B,A1,B1,n,c,m,d,na,ca,nb,cb,rows,ws,lat,lby,bl,bw,qs,seed,al,rho,be,rfl,hin⟩:=V7 f0
 clear f0
 have HSet:=Lib.hid (fun w' (hb:Below W.heap.size W w')=>UZ 24 p pub vars A B A1 B1 n c m d na ca nb cb rows ws lat lby bl bw qs seed al rho be w' (ZA ZB _ _ _ _ hb hin.rows) (Zc _ _ _ _ hb hin.ws) hin.p (ZA JY _ _ _ _ hb hin.lat) (Zc _ _ _ _ hb hin.lby) hin.seed)
 have HRows:=Lib.hid (fun w' (hb:Below W.heap.size W w')=>ZA ZB _ _ _ _ hb hin.rows)
 have HAw:=Lib.hid (fun w=>VW w)
 have HS:=Lib.hid (fun A1 A2 n1 c1 n2 c2 l1 l2 w h1 h2=>Ju A1 A2 n1 c1 n2 c2 l1 l2 w h1 h2)
 clear hin
 unfold J9 at *
 have HTg:=Lib.hid (fun y0 y1 y2 y3 y4 y5 y6 a b c d w=>zC9 y0 y1 y2 y3 y4 y5 y6 a b c d w)
 obtain ⟨kb,ks,hb0,-⟩:=YB W 35 52 #[.int .u64 (p:Int), .int .i64 pub, .int .i64 vars, .slice A n c, .int .i64 bl, .int .i64 bw, .int .i64 qs, .slice B m d, .int .u64 (seed:Int), .int .u64 (al:Int), .int .u64 (rho:Int), .int .u64 (be:Int), .slice A1 na ca, .slice B1 nb cb] #[.int .u16 (si:Int), .int .u8 (sw:Int), .int .u16 (sa:Int), .int .u64 (sb:Int), .bool sc]
 go_enter Tryz.func4,Tryz.ntmps4
 go_upto_region 1 with fail
 generalize (W.alloc _).alloc _=w0 at hb0 kb ks ⊢
 generalize W.heap.size+1=gs at ks ⊢
 go_wp2_with fail
 refine (HAw.out _).mono ?_
 rintro e w1 ⟨rfl,hb1⟩
 replace kb:=kb.below hb1 kb.lt
 replace ks:=ks.below hb1 ks.lt
 replace hb0:=Za hb0 hb1
 clear hb1 HAw
 have cb0:=kb.cell
 go_wp2_with fail
 refine (HSet.out _ hb0).mono ?_
 rintro e w2 ⟨⟨y0,y1,y2,y3,y4,y5,y6,y7,y8,y9,y10,b,vm,c0,c1,c2,c3,c4,z0,z1,z2,rfl,⟨AM,nM,cM,rfl⟩,⟨D0,n0,k0,rfl⟩,⟨D1,n1,k1,rfl⟩,⟨D2,n2,k2,rfl⟩,⟨D3,n3,k3,rfl⟩,⟨D4,n4,k4,rfl⟩,hT⟩,hb2⟩
 have HT:=Lib.hid hT
 replace kb:=kb.below hb2 kb.lt
 replace ks:=ks.below hb2 ks.lt
 replace hb0:=Za hb0 hb2
 clear hb2 HSet cb0 hT
 obtain ⟨kl,kc,kx,hbx,-⟩:=XH w2 39 42 32 #[.int .u64 y0, .int .i64 y1, .int .i64 y2, .int .i64 y3, .int .i64 y4, .int .i64 y5, .int .i64 y6, .int .i64 y7, .int .i64 y8, .int .i64 y9, .int .i64 y10] #[.slice D0 n0 k0, .slice D1 n1 k1, .slice D2 n2 k2, .slice D3 n3 k3, .slice D4 n4 k4] #[.int .u64 (z0:Int), .int .u64 (z1:Int), .int .u64 (z2:Int)]
 go_upto_region 4 with fail
 generalize ((w2.alloc _).alloc _).alloc _=w3 at kl kc kx hbx ⊢
 replace kb:=kb.below hbx kb.lt
 replace ks:=ks.below hbx ks.lt
 replace hb0:=Za hb0 hbx
 generalize w2.heap.size+1+1=gx at kx ⊢
 generalize w2.heap.size+1=gc at kc ⊢
 obtain ⟨gl,hgl⟩:∃ gl,gl=w2.heap.size:=⟨_,rfl⟩
 rw [←hgl] at kl ⊢
 clear hgl
 cases b
 ·clear HT kc kx hbx HRows HS HFr
  have cl:=kl.cell
  go_wp2_with fail
  refine (HTg.out _ _ _ _ _ _ _ _ _ _ _ _).mono ?_
  rintro e w4 ⟨⟨z,rfl⟩,hb4⟩
  go_wp2
  go_ret
  exact ⟨rfl,Za hb0 hb4⟩
 ·obtain ⟨L,pu,M,rfl,hcs,hin,-,-,-⟩:=HT.out rfl
  clear HT
  rw [hcs] at kl
  clear hcs
  replace hin:=VU hbx hin
  obtain rfl:p=L.p:=hin.p.symm
  clear hbx
  obtain ⟨hp1,hp2⟩:=Zr hin.ok.p
  obtain ⟨T,hT⟩:∃ T,T=L.a+L.b+L.b+L.b:=⟨_,rfl⟩
  have hco:=VR L seed (by omega)
  have hml:M.length=(Yo L seed (L.a+L.b+L.b+L.b)).length:=by rw [Us];exact hin.ml
  have hok:VG L M (Yo L seed (L.a+L.b+L.b+L.b)):=⟨hin.ml,by omega,hin.mr,fun x hx=>by obtain ⟨i,hi,rfl⟩:=List.getElem_of_mem hx;exact Up hi⟩
  have HRa:=Lib.hid (fun w' (hb:Below w3.heap.size w3 w')=>JC L pu z1 z0 z2 vars A AM D0 D1 D2 D3 D4 n c nM cM n0 n1 n2 n3 n4 k0 k1 k2 k3 k4 rows M _ _ _ _ w' hin.ok hin.tf (HRows.out w' (Za hb0 hb)) hin.vo (Zx _ _ _ _ hb hin.m) (Zx _ _ _ _ hb hin.r) (Zc _ _ _ _ hb hin.co) (Zc _ _ _ _ hb hin.li) (Zc _ _ _ _ hb hin.qu) hok (by simp [Yb]) (by simp [Yb]) (by simp [Yb]))
  have hfit:=UU hin.ok hok (cs:=Z9 L pu z1 rows) YU (by rw [Xy,hin.ml]) (Y4 hco).2.2.1 (Y4 hco).2.2.2.1 (Y4 hco).2.2.2.2.1 z0 z2
  obtain ⟨fl1,fl2,fl3⟩:=Jj hp2 hfit
  have HF1:=Lib.hid fl1
  have HF2:=Lib.hid fl2
  have HF3:=Lib.hid fl3
  have HFit:=Lib.hid hfit
  clear hco hml hok hfit fl1 fl2 fl3
  generalize XW L M (Yo L seed (L.a+L.b+L.b+L.b)) (Yb L.p seed [1] L.k) z0=N1 at *
  generalize XV L (Z9 L pu z1 rows) M (Yo L seed (L.a+L.b+L.b+L.b)) (Yb L.p seed [2] (L.k+L.block-2))=N2 at *
  generalize XN L M (Yo L seed (L.a+L.b+L.b+L.b)) (Yb L.p seed [3] (L.block+2*L.queries-1)) z2=N3 at *
  obtain ⟨i,hi⟩:∃ i,i=si%L.n:=⟨_,rfl⟩
  have hn0:0<L.n:=by have h1:=hin.ok.nk;have h2:=hin.ok.k;have h3:=hin.ok.b1;omega
  have hiL:i<L.n:=by rw [hi];exact Nat.mod_lt _ hn0
  obtain ⟨fl4,fl5,fl6⟩:=Ux HFit.out
  have lk1:=hin.ok.k
  have lk2:=hin.ok.b2
  have lk3:=hin.ok.q2
  have la:=hin.ok.a
  have lb':=hin.ok.b
  have g1N:N1.length≤100000:=by omega
  have g2N:N2.length≤100000:=by omega
  have g3N:N3.length≤100000:=by omega
  have hTm:T≤400000:=by omega
  clear fl4 fl5 fl6 lk1 lk2 lk3
  have HTot:=Lib.hid (show ∀ (y0 y1 y2 y3 y4 y5 y6:Int) (w:World),Calls Tryz.prog 15 #[.agg #[.int .u64 y0, .int .i64 y1, .int .i64 y2, .int .i64 y3, .int .i64 y4, .int .i64 y5, .int .i64 y6, .int .i64 (L.a:Int), .int .i64 (L.b:Int), .int .i64 (L.b:Int), .int .i64 (L.b:Int)]] w fun e w'=>e= .returned (.int .i64 (T:Int))∧Below w.heap.size w w' from fun y0 y1 y2 y3 y4 y5 y6 w=>by rw [hT];exact GE y0 y1 y2 y3 y4 y5 y6 L.a L.b L.b L.b w la lb' lb' lb')
  clear la lb'
  obtain ⟨vf,hvf⟩:∃ vf:Nat→Nat,vf=fun j=>front.getD j 0%L.p:=⟨_,rfl⟩
  obtain ⟨V,hV⟩:∃ V,V=(List.range T).map vf:=⟨_,rfl⟩
  have hVl:V.length=T:=by rw [hV];simp
  have hVp:∀ x∈V,x<L.p:=fun x hx=>by
   rw [hV] at hx
   obtain ⟨j,-,rfl⟩:=List.mem_map.1 hx
   rw [hvf]
   exact Nat.mod_lt _ (by omega)
  have hVT:V.length=L.a+L.b+L.b+L.b:=by rw [hVl,hT]
  obtain ⟨C,hC⟩:∃ C,C=UN L (Z9 L pu z1 rows) z0 z2 N1 N2 N3 (Xv L.p (ZJ L.p).1 L.n i) V:=⟨_,rfl⟩
  have hC3:C.length=3:=by rw [hC];rfl
  have hCp:∀ x∈C,x<L.p:=by rw [hC];exact zIb (by omega) _ _ _ _ _ _ _ _
  have hco1:Vo L (Z9 L pu z1 rows) z0 z2 N1 N2 N3 (i:Int) (V++C)=true:=by
   rw [zF HFit.out hiL hVT hVp hC3 hCp,←hC]
   exact decide_eq_true rfl
  obtain ⟨k,hk⟩:∃ k,k=sa%3:=⟨_,rfl⟩
  have hk3:k<3:=by omega
  obtain ⟨z,hz⟩:∃ z,z=(C.getD k 0+sb)%L.p:=⟨_,rfl⟩
  have hzp:z<L.p:=by rw [hz];exact Nat.mod_lt _ (by omega)
  obtain ⟨y,hy⟩:∃ y,y=sb%L.p:=⟨_,rfl⟩
  have hCs:∀ x∈C.set k z,x<L.p:=fun x hx=>by
   rcases List.mem_or_eq_of_mem_set hx with h | h
   ·exact hCp x h
   ·omega
  have hco2:¬y=0→Vo L (Z9 L pu z1 rows) z0 z2 N1 N2 N3 (i:Int) (V++C.set k z)=false:=fun h=>by
   rw [zF HFit.out hiL hVT hVp (by rw [List.length_set];exact hC3) hCs,←hC]
   refine decide_eq_false ?_
   rw [hz]
   exact set_ne (by rw [hC3];exact hk3) hCp (by rw [←hy];exact h)
  have HV64:=Lib.hid (fun x hx=>Nat.lt_trans (hVp x hx) hp2)
  have HVC:=Lib.hid (show ∀ x∈V++C,x<18446744073709551616 from fun x hx=>by
   rcases List.mem_append.1 hx with h | h
   ·exact Nat.lt_trans (hVp x h) hp2
   ·exact Nat.lt_trans (hCp x h) hp2)
  have HVC2:=Lib.hid (show ∀ x∈V++C.set k z,x<18446744073709551616 from fun x hx=>by
   rcases List.mem_append.1 hx with h | h
   ·exact Nat.lt_trans (hVp x h) hp2
   ·exact Nat.lt_trans (hCs x h) hp2)
  have HC64:=Lib.hid (fun x hx=>Nat.lt_trans (hCp x hx) hp2)
  have HCs64:=Lib.hid (fun x hx=>Nat.lt_trans (hCs x hx) hp2)
  have HO:=Lib.hid (fun A n c l w hl hn=>XU A n c l w hl hn)
  have HOf:=Lib.hid (fun w=>U8 L w)
  have HCh:=Lib.hid (fun w=>Kg z0 z1 z2 w)
  have HAd:=Lib.hid (fun w=>by have:=Y7 L.p (C.getD k 0) sb w hin.ok.p;rw [←hz] at this;exact this)
  have HPC:=Lib.hid (fun B1 B2 B3 F d1 d2 d3 d w' (h:Below w3.heap.size w3 w') ha hb hq hf=>Gi L pu z1 z0 z2 vars A B1 B2 B3 F n c N1.length d1 N2.length d2 N3.length d3 i T d rows N1 N2 N3 V w' hin.ok hin.tf (HRows.out w' (Za hb0 h)) hin.vo ha hb hq hf hiL hVT)
  have HDC:=Lib.hid (fun B1 B2 B3 F d1 d2 d3 d w' (h:Below w3.heap.size w3 w') ha hb hq hf=>Kp L pu z1 z0 z2 vars A B1 B2 B3 F n c N1.length d1 N2.length d2 N3.length d3 i T d rows N1 N2 N3 V w' hin.ok hin.tf (HRows.out w' (Za hb0 h)) hin.vo ha hb hq hf hiL hVT)
  rw [←hC] at HPC HDC
  have HC1:=Lib.hid (fun B1 B2 B3 F d1 d2 d3 d w' (h:Below w3.heap.size w3 w') ha hb hq hf=>Jz L pu z1 z0 z2 vars (i:Int) A B1 B2 B3 F n c N1.length d1 N2.length d2 N3.length d3 (T+3) d rows N1 N2 N3 (V++C) w' hin.ok hin.tf (HRows.out w' (Za hb0 h)) hin.vo ha hb hq hf (by omega) (by omega) (by omega) (by omega) hco1)
  have HC2:=Lib.hid (fun (h0:¬y=0) B1 B2 B3 F d1 d2 d3 d w' (h:Below w3.heap.size w3 w') ha hb hq hf=>Jz L pu z1 z0 z2 vars (i:Int) A B1 B2 B3 F n c N1.length d1 N2.length d2 N3.length d3 (T+3) d rows N1 N2 N3 (V++C.set k z) w' hin.ok hin.tf (HRows.out w' (Za hb0 h)) hin.vo ha hb hq hf (by omega) (by omega) (by omega) (by omega) (hco2 h0))
  obtain ⟨h1,h2,-,-,h5,h6,h7⟩:=UC si L.n hn0
  obtain ⟨u1,u2,-,-,u5,u6,u7⟩:=UC sb L.p (by omega)
  rw [←hi] at h1 h2
  rw [←hy] at u1 u2
  have s1:(sa:Int)%3=(k:Int):=by omega
  have s2:(sa:Int).tmod 3=(k:Int):=by rw [Int.tmod_eq_emod_of_nonneg (by omega)];exact s1
  have hTn:T≤front.length→(T:Int)≤(c5:Int):=fun h=>by have:=(Zy (HFr.out _ (Below.refl _ _))).2.1;omega
  have HVr:=Lib.hid (VL vf)
  have HVF:=Lib.hid (show ∀ j,vf j=front.getD j 0%L.p from fun j=>by rw [hvf])
  have HVV:=Lib.hid hV
  have HC3:=Lib.hid hC3
  have HP0:=Lib.hid (show 0<L.p by omega)
  clear hi hy hk hz hV hvf hVl hVp hVT hC hC3 hCp hzp hCs hco1 hco2 hin hT HFit hn0 hiL hp1 hp2 HRows
  unfold Zz Yr at *
  have cl:=kl.cell
  go_wp2_with fail
  refine (HTot.out _ _ _ _ _ _ _ _).mono ?_
  rintro e w4 ⟨rfl,hb3⟩
  replace kl:=kl.below hb3 kl.lt
  replace kc:=kc.below hb3 kc.lt
  replace kx:=kx.below hb3 kx.lt
  replace kb:=kb.below hb3 kb.lt
  replace ks:=ks.below hb3 ks.lt
  replace hb0:=Za hb0 hb3
  clear cl HTot
  by_cases hlt:front.length<T
  ·have q1:(front.length:Int)<(T:Int):=by omega
   clear HC1 HC2 HDC HPC HRa HO HAd HS HFr HVr HVF HVV hTn
   go_wp2
   go_ret
   exact ⟨rfl,hb0⟩
  have q1:¬((front.length:Int)<(T:Int)):=by omega
  have q2:(T:Int)≤(c5:Int):=hTn (by omega)
  have q3:(0:Int)≤(T:Int):=by omega
  clear hTn
  go_wp2_with fail
  go_loopw [13,44] (fun v y wr=>∃ j:Nat,j≤T∧y= .int .i64 (j:Int)∧wr.ownsRow w4.heap.size 22 1 v j (U64 ((List.range j).map vf))∧Below w4.heap.size w4 wr) (fun _ y _=>T-(intOf y).toNat)
  case atStart=>exact ⟨0,Nat.zero_le _,rfl,⟨rfl, .inl ⟨rfl,rfl⟩⟩,Below.refl _ _⟩
  case round =>
   obtain ⟨j,hj,rfl,hown,hb⟩:=hrel
   replace kl:=kl.below hb kl.lt
   replace kc:=kc.below hb kc.lt
   replace kx:=kx.below hb kx.lt
   replace kb:=kb.below hb kb.lt
   replace ks:=ks.below hb ks.lt
   have hbw:=Za hb0 hb
   have cl:=kl.cell
   by_cases hjT:j<T
   ·have q4:(j:Int)<(T:Int):=by omega
    have q5:(0:Int)≤(j:Int):=by omega
    obtain ⟨-,-,-,-,hrd⟩:=Zy (HFr.out _ hbw)
    obtain ⟨bf,qf,rfl,hbf,hcf⟩:=Ym hrd (j:=j) (by omega)
    obtain ⟨x,hx⟩:∃ x,x=front.getD j 0:=⟨_,rfl⟩
    obtain ⟨z0,hz0⟩:∃ z0,z0=x%L.p:=⟨_,rfl⟩
    obtain ⟨e1,e2,-,-,e5,e6,e7⟩:=UC x L.p HP0.out
    rw [←hz0] at e1 e2
    rw [←hx] at hcf
    have HVj:=Lib.hid (show (List.range j).map vf++[z0]=(List.range (j+1)).map vf by rw [hz0,hx,←HVF.out j];exact HVr.out j)
    clear hx hz0 hrd HC1 HC2 HDC HPC HRa
    go_wp2_with (at_builtin;refine ZV rfl _ _ rfl Ua rfl (hown.alloc _) rfl (Xu _ _ _) (YE [z0]) (by omega) (by simp;have:=hb.size;omega) ?_)
    intro v' wn hown' hgrow hblk
    have hal:=(Below.refl wr.heap.size wr).alloc (Nat.le_refl _) (.cells #[.int .u64 (z0:Int)] 22)
    have hB:=Yd (hown.alloc _) hgrow (by simp;have:=hb.size;omega)
    replace hb:=(YM hb hal hb.size).trans hB
    replace hown:wn.ownsRow w4.heap.size 22 1 v' (j+1) (U64 ((List.range (j+1)).map vf)):=X5 (b:=[z0]) hown' HVj.out
    clear hown' hgrow hblk hal hB
    go_wp2
    go_roundw
    case rel=>exact ⟨j+1,by omega,by go_num,hown,hb⟩
    case measure=>simp [intOf];omega
   obtain rfl:j=T:=by omega
   have q4:¬((j:Int)<(j:Int)):=by omega
   rw [←HVV.out] at hown
   obtain ⟨AV,cV,rfl,-⟩:=Zo hown
   have oV:=ZQ hown (Nat.zero_le _)
   have gV:=ZZ hown HV64.out
   replace hb0:=hbw
   replace hb3:=Za hb3 hb
   clear hb hbw HVr HVF HVV HFr cl
   have cl:=kl.cell
   have cc:=kc.cell
   have cx:=kx.cell
   have cb:=kb.cell
   have cs:=ks.cell
   go_wp2_with fail
   refine (HRa.out _ hb3).mono ?_
   rintro e w5 ⟨v1,v2,v3,rfl,o1,o2,o3,hbx⟩
   obtain ⟨P1,p1,rfl,-⟩:=Zo o1
   obtain ⟨P2,p2,rfl,-⟩:=Zo o2
   obtain ⟨P3,p3,rfl,-⟩:=Zo o3
   have g1:=ZZ o1 HF1.out
   have g2:=ZZ o2 HF2.out
   have g3:=ZZ o3 HF3.out
   replace o1:=ZQ o1 (Nat.zero_le _)
   replace o2:=ZQ o2 (Nat.zero_le _)
   replace o3:=ZQ o3 (Nat.zero_le _)
   replace kl:=kl.below hbx kl.lt
   replace kc:=kc.below hbx kc.lt
   replace kx:=kx.below hbx kx.lt
   replace kb:=kb.below hbx kb.lt
   replace ks:=ks.below hbx ks.lt
   replace hb0:=Za hb0 hbx
   replace hb3:=Za hb3 hbx
   replace gV:=Zc _ _ _ _ hbx gV
   replace oV:=Zh oV hbx (Nat.le_refl _)
   clear hbx cl cc cx cb cs hown HRa
   go_upto_region 15 with fail
   have kA:=Blk.new w5 46 #[.slice P1 N1.length p1, .slice P2 N2.length p2, .slice P3 N3.length p3]
   have hal:=(Below.refl w5.heap.size w5).alloc (Nat.le_refl _) (.cells #[.slice P1 N1.length p1, .slice P2 N2.length p2, .slice P3 N3.length p3] 46)
   replace kl:=kl.below hal kl.lt
   replace kx:=kx.below hal kx.lt
   replace kb:=kb.below hal kb.lt
   replace ks:=ks.below hal ks.lt
   replace hb0:=Za hb0 hal
   replace hb3:=Za hb3 hal
   replace gV:=Zc _ _ _ _ hal gV
   replace g1:=Zc _ _ _ _ hal g1
   replace g2:=Zc _ _ _ _ hal g2
   replace g3:=Zc _ _ _ _ hal g3
   replace oV:=Zh oV hal (Nat.le_refl _)
   replace o1:=Zh o1 hal (Nat.le_refl _)
   replace o2:=Zh o2 hal (Nat.le_refl _)
   replace o3:=Zh o3 hal (Nat.le_refl _)
   generalize w5.alloc _=w6 at kl kx kb ks kA hb0 hb3 gV g1 g2 g3 oV o1 o2 o3 ⊢
   generalize w5.heap.size=gA at kA ⊢
   clear hal kc
   have HBK:=Lib.hid (show gl<w6.heap.size∧gx<w6.heap.size∧W.heap.size<w6.heap.size∧gs<w6.heap.size∧gA<w6.heap.size∧w3.heap.size≤w6.heap.size from ⟨kl.lt,kx.lt,kb.lt,ks.lt,kA.lt,hb3.size⟩)
   have HB1:=Lib.hid (fun q e=>(o1.lt q e).2)
   have HB2:=Lib.hid (fun q e=>(o2.lt q e).2)
   have HB3:=Lib.hid (fun q e=>(o3.lt q e).2)
   have HBV:=Lib.hid (fun q e=>(oV.lt q e).2)
   have cl:=kl.cell
   have ll:=kl.lt
   have cx:=kx.cell
   have lx:=kx.lt
   have cb:=kb.cell
   have lb:=kb.lt
   have cA:=kA.cell
   have lA:=kA.lt
   refine Zq (ZK) [1,6,9,12,15,18,19] [0,2,3,4,5,7,8,10,11,13,14,16,17,1,6,9,12,15,18,19,20] (by kernel_rfl) (by kernel_rfl) ?_
   refine Zp (later_moves) ?_
   intro Wc HWc hacc
   have hbW:Below w6.heap.size w6 Wc:=by rw [HWc.out];exact (Below.refl _ _).drew
   have k1:=Zc _ _ _ _ hbW g1
   have k2:=Zc _ _ _ _ hbW g2
   have k3:=Zc _ _ _ _ hbW g3
   have k4:=Zc _ _ _ _ hbW gV
   repeat (first | (refine Zf (later_moves) rfl rfl (fun _ _ _ h=>h) ?_;simp only [Act.put,zLa,zLb,zLc]) | (refine Ze (v:=?_) (later_moves) rfl rfl (fun _ _ _ h=>h) ?_ ?_;rotate_left;(· (intro w' hR;(first | have hcells:=Zb ((later_moves).trans _ _ _ hacc hR) | skip);go_simp;try with_reducible rfl));simp only [Act.put,zLa,zLb,zLc]))
   refine Zk (later_moves) rfl rfl rfl (fun _=>by go_simp <;> rfl) ((HOf.out _).mono ?_)
   rintro e w7 ⟨rfl,hbx⟩
   refine ⟨_,rfl,hbx,?_⟩
   replace hacc:=(later_moves).trans _ _ _ hacc (hbx)
   simp only [Act.put,zLa,zLb,zLc]
   replace hbW:=Za hbW hbx
   replace k1:=Zc _ _ _ _ hbx k1
   replace k2:=Zc _ _ _ _ hbx k2
   replace k3:=Zc _ _ _ _ hbx k3
   replace k4:=Zc _ _ _ _ hbx k4
   clear hbx
   repeat (first | (refine Zf (later_moves) rfl rfl (fun _ _ _ h=>h) ?_;simp only [Act.put,zLa,zLb,zLc]) | (refine Ze (v:=?_) (later_moves) rfl rfl (fun _ _ _ h=>h) ?_ ?_;rotate_left;(· (intro w' hR;(first | have hcells:=Zb ((later_moves).trans _ _ _ hacc hR) | skip);go_simp;try with_reducible rfl));simp only [Act.put,zLa,zLb,zLc]))
   refine Zk (later_moves) rfl rfl rfl (fun _=>by go_simp <;> rfl) ((HCh.out _).mono ?_)
   rintro e w8 ⟨rfl,hbx⟩
   refine ⟨_,rfl,hbx,?_⟩
   replace hacc:=(later_moves).trans _ _ _ hacc (hbx)
   simp only [Act.put,zLa,zLb,zLc]
   replace hbW:=Za hbW hbx
   replace k1:=Zc _ _ _ _ hbx k1
   replace k2:=Zc _ _ _ _ hbx k2
   replace k3:=Zc _ _ _ _ hbx k3
   replace k4:=Zc _ _ _ _ hbx k4
   clear hbx
   repeat (first | (refine Zf (later_moves) rfl rfl (fun _ _ _ h=>h) ?_;simp only [Act.put,zLa,zLb,zLc]) | (refine Ze (v:=?_) (later_moves) rfl rfl (fun _ _ _ h=>h) ?_ ?_;rotate_left;(· (intro w' hR;(first | have hcells:=Zb ((later_moves).trans _ _ _ hacc hR) | skip);go_simp;try with_reducible rfl));simp only [Act.put,zLa,zLb,zLc]))
   refine Zk (later_moves) rfl rfl rfl (fun _=>by go_simp <;> rfl) ((HO.out _ _ _ _ _ k1 (by omega)).mono ?_)
   rintro e w9 ⟨u1,rfl,p1',hbx⟩
   refine ⟨_,rfl,hbx,?_⟩
   replace hacc:=(later_moves).trans _ _ _ hacc (hbx)
   simp only [Act.put,zLa,zLb,zLc]
   replace hbW:=Za hbW hbx
   replace k2:=Zc _ _ _ _ hbx k2
   replace k3:=Zc _ _ _ _ hbx k3
   replace k4:=Zc _ _ _ _ hbx k4
   clear hbx k1
   obtain ⟨Q1,q1',rfl,k1⟩:=YZ p1' HF1.out
   clear p1'
   repeat (first | (refine Zf (later_moves) rfl rfl (fun _ _ _ h=>h) ?_;simp only [Act.put,zLa,zLb,zLc]) | (refine Ze (v:=?_) (later_moves) rfl rfl (fun _ _ _ h=>h) ?_ ?_;rotate_left;(· (intro w' hR;(first | have hcells:=Zb ((later_moves).trans _ _ _ hacc hR) | skip);go_simp;try with_reducible rfl));simp only [Act.put,zLa,zLb,zLc]))
   refine Zk (later_moves) rfl rfl rfl (fun _=>by go_simp <;> rfl) ((HO.out _ _ _ _ _ k2 (by omega)).mono ?_)
   rintro e w10 ⟨u2,rfl,p2',hbx⟩
   refine ⟨_,rfl,hbx,?_⟩
   replace hacc:=(later_moves).trans _ _ _ hacc (hbx)
   simp only [Act.put,zLa,zLb,zLc]
   replace hbW:=Za hbW hbx
   replace k1:=Zc _ _ _ _ hbx k1
   replace k3:=Zc _ _ _ _ hbx k3
   replace k4:=Zc _ _ _ _ hbx k4
   clear hbx k2
   obtain ⟨Q2,q2',rfl,k2⟩:=YZ p2' HF2.out
   clear p2'
   repeat (first | (refine Zf (later_moves) rfl rfl (fun _ _ _ h=>h) ?_;simp only [Act.put,zLa,zLb,zLc]) | (refine Ze (v:=?_) (later_moves) rfl rfl (fun _ _ _ h=>h) ?_ ?_;rotate_left;(· (intro w' hR;(first | have hcells:=Zb ((later_moves).trans _ _ _ hacc hR) | skip);go_simp;try with_reducible rfl));simp only [Act.put,zLa,zLb,zLc]))
   refine Zk (later_moves) rfl rfl rfl (fun _=>by go_simp <;> rfl) ((HO.out _ _ _ _ _ k3 (by omega)).mono ?_)
   rintro e w11 ⟨u3,rfl,p3',hbx⟩
   refine ⟨_,rfl,hbx,?_⟩
   replace hacc:=(later_moves).trans _ _ _ hacc (hbx)
   simp only [Act.put,zLa,zLb,zLc]
   replace hbW:=Za hbW hbx
   replace k1:=Zc _ _ _ _ hbx k1
   replace k2:=Zc _ _ _ _ hbx k2
   replace k4:=Zc _ _ _ _ hbx k4
   clear hbx k3
   obtain ⟨Q3,q3',rfl,k3⟩:=YZ p3' HF3.out
   clear p3'
   repeat (first | (refine Zf (later_moves) rfl rfl (fun _ _ _ h=>h) ?_;simp only [Act.put,zLa,zLb,zLc]) | (refine Ze (v:=?_) (later_moves) rfl rfl (fun _ _ _ h=>h) ?_ ?_;rotate_left;(· (intro w' hR;(first | have hcells:=Zb ((later_moves).trans _ _ _ hacc hR) | skip);go_simp;try with_reducible rfl));simp only [Act.put,zLa,zLb,zLc]))
   refine Zk (later_moves) rfl rfl rfl (fun _=>by go_simp <;> rfl) ((HO.out _ _ _ _ _ k4 (by omega)).mono ?_)
   rintro e w12 ⟨u4,rfl,p4',hbx⟩
   refine ⟨_,rfl,hbx,?_⟩
   replace hacc:=(later_moves).trans _ _ _ hacc (hbx)
   simp only [Act.put,zLa,zLb,zLc]
   replace hbW:=Za hbW hbx
   replace k1:=Zc _ _ _ _ hbx k1
   replace k2:=Zc _ _ _ _ hbx k2
   replace k3:=Zc _ _ _ _ hbx k3
   clear hbx k4
   obtain ⟨Q4,q4',rfl,k4⟩:=YZ p4' HV64.out
   clear p4'
   repeat (first | (refine Zf (later_moves) rfl rfl (fun _ _ _ h=>h) ?_;simp only [Act.put,zLa,zLb,zLc]) | (refine Ze (v:=?_) (later_moves) rfl rfl (fun _ _ _ h=>h) ?_ ?_;rotate_left;(· (intro w' hR;(first | have hcells:=Zb ((later_moves).trans _ _ _ hacc hR) | skip);go_simp;try with_reducible rfl));simp only [Act.put,zLa,zLb,zLc]))
   refine Zk (later_moves) rfl rfl rfl (fun _=>by go_simp <;> rfl) ((HPC.out _ _ _ _ _ _ _ _ _ (Za hb3 hbW) k1 k2 k3 k4).mono ?_)
   rintro e w13 ⟨u5,rfl,oE,hbx⟩
   refine ⟨_,rfl,hbx,?_⟩
   replace hacc:=(later_moves).trans _ _ _ hacc (hbx)
   simp only [Act.put,zLa,zLb,zLc]
   have hw12:=hbW.size
   replace hbW:=Za hbW hbx
   clear hbx k1 k2 k3 k4
   obtain ⟨gE,cE,rfl,hE1,hE2⟩:=World.ownsRow.form oE (by omega)
   repeat (first | (refine Zf (later_moves) rfl rfl (fun _ _ _ h=>h) ?_;simp only [Act.put,zLa,zLb,zLc]) | (refine Ze (v:=?_) (later_moves) rfl rfl (fun _ _ _ h=>h) ?_ ?_;rotate_left;(· (intro w' hR;(first | have hcells:=Zb ((later_moves).trans _ _ _ hacc hR) | skip);go_simp;try with_reducible rfl));simp only [Act.put,zLa,zLb,zLc]))
   refine Zt ?_
   replace kl:=kl.below hbW kl.lt
   replace kx:=kx.below hbW kx.lt
   replace kb:=kb.below hbW kb.lt
   replace ks:=ks.below hbW ks.lt
   replace kA:=kA.below hbW kA.lt
   replace hb0:=Za hb0 hbW
   replace hb3:=Za hb3 hbW
   replace g1:=Zc _ _ _ _ hbW g1
   replace g2:=Zc _ _ _ _ hbW g2
   replace g3:=Zc _ _ _ _ hbW g3
   replace gV:=Zc _ _ _ _ hbW gV
   replace oV:=Zh oV hbW (Nat.le_refl _)
   replace o1:=Zh o1 hbW (Nat.le_refl _)
   replace o2:=Zh o2 hbW (Nat.le_refl _)
   replace o3:=Zh o3 hbW (Nat.le_refl _)
   have hEg:w6.heap.size≤gE:=by omega
   clear hacc hbW HWc cl ll cx lx cb lb cA lA HPC
   have rE:=ZZ oE HC64.out
   have cl:=kl.cell
   have cx:=kx.cell
   have cb:=kb.cell
   have cA:=kA.cell
   go_wp2_with fail
   refine (HDC.out _ _ _ _ _ _ _ _ _ hb3 g1 g2 g3 gV).mono ?_
   rintro e w14 ⟨u6,rfl,h6,hbx⟩
   replace kl:=kl.below hbx kl.lt
   replace kx:=kx.below hbx kx.lt
   replace kb:=kb.below hbx kb.lt
   replace ks:=ks.below hbx ks.lt
   replace kA:=kA.below hbx kA.lt
   replace hb0:=Za hb0 hbx
   replace hb3:=Za hb3 hbx
   replace g1:=Zc _ _ _ _ hbx g1
   replace g2:=Zc _ _ _ _ hbx g2
   replace g3:=Zc _ _ _ _ hbx g3
   replace gV:=Zc _ _ _ _ hbx gV
   replace rE:=Zc _ _ _ _ hbx rE
   replace oE:=Zh oE hbx (Nat.le_refl _)
   replace oV:=Zh oV hbx (Nat.le_refl _)
   replace o1:=Zh o1 hbx (Nat.le_refl _)
   replace o2:=Zh o2 hbx (Nat.le_refl _)
   replace o3:=Zh o3 hbx (Nat.le_refl _)
   clear hbx cl cx cb cA HDC
   obtain ⟨A6,c6,rfl⟩:=ZR h6
   go_wp2_with fail
   refine (HS.out _ _ _ _ _ _ _ _ _ rE h6).mono ?_
   rintro e w15 ⟨rfl,hbx⟩
   rw [decide_eq_true (rfl:C=C)]
   replace kl:=kl.below hbx kl.lt
   replace kx:=kx.below hbx kx.lt
   replace kb:=kb.below hbx kb.lt
   replace ks:=ks.below hbx ks.lt
   replace kA:=kA.below hbx kA.lt
   replace hb0:=Za hb0 hbx
   replace hb3:=Za hb3 hbx
   replace g1:=Zc _ _ _ _ hbx g1
   replace g2:=Zc _ _ _ _ hbx g2
   replace g3:=Zc _ _ _ _ hbx g3
   replace gV:=Zc _ _ _ _ hbx gV
   replace rE:=Zc _ _ _ _ hbx rE
   replace oE:=Zh oE hbx (Nat.le_refl _)
   replace oV:=Zh oV hbx (Nat.le_refl _)
   replace o1:=Zh o1 hbx (Nat.le_refl _)
   replace o2:=Zh o2 hbx (Nat.le_refl _)
   replace o3:=Zh o3 hbx (Nat.le_refl _)
   clear hbx h6
   have cl:=kl.cell
   have ll:=kl.lt
   have cx:=kx.cell
   have lx:=kx.lt
   have cb:=kb.cell
   have lb:=kb.lt
   have cA:=kA.cell
   have lA:=kA.lt
   go_upto_region 18 with fail
   refine Zq (UY w15.heap.size) [8,10,11] [0,1,2,3,4,5,6,7,9,8,10,11,12] (by kernel_rfl) (by kernel_rfl) ?_
   refine Zp (Zd w15.heap.size) ?_
   intro Wc HWc hacc
   have hbW:Below w15.heap.size w15 Wc:=by rw [HWc.out];exact (Below.refl _ _).drew
   have k4:=Zc _ _ _ _ hbW gV
   repeat (first | (refine Zf (Zd w15.heap.size) rfl rfl (fun _ _ _ h=>h) ?_;simp only [Act.put,zLa,zLb,zLc]) | (refine Ze (v:=?_) (Zd w15.heap.size) rfl rfl (fun _ _ _ h=>h) ?_ ?_;rotate_left;(· (intro w' hR;(first | have hcells:=Zw ((Zd w15.heap.size).trans _ _ _ hacc hR) | skip);go_simp;try with_reducible rfl));simp only [Act.put,zLa,zLb,zLc]))
   refine Zk (Zd w15.heap.size) rfl rfl rfl (fun _=>by go_simp <;> rfl) ((HO.out _ _ _ _ _ k4 (by omega)).mono ?_)
   rintro e w16 ⟨u7,rfl,o7,hbx⟩
   refine ⟨_,rfl,ZH hbx hbW.size,?_⟩
   replace hacc:=(Zd w15.heap.size).trans _ _ _ hacc (ZH hbx hbW.size)
   simp only [Act.put,zLa,zLb,zLc]
   replace o7:=ZQ o7 hbW.size
   replace hbW:=Za hbW hbx
   clear hbx k4
   have rE':=Zc _ _ _ _ hbW rE
   have hdE:=(Zy rE').2.2.2.2
   obtain ⟨A7,c7,rfl,-⟩:=Zo o7
   repeat (first | (refine Zf (Zd w15.heap.size) rfl rfl (fun _ _ _ h=>h) ?_;simp only [Act.put,zLa,zLb,zLc]) | (refine Ze (v:=?_) (Zd w15.heap.size) rfl rfl (fun _ _ _ h=>h) ?_ ?_;rotate_left;(· (intro w' hR;(first | have hcells:=Zw ((Zd w15.heap.size).trans _ _ _ hacc hR) | skip);go_simp;try with_reducible rfl));simp only [Act.put,zLa,zLb,zLc]))
   refine Z6 (Zd w15.heap.size) rfl rfl rfl ?_
   refine Xa _ _ rfl Ua rfl o7 rfl hdE (YE C) (by omega) hbW.size ?_
   intro x' wn o8 hgrow hblk
   have hBn:=Yd o7 hgrow hbW.size
   refine ⟨hBn,?_⟩
   replace hbW:=hbW.trans hBn
   obtain ⟨A8,c8,rfl,-⟩:=Zo o8
   replace o8:wn.ownsRow w15.heap.size 22 1 (.slice A8 (j+3) c8) (j+3) (U64 (V++C)):=X5 o8 rfl
   have k8:=ZZ o8 HVC.out
   clear hgrow hblk hBn o7 o8 hdE rE' hacc
   have hacc:=(Zd w15.heap.size).refl wn
   try simp only [Act.put,zLa,zLb,zLc]
   repeat (first | (refine Zf (Zd w15.heap.size) rfl rfl (fun _ _ _ h=>h) ?_;simp only [Act.put,zLa,zLb,zLc]) | (refine Ze (v:=?_) (Zd w15.heap.size) rfl rfl (fun _ _ _ h=>h) ?_ ?_;rotate_left;(· (intro w' hR;(first | have hcells:=Zw ((Zd w15.heap.size).trans _ _ _ hacc hR) | skip);go_simp;try with_reducible rfl));simp only [Act.put,zLa,zLb,zLc]))
   refine Zk (Zd w15.heap.size) rfl rfl rfl (fun _=>by go_simp <;> rfl) ((HC1.out _ _ _ _ _ _ _ _ _ (Za hb3 hbW) (Zc _ _ _ _ hbW g1) (Zc _ _ _ _ hbW g2) (Zc _ _ _ _ hbW g3) k8).mono ?_)
   rintro e w17 ⟨rfl,hbx⟩
   refine ⟨_,rfl,ZH hbx hbW.size,?_⟩
   replace hacc:=(Zd w15.heap.size).trans _ _ _ hacc (ZH hbx hbW.size)
   simp only [Act.put,zLa,zLb,zLc]
   replace hbW:=Za hbW hbx
   clear hbx k8
   repeat (first | (refine Zf (Zd w15.heap.size) rfl rfl (fun _ _ _ h=>h) ?_;simp only [Act.put,zLa,zLb,zLc]) | (refine Ze (v:=?_) (Zd w15.heap.size) rfl rfl (fun _ _ _ h=>h) ?_ ?_;rotate_left;(· (intro w' hR;(first | have hcells:=Zw ((Zd w15.heap.size).trans _ _ _ hacc hR) | skip);go_simp;try with_reducible rfl));simp only [Act.put,zLa,zLb,zLc]))
   refine Zt ?_
   replace kl:=kl.below hbW kl.lt
   replace kx:=kx.below hbW kx.lt
   replace kb:=kb.below hbW kb.lt
   replace ks:=ks.below hbW ks.lt
   replace kA:=kA.below hbW kA.lt
   replace hb0:=Za hb0 hbW
   replace hb3:=Za hb3 hbW
   replace oE:=Zh oE hbW (Nat.le_refl _)
   replace oV:=Zh oV hbW (Nat.le_refl _)
   replace o1:=Zh o1 hbW (Nat.le_refl _)
   replace o2:=Zh o2 hbW (Nat.le_refl _)
   replace o3:=Zh o3 hbW (Nat.le_refl _)
   clear g1 g2 g3 gV hacc hbW HWc cl ll cx lx cb lb cA lA HC1 rE
   have cl:=kl.cell
   have cs:=ks.cell
   by_cases h0:y=0
   ·have q5:((y:Int) == 0)=true:=by rw [h0];rfl
    clear h0 HC2
    go_wp2
    go_ret
    exact ⟨rfl,hb0⟩
   have q5:((y:Int) == 0)=false:=by rw [beq_eq_false_iff_ne];omega
   have HC3':=Lib.hid (HC2.out h0)
   clear h0 HC2
   have q6:(k:Int)<3:=by omega
   have q7:(0:Int)≤(k:Int):=by omega
   have ll:=kl.lt
   have ls:=ks.lt
   have cE:=oE.cellAt k (by omega)
   rw [yh (by rw [HC3.out];exact hk3)] at cE
   have lE:gE<w17.heap.size:=(oE.lt gE rfl).2
   go_upto_region 23 with fail
   refine XL (ZK) [10,12] [12] [0,1,2,3,4,5,6,7,8,9,10,11,12] (by kernel_rfl) (by kernel_rfl) ?_
   refine Xo (later_moves) ?_
   intro Wc HWc hacc
   have hbW:Below w17.heap.size w17 Wc:=by rw [HWc.out];exact (Below.refl _ _).drew
   repeat (first | (refine ZM (later_moves) rfl rfl rfl (fun _ _ _ h=>h) ?_;simp only [Act.put,zLa,zLb,zLc]) | (refine ZE (v:=?_) (later_moves) rfl rfl rfl (fun _ _ _ h=>h) ?_ ?_;rotate_left;(· (intro w' hR;(first | have hcells:=Zb ((later_moves).trans _ _ _ hacc (hR rfl)) | skip);clear hR;go_simp;try with_reducible rfl));simp only [Act.put,zLa,zLb,zLc]))
   refine Yn (later_moves) rfl rfl rfl (fun _=>by go_simp <;> rfl) ((HAd.out _).mono ?_)
   rintro e w18 ⟨rfl,hbx⟩
   refine ⟨_,rfl,fun _=>hbx,?_⟩
   replace hacc:=(later_moves).trans _ _ _ hacc (hbx)
   simp only [Act.put,zLa,zLb,zLc]
   replace hbW:=Za hbW hbx
   clear hbx
   replace oE:=Zh oE hbW (Nat.le_refl _)
   clear hacc cE
   have hacc:=(later_moves).refl w18
   have cE:=oE.cellAt k (by omega)
   rw [yh (by rw [HC3.out];exact hk3)] at cE
   have fE:=oE.frozenAt k
   repeat (first | (refine ZM (later_moves) rfl rfl rfl (fun _ _ _ h=>h) ?_;simp only [Act.put,zLa,zLb,zLc]) | (refine ZE (v:=?_) (later_moves) rfl rfl rfl (fun _ _ _ h=>h) ?_ ?_;rotate_left;(· (intro w' hR;(first | have hcells:=Zb ((later_moves).trans _ _ _ hacc (hR rfl)) | skip);clear hR;go_simp;try with_reducible rfl));simp only [Act.put,zLa,zLb,zLc]))
   refine YQ (later_moves) rfl rfl rfl ?_
   go_simp
   refine ⟨fun h=>Bool.noConfusion h,?_⟩
   obtain ⟨oE2,hsg⟩:=oE.stored k (.int .u64 (z:Int))
   rw [zAg] at oE2
   replace kl:=kl.below hbW kl.lt
   replace kx:=kx.below hbW kx.lt
   replace kb:=kb.below hbW kb.lt
   replace kA:=kA.below hbW kA.lt
   replace hb0:=Za hb0 hbW
   replace hb3:=Za hb3 hbW
   replace oV:=Zh oV hbW (Nat.le_refl _)
   replace o1:=Zh o1 hbW (Nat.le_refl _)
   replace o2:=Zh o2 hbW (Nat.le_refl _)
   replace o3:=Zh o3 hbW (Nat.le_refl _)
   have hne:∀ g,g<w6.heap.size→some g≠some gE:=fun g h e=>by have:=Option.some.inj e;omega
   have hnf:∀ (v:Value),(∀ q,v.ownBlock=some q→q<w6.heap.size)→∀ q,v.ownBlock=some q→some gE=some q→False:=fun v h q e1 e2=>by have h1:=h q e1;have h2:gE=q:=Option.some.inj e2;omega
   replace kl:=kl.grown hsg (hne _ HBK.out.1)
   replace kx:=kx.grown hsg (hne _ HBK.out.2.1)
   replace kb:=kb.grown hsg (hne _ HBK.out.2.2.1)
   replace kA:=kA.grown hsg (hne _ HBK.out.2.2.2.2.1)
   replace hb0:=hb0.trans (Zg hsg hb0.size (by have:=HBK.out.2.2.1;omega))
   replace hb3:=hb3.trans (Zg hsg hb3.size (by have:=HBK.out.2.2.2.2.2;omega))
   replace o1:=Xc o1 hsg (hnf _ HB1.out)
   replace o2:=Xc o2 hsg (hnf _ HB2.out)
   replace o3:=Xc o3 hsg (hnf _ HB3.out)
   replace oV:=Xc oV hsg (hnf _ HBV.out)
   clear hbW hsg hne hnf cE fE oE hacc HBK HB1 HB2 HB3 HBV
   generalize w18.setCell _ _=w19 at oE2 kl kx kb kA hb0 hb3 o1 o2 o3 oV ⊢
   have hacc:=(later_moves).refl w19
   repeat (first | (refine ZM (later_moves) rfl rfl rfl (fun _ _ _ h=>h) ?_;simp only [Act.put,zLa,zLb,zLc]) | (refine ZE (v:=?_) (later_moves) rfl rfl rfl (fun _ _ _ h=>h) ?_ ?_;rotate_left;(· (intro w' hR;(first | have hcells:=Zb ((later_moves).trans _ _ _ hacc (hR rfl)) | skip);clear hR;go_simp;try with_reducible rfl));simp only [Act.put,zLa,zLb,zLc]))
   refine Vt ?_
   clear hacc
   have g1:=ZZ o1 HF1.out
   have g2:=ZZ o2 HF2.out
   have g3:=ZZ o3 HF3.out
   have gV:=ZZ oV HV64.out
   have rE:=ZZ oE2 HCs64.out
   clear o1 o2 o3 oV oE2 cl ll cs ls lE
   have cl:=kl.cell
   have ll:=kl.lt
   have cx:=kx.cell
   have lx:=kx.lt
   have cb:=kb.cell
   have lb:=kb.lt
   have cA:=kA.cell
   have lA:=kA.lt
   go_upto_region 24 with fail
   refine Zq (UY w19.heap.size) [8,10,11] [0,1,2,3,4,5,6,7,9,8,10,11,12,13] (by kernel_rfl) (by kernel_rfl) ?_
   refine Zp (Zd w19.heap.size) ?_
   intro Wc HWc hacc
   have hbW:Below w19.heap.size w19 Wc:=by rw [HWc.out];exact (Below.refl _ _).drew
   have k4:=Zc _ _ _ _ hbW gV
   repeat (first | (refine Zf (Zd w19.heap.size) rfl rfl (fun _ _ _ h=>h) ?_;simp only [Act.put,zLa,zLb,zLc]) | (refine Ze (v:=?_) (Zd w19.heap.size) rfl rfl (fun _ _ _ h=>h) ?_ ?_;rotate_left;(· (intro w' hR;(first | have hcells:=Zw ((Zd w19.heap.size).trans _ _ _ hacc hR) | skip);go_simp;try with_reducible rfl));simp only [Act.put,zLa,zLb,zLc]))
   refine Zk (Zd w19.heap.size) rfl rfl rfl (fun _=>by go_simp <;> rfl) ((HO.out _ _ _ _ _ k4 (by omega)).mono ?_)
   rintro e w20 ⟨u7',rfl,o7,hbx⟩
   refine ⟨_,rfl,ZH hbx hbW.size,?_⟩
   replace hacc:=(Zd w19.heap.size).trans _ _ _ hacc (ZH hbx hbW.size)
   simp only [Act.put,zLa,zLb,zLc]
   replace o7:=ZQ o7 hbW.size
   replace hbW:=Za hbW hbx
   clear hbx k4
   have rE':=Zc _ _ _ _ hbW rE
   have hdE:=(Zy rE').2.2.2.2
   obtain ⟨A7,c7,rfl,-⟩:=Zo o7
   repeat (first | (refine Zf (Zd w19.heap.size) rfl rfl (fun _ _ _ h=>h) ?_;simp only [Act.put,zLa,zLb,zLc]) | (refine Ze (v:=?_) (Zd w19.heap.size) rfl rfl (fun _ _ _ h=>h) ?_ ?_;rotate_left;(· (intro w' hR;(first | have hcells:=Zw ((Zd w19.heap.size).trans _ _ _ hacc hR) | skip);go_simp;try with_reducible rfl));simp only [Act.put,zLa,zLb,zLc]))
   refine Z6 (Zd w19.heap.size) rfl rfl rfl ?_
   refine Xa _ _ rfl Ua rfl o7 rfl hdE (YE (C.set k z)) (by omega) hbW.size ?_
   intro x' wn o8 hgrow hblk
   have hBn:=Yd o7 hgrow hbW.size
   refine ⟨hBn,?_⟩
   replace hbW:=hbW.trans hBn
   obtain ⟨A8,c8,rfl,-⟩:=Zo o8
   replace o8:wn.ownsRow w19.heap.size 22 1 (.slice A8 (j+3) c8) (j+3) (U64 (V++C.set k z)):=X5 o8 rfl
   have k8:=ZZ o8 HVC2.out
   clear hgrow hblk hBn o7 o8 hdE rE' hacc
   have hacc:=(Zd w19.heap.size).refl wn
   try simp only [Act.put,zLa,zLb,zLc]
   repeat (first | (refine Zf (Zd w19.heap.size) rfl rfl (fun _ _ _ h=>h) ?_;simp only [Act.put,zLa,zLb,zLc]) | (refine Ze (v:=?_) (Zd w19.heap.size) rfl rfl (fun _ _ _ h=>h) ?_ ?_;rotate_left;(· (intro w' hR;(first | have hcells:=Zw ((Zd w19.heap.size).trans _ _ _ hacc hR) | skip);go_simp;try with_reducible rfl));simp only [Act.put,zLa,zLb,zLc]))
   refine Zk (Zd w19.heap.size) rfl rfl rfl (fun _=>by go_simp <;> rfl) ((HC3'.out _ _ _ _ _ _ _ _ _ (Za hb3 hbW) (Zc _ _ _ _ hbW g1) (Zc _ _ _ _ hbW g2) (Zc _ _ _ _ hbW g3) k8).mono ?_)
   rintro e w21 ⟨rfl,hbx⟩
   refine ⟨_,rfl,ZH hbx hbW.size,?_⟩
   replace hacc:=(Zd w19.heap.size).trans _ _ _ hacc (ZH hbx hbW.size)
   simp only [Act.put,zLa,zLb,zLc]
   replace hbW:=Za hbW hbx
   clear hbx k8
   repeat (first | (refine Zf (Zd w19.heap.size) rfl rfl (fun _ _ _ h=>h) ?_;simp only [Act.put,zLa,zLb,zLc]) | (refine Ze (v:=?_) (Zd w19.heap.size) rfl rfl (fun _ _ _ h=>h) ?_ ?_;rotate_left;(· (intro w' hR;(first | have hcells:=Zw ((Zd w19.heap.size).trans _ _ _ hacc hR) | skip);go_simp;try with_reducible rfl));simp only [Act.put,zLa,zLb,zLc]))
   refine Zt ?_
   replace hb0:=Za hb0 hbW
   clear hacc
   go_wp2
   go_ret
   exact ⟨rfl,hb0⟩
end Go.Proofs.YtakjnmojigechaaGreat
namespace Go.Proofs.YtakjnmojigechaaGreat.responseComplete
open Go.ChangeShapes Go.WideShapes Go.ChangeAt Go.RowKit
open Go.ChangeMaps (open_string shut_string)
set_option linter.unusedVariables false
theorem own:ownKnob Tryz.prog.godebug=none:=by kernel_rfl
theorem laidOut:laidOutB Tryz.prog=true:=by kernel_rfl
set_option maxRecDepth 100000 in
theorem lifted (os:Os) (started:os.Started) (H:Type) (enc:TypeId × Value→H) :
  ReturnsInHanded {} Tryz.checked os 4 .any (Rows.responseCompleteSpec.pre6 enc Tryz.prog Tryz.f4 Rows.responseCompleteRow.domain false) (Rows.responseCompleteSpec.post enc Tryz.prog Tryz.f4 false true false false):=by
 refine returnsInHanded_of_change (C:=Tryz.checked) own started (by kernel_rfl) Tryz.func4
  (ChangeSpec.witness6 (enc:=enc) (C:=Tryz.checked) false ⟨#[],#[.agg #[.int .u64 0, .int .i64 0, .int .i64 0, .slice none 0 0, .int .i64 0, .int .i64 0, .int .i64 0, .slice none 0 0, .int .u64 0, .int .u64 0, .int .u64 0, .int .u64 0, .slice none 0 0, .slice none 0 0], .agg #[.int .u16 0, .int .u8 0, .int .u16 0, .int .u64 0, .bool false], .slice none 0 0],[]⟩ 12 (by kernel_rfl) (by kernel_rfl) (by kernel_rfl) (by kernel_rfl)) ?_
 intro W base args ds gs before hval0 hW hcnd _
 have hval:∀ (j:Nat) t v,Tryz.f4.params[j]?=some t→args[j]?=some v→Value.okWide Tryz.prog W .any base t v:=hval0
 have hW':=hW
 obtain ⟨p,q,hA0,hV,rfl,hfz,hnd⟩:=hW
 have hA:DataW.TrodAll enc Tryz.prog W 0 (fun _=>true) true Tryz.f4.params.toList args.toList ds p:=hA0
 rw [Tryz.params4] at hA hval
 obtain ⟨v0,vs0,d0,ds0,p0,q0,hargs,rfl,rfl,h0,r0⟩:=trodAll_cons hA
 obtain ⟨v1,vs1,d1,ds1,p1,q1,rfl,rfl,rfl,h1,r1⟩:=trodAll_cons r0
 obtain ⟨v2,vs2,d2,ds2,p2,q2,rfl,rfl,rfl,h2,r2⟩:=trodAll_cons r1
 obtain ⟨rfl,rfl,rfl⟩:=trodAll_nil r2
 obtain rfl:args=#[v0,v1,v2]:=by cases args;simp_all
 obtain ⟨rfl,rfl⟩:=trodVars_none hV
 have lt0:∀ x∈p0,x.block<W.heap.size:=by obtain ⟨m,hm⟩:=h0;exact DataW.trod_lt m _ _ _ hm
 have k0:=h0
 have lt1:∀ x∈p1,x.block<W.heap.size:=by obtain ⟨m,hm⟩:=h1;exact DataW.trod_lt m _ _ _ hm
 have k1:=h1
 have lt2:∀ x∈p2,x.block<W.heap.size:=by obtain ⟨m,hm⟩:=h2;exact DataW.trod_lt m _ _ _ hm
 have k2:=h2
 obtain ⟨cs0,rfl,z0⟩:=okWide_struct Tryz.underlying35 (hval 0 35 v0 rfl rfl)
 obtain ⟨cs1,rfl,z1⟩:=okWide_struct Tryz.underlying52 (hval 1 52 v1 rfl rfl)
 obtain ⟨A2,n2,c2,rfl⟩:=okWide_slice Tryz.underlying28 (hval 2 28 v2 rfl rfl)
 clear hA0 hval0
 refine (Kr W cs0 (Fits.of_trod k0) cs1 (Fits.of_trod k1) A2 n2 c2 (Fits.of_trod k2)).mono fun e W' ⟨he,bel⟩=>?_
 subst he
 exact ⟨_,rfl,_,_,_,[],_,[],hW',trodAll_mk1 (shut_bool Tryz.underlying4 _),(trodAll_cons_mk (Below.trod laidOut (by kernel_rfl) (of_decide_eq_true (by kernel_rfl)) k0 bel lt0) (trodAll_cons_mk (Below.trod laidOut (by kernel_rfl) (of_decide_eq_true (by kernel_rfl)) k1 bel lt1) (trodAll_cons_mk (Below.trod laidOut (by kernel_rfl) (of_decide_eq_true (by kernel_rfl)) k2 bel lt2) trodAll_mk0))),rfl,bel.frame _,fun h=>by cases h⟩
theorem over:Rows.responseCompleteRow.holds Tryz.pinned (OpenSpec.ofChange Rows.responseCompleteSpec) :=
 OpenClaim.holds_of_wide 4 Tryz.f4 rfl rfl rfl rfl rfl rfl rfl ⟨rfl,rfl,rfl,rfl,rfl⟩ rfl rfl rfl rfl rfl (by kernel_rfl) Tryz.func4 (by kernel_rfl)
  (of_decide_eq_true (by kernel_rfl)) (by unfold Func.isWrapper;first | (rw [if_pos (by decide +kernel)];kernel_rfl) | (rw [if_neg (by decide +kernel)];exact ⟨rfl,rfl⟩))
  (fun os started H enc _=>lifted os started H enc)
theorem proved:Rows.ResponseCompleteSaid:=over
#print axioms proved
end Go.Proofs.YtakjnmojigechaaGreat.responseComplete
