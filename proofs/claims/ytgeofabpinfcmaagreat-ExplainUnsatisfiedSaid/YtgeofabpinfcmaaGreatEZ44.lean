/- A part of the proof. No condition. -/
import Derived.Test.YtgeofabpinfcmaaGreatProg
import Derived.Test.YtgeofabpinfcmaaGreatEZ42
import Derived.Test.YtgeofabpinfcmaaGreatEZ43

set_option maxRecDepth 100000
set_option maxHeartbeats 8000000
set_option linter.unusedVariables false
set_option linter.unusedSimpArgs false
namespace Go.Proofs.YtgeofabpinfcmaaGreat
open Go.RowKit
def mx:Ja:=⟨97,2,2,4,8,2,1,1,1⟩
theorem sX:QH ⟨97,1,4,1,2,1,2⟩=mx:=by kernel_rfl
theorem rX:Gr ⟨97,1,4,1,2,1,2⟩=0:=by decide +kernel
theorem zT:dd 97 1 4 [Lh]=true:=by decide +kernel
theorem PU:Dd 97 4 [1,6,2,3]=true:=by decide +kernel
theorem VV:ti mx 1 4 [Lh] [1,6,2,3] [1,6,3,2] [1,4] 7 8 9=0:=by decide +kernel
theorem TV:Bc 97 (Br mx ((Ia mx [Lh] [1,6,3,2] 1).getD 0 [])) (sf mx [1,4] 0)≠Bc 97 (Br mx ((Ia mx [Lh] [1,6,2,3] 1).getD 0 [])) (sf mx [1,4] 0):=by decide +kernel
def y0 (L:Ja):List (List Nat):=Dk L 5 (L.a+L.b+L.b+L.b)
def y1 (L:Ja):List Nat:=Gd L.p 5 [1] L.k
def y2 (L:Ja):List Nat:=Gd L.p 5 [2] (L.k+L.block-2)
def y3 (L:Ja):List Nat:=Gd L.p 5 [3] (L.block+2*L.queries-1)
def y4 (L:Ja):List Nat:=Gd Kd 5 [4] L.n
def aR (L:Ja):List (List Nat):=zd L (Ia L [Lh] [1,6,2,3] 1) (y0 L) (Ia L [Lh] [1,6,3,2] 1) (y1 L) (y2 L) (y3 L) [1,4]
def aC (L:Ja):List Nat:=Zf L (Ia L [Lh] [1,6,2,3] 1) (y0 L) (Ia L [Lh] [1,6,3,2] 1) (y1 L) (y2 L) (y3 L) [1,4] 7
def aL (L:Ja):List Nat:=Tf L (Tc L 1 8 [Lh]) (Ia L [Lh] [1,6,2,3] 1) (y0 L) (Ia L [Lh] [1,6,3,2] 1) (y1 L) (y2 L) (y3 L) [1,4]
def aQ (L:Ja):List Nat:=Uf L (Ia L [Lh] [1,6,2,3] 1) (y0 L) (Ia L [Lh] [1,6,3,2] 1) (y1 L) (y2 L) (y3 L) [1,4] 9
def b1 (L:Ja):List Nat:=Pd L (Ia L [Lh] [1,6,2,3] 1) (y0 L) (y1 L) 7
def b2 (L:Ja):List Nat:=Nc L (Tc L 1 8 [Lh]) (Ia L [Lh] [1,6,2,3] 1) (y0 L) (y2 L)
def b3 (L:Ja):List Nat:=pd L (Ia L [Lh] [1,6,2,3] 1) (y0 L) (y3 L) 9
def b4 (L:Ja):List (List Nat):=Ie L (Ia L [Lh] [1,6,2,3] 1) (y0 L) (y1 L) (y2 L) (y3 L) [1,4]
theorem D5:jG [Lh]:=by
 intro r hr;simp at hr
 subst hr;decide
theorem UG (w:World):Calls Tryz.prog 10 #[] w fun e w'=>e= .returned (.bool true) /\ Below w.heap.size w w':=by
 have HP:=zH (fun w=>cZ w)
 have HR:=zH (fun A B c d w hr hw=>UZ 24 97 1 4 A B 1 c 4 d [Lh] [1,6,2,3] 2 1 2 w hr hw (by decide) (by decide) D5 (by decide) zT PU rX)
 unfold Zv at HR;go_enter Tryz.func10,Tryz.ntmps10
 go_wp2_with fail
 refine (HP.out _).mono ?_;rintro e w1 ⟨gr,gw,gv,gp,rfl,hr,hw,hv,hpos,da⟩;rw [yO];have k1:=Blk.new w1 35 #[.int .u64 97, .int .i64 1, .int .i64 4, .slice (some ⟨gr,0,none⟩) 1 1, .int .i64 2, .int .i64 1, .int .i64 2, .slice (some ⟨gw,0,none⟩) 4 4, .slice (some ⟨gv,0,none⟩) 4 4, .int .u64 5, .int .u64 7, .int .u64 8, .int .u64 9, .slice (some ⟨gp,0,none⟩) 2 2];have ma:=(Below.refl w1.heap.size w1).alloc zR (.cells #[.int .u64 97, .int .i64 1, .int .i64 4, .slice (some ⟨gr,0,none⟩) 1 1, .int .i64 2, .int .i64 1, .int .i64 2, .slice (some ⟨gw,0,none⟩) 4 4, .slice (some ⟨gv,0,none⟩) 4 4, .int .u64 5, .int .u64 7, .int .u64 8, .int .u64 9, .slice (some ⟨gp,0,none⟩) 2 2] 35);go_upto_region 2 with fail
 replace hr:=Kc Gc _ _ _ _ ma hr;replace hw:=ta ma hw;replace hv:=ta ma hv;replace hpos:=pf _ _ _ _ ma hpos;replace da:=oa da ma;clear ma;generalize w1.alloc _=w2 at k1 hr hw hv hpos da |-;generalize w1.heap.size=gc at k1 |-;have c1:=k1.cell;go_wp2_with fail
 refine (HR.out _ _ _ _ _ hr hw).mono ?_;rintro e w3 ⟨⟨L,hL,Eu,rfl⟩,ea⟩;replace hr:=Kc Gc _ _ _ _ ea hr;replace hpos:=pf _ _ _ _ ea hpos;replace k1:=ia k1 ea;replace da:=oa da ea;replace hw:=ta ea hw;replace hv:=ta ea hv;clear ea HR HP c1;have DF:L.p=97:=Eu.p;have qH:L=mx:=by rw [Eu.eq];exact sX
 have hE0:ti L 1 4 [Lh] [1,6,2,3] [1,6,3,2] [1,4] 7 8 9=0:=by rw [qH];exact VV
 have ht:dd L.p ((1:Nat):Int) 4 [Lh]=true:=by rw [DF];exact zT
 have KK:tl L ⟨L.p,((1:Nat):Int),4,[Lh].length,2,1,2⟩:=by rw [DF];exact Eu
 have Ta:=mP hL ht (PI ht KK) hE0;have Xb:Ze L (y0 L) (y1 L) (y2 L) (y3 L) (y4 L)=true:=MA L 5 (by omega)
 have GK:=Ta.case 8 7 9 Xb;have Ju:Ze L (aR L) (aC L) (aL L) (aQ L) (y4 L)=true:=GK.new;have hneq:aR L≠y0 L:=ZV GK (j:=0) (k:=0) (by rw [Vk,qH];decide) (by decide) (by rw [qH];exact TV)
 have Zk:Hid (∀ w,Calls Tryz.prog 19 #[.agg (Ya L), .int .u64 5] w fun e w'=>∃ v0 v1 v2 v3 v4,e= .returned (.agg #[v0,v1,v2,v3,v4]) /\ Sb w' [v0] (y0 L) /\ RWd w' [v1] (y1 L) /\ RWd w' [v2] (y2 L) /\ RWd w' [v3] (y3 L) /\ RWd w' [v4] (y4 L) /\ Below w.heap.size w w'):=zH (fun w=>dS L 5 w hL (by decide))
 have im:Hid (∀ (D0 D1 D2 D3 D4:Option Addr) (n0 n1 n2 n3 n4 k0 k1 k2 k3 k4:Nat) (w':World),Below w3.heap.size w3 w' -> Sb w' [.slice D0 n0 k0] (y0 L) -> RWd w' [.slice D1 n1 k1] (y1 L) -> RWd w' [.slice D2 n2 k2] (y2 L) -> RWd w' [.slice D3 n3 k3] (y3 L) -> RWd w' [.slice D4 n4 k4] (y4 L) ->
   Calls Tryz.prog 42 #[.agg #[.int .u64 97, .int .i64 1, .int .i64 4, .slice (some ⟨gr,0,none⟩) 1 1], .agg #[.int .i64 2, .int .i64 1, .int .i64 2], .slice (some ⟨gw,0,none⟩) 4 4, .agg #[.slice D0 n0 k0, .slice D1 n1 k1, .slice D2 n2 k2, .slice D3 n3 k3, .slice D4 n4 k4], .slice (some ⟨gv,0,none⟩) 4 4, .agg #[.int .u64 7, .int .u64 8, .int .u64 9], .slice (some ⟨gp,0,none⟩) 2 2] w' fun e dh=>tG (aR L) (aC L) (aL L) (aQ L) (y4 L) w'.heap.size 0 e dh /\ Below w'.heap.size w' dh):=zH (by
  intro D0 D1 D2 D3 D4 n0 n1 n2 n3 n4 k0 k1 k2 k3 k4 w' hb h0 h1 h2 h3 h4;have:=tR L 1 8 7 9 4 2 1 2 (some ⟨gr,0,none⟩) (some ⟨gw,0,none⟩) (some ⟨gv,0,none⟩) (some ⟨gp,0,none⟩) D0 D1 D2 D3 D4 1 1 4 4 4 4 2 2 n0 n1 n2 n3 n4 k0 k1 k2 k3 k4 [Lh] [1,6,2,3] [1,6,3,2] _ _ _ _ _ [1,4] w' hL KK ht (Kc Gc _ _ _ _ hb hr) (ta hb hw) (ta hb hv) (pf _ _ _ _ hb hpos) h0 h1 h2 h3 h4 Xb;rw [hE0] at this;have h2:=this.mono fun e dh h=>And.intro (nP h.1) h.2
  unfold pc at h2;rw [show (L.p:Int)=97 by rw [DF];rfl] at h2
  exact h2)
 have Yj:Hid (∀ (D0 D1 D2 D3 D4:Option Addr) (n0 n1 n2 n3 n4 k0 k1 k2 k3 k4:Nat) (w':World),Sb w' [.slice D0 n0 k0] (aR L) -> RWd w' [.slice D1 n1 k1] (aC L) -> RWd w' [.slice D2 n2 k2] (aL L) -> RWd w' [.slice D3 n3 k3] (aQ L) -> RWd w' [.slice D4 n4 k4] (y4 L) ->
   Calls Tryz.prog 14 #[.agg (Ya L), .agg #[.slice D0 n0 k0, .slice D1 n1 k1, .slice D2 n2 k2, .slice D3 n3 k3, .slice D4 n4 k4]] w' fun e dh=>e= .returned (.bool true) /\ Below w'.heap.size w' dh):=zH (fun D0 D1 D2 D3 D4 n0 n1 n2 n3 n4 k0 k1 k2 k3 k4 w' h0 h1 h2 h3 h4=>by
  have:=DM L D0 D1 D2 D3 D4 n0 k0 n1 k1 n2 k2 n3 k3 n4 k4 _ _ _ _ _ w' hL h0 h1 h2 h3 h4;rw [Ju] at this;exact this)
 have HSa:Hid (∀ (D0 D1 D2 D3 D4 E0 E1 E2 E3 E4:Option Addr) (n0 n1 n2 n3 n4 k0 k1 k2 k3 k4 m0 m1 m2 m3 m4 d0 d1 d2 d3 d4:Nat) (w':World),Sb w' [.slice D0 n0 k0] (aR L) -> RWd w' [.slice D1 n1 k1] (aC L) -> RWd w' [.slice D2 n2 k2] (aL L) -> RWd w' [.slice D3 n3 k3] (aQ L) -> RWd w' [.slice D4 n4 k4] (y4 L) ->
   Sb w' [.slice E0 m0 d0] (y0 L) -> RWd w' [.slice E1 m1 d1] (y1 L) -> RWd w' [.slice E2 m2 d2] (y2 L) -> RWd w' [.slice E3 m3 d3] (y3 L) -> RWd w' [.slice E4 m4 d4] (y4 L) ->
   Calls Tryz.prog 18 #[.agg #[.slice D0 n0 k0, .slice D1 n1 k1, .slice D2 n2 k2, .slice D3 n3 k3, .slice D4 n4 k4], .agg #[.slice E0 m0 d0, .slice E1 m1 d1, .slice E2 m2 d2, .slice E3 m3 d3, .slice E4 m4 d4]] w' fun e dh=>e= .returned (.bool false) /\ Below w'.heap.size w' dh):=zH (fun D0 D1 D2 D3 D4 E0 E1 E2 E3 E4 n0 n1 n2 n3 n4 k0 k1 k2 k3 k4 m0 m1 m2 m3 m4 d0 d1 d2 d3 d4 w' h0 h1 h2 h3 h4 g0 g1 g2 g3 g4=>by
  have:=qI D0 D1 D2 D3 D4 E0 E1 E2 E3 E4 n0 k0 n1 k1 n2 k2 n3 k3 n4 k4 m0 d0 m1 d1 m2 d2 m3 d3 m4 d4 _ _ _ _ _ _ _ _ _ _ w' h0 h1 h2 h3 h4 g0 g1 g2 g3 g4;rw [decide_eq_false hneq,Bool.false_and] at this;exact this)
 have HTV:Hid (∀ v,pc L.p ((1:Nat):Int) 4 v= .agg #[.int .u64 97, .int .i64 1, .int .i64 4,v]):=zH (fun v=>by unfold pc;rw [DF];rfl)
 have Ef:Hid (∀ (D0 D1 D2 D3 D4:Option Addr) (n0 n1 n2 n3 n4 k0 k1 k2 k3 k4:Nat) (w':World),Below w3.heap.size w3 w' -> Sb w' [.slice D0 n0 k0] (y0 L) -> RWd w' [.slice D1 n1 k1] (y1 L) -> RWd w' [.slice D2 n2 k2] (y2 L) -> RWd w' [.slice D3 n3 k3] (y3 L) ->
   Calls Tryz.prog 17 #[.agg (Ya L), .agg #[.int .u64 97, .int .i64 1, .int .i64 4, .slice (some ⟨gr,0,none⟩) 1 1], .slice (some ⟨gw,0,none⟩) 4 4, .agg #[.slice D0 n0 k0, .slice D1 n1 k1, .slice D2 n2 k2, .slice D3 n3 k3, .slice D4 n4 k4], .agg #[.int .u64 7, .int .u64 8, .int .u64 9], .slice (some ⟨gp,0,none⟩) 2 2] w' fun e dh=>ME (b1 L) (b2 L) (b3 L) (b4 L) e dh /\ Below w'.heap.size w' dh):=zH (fun D0 D1 D2 D3 D4 n0 n1 n2 n3 n4 k0 k1 k2 k3 k4 w' hb h0 h1 h2 h3=>by
  have:=RM Ta 8 7 9 Xb (some ⟨gr,0,none⟩) (some ⟨gw,0,none⟩) (some ⟨gp,0,none⟩) D0 D1 D2 D3 D4 1 1 4 4 2 2 n0 n1 n2 n3 n4 k0 k1 k2 k3 k4 w' (Kc Gc _ _ _ _ hb hr) (ta hb hw) h0 h1 h2 h3 (pf _ _ _ _ hb hpos);rw [HTV.out] at this;exact this)
 have Th:Hid (∀ (D0 D1 D2 D3 D4:Option Addr) (n0 n1 n2 n3 n4 k0 k1 k2 k3 k4:Nat) (w':World),Below w3.heap.size w3 w' -> Sb w' [.slice D0 n0 k0] (aR L) -> RWd w' [.slice D1 n1 k1] (aC L) -> RWd w' [.slice D2 n2 k2] (aL L) -> RWd w' [.slice D3 n3 k3] (aQ L) ->
   Calls Tryz.prog 17 #[.agg (Ya L), .agg #[.int .u64 97, .int .i64 1, .int .i64 4, .slice (some ⟨gr,0,none⟩) 1 1], .slice (some ⟨gv,0,none⟩) 4 4, .agg #[.slice D0 n0 k0, .slice D1 n1 k1, .slice D2 n2 k2, .slice D3 n3 k3, .slice D4 n4 k4], .agg #[.int .u64 7, .int .u64 8, .int .u64 9], .slice (some ⟨gp,0,none⟩) 2 2] w' fun e dh=>ME (b1 L) (b2 L) (b3 L) (b4 L) e dh /\ Below w'.heap.size w' dh):=zH (fun D0 D1 D2 D3 D4 n0 n1 n2 n3 n4 k0 k1 k2 k3 k4 w' hb h0 h1 h2 h3=>by
  have:=dT Ta 8 7 9 Xb (some ⟨gr,0,none⟩) (some ⟨gv,0,none⟩) (some ⟨gp,0,none⟩) D0 D1 D2 D3 D4 1 1 4 4 2 2 n0 n1 n2 n3 n4 k0 k1 k2 k3 k4 w' (Kc Gc _ _ _ _ hb hr) (ta hb hv) h0 h1 h2 h3 (pf _ _ _ _ hb hpos);rw [HTV.out] at this;exact this)
 have gy:=zH (fun (A0 A1 A2 A3 B0 B1 B2 B3:Option Addr) n0 c0 n1 c1 n2 c2 n3 c3 m0 d0 m1 d1 m2 d2 m3 d3 w' h0 h1 h2 h3 k0 k1 k2 k3=>by
  have:=uS A0 A1 A2 A3 B0 B1 B2 B3 n0 c0 n1 c1 n2 c2 n3 c3 m0 d0 m1 d1 m2 d2 m3 d3 (b1 L) (b2 L) (b3 L) (b1 L) (b2 L) (b3 L) (b4 L) (b4 L) w' h0 h1 h2 h3 k0 k1 k2 k3;simp only [decide_true,Bool.and_true] at this;exact this)
 clear hL Eu hr hpos hw hv DF qH hE0 ht KK Ta Xb GK Ju hneq HTV;generalize aR L=XR at *;generalize aC L=XC at *;generalize aL L=XL at *;generalize aQ L=XQ at *;generalize b1 L=N1 at *;generalize b2 L=N2 at *;generalize b3 L=N3 at *;generalize b4 L=N4 at *;generalize y0 L=Y0 at *;generalize y1 L=Y1 at *;generalize y2 L=Y2 at *;generalize y3 L=Y3 at *;generalize y4 L=Y4 at *;unfold Ya at *;have dc:=Below.refl w3.heap.size w3;go_upto_region 3 with fail
 have kl:=Blk.new w3 39 #[.int .u64 L.p, .int .i64 L.block, .int .i64 L.queries, .int .i64 L.k, .int .i64 L.n, .int .i64 L.secret, .int .i64 L.rows, .int .i64 L.a, .int .i64 L.b, .int .i64 L.b, .int .i64 L.b];have ma:=(Below.refl w3.heap.size w3).alloc zR (.cells #[.int .u64 L.p, .int .i64 L.block, .int .i64 L.queries, .int .i64 L.k, .int .i64 L.n, .int .i64 L.secret, .int .i64 L.rows, .int .i64 L.a, .int .i64 L.b, .int .i64 L.b, .int .i64 L.b] 39);replace k1:=ia k1 ma;replace da:=oa da ma;replace dc:=oa dc ma;clear ma;generalize w3.alloc _=w4 at k1 kl da dc |-;generalize w3.heap.size=gl at kl |-;have c1:=k1.cell;have cl:=kl.cell;go_wp2_with fail
 refine (Zk.out _).mono ?_;rintro e w5 ⟨v0,v1,v2,v3,v4,rfl,r0,r1,r2,r3,r4,ea⟩;replace k1:=ia k1 ea;replace kl:=ia kl ea;replace da:=oa da ea;replace dc:=oa dc ea;clear ea Zk c1 cl;obtain ⟨A0,n0,c0,e0,-⟩:=id r0;obtain ⟨A1,n1,c1,e1,-⟩:=id r1;obtain ⟨A2,n2,c2,e2,-⟩:=id r2;obtain ⟨A3,n3,c3,e3,-⟩:=id r3;obtain ⟨A4,n4,c4,e4,-⟩:=id r4;simp only [List.cons.injEq,and_true] at e0 e1 e2 e3 e4;subst e0 e1 e2 e3 e4;go_upto_region 6 with fail
 have kc:=Blk.new w5 42 #[.slice A0 n0 c0, .slice A1 n1 c1, .slice A2 n2 c2, .slice A3 n3 c3, .slice A4 n4 c4];have ma:=(Below.refl w5.heap.size w5).alloc zR (.cells #[.slice A0 n0 c0, .slice A1 n1 c1, .slice A2 n2 c2, .slice A3 n3 c3, .slice A4 n4 c4] 42);replace k1:=ia k1 ma;replace kl:=ia kl ma;replace da:=oa da ma;replace dc:=oa dc ma;replace r0:=Gb ma r0;replace r1:=ta ma r1;replace r2:=ta ma r2;replace r3:=ta ma r3;replace r4:=ta ma r4;clear ma;generalize w5.alloc _=w6 at k1 kl kc da dc r0 r1 r2 r3 r4 |-;generalize w5.heap.size=gq at kc |-;have um:=k1.cell;have cc:=kc.cell;go_wp2_with fail
 refine (im.out _ _ _ _ _ _ _ _ _ _ _ _ _ _ _ _ dc r0 r1 r2 r3 r4).mono ?_;rintro e w7 ⟨⟨F0,F1,F2,F3,F4,m0,m1,m2,m3,m4,u0,u1,u2,u3,u4,rfl,Sw⟩,ea⟩;rcases Sw with Sw | ⟨-,o0,o1,o2,o3,o4⟩
 ·exact absurd rfl Sw.1
 have s0:=o0.here;have s1:=ff o1;have s2:=ff o2;have s3:=ff o3;have s4:=ff o4;replace k1:=ia k1 ea;replace kl:=ia kl ea;replace kc:=ia kc ea;replace da:=oa da ea;replace dc:=oa dc ea;replace r0:=Gb ea r0;replace r1:=ta ea r1;replace r2:=ta ea r2;replace r3:=ta ea r3;replace r4:=ta ea r4;clear ea im um cc o0 o1 o2 o3 o4;go_upto_region 7 with fail
 have kd:=Blk.new w7 42 #[.slice F0 m0 u0, .slice F1 m1 u1, .slice F2 m2 u2, .slice F3 m3 u3, .slice F4 m4 u4];have ma:=(Below.refl w7.heap.size w7).alloc zR (.cells #[.slice F0 m0 u0, .slice F1 m1 u1, .slice F2 m2 u2, .slice F3 m3 u3, .slice F4 m4 u4] 42);replace k1:=ia k1 ma;replace kl:=ia kl ma;replace kc:=ia kc ma;replace da:=oa da ma;replace dc:=oa dc ma;replace r0:=Gb ma r0;replace r1:=ta ma r1;replace r2:=ta ma r2;replace r3:=ta ma r3;replace r4:=ta ma r4;replace s0:=Gb ma s0;replace s1:=ta ma s1;replace s2:=ta ma s2;replace s3:=ta ma s3;replace s4:=ta ma s4;clear ma;generalize w7.alloc _=w8 at k1 kl kc kd da dc r0 r1 r2 r3 r4 s0 s1 s2 s3 s4 |-;generalize w7.heap.size=gd at kd |-;have um:=k1.cell;have l1:=k1.lt;have cl:=kl.cell;have ll:=kl.lt;have cc:=kc.cell;have lc:=kc.lt;have cd:=kd.cell;have ld:=kd.lt;refine Rc (Ib) [5,10,26,38,39] [0,1,2,3,4,5,6,7,8,9,10,11,12,13,14,15,16,17,18,19,20,21,22,23,24,25,27,28,29,30,31,32,33,34,35,36,37,26,38,39,40,41] (by kernel_rfl) (by kernel_rfl) ?_
 refine vd (xa) ?_;intro Wc Na ja;have ya:=Cc Na;replace da:=oa da ya;replace dc:=oa dc ya;replace r0:=Gb ya r0;replace r1:=ta ya r1;replace r2:=ta ya r2;replace r3:=ta ya r3;replace r4:=ta ya r4;replace s0:=Gb ya s0;replace s1:=ta ya s1;replace s2:=ta ya s2;replace s3:=ta ya s3;replace s4:=ta ya s4;clear ya;refine pb ?_;refine Mb (xa) rfl rfl rfl (fun _=>by go_simp <;> rfl) ((Yj.out _ _ _ _ _ _ _ _ _ _ _ _ _ _ _ _ s0 s1 s2 s3 s4).mono ?_)
 rintro e w9 ⟨rfl,ea⟩;refine ⟨_,rfl,ea,?_⟩;replace ja:=(xa).trans _ _ _ ja (ea);simp only [Act.put,zLa,zLb,zLc];replace da:=oa da ea;replace dc:=oa dc ea;replace r0:=Gb ea r0;replace r1:=ta ea r1;replace r2:=ta ea r2;replace r3:=ta ea r3;replace r4:=ta ea r4;replace s0:=Gb ea s0;replace s1:=ta ea s1;replace s2:=ta ea s2;replace s3:=ta ea s3;replace s4:=ta ea s4;clear ea;refine pb ?_;refine Mb (xa) rfl rfl rfl (fun _=>by go_simp <;> rfl) ((HSa.out _ _ _ _ _ _ _ _ _ _ _ _ _ _ _ _ _ _ _ _ _ _ _ _ _ _ _ _ _ _ _ s0 s1 s2 s3 s4 r0 r1 r2 r3 r4).mono ?_)
 rintro e Sm ⟨rfl,ea⟩;refine ⟨_,rfl,ea,?_⟩;replace ja:=(xa).trans _ _ _ ja (ea);simp only [Act.put,zLa,zLb,zLc];replace da:=oa da ea;replace dc:=oa dc ea;replace r0:=Gb ea r0;replace r1:=ta ea r1;replace r2:=ta ea r2;replace r3:=ta ea r3;replace r4:=ta ea r4;replace s0:=Gb ea s0;replace s1:=ta ea s1;replace s2:=ta ea s2;replace s3:=ta ea s3;replace s4:=ta ea s4;clear ea;refine pb ?_;refine Mb (xa) rfl rfl rfl (fun _=>by go_simp <;> rfl) ((Ef.out _ _ _ _ A4 _ _ _ _ n4 _ _ _ _ c4 _ dc r0 r1 r2 r3).mono ?_)
 rintro e Lx ⟨⟨G0,G1,G2,G3,j0,j1,j2,j3,i0,i1,i2,i3,rfl,t0,t1,t2,t3⟩,ea⟩;refine ⟨_,rfl,ea,?_⟩;replace ja:=(xa).trans _ _ _ ja (ea);simp only [Act.put,zLa,zLb,zLc];replace da:=oa da ea;replace dc:=oa dc ea;replace r0:=Gb ea r0;replace r1:=ta ea r1;replace r2:=ta ea r2;replace r3:=ta ea r3;replace r4:=ta ea r4;replace s0:=Gb ea s0;replace s1:=ta ea s1;replace s2:=ta ea s2;replace s3:=ta ea s3;replace s4:=ta ea s4;clear ea;refine pb ?_;refine Mb (xa) rfl rfl rfl (fun _=>by go_simp <;> rfl) ((Th.out _ _ _ _ F4 _ _ _ _ m4 _ _ _ _ u4 _ dc s0 s1 s2 s3).mono ?_)
 rintro e Mr ⟨⟨H0,H1,H2,H3,l0,l1',l2,l3,o0,o1,o2,o3,rfl,z0,z1,z2,z3⟩,ea⟩;refine ⟨_,rfl,ea,?_⟩;replace ja:=(xa).trans _ _ _ ja (ea);simp only [Act.put,zLa,zLb,zLc];replace da:=oa da ea;replace dc:=oa dc ea;replace r0:=Gb ea r0;replace r1:=ta ea r1;replace r2:=ta ea r2;replace r3:=ta ea r3;replace r4:=ta ea r4;replace s0:=Gb ea s0;replace s1:=ta ea s1;replace s2:=ta ea s2;replace s3:=ta ea s3;replace s4:=ta ea s4;replace t0:=ta ea t0;replace t1:=ta ea t1;replace t2:=ta ea t2;replace t3:=Gb ea t3;clear ea;refine pb ?_;refine Mb (xa) rfl rfl rfl (fun _=>by go_simp <;> rfl) ((gy.out _ _ _ _ _ _ _ _ _ _ _ _ _ _ _ _ _ _ _ _ _ _ _ _ _ t0 t1 t2 t3 z0 z1 z2 z3).mono ?_)
 rintro e w13 ⟨rfl,ea⟩;refine ⟨_,rfl,ea,?_⟩;replace ja:=(xa).trans _ _ _ ja (ea);simp only [Act.put,zLa,zLb,zLc];replace da:=oa da ea;clear ea;refine pb ?_;refine Fc ?_;clear ja;go_wp2;go_ret
 exact ⟨rfl,da⟩
theorem YU:Tryz.prog.cellsOf 35=14:=by kernel_rfl
theorem ZU:Tryz.prog.cellsOf 32=3:=by kernel_rfl
theorem aV:Tryz.prog.cellsOf 33=1:=by kernel_rfl
structure wU (w:World) (p:Nat) (pub vars:Int) (A B B2 P:Option Addr) (n c m d m2 d2 np cp:Nat) (rows:List Cb) (ws vs:List Nat) (seed:Nat) (pos:List Int):Prop where
 p:p<18446744073709551616
 rows:RSl 3 te w [.slice A n c] rows
 ws:RWd w [.slice B m d] ws
 vs:RWd w [.slice B2 m2 d2] vs
 seed:seed<18446744073709551616
 pos:qi w [.slice P np cp] pos
theorem TH {w:World} {ze:Array Value} (f0:Fits Tryz.prog w 35 (Value.agg ze).cells.toList) :
  ∃ (p:Nat) (pub vars:Int) (A B B2 P:Option Addr) (n c m d m2 d2 np cp:Nat) (rows:List Cb) (ws vs:List Nat) (bl bw qs:Int) (seed al rho be:Nat) (pos:List Int),ze=Lk p pub vars (.slice A n c) bl bw qs (.slice B m d) (.slice B2 m2 d2) seed al rho be (.slice P np cp) /\ wU w p pub vars A B B2 P n c m d m2 d2 np cp rows ws vs seed pos:=by
 have e1:(Value.agg ze).cells=ze:=rfl;rw [e1] at f0;clear e1;have hl:=(wP Tryz.underlying35 f0).1;rw [YU] at hl;obtain ⟨cs,qe⟩:∃ cs:List Value,ze.toList=cs:=⟨_,rfl⟩;rw [qe] at hl f0;obtain rfl:ze=cs.toArray:=by rw [<- qe]
 clear qe
 match cs,hl with
 | [x0,x1,x2,x3,x4,x5,x6,x7,x8,x9,Gk,oD,x12,x13],_ =>
  obtain ⟨p,pub,vars,A,B,n,c,m,d,rows,ws,bl,bw,qs,hc,Ub⟩:=CW rfl (Hi (i:=0) Tryz.underlying35 rfl rfl XU f0);obtain ⟨vs,hv⟩:=sP Tryz.underlying28 Tryz.underlying22 vy (Hi (i:=1) Tryz.underlying35 rfl rfl zO f0);obtain ⟨seed,hs,Jn⟩:=jB Tryz.underlying22 (Hi (i:=2) Tryz.underlying35 rfl rfl vy f0);have hx:=Hi (i:=3) Tryz.underlying35 rfl rfl ZU f0;obtain ⟨al,ha,-⟩:=jB Tryz.underlying22 (Hi (i:=0) Tryz.underlying32 rfl rfl vy hx);obtain ⟨rho,hb,-⟩:=jB Tryz.underlying22 (Hi (i:=1) Tryz.underlying32 rfl rfl vy hx);obtain ⟨be,he,-⟩:=jB Tryz.underlying22 (Hi (i:=2) Tryz.underlying32 rfl rfl vy hx);obtain ⟨pos,hp⟩:=qK (R:=Wv) 1 Tryz.underlying33 uy (fun Zi _ hf=>by
   obtain ⟨x,hx,h⟩:=iB Tryz.underlying3 hf;exact ⟨x,hx,h⟩) (Hi (i:=4) Tryz.underlying35 rfl rfl aV f0)
  simp [Zv] at hc hs ha hb he hv hp
  obtain ⟨B2,m2,d2,e1,-⟩:=id hv;obtain ⟨P,np,cp,e2,-⟩:=id hp;simp only [List.cons.injEq,and_true] at e1 e2;subst hs ha hb he e1 e2;obtain ⟨rfl,rfl,rfl,rfl,rfl,rfl,rfl,rfl⟩:=hc;exact ⟨p,pub,vars,A,B,B2,P,n,c,m,d,m2,d2,np,cp,rows,ws,vs,bl,bw,qs,seed,al,rho,be,pos,rfl,Ub.p,Ub.rows,Ub.ws,hv,Jn,hp⟩
section
variable {L:Ja} {pu:Nat} {vars:Int} {rows:List Cb} {ws vs:List Nat} {pos:List Int} {r:List (List Nat)} {co li qu sa:List Nat} {al rho be:Nat}
theorem ExOk.len (h:ExOk L pu vars rows ws vs pos):ws.length=vs.length:=by
 have h1:=(Nq h.aw h.vars).1;have h2:=(Nq h.av h.vars).1;omega
theorem ER {w:World} {P:Option Addr} {np cp:Nat} (Ta:ExOk L pu vars rows ws vs pos) (hpos:qi w [.slice P np cp] pos):np <= 1000:=by
 have h1:=Jr Ta.pos;have h2:=Ta.hL.q2;obtain ⟨A',n',c',he,r1,-⟩:=hpos;simp at he
 obtain ⟨-,rfl,-⟩:=he;omega
end
end Go.Proofs.YtgeofabpinfcmaaGreat
