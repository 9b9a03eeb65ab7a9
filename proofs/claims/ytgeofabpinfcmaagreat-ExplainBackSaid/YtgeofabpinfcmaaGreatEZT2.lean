/-
  ExplainBack, for every input: the law returns true and leaves its arguments as they were. No condition.
-/
import Derived.Test.YtgeofabpinfcmaaGreatProg
import Derived.Test.YtgeofabpinfcmaaGreatEZ35
import Derived.Test.YtgeofabpinfcmaaGreatEZ45
import Derived.Test.YtgeofabpinfcmaaGreatEZ46
import Derived.Test.YtgeofabpinfcmaaGreatRows
import Derived.Test.YtgeofabpinfcmaaGreatEZ32

set_option maxRecDepth 100000
set_option maxHeartbeats 8000000
set_option linter.unusedVariables false
set_option linter.unusedSimpArgs false
namespace Go.Proofs.YtgeofabpinfcmaaGreat
open Go.RowKit
section
variable {L:Ja} {pu:Nat} {vars:Int} {rows:List Cb} {ws vs:List Nat} {pos:List Int} {r:List (List Nat)} {co li qu sa:List Nat} {al rho be:Nat}
theorem ZO (h:ExOk L pu vars rows ws vs pos) (hc:Fs L pos al rho be=true):ti L pu vars rows ws vs pos al rho be=0:=by
 unfold ti;rw [hc,h.aw,h.av,h.sw,h.sv,decide_eq_true h.pub];simp
theorem QU (h:ExOk L pu vars rows ws vs pos) {bl bw qs:Int} (gg:tl L ⟨L.p,(pu:Int),vars,rows.length,bl,bw,qs⟩) (he:ti L pu vars rows ws vs pos al rho be=0) (Xb:Ze L r co li qu sa=true) (df:vs.length <= 200) (seed:Nat) (A B B2 P D0 D1 D2 D3 D4:Option Addr) (R c m d m2 d2 np cp n0 n1 n2 n3 n4 k0 k1 k2 k3 k4:Nat) (w:World)
  (hr:RSl 3 te w [.slice A R c] rows) (hw:RWd w [.slice B m d] vs) (hv:RWd w [.slice B2 m2 d2] ws) (hpos:qi w [.slice P np cp] pos)
  (h0:Sb w [.slice D0 n0 k0] (zd L (Ia L rows ws pu) r (Ia L rows vs pu) co li qu pos)) (h1:RWd w [.slice D1 n1 k1] (Zf L (Ia L rows ws pu) r (Ia L rows vs pu) co li qu pos al)) (h2:RWd w [.slice D2 n2 k2] (Tf L (Tc L pu rho rows) (Ia L rows ws pu) r (Ia L rows vs pu) co li qu pos)) (h3:RWd w [.slice D3 n3 k3] (Uf L (Ia L rows ws pu) r (Ia L rows vs pu) co li qu pos be)) (h4:RWd w [.slice D4 n4 k4] sa) :
  Calls Tryz.prog 12 #[.agg (Lk L.p (pu:Int) vars (.slice A R c) bl bw qs (.slice B m d) (.slice B2 m2 d2) seed al rho be (.slice P np cp)), .agg #[.slice D0 n0 k0, .slice D1 n1 k1, .slice D2 n2 k2, .slice D3 n3 k3, .slice D4 n4 k4]] w fun e w'=>sG r co li qu sa e w' /\ Below w.heap.size w w':=by
 have hc:=h.case rho al be Xb;have RB:=h.len;obtain ⟨b1,b2,b3,b4⟩:=hc.back (h.ans rho al be Xb);have:=SD h.swap gg (ZO h.swap (aK he)) hc.new (by omega) seed A B B2 P D0 D1 D2 D3 D4 R c m d m2 d2 np cp n0 n1 n2 n3 n4 k0 k1 k2 k3 k4 w hr hw hv hpos h0 h1 h2 h3 h4
 rw [b1,b2,b3,b4] at this;exact this
theorem l5 (h:ExOk L pu vars rows ws vs pos) {bl bw qs:Int} (gg:tl L ⟨L.p,(pu:Int),vars,rows.length,bl,bw,qs⟩) (he:ti L pu vars rows ws vs pos al rho be=0) (Xb:Ze L r co li qu sa=true) (df:vs.length <= 200) (seed:Nat) (A B B2 P D0 D1 D2 D3 D4:Option Addr) (R c m d m2 d2 np cp n0 n1 n2 n3 n4 k0 k1 k2 k3 k4:Nat) (w:World)
  (hr:RSl 3 te w [.slice A R c] rows) (hw:RWd w [.slice B m d] ws) (hv:RWd w [.slice B2 m2 d2] ws) (hpos:qi w [.slice P np cp] pos)
  (h0:Sb w [.slice D0 n0 k0] r) (h1:RWd w [.slice D1 n1 k1] co) (h2:RWd w [.slice D2 n2 k2] li) (h3:RWd w [.slice D3 n3 k3] qu) (h4:RWd w [.slice D4 n4 k4] sa) :
  Calls Tryz.prog 12 #[.agg (Lk L.p (pu:Int) vars (.slice A R c) bl bw qs (.slice B m d) (.slice B2 m2 d2) seed al rho be (.slice P np cp)), .agg #[.slice D0 n0 k0, .slice D1 n1 k1, .slice D2 n2 k2, .slice D3 n3 k3, .slice D4 n4 k4]] w fun e w'=>sG r co li qu sa e w' /\ Below w.heap.size w w':=by
 have hc:=h.case rho al be Xb;have RB:=h.len;obtain ⟨b1,b2,b3,b4⟩:=hc.self;have:=SD h.same gg (ZO h.same (aK he)) Xb (by omega) seed A B B2 P D0 D1 D2 D3 D4 R c m d m2 d2 np cp n0 n1 n2 n3 n4 k0 k1 k2 k3 k4 w hr hw hv hpos h0 h1 h2 h3 h4
 rw [b1,b2,b3,b4] at this;exact this
end
theorem gW (W:World) (ze:Array Value) (f0:Fits Tryz.prog W 35 (Value.agg ze).cells.toList) :
  Calls Tryz.prog 4 #[.agg ze] W fun e W'=>e= .returned (.bool true) /\ Below W.heap.size W W':=by
 obtain ⟨p,pub,vars,A,B,B2,P,n,c,m,d,m2,d2,np,cp,rows,ws,vs,bl,bw,qs,seed,al,rho,be,pos,rfl,Ub⟩:=TH f0;clear f0;have Xm:=zH (fun w' (hb:Below W.heap.size W w')=>xI p pub vars A B B2 P n c m d m2 d2 np cp rows ws vs bl bw qs seed al rho be pos w' Ub.p Ub.seed (Kc Gc _ _ _ _ hb Ub.rows) (ta hb Ub.ws) (ta hb Ub.vs) (pf _ _ _ _ hb Ub.pos))
 have rj:=zH (fun w=>UG w)
 have Vj:=zH Ub;clear Ub;unfold Lk at *;have kb:=Blk.new W 35 #[.int .u64 p, .int .i64 pub, .int .i64 vars, .slice A n c, .int .i64 bl, .int .i64 bw, .int .i64 qs, .slice B m d, .slice B2 m2 d2, .int .u64 seed, .int .u64 al, .int .u64 rho, .int .u64 be, .slice P np cp];have da:Below W.heap.size W (W.alloc (.cells #[.int .u64 p, .int .i64 pub, .int .i64 vars, .slice A n c, .int .i64 bl, .int .i64 bw, .int .i64 qs, .slice B m d, .slice B2 m2 d2, .int .u64 seed, .int .u64 al, .int .u64 rho, .int .u64 be, .slice P np cp] 35)):=(Below.refl _ W).alloc zR _;go_enter Tryz.func4,Tryz.ntmps4
 go_upto_region 1 with fail
 generalize W.alloc _=w0 at da kb |-;go_wp2_with fail
 refine (rj.out _).mono ?_;rintro e w1 ⟨rfl,Ga⟩;replace kb:=ia kb Ga;replace da:=oa da Ga;clear Ga rj;have IA:=kb.cell;go_wp2_with fail
 refine (Xm.out _ da).mono ?_;rintro e w2 ⟨Jj,Ka⟩;unfold mu at Jj;obtain ⟨y0,y1,y2,y3,y4,y5,y6,y7,y8,y9,Wd,b,A0,A1,A2,A3,A4,n0,n1,n2,n3,n4,c0,c1,c2,c3,c4,rfl,hT⟩:=Jj;have HT:=zH hT;replace kb:=ia kb Ka;replace da:=oa da Ka;clear Ka Xm IA hT;obtain ⟨kl,kc,ea,-⟩:=Ue w2 39 42 #[.int .u64 y0, .int .i64 y1, .int .i64 y2, .int .i64 y3, .int .i64 y4, .int .i64 y5, .int .i64 y6, .int .i64 y7, .int .i64 y8, .int .i64 y9, .int .i64 Wd] #[.slice A0 n0 c0, .slice A1 n1 c1, .slice A2 n2 c2, .slice A3 n3 c3, .slice A4 n4 c4];go_upto_region 4 with fail
 generalize (w2.alloc _).alloc _=w3 at kl kc ea |-;replace kb:=ia kb ea;replace da:=oa da ea;generalize w2.heap.size+1=gc at kc |-;obtain ⟨gl,xk⟩:=zEX (w2.heap.size);rw [<- xk] at kl |-;clear xk;cases b
 ·clear HT kl kc kb ea Vj
  go_wp2;go_ret
  exact ⟨rfl,da⟩
 obtain ⟨L,pu,rfl,qe,k⟩:=HT.out rfl;clear HT;rw [<- qe] at kl;clear qe;replace k:=vI ea k;obtain rfl:p=L.p:=k.pe.symm;have Ta:=k.ok;have gg:=k.lf;have df:=k.lv;have Ed:=Va Ta.hL.p;have Xb:=MA L seed (by omega)
 have Fo:=k.err;have r0:=k.r;have r1:=k.co;have r2:=k.li;have r3:=k.qu;have r4:=k.sa;have Ub:=Vj.out;have ig:=Kc Gc _ _ _ _ da Ub.rows;have Bk:=ta da Ub.ws;have ph:=ta da Ub.vs;have ah:=pf _ _ _ _ da Ub.pos;have Gm:=Ub.seed;clear Ub Vj k ea;have Ju:=(Ta.case rho al be Xb).new;generalize Dk L seed (L.a+L.b+L.b+L.b)=Y0 at *;generalize Gd L.p seed [1] L.k=Y1 at *;generalize Gd L.p seed [2] (L.k+L.block-2)=Y2 at *;generalize Gd L.p seed [3] (L.block+2*L.queries-1)=Y3 at *;generalize Gd Kd seed [4] L.n=Y4 at *;have yc:=zH (fun (D0 D1 D2 D3 D4:Option Addr) n0 n1 n2 n3 n4 k0 k1 k2 k3 k4 w' (hb:Below w3.heap.size w3 w') h0 h1 h2 h3 h4=>SD Ta gg Fo Xb df seed A B B2 P D0 D1 D2 D3 D4 n c m d m2 d2 np cp n0 n1 n2 n3 n4 k0 k1 k2 k3 k4 w' (Kc Gc _ _ _ _ hb ig) (ta hb Bk) (ta hb ph) (pf _ _ _ _ hb ah) h0 h1 h2 h3 h4)
 have Uj:=zH (fun (D0 D1 D2 D3 D4:Option Addr) n0 n1 n2 n3 n4 k0 k1 k2 k3 k4 w' (hb:Below w3.heap.size w3 w') h0 h1 h2 h3 h4=>QU Ta gg Fo Xb df seed A B2 B P D0 D1 D2 D3 D4 n c m2 d2 m d np cp n0 n1 n2 n3 n4 k0 k1 k2 k3 k4 w' (Kc Gc _ _ _ _ hb ig) (ta hb ph) (ta hb Bk) (pf _ _ _ _ hb ah) h0 h1 h2 h3 h4)
 have Vm:=zH (fun (D0 D1 D2 D3 D4:Option Addr) n0 n1 n2 n3 n4 k0 k1 k2 k3 k4 w' (hb:Below w3.heap.size w3 w') h0 h1 h2 h3 h4=>l5 Ta gg Fo Xb df seed A B B P D0 D1 D2 D3 D4 n c m d m d np cp n0 n1 n2 n3 n4 k0 k1 k2 k3 k4 w' (Kc Gc _ _ _ _ hb ig) (ta hb Bk) (ta hb Bk) (pf _ _ _ _ hb ah) h0 h1 h2 h3 h4)
 have HSA:=zH (fun A0 A1 A2 A3 A4 B0 B1 B2 B3 B4 n0 n1 n2 n3 n4 c0 c1 c2 c3 c4 m0 m1 m2 m3 m4 d0 d1 d2 d3 d4 r x1 x2 x3 x4 w h0 h1 h2 h3 h4 k0 k1 k2 k3 k4=>US A0 A1 A2 A3 A4 B0 B1 B2 B3 B4 n0 n1 n2 n3 n4 c0 c1 c2 c3 c4 m0 m1 m2 m3 m4 d0 d1 d2 d3 d4 r x1 x2 x3 x4 w h0 h1 h2 h3 h4 k0 k1 k2 k3 k4)
 clear Ta gg df Ed Xb Fo ig Bk ph ah Gm Ju kl;generalize zd L (Ia L rows ws pu) Y0 (Ia L rows vs pu) Y1 Y2 Y3 pos=XR at *;generalize Zf L (Ia L rows ws pu) Y0 (Ia L rows vs pu) Y1 Y2 Y3 pos al=XC at *;generalize Tf L (Tc L pu rho rows) (Ia L rows ws pu) Y0 (Ia L rows vs pu) Y1 Y2 Y3 pos=XL at *;generalize Uf L (Ia L rows ws pu) Y0 (Ia L rows vs pu) Y1 Y2 Y3 pos be=XQ at *;unfold Lk at *;have dc:=Below.refl w3.heap.size w3;have cb:=kb.cell;have cc:=kc.cell;go_wp2_with fail
 refine (yc.out _ _ _ _ _ _ _ _ _ _ _ _ _ _ _ _ dc r0 r1 r2 r3 r4).mono ?_;rintro e w7 ⟨⟨F0,F1,F2,F3,F4,m0,m1,zr,m3,m4,u0,u1,u2,u3,u4,rfl,s0,s1,s2,s3,s4⟩,ea⟩;replace kb:=ia kb ea;replace kc:=ia kc ea;replace da:=oa da ea;replace dc:=oa dc ea;replace r0:=Gb ea r0;replace r1:=ta ea r1;replace r2:=ta ea r2;replace r3:=ta ea r3;replace r4:=ta ea r4;clear ea yc cb cc;go_upto_region 7 with fail
 have kd:=Blk.new w7 42 #[.slice F0 m0 u0, .slice F1 m1 u1, .slice F2 zr u2, .slice F3 m3 u3, .slice F4 m4 u4];have ma:=(Below.refl w7.heap.size w7).alloc zR (.cells #[.slice F0 m0 u0, .slice F1 m1 u1, .slice F2 zr u2, .slice F3 m3 u3, .slice F4 m4 u4] 42);replace kb:=ia kb ma;replace kc:=ia kc ma;replace da:=oa da ma;replace dc:=oa dc ma;replace r0:=Gb ma r0;replace r1:=ta ma r1;replace r2:=ta ma r2;replace r3:=ta ma r3;replace r4:=ta ma r4;replace s0:=Gb ma s0;replace s1:=ta ma s1;replace s2:=ta ma s2;replace s3:=ta ma s3;replace s4:=ta ma s4;clear ma;generalize w7.alloc _=w8 at kb kc kd da dc r0 r1 r2 r3 r4 s0 s1 s2 s3 s4 |-;generalize w7.heap.size=gd at kd |-;have Of:W.heap.size<w8.heap.size:=kb.lt;have cb:=kb.cell;have lb:=kb.lt;refine XI (Yf w8.heap.size) [0,1] 4 (by kernel_rfl) (by kernel_rfl) ?_
 refine ZI (zb w8.heap.size) ?_;intro Wc Na ja;refine jJ ?_;have ya:=Cc Na;have Dc:w8.heap.size <= Wc.heap.size:=ya.size;refine YI (zb w8.heap.size) [⟨2,[],[]⟩,⟨3,[],[]⟩] [(2,vf 35 (fun _=>#[.int .u64 0, .int .i64 0, .int .i64 0, .slice none 0 0, .int .i64 0, .int .i64 0, .int .i64 0, .slice none 0 0, .slice none 0 0, .int .u64 0, .int .u64 0, .int .u64 0, .int .u64 0, .slice none 0 0]) mq 2),(3,vf 35 (fun _=>#[.int .u64 0, .int .i64 0, .int .i64 0, .slice none 0 0, .int .i64 0, .int .i64 0, .int .i64 0, .slice none 0 0, .slice none 0 0, .int .u64 0, .int .u64 0, .int .u64 0, .int .u64 0, .slice none 0 0]) mq 3)] [(some 8,2),(some 9,3)] [4,5] [4,5] (by kernel_rfl) (by kernel_rfl) (by first | exact zR | omega) (fun w1 h1=>h1) ?_ ?_ ?_
 ·exact List.forall_mem_cons.2 ⟨uv rfl (fun _ _ _=>rfl),List.forall_mem_cons.2 ⟨uv rfl (fun _ _ _=>rfl),List.forall_mem_nil _⟩⟩
 ·refine List.forall_mem_cons.2 ⟨?_,List.forall_mem_cons.2 ⟨?_,List.forall_mem_nil _⟩⟩
  ·refine yq [] rfl (by kernel_rfl) ?_
   intro w1 vs F Ga hd Dg;clear hd;unfold Rj;simp only [List.foldl];change Vi _ _ _ fun v w'=>sm _ w1 w' F [] /\ vf 35 (fun _=>#[.int .u64 0, .int .i64 0, .int .i64 0, .slice none 0 0, .int .i64 0, .int .i64 0, .int .i64 0, .slice none 0 0, .slice none 0 0, .int .u64 0, .int .u64 0, .int .u64 0, .int .u64 0, .slice none 0 0]) mq 2 (Nh vs 2 v) (Um w1 w' F []) w'
   have oe:=Nat.le_trans Dc Ga.size;exact Jp (v:=.pointer (some ⟨w1.heap.size,0,none⟩)) (w':=w1.alloc (.cells #[.int .u64 0, .int .i64 0, .int .i64 0, .slice none 0 0, .int .i64 0, .int .i64 0, .int .i64 0, .slice none 0 0, .slice none 0 0, .int .u64 0, .int .u64 0, .int .u64 0, .int .u64 0, .slice none 0 0] 35)) (by go_simp <;> rfl) ⟨Ru ((Below.refl _ _).alloc zR _) oe _ _,ru (Blk.new _ _ _) zR⟩
  ·refine yq [] rfl (by kernel_rfl) ?_
   intro w1 vs F Ga hd Dg;clear hd;unfold Rj;simp only [List.foldl];change Vi _ _ _ fun v w'=>sm _ w1 w' F [] /\ vf 35 (fun _=>#[.int .u64 0, .int .i64 0, .int .i64 0, .slice none 0 0, .int .i64 0, .int .i64 0, .int .i64 0, .slice none 0 0, .slice none 0 0, .int .u64 0, .int .u64 0, .int .u64 0, .int .u64 0, .slice none 0 0]) mq 3 (Nh vs 3 v) (Um w1 w' F []) w'
   have oe:=Nat.le_trans Dc Ga.size;exact Jp (v:=.pointer (some ⟨w1.heap.size,0,none⟩)) (w':=w1.alloc (.cells #[.int .u64 0, .int .i64 0, .int .i64 0, .slice none 0 0, .int .i64 0, .int .i64 0, .int .i64 0, .slice none 0 0, .slice none 0 0, .int .u64 0, .int .u64 0, .int .u64 0, .int .u64 0, .slice none 0 0] 35)) (by go_simp <;> rfl) ⟨Ru ((Below.refl _ _).alloc zR _) oe _ _,ru (Blk.new _ _ _) zR⟩
 intro wf vs F Qd hf Dg;have f2:vf 35 (fun _=>#[.int .u64 0, .int .i64 0, .int .i64 0, .slice none 0 0, .int .i64 0, .int .i64 0, .int .i64 0, .slice none 0 0, .slice none 0 0, .int .u64 0, .int .u64 0, .int .u64 0, .int .u64 0, .slice none 0 0]) mq 2 vs (F 2) wf /\ ∀ b,F 2 b -> b<wf.heap.size /\ _ <= b:=hf _ (.head _) (by decide)
 have f3:vf 35 (fun _=>#[.int .u64 0, .int .i64 0, .int .i64 0, .slice none 0 0, .int .i64 0, .int .i64 0, .int .i64 0, .slice none 0 0, .slice none 0 0, .int .u64 0, .int .u64 0, .int .u64 0, .int .u64 0, .slice none 0 0]) mq 3 vs (F 3) wf /\ ∀ b,F 3 b -> b<wf.heap.size /\ _ <= b:=hf _ (.tail _ (.head _)) (by decide)
 clear hf;unfold Rj;simp only [List.foldl];obtain ⟨⟨g2,e2,h2,k2⟩,b2⟩:=f2;have y2:=(b2 _ h2).2;obtain ⟨⟨g3,e3,h3,k3⟩,b3⟩:=f3;have y3:=(b3 _ h3).2;have UF:g2≠g3:=fun e=>Dg 2 3 _ (by decide) h2 (by rw [e];exact h3)
 simp only [e2,e3];clear b2 b3 e2 e3
 try dsimp only [Se]
 try dsimp only [mq]
 clear Dg ja;replace Qd:=ya.trans Qd;have ja:=(zb w8.heap.size).refl wf;obtain ⟨cz,fz⟩:=k2.cells';refine Nf ?_;refine Ug (zb w8.heap.size) rfl rfl rfl ?_;go_simp;have hg:=WM (w:=wf) (g:=g2) (.int .u64 L.p) (.int .i64 pu) (.int .i64 vars) (.slice A n c) (.int .i64 bl) (.int .i64 bw) (.int .i64 qs) (.slice B m d) (.slice B2 m2 d2) (.int .u64 seed) (.int .u64 al) (.int .u64 rho) (.int .u64 be) (.slice P np cp);replace k2:=VM k2 (.int .u64 L.p) (.int .i64 pu) (.int .i64 vars) (.slice A n c) (.int .i64 bl) (.int .i64 bw) (.int .i64 qs) (.slice B m d) (.slice B2 m2 d2) (.int .u64 seed) (.int .u64 al) (.int .u64 rho) (.int .u64 be) (.slice P np cp);replace k3:=k3.grown hg (fun e=>UF (Option.some.inj e).symm)
 refine ⟨Ff hg (by have:=Qd.size;omega) y2,?_⟩
 replace Qd:=Qd.trans (Ff hg Qd.size y2);clear hg cz fz ja
 try simp only [Act.put,zLa,zLb,zLc]
 generalize (((((((((((((World.setCell wf _ _).setCell _ _).setCell _ _).setCell _ _).setCell _ _).setCell _ _).setCell _ _).setCell _ _).setCell _ _).setCell _ _).setCell _ _).setCell _ _).setCell _ _).setCell _ _=wg at *;have ja:=(zb w8.heap.size).refl wg;obtain ⟨cz,fz⟩:=k3.cells';refine Nf ?_;refine Ug (zb w8.heap.size) rfl rfl rfl ?_;go_simp;have hg:=WM (w:=wg) (g:=g3) (.int .u64 L.p) (.int .i64 pu) (.int .i64 vars) (.slice A n c) (.int .i64 bl) (.int .i64 bw) (.int .i64 qs) (.slice B m d) (.slice B2 m2 d2) (.int .u64 seed) (.int .u64 al) (.int .u64 rho) (.int .u64 be) (.slice P np cp);replace k3:=VM k3 (.int .u64 L.p) (.int .i64 pu) (.int .i64 vars) (.slice A n c) (.int .i64 bl) (.int .i64 bw) (.int .i64 qs) (.slice B m d) (.slice B2 m2 d2) (.int .u64 seed) (.int .u64 al) (.int .u64 rho) (.int .u64 be) (.slice P np cp);replace k2:=k2.grown hg (fun e=>UF (Option.some.inj e))
 refine ⟨Ff hg (by have:=Qd.size;omega) y3,?_⟩
 replace Qd:=Qd.trans (Ff hg Qd.size y3);clear hg cz fz ja
 try simp only [Act.put,zLa,zLb,zLc]
 generalize (((((((((((((World.setCell wg _ _).setCell _ _).setCell _ _).setCell _ _).setCell _ _).setCell _ _).setCell _ _).setCell _ _).setCell _ _).setCell _ _).setCell _ _).setCell _ _).setCell _ _).setCell _ _=wh at *;have ja:=(zb w8.heap.size).refl wh;refine Nf ?_;refine Fc ?_;clear ja cb lb;clear ya Dc Na;have kbx:=ia kb Qd;have cb:=kbx.cell;have lb:=kbx.lt;have hgz:W.heap.size≠g2:=by omega
 have hgz2:g2≠W.heap.size:=by omega
 go_upto_region 8 with fail
 refine Rc (jn g2) [7,9] [0,1,2,3,4,5,6,7,8,9] (by kernel_rfl) (by kernel_rfl) ?_
 refine vd (Zo g2) ?_;intro Wc Na ja;have ya:=Cc Na;replace k2:=ia k2 ya;replace k3:=ia k3 ya;replace Qd:=oa Qd ya;clear ya;obtain ⟨cz,fz⟩:=k2.cells';refine Oz ?_;refine Ug (Zo g2) rfl rfl rfl ?_;go_simp;have hg:=qv (w:=Wc) g2 7 (.slice B2 m2 d2);refine ⟨hg,?_⟩;replace k2:=k2.set_ 7 (.slice B2 m2 d2);replace k3:=k3.grown hg (fun e=>UF (Option.some.inj e).symm)
 replace Qd:=Qd.trans (Ff hg Qd.size y2);clear hg cz fz kbx
 try simp only [Act.put,zLa,zLb,zLc] at k2 |-
 generalize World.setCell Wc _ _=wi at *;obtain ⟨cz,fz⟩:=k2.cells';refine Oz ?_;refine Ug (Zo g2) rfl rfl rfl ?_;go_simp;have hg:=qv (w:=wi) g2 8 (.slice B m d);refine ⟨hg,?_⟩;replace k2:=k2.set_ 8 (.slice B m d);replace k3:=k3.grown hg (fun e=>UF (Option.some.inj e).symm)
 replace Qd:=Qd.trans (Ff hg Qd.size y2);clear hg cz fz
 try simp only [Act.put,zLa,zLb,zLc] at k2 |-
 generalize World.setCell wi _ _=wj at *;refine Oz ?_;refine Fc ?_;clear ja cb lb;have kbx:=ia kb Qd;have cb:=kbx.cell;obtain ⟨cz,fz⟩:=k3.cells';have hgz3:W.heap.size≠g3:=by omega
 have hgz4:g3≠W.heap.size:=by omega
 go_upto_region 9 with fail
 go_upto_region 10 with fail
 have hg:=qv (w:=wj) g3 8 (.slice B m d);replace k3:=k3.set_ 8 (.slice B m d);replace k2:=k2.grown hg (fun e=>UF (Option.some.inj e))
 replace Qd:=Qd.trans (Ff hg Qd.size y3);clear hg cz fz kbx cb
 try simp only [Act.put,zLa,zLb,zLc] at k3 |-
 generalize World.setCell wj _ _=wk at *;replace kb:=ia kb Qd;replace kc:=ia kc Qd;replace kd:=ia kd Qd;replace da:=oa da Qd;replace dc:=oa dc Qd;replace r0:=Gb Qd r0;replace r1:=ta Qd r1;replace r2:=ta Qd r2;replace r3:=ta Qd r3;replace r4:=ta Qd r4;replace s0:=Gb Qd s0;replace s1:=ta Qd s1;replace s2:=ta Qd s2;replace s3:=ta Qd s3;replace s4:=ta Qd s4;clear Qd hgz hgz2 hgz3 hgz4 Of y2 y3 kb;have yo:=k2.cell;have cd:=kd.cell;go_wp2_with fail
 refine (Uj.out _ _ _ _ _ _ _ _ _ _ _ _ _ _ _ _ dc s0 s1 s2 s3 s4).mono ?_;rintro e wl ⟨⟨G0,G1,G2,G3,G4,j0,j1,j2,j3,j4,i0,i1,i2,i3,i4,rfl,t0,t1,t2,t3,t4⟩,ea⟩;replace k3:=ia k3 ea;replace kc:=ia kc ea;replace da:=oa da ea;replace dc:=oa dc ea;replace r0:=Gb ea r0;replace r1:=ta ea r1;replace r2:=ta ea r2;replace r3:=ta ea r3;replace r4:=ta ea r4;clear ea Uj yo cd k2 kd s0 s1 s2 s3 s4;go_upto_region 11 with fail
 have kf:=Blk.new wl 42 #[.slice G0 j0 i0, .slice G1 j1 i1, .slice G2 j2 i2, .slice G3 j3 i3, .slice G4 j4 i4];have ma:=(Below.refl wl.heap.size wl).alloc zR (.cells #[.slice G0 j0 i0, .slice G1 j1 i1, .slice G2 j2 i2, .slice G3 j3 i3, .slice G4 j4 i4] 42);replace k3:=ia k3 ma;replace kc:=ia kc ma;replace da:=oa da ma;replace dc:=oa dc ma;replace r0:=Gb ma r0;replace r1:=ta ma r1;replace r2:=ta ma r2;replace r3:=ta ma r3;replace r4:=ta ma r4;replace t0:=Gb ma t0;replace t1:=ta ma t1;replace t2:=ta ma t2;replace t3:=ta ma t3;replace t4:=ta ma t4;clear ma;generalize wl.alloc _=wm at k3 kc kf da dc r0 r1 r2 r3 r4 t0 t1 t2 t3 t4 |-;generalize wl.heap.size=gf at kf |-;have c3':=k3.cell;have cc:=kc.cell;go_wp2_with fail
 refine (Vm.out _ _ _ _ _ _ _ _ _ _ _ _ _ _ _ _ dc r0 r1 r2 r3 r4).mono ?_;rintro e wn ⟨⟨H0,H1,H2,H3,H4,l0,l1,l2,l3,l4,o0,o1,o2,o3,o4,rfl,z0,z1,z2,z3,z4⟩,ea⟩;replace kc:=ia kc ea;replace kf:=ia kf ea;replace da:=oa da ea;replace r0:=Gb ea r0;replace r1:=ta ea r1;replace r2:=ta ea r2;replace r3:=ta ea r3;replace r4:=ta ea r4;replace t0:=Gb ea t0;replace t1:=ta ea t1;replace t2:=ta ea t2;replace t3:=ta ea t3;replace t4:=ta ea t4;clear ea Vm c3' cc k3 dc;go_upto_region 12 with fail
 have kh:=Blk.new wn 42 #[.slice H0 l0 o0, .slice H1 l1 o1, .slice H2 l2 o2, .slice H3 l3 o3, .slice H4 l4 o4];have ma:=(Below.refl wn.heap.size wn).alloc zR (.cells #[.slice H0 l0 o0, .slice H1 l1 o1, .slice H2 l2 o2, .slice H3 l3 o3, .slice H4 l4 o4] 42);replace kc:=ia kc ma;replace kf:=ia kf ma;replace da:=oa da ma;replace r0:=Gb ma r0;replace r1:=ta ma r1;replace r2:=ta ma r2;replace r3:=ta ma r3;replace r4:=ta ma r4;replace t0:=Gb ma t0;replace t1:=ta ma t1;replace t2:=ta ma t2;replace t3:=ta ma t3;replace t4:=ta ma t4;replace z0:=Gb ma z0;replace z1:=ta ma z1;replace z2:=ta ma z2;replace z3:=ta ma z3;replace z4:=ta ma z4;clear ma;generalize wn.alloc _=wo at kc kf kh da r0 r1 r2 r3 r4 t0 t1 t2 t3 t4 z0 z1 z2 z3 z4 |-;generalize wn.heap.size=gh at kh |-;have cc:=kc.cell;have cf:=kf.cell;go_wp2_with fail
 refine (HSA.out _ _ _ _ _ _ _ _ _ _ _ _ _ _ _ _ _ _ _ _ _ _ _ _ _ _ _ _ _ _ _ _ _ _ _ _ t0 t1 t2 t3 t4 r0 r1 r2 r3 r4).mono ?_;rintro e wp' ⟨rfl,ea⟩;replace kc:=ia kc ea;replace kh:=ia kh ea;replace da:=oa da ea;replace r0:=Gb ea r0;replace r1:=ta ea r1;replace r2:=ta ea r2;replace r3:=ta ea r3;replace r4:=ta ea r4;replace z0:=Gb ea z0;replace z1:=ta ea z1;replace z2:=ta ea z2;replace z3:=ta ea z3;replace z4:=ta ea z4;clear ea cc cf kf t0 t1 t2 t3 t4;have cc:=kc.cell;have ch:=kh.cell;go_wp2_with fail
 refine (HSA.out _ _ _ _ _ _ _ _ _ _ _ _ _ _ _ _ _ _ _ _ _ _ _ _ _ _ _ _ _ _ _ _ _ _ _ _ z0 z1 z2 z3 z4 r0 r1 r2 r3 r4).mono ?_;rintro e wq ⟨rfl,ea⟩;replace da:=oa da ea;clear ea;go_wp2;go_ret
 exact ⟨rfl,da⟩
end Go.Proofs.YtgeofabpinfcmaaGreat
namespace Go.Proofs.YtgeofabpinfcmaaGreat.explainBack
open Go.ChangeShapes Go.WideShapes Go.ChangeAt Go.RowKit
open Go.ChangeMaps (open_string shut_string)

theorem own:ownKnob Tryz.prog.godebug=none:=by kernel_rfl
theorem laidOut:laidOutB Tryz.prog=true:=by kernel_rfl
theorem lifted (os:Os) (started:os.Started) (H:Type) (enc:TypeId × Value -> H) :
  ReturnsInHanded {} Tryz.checked os 4 .any (Rows.explainBackSpec.pre6 enc Tryz.prog Tryz.f4 Rows.explainBackRow.domain false) (Rows.explainBackSpec.post enc Tryz.prog Tryz.f4 false true false false):=by
 refine returnsInHanded_of_change (C:=Tryz.checked) own started (by kernel_rfl) Tryz.func4
  (ChangeSpec.witness6 (enc:=enc) (C:=Tryz.checked) false ⟨#[],#[.agg #[.int .u64 0, .int .i64 0, .int .i64 0, .slice none 0 0, .int .i64 0, .int .i64 0, .int .i64 0, .slice none 0 0, .slice none 0 0, .int .u64 0, .int .u64 0, .int .u64 0, .int .u64 0, .slice none 0 0]],[]⟩ 12 (by kernel_rfl) (by kernel_rfl) (by kernel_rfl) (by kernel_rfl)) ?_
 intro W base args ds gs before wt hW hcnd _;have Lj:∀ (j:Nat) t v,Tryz.f4.params[j]?=some t -> args[j]?=some v -> Value.okWide Tryz.prog W .any base t v:=wt;have DB:=hW;obtain ⟨p,q,Ps,hV,rfl,hfz,hnd⟩:=hW;have hA:DataW.TrodAll enc Tryz.prog W 0 (fun _=>true) true Tryz.f4.params.toList args.toList ds p:=Ps
 rw [Tryz.params4] at hA Lj;obtain ⟨v0,vs0,d0,ds0,p0,q0,BK,rfl,rfl,h0,r0⟩:=trodAll_cons hA;obtain ⟨rfl,rfl,rfl⟩:=trodAll_nil r0;obtain rfl:args=#[v0]:=by cases args;simp_all
 obtain ⟨rfl,rfl⟩:=trodVars_none hV;have GC:∀ x∈p0,x.block<W.heap.size:=by obtain ⟨m,hm⟩:=h0;exact DataW.trod_lt m _ _ _ hm
 have k0:=h0;obtain ⟨ze,rfl,z0⟩:=okWide_struct Tryz.underlying35 (Lj 0 35 v0 rfl rfl);clear Ps wt;refine (gW W ze (Fits.of_trod k0)).mono fun e W' ⟨he,so⟩=>?_
 subst he;exact ⟨_,rfl,_,_,_,[],_,[],DB,trodAll_mk1 (shut_bool Tryz.underlying4 _),(trodAll_cons_mk (Below.trod laidOut (by kernel_rfl) (of_decide_eq_true (by kernel_rfl)) k0 so GC) trodAll_mk0),rfl,so.frame _,fun h=>by cases h⟩
theorem j1:(Rows.explainBackRow.wf (OpenSpec.ofChange Rows.explainBackSpec))=true:=by kernel_rfl
theorem j2:(laidOutB Tryz.pinned.checked.prog)=true:=by kernel_rfl
theorem j3:(mapsRowed Tryz.pinned.checked.prog)=true:=by kernel_rfl
theorem j4:(Tryz.f4.params.all (Tryz.pinned.checked.prog.readableRec ·))=true:=by kernel_rfl
theorem j5:(namedTie Tryz.pinned.checked.prog Rows.explainBackRow.named Rows.explainBackSpec.vars)=true:=by kernel_rfl
theorem j6:((Rows.explainBackRow.stops == []))=true:=by kernel_rfl
theorem j7:((Tryz.pinned.checked.prog.stops == []))=true:=by kernel_rfl
theorem j8:((Rows.explainBackRow.knobs == []))=true:=by kernel_rfl
theorem j9:((Tryz.pinned.checked.prog.stopKnobs == []))=true:=by kernel_rfl
theorem j10:((Rows.explainBackRow.inPlace == Tryz.pinned.checked.prog.inPlace 4))=true:=by kernel_rfl
theorem j11:((Rows.explainBackRow.unfollowed == Tryz.pinned.checked.prog.unfollowed 4))=true:=by kernel_rfl
theorem j12:((Rows.explainBackRow.recurses == Tryz.pinned.checked.prog.recurses 4))=true:=by kernel_rfl
theorem j13:((Rows.explainBackRow.named == Tryz.pinned.checked.prog.varsNamed 4))=true:=by kernel_rfl
theorem j14:((Rows.explainBackRow.maps == (Tryz.f4.params.toList++Rows.explainBackSpec.plain.varTypes Tryz.pinned.checked.prog).any (Tryz.pinned.checked.prog.mapsRec ·)))=true:=by kernel_rfl
theorem j15:((Rows.explainBackRow.ifaces == (Tryz.f4.params.toList++Rows.explainBackSpec.plain.varTypes Tryz.pinned.checked.prog).any (Tryz.pinned.checked.prog.ifacesRec ·)))=true:=by kernel_rfl
theorem j16:((Rows.explainBackRow.mapsOut == Tryz.pinned.checked.prog.mapsAmong Tryz.f4.resultTypes.toList))=true:=by kernel_rfl
theorem j17:((Rows.explainBackRow.loops == (Tryz.f4.params.toList++Rows.explainBackSpec.plain.varTypes Tryz.pinned.checked.prog).any (Tryz.pinned.checked.prog.loopsFrom ·)))=true:=by kernel_rfl
theorem j18:((Rows.explainBackRow.wideKeys == (Tryz.f4.params.toList++Rows.explainBackSpec.plain.varTypes Tryz.pinned.checked.prog++Tryz.f4.resultTypes.toList).any (Tryz.pinned.checked.prog.wideKeysFrom ·)))=true:=by kernel_rfl
theorem j19:(Rows.explainBackSpec.vars.all (Tryz.pinned.checked.prog.varReadable ·))=true:=by kernel_rfl
theorem j20:(Tryz.f4.resultTypes.all (fun t=>Tryz.pinned.checked.prog.readableRec t&&decide (t<Tryz.pinned.checked.prog.types.size)))=true:=by kernel_rfl
theorem j21:((Rows.explainBackRow.ifacesOut == Tryz.f4.resultTypes.toList.any (Tryz.pinned.checked.prog.ifacesRec ·)))=true:=by kernel_rfl
theorem j22:((Rows.explainBackRow.loopsOut == Tryz.f4.resultTypes.toList.any (Tryz.pinned.checked.prog.loopsFrom ·)))=true:=by kernel_rfl
theorem j23:((Rows.explainBackRow.plainKeys == Tryz.pinned.checked.prog.plainKeys))=true:=by kernel_rfl
theorem j24:(Rows.explainBackRow.shortTexts.isNone)=true:=by kernel_rfl
theorem j25:(Tryz.pinned.checked.prog.stopsHeard)=true:=by kernel_rfl
theorem j26:(Tryz.pinned.checked.prog.mayEnter)=true:=by kernel_rfl
theorem j27:((Rows.explainBackRow.lifted == Tryz.pinned.checked.prog.liftsFinal))=true:=by kernel_rfl
theorem j28:((Tryz.pinned.checked.prog.make == some Rows.explainBackRow.make))=true:=by kernel_rfl
theorem j29:((Rows.explainBackRow.kinds == (if Rows.explainBackRow.domain.isEmpty then [] else Tryz.f4.params.toList.map fun t=>match Tryz.pinned.checked.prog.underlying t with | some (.int k)=>some k | _=>none)))=true:=by kernel_rfl
theorem j30:((Rows.explainBackRow.pinned == Rows.explainBackRow.pinnedBy))=true:=by kernel_rfl
theorem j31:((Rows.explainBackRow.veiled == (Tryz.f4.params.toList++Rows.explainBackSpec.plain.varTypes Tryz.pinned.checked.prog++Tryz.f4.resultTypes.toList).any (Tryz.pinned.checked.prog.veiledRec ·)))=true:=by kernel_rfl
theorem j32:(Rows.explainBackRow.veiledFits Tryz.pinned.checked.prog Tryz.f4.params.toList (Tryz.f4.params.toList++Rows.explainBackSpec.plain.varTypes Tryz.pinned.checked.prog++Tryz.f4.resultTypes.toList))=true:=by kernel_rfl
theorem over:Rows.explainBackRow.holds Tryz.pinned (OpenSpec.ofChange Rows.explainBackSpec) :=
 OpenClaim.holds_of_wide 4 Tryz.f4 rfl rfl rfl rfl rfl rfl rfl ⟨rfl,rfl,rfl,rfl,rfl⟩ rfl rfl rfl rfl rfl (by kernel_rfl) Tryz.func4 (GH j1 j2 j3 j4 j5 j6 j7 j8 j9 j10 j11 j12 j13 j14 j15 j16 j17 j18 j19 j20 j21 j22 j23 j24 j25 j26 j27 j28 j29 j30 j31 j32)
  (of_decide_eq_true (by kernel_rfl)) (by unfold Func.isWrapper;first | (rw [if_pos (by decide +kernel)];kernel_rfl) | (rw [if_neg (by decide +kernel)];exact ⟨rfl,rfl⟩))
  (fun os started H enc _=>lifted os started H enc)
theorem proved:Rows.ExplainBackSaid:=over
#print axioms proved
end Go.Proofs.YtgeofabpinfcmaaGreat.explainBack
