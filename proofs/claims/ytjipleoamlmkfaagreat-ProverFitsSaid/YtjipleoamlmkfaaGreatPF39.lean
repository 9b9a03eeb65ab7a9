/- A part of the proof. No condition. -/
import Derived.Test.YtjipleoamlmkfaaGreatProg
import Derived.Test.YtjipleoamlmkfaaGreatPF38

set_option maxRecDepth 100000
set_option maxHeartbeats 8000000
set_option linter.unusedVariables false
set_option linter.unusedSimpArgs false
namespace Go.Proofs.YtjipleoamlmkfaaGreat
open Go.RowKit Go.Maps
theorem uJ {w:World} {g:Nat} {O:La} {F:Nat -> Prop} (h:OrcAt w g O F) (L:Va) (hL:Vc L) (p:Nat) (pub vars:Int) (T B:Option Addr) (R cT m d:Nat) (rows:List Ya) (l:List Nat) (hr:RSl 3 Md w [.slice T R cT] rows) (hD:Du p pub vars rows) (Ia:Gb p pub vars rows=true)
  (hl:RWd w [.slice B m d] l) (hO:Qc O 1000000) (hm:l.length <= 90000) :
  Calls Tryz.prog 37 #[.pointer (some ⟨g,0,none⟩), .agg (Ua L),Ib p pub vars (.slice T R cT), .slice B m d] w fun e w' =>
   e= .returned (.agg #[.int .u64 ((ef O L (pd p pub vars rows) l).st:Int), .int .u64 0]) /\ ∃ F',OrcAt w' g (ef O L (pd p pub vars rows) l).O F' /\ Moved F F' w w':=by
 obtain ⟨kl,kt,kr,aa,Ra⟩:=Bl w 68 25 96 (Ua L) #[.int .u64 p, .int .i64 pub, .int .i64 vars, .slice T R cT] #[.int .u64 0, .int .u64 0];have HDg:=zH (fun w1 (hb:Below w.heap.size w w1)=>gQ p pub vars T R cT rows w1 (Le fq _ _ _ _ hb hr) hD Ia)
 obtain ⟨Bh,sr,hmx2,zi,yp⟩:=zb hl;obtain ⟨dg,To⟩:=zEX (pd p pub vars rows);have hdl:dg<18446744073709551616:=by rw [To];exact gM _ _ _ _
 rw [<- To] at HDg |-;have b1:=hL.b2;have b2:=hL.n2;have b3:=hL.q2;have z1:IntKind.u64.wrap (L.block:Int)=(L.block:Int):=by rw [IntKind.wrap_u64];omega
 have z2:IntKind.u64.wrap (L.n:Int)=(L.n:Int):=by rw [IntKind.wrap_u64];omega
 have z3:IntKind.u64.wrap (L.queries:Int)=(L.queries:Int):=by rw [IntKind.wrap_u64];omega
 have yk:=zH (show ∀ x∈dg :: L.block :: L.n :: L.queries :: l,x<18446744073709551616 from Nj hdl (Nj (by omega) (Nj (by omega) (Nj (by omega) zi))))
 have Qe:=zH (show (dg :: L.block :: L.n :: L.queries :: l).length <= 100000 by simp;omega)
 have Dm:=zH yp;have Hj:=zH h;have HO:=zH hO;obtain ⟨S',yt⟩:∃ S',S'=ef O L dg l:=⟨_,rfl⟩;have Eg:=zH (show Kc O 18 (20 :: 1 :: dg :: L.block :: L.n :: L.queries :: l)=S'.st by rw [yt];rfl)
 have Em:=zH (show jc O 18 (20 :: 1 :: dg :: L.block :: L.n :: L.queries :: l)=S'.O by rw [yt];rfl)
 rw [<- yt];have hm':m <= 90000:=by omega
 have nF:∀ b,w.heap.size <= b -> ¬F b:=fun b hb e=>by have:=h.lt b e;omega
 have lr0:w.heap.size+2<w.heap.size+3:=Nat.lt_succ_self _;clear hl hO hm Bh sr hmx2 zi yp yt To hdl hr hD Ia b1 b2 b3 h Ra;unfold Ua Ib at *;go_enter Tryz.func37,Tryz.ntmps37
 go_upto_region 1 with fail
 generalize ((w.alloc _).alloc _).alloc _=w1 at kl kt kr aa |-;obtain ⟨NQ,Nd⟩:=zEX (w1.heap.size);have cl:=kl.cell;have ct:=kt.cell;have ll:=kl.lt;have lt:=kt.lt;have KR:=zH kr;have HB:=zH aa;clear kl kt kr aa Nd;refine Pc (Bb) [1,11] [0,2,3,4,5,6,7,8,9,10,1,11,12] (by kernel_rfl) (by kernel_rfl) ?_
 refine di (pa) ?_;intro Wc Ba da;have sc:=zH (show Below w.heap.size w Wc by rw [Ba.out];exact HB.out.drew)
 have fe:=zH (show Blk Wc _ _ _ by rw [Ba.out];exact KR.out.drew)
 clear Ba HB KR;refine Kb ?_;refine oc (pa) rfl rfl rfl (fun _=>by go_simp <;> rfl) ((HDg.out Wc sc.out).mono ?_)
 rintro e wD ⟨rfl,Aa⟩;refine ⟨_,rfl,Aa,?_⟩;replace da:=(pa).trans _ _ _ da (Aa);simp only [Act.put,zLa,zLb,zLc];replace sc:=zH (ja sc.out Aa);replace fe:=zH (fe.out.below Aa fe.out.lt);have hWD:=fe.out.lt;clear Aa;refine Kb ?_;refine de (pa) rfl rfl rfl ?_;go_simp;have ia:=(Below.refl wD.heap.size wD).alloc zR (.cells #[.int .u64 dg, .int .u64 L.block, .int .u64 L.n, .int .u64 L.queries] 22);have ma:=rJ wD dg L.block L.n L.queries 22;refine ⟨ia,?_⟩;replace da:=pa.trans _ _ _ da ia;replace sc:=zH (ja sc.out ia);replace fe:=zH (fe.out.below ia fe.out.lt)
 try simp only [Act.put,zLa,zLb,zLc]
 have bn:=ia.size;generalize wD.alloc _=wP at ia ma sc fe da bn |-;have hgA:=sc.out.size;refine Kb ?_;refine pc ?_;clear da cl ct ia;generalize wD.heap.size=gA at ma bn hWD |-;go_wp2_with fail
 refine (WS 20 wP).mono ?_;rintro e w3 ⟨rfl,Ga⟩;replace sc:=zH (ja sc.out Ga);replace fe:=zH (fe.out.below Ga fe.out.lt);replace ma:=db ma Ga zR;have AN:=Nat.le_trans bn Ga.size;have za:=Dm.out.below sc.out;clear Ga bn hgA;go_wp2_with (at_builtin;refine If rfl _ _ rfl Vi rfl ma rfl za (yg _) (by omega) (by omega) ?_)
 intro v' w4 YD Ha Ab;have Pa:=mh ma Ha (by omega)
 have Ok:=fe.out.below Pa hWD;have ao:=zH (sc.out.trans (Pa.mono (by omega)))
 have DN:=qz (l:=dg :: L.block :: L.n :: L.queries :: l) (Kr (c:=dg :: L.block :: L.n :: L.queries :: l) YD rfl) yk.out;have Js:∃ A' c',v'= .slice A' (4+m) c':=by obtain ⟨A',c',e,-⟩:=Tb YD;exact ⟨A',c',e⟩
 obtain ⟨Av,cv,rfl⟩:=Js;have Hs:=zH (CF (Hj.out.below ao.out) 20 0 1 Av (4+m) cv (dg :: L.block :: L.n :: L.queries :: l) DN Qe.out (by decide) (by decide) HO.out)
 have KR4:=zH Ok;have tf:=nF (w.heap.size+2) (Nat.le_add_right _ _);clear Pa DN YD ma za Ha Ab sc fe Ok AN;go_wp2_with fail
 refine Hs.out.mono ?_;rintro _ w5 ⟨rfl,F',h5,m5⟩;rw [Em.out] at h5;simp only [Eg.out];have k5:=KR4.out.moved m5 tf;have n5:=Me m5 KR4.out.lt tf;have hs5:=Kz (x:=.int .u64 S'.st) (y:=.int .u64 0) (gr:=w.heap.size+2) ((Ic (F:=F) ao.out).trans m5) (Nat.le_add_right _ _) h5 n5 k5;have hc5:=k5.cell;have hf5:=k5.frozen;clear h5 m5 k5;go_wp2_with fail
 obtain ⟨s1,s2,s3⟩:=hs5;generalize (w5.setCell _ _).setCell _ _=w6 at s1 s2 s3 |-;have c6:=s3.cell;clear hc5 hf5;exact bodyPost_ret (by simp [results,Tryz.results37,go_sem,c6]) rfl ⟨rfl,F',s1,s2⟩
end Go.Proofs.YtjipleoamlmkfaaGreat
