/- A part of the proof. No condition. -/
import Derived.Test.YtjipleoamlmkfaaGreatProg
import Derived.Test.YtjipleoamlmkfaaGreatPG44
import Derived.Test.YtjipleoamlmkfaaGreatPG33
import Derived.Test.YtjipleoamlmkfaaGreatPG45

set_option maxRecDepth 100000
set_option maxHeartbeats 8000000
set_option linter.unusedVariables false
set_option linter.unusedSimpArgs false
namespace Go.Proofs.YtjipleoamlmkfaaGreat
open Go.RowKit Go.Maps
def Ur (L:Va) (j pu:Nat) (vars:Int) (rows:List Ya) (ws:List Nat) (Ub:Nat):PvIn :=
 ⟨L,j,pu,pd L.p (pu:Int) vars rows,rows,ws,Ew L rows ws pu,Tn L Ub (L.a+L.b+L.b+L.b),af L.p Ub [1] L.k,af L.p Ub [2] (L.k+L.block-2),af L.p Ub [3] (L.block+2*L.queries-1),af Xa Ub [4] L.n⟩
theorem CG {p:Nat} {vars:Int} {ws:List Nat} (h:De p vars ws=true):(ws.length:Int)=vars /\ ws.getD 0 0=1 /\ (ws.all fun y=>decide (y<p))=true:=by
 unfold De at h;simp only [Bool.and_eq_true,Bool.not_eq_true',bne_eq_false_iff_eq] at h;exact ⟨h.1.1.1,by have:=h.1.2;omega,h.2⟩
theorem qQ {w:World} {g:Nat} {O:La} {F K:Nat -> Prop} (h:OrcAt w g O F) (L:Va) (j pu Ub:Nat) (vars:Int) (A B A0 A1 A2 A3 A4:Option Addr) (n c m d n0 c0 n1 c1 n2 c2 n3 c3 n4 c4:Nat) (rows:List Ya) (ws:List Nat) (bl bw qs:Int)
  (hL:Vc L) (hn:L.n=2^j) (fj:Lm L ⟨L.p,(pu:Int),vars,rows.length,bl,bw,qs⟩) (ht:L.a+3*L.b <= 40) (hT:kG L.p (pu:Int) vars rows ws true) (AR:World -> Prop) (hA:Hd K w AR) (hK:∀ b,K b -> b<w.heap.size /\ ¬F b)
  (hr:∀ u,AR u -> RSl 3 Md u [.slice A n c] rows) (hw:∀ u,AR u -> RWd u [.slice B m d] ws) (h0:∀ u,AR u -> Qd u [.slice A0 n0 c0] (Tn L Ub (L.a+L.b+L.b+L.b))) (h1:∀ u,AR u -> RWd u [.slice A1 n1 c1] (af L.p Ub [1] L.k)) (h2:∀ u,AR u -> RWd u [.slice A2 n2 c2] (af L.p Ub [2] (L.k+L.block-2))) (h3:∀ u,AR u -> RWd u [.slice A3 n3 c3] (af L.p Ub [3] (L.block+2*L.queries-1))) (h4:∀ u,AR u -> RWd u [.slice A4 n4 c4] (af Xa Ub [4] L.n)) (hO:Qc O 1000) :
  Calls Tryz.prog 10 #[.pointer (some ⟨g,0,none⟩),Ib L.p (pu:Int) vars (.slice A n c), .agg #[.int .i64 bl, .int .i64 bw, .int .i64 qs], .slice B m d, .agg #[.slice A0 n0 c0, .slice A1 n1 c1, .slice A2 n2 c2, .slice A3 n3 c3, .slice A4 n4 c4]] w fun e w' =>
   ∃ (S:PS) (F':Nat -> Prop),e= .returned (.tuple #[.agg (Jc ((Ur L j pu vars rows ws Ub).pr O) S), .int .i64 0]) /\ OrcAt w' g ((Ur L j pu vars rows ws Ub).oF O) F' /\ Moved F F' w w' /\ Hd (fun b=>w.heap.size <= b /\ b<w'.heap.size /\ ¬F' b) w' (fun u=>Xg u ((Ur L j pu vars rows ws Ub).pr O) S):=by
 obtain ⟨Cr,rj,hwp⟩:=CG hT.asg;exact rQ h (Ur L j pu vars rows ws Ub) vars A B A0 A1 A2 A3 A4 n c m d n0 c0 n1 c1 n2 c2 n3 c3 n4 c4 bl bw qs hL fj hn (XE hn hL.n2) hT.tab (YS hT.tab fj) (qT hT.tab) (YG hT.tab hT.small) rfl rfl AR hA hK hr hw h0 h1 h2 h3 h4 Cr rj hwp hT.sat (UG L Ub (by have:=nc hL.p;omega)) hO (by show L.a+L.b+L.b+L.b <= 1000;omega)
theorem oF_le (x:PvIn) (O:La) {k:Nat} (hn:x.L.n=2^x.dd) (h:Qc O k):Qc (x.oF O) (k+1+2*x.L.n+4+1+x.L.queries):=by
 have h1:Qc (x.t1 O).O (k+1):=Wl h 18 _;have h2:=x.o2_le O hn h1;have h3:Qc (x.t2 O).O (k+1+2*x.L.n+4):=PE h2 _ _ _;have h4:Qc (Zg (x.t2 O) 3 (x.all O)).O (k+1+2*x.L.n+4+1):=Wl h3 18 _;have h5:=Ox (lab:=19) (Rh (Zg (x.t2 O) 3 (x.all O)).st 0 x.L.queries) h4;rw [zI] at h5;exact h5
theorem AH {l:List (List Nat)} {B:Nat} (h:∀ r∈l,r.length <= B):l.flatten.length <= l.length*B:=by
 induction l with
 | nil=>simp
 | cons a r ih =>
  have h1:=h a (.head _);have h2:=ih fun r hr=>h r (.tail _ hr)
  simp only [List.flatten_cons,List.length_append,List.length_cons,Nat.succ_mul];omega
theorem qP (x:PvIn) (O:La) (hL:Vc x.L) (hn:x.L.n=2^x.dd) (hd:x.dd <= 10) (hm:x.m.length <= 1000):(oh (x.pr O)).length <= 1000000:=by
 have b1:=hL.nk;have b2:=hL.k;have b3:=hL.q2;have b4:=hL.b2;have hq:(x.pos O).length=x.L.queries:=EI _ _ _ _ (by omega)
 have h1:((x.pos O).map fun i=>x.cols.getD i []).flatten.length <= ((x.pos O).map fun i=>x.cols.getD i []).length*1003:=AH fun r hr=>by
  obtain ⟨i,-,rfl⟩:=List.mem_map.1 hr;by_cases hi:i<x.cols.length
  ·rw [x.cols_row _ (Bx [] hi)]
   omega
  ·rw [List.getD_eq_getElem?_getD,List.getElem?_eq_none (by omega)]
   simp
 have h2:((x.pos O).map fun i=>yj (x.tree O) i).flatten.length <= ((x.pos O).map fun i=>yj (x.tree O) i).length*100:=AH fun r hr=>by
  obtain ⟨i,-,rfl⟩:=List.mem_map.1 hr;have hs:(x.tree O).length=x.dd+1:=(aC _ _ _ (by rw [Dw,yE,x.cols_len,hn])).1
  rw [IB,List.length_map,List.length_range];omega
 rw [List.length_map,hq] at h1 h2;have h3:∀ al,(x.code al).length=x.L.k:=fun al=>by simp [PvIn.code]
 have h4:∀ rh,(x.lin rh).length=x.L.k+x.L.block-1:=fun rh=>by simp [PvIn.lin]
 have h5:∀ be,(x.quad be).length=2*x.L.k-1:=fun be=>by simp [PvIn.quad]
 show ([x.root O]++x.code (x.ch O).al++x.lin (x.ch O).rh++x.quad (x.ch O).be++((x.pos O).map fun i=>x.cols.getD i []).flatten++((x.pos O).map fun i=>x.l4.getD i 0)++((x.pos O).map fun i=>yj (x.tree O) i).flatten).length <= 1000000
 simp only [List.length_append,List.length_cons,List.length_nil,h3,h4,h5];rw [List.length_map,hq];omega
theorem dL (L:Va) (j pu Ub:Nat) (vars:Int) (rows:List Ya) (ws:List Nat) (O:La):uv L j pu ((Ur L j pu vars rows ws Ub).oF O) (pd L.p (pu:Int) vars rows) ((ws.drop 1).take pu) ((Ur L j pu vars rows ws Ub).pr O)=(Ur L j pu vars rows ws Ub).oF O:=by
 unfold uv;split
 ·exact (Ur L j pu vars rows ws Ub).again O
 ·rfl
end Go.Proofs.YtjipleoamlmkfaaGreat
namespace Go.Proofs.YtjipleoamlmkfaaGreat
open Go.RowKit Go.Maps
theorem bR (W:World) (Sh:Array Value) (f0:Fits Tryz.prog W 32 (Value.agg Sh).cells.toList) :
  Calls Tryz.prog 4 #[.agg Sh] W fun e W'=>e= .returned (.bool true) /\ Below W.heap.size W W':=by
 obtain ⟨p,pub,vars,A,B,n,c,m,d,rows,ws,bl,bw,qs,Ub,Fc,real,rfl,Pb,MH,cE⟩:=AP f0;clear f0;have aa:Below W.heap.size W (W.alloc (.cells #[.int .u64 p, .int .i64 pub, .int .i64 vars, .slice A n c, .int .i64 bl, .int .i64 bw, .int .i64 qs, .slice B m d, .int .u64 Ub, .bool real, .int .u64 Fc] 32)):=(Below.refl _ W).alloc zR _;have kc0:=Blk.new W 32 #[.int .u64 p, .int .i64 pub, .int .i64 vars, .slice A n c, .int .i64 bl, .int .i64 bw, .int .i64 qs, .slice B m d, .int .u64 Ub, .bool real, .int .u64 Fc];have HR:=zH (fun w' (hb:Below W.heap.size W w')=>BR p pub vars A B n c m d rows ws bl bw qs Ub Fc real w' (Le Ke _ _ _ _ hb Pb.rows) (ib hb Pb.ws) Pb.p)
 have HBg:=zH (fun w'=>zL p pub vars A B n c m d bl bw qs Ub real Fc w' cE)
 have Ms:=zH (QR real Fc cE);have il:=zH Pb;have HCN:=zH MH;have gm:=uj (zb Pb.ws).2.1 (zb Pb.ws).2.2.1;clear Pb MH cE;go_enter Tryz.func4,Tryz.ntmps4
 go_upto_region 1 with fail
 generalize W.alloc _=w0 at aa kc0 |-;have c0:=kc0.cell;go_wp2_with fail
 refine (HR.out _ aa).mono ?_;rintro e w1 ⟨⟨Hx,iE⟩,hb⟩;obtain ⟨y0,y1,y2,y3,y4,y5,y6,y7,y8,y9,Tc,b,s,rfl,hL⟩:=Hx;have Na:=ja aa hb;have kc:=ea kc0 hb;clear hb aa kc0 c0 HR;have Za:=Na.alloc Na.size (.cells #[.int .u64 y0, .int .i64 y1, .int .i64 y2, .int .i64 y3, .int .i64 y4, .int .i64 y5, .int .i64 y6, .int .i64 y7, .int .i64 y8, .int .i64 y9, .int .i64 Tc] 35);by_cases Ah:b=true /\ s=true
 rotate_left
 ·have hh:b=false \/ (b=true /\ s=false):=by cases b <;> cases s <;> simp at Ah |-
  clear hL iE Ah kc;rcases hh with rfl | ⟨rfl,rfl⟩
  all_goals
   go_wp2_with fail
   refine (aD _).mono ?_;rintro e w2 ⟨rfl,xa⟩;replace Za:=ja Za xa;go_wp2_with fail
   refine (aD _).mono ?_;rintro e w3 ⟨rfl,Ga⟩;go_wp2;go_ret
   exact ⟨rfl,ja Za Ga⟩
 obtain ⟨rfl,rfl⟩:=Ah;obtain ⟨L,Ia,fj,hn64,h40,hLL⟩:=hL rfl;have hT:=iE _ _ rfl;obtain ⟨rfl,rfl,rfl,rfl,rfl,rfl,rfl,rfl,rfl,rfl,rfl⟩:=rI hLL;obtain ⟨j,hj⟩:=Ia.n;obtain ⟨pu,rfl⟩:=Int.eq_ofNat_of_zero_le fj.pub;obtain rfl:L.p=p:=fj.p;have kl:=Blk.new w1 35 #[.int .u64 L.p, .int .i64 L.block, .int .i64 L.queries, .int .i64 L.k, .int .i64 L.n, .int .i64 L.secret, .int .i64 L.rows, .int .i64 L.a, .int .i64 L.b, .int .i64 L.b, .int .i64 L.b];have xw:=kc.alloc (.cells #[.int .u64 L.p, .int .i64 L.block, .int .i64 L.queries, .int .i64 L.k, .int .i64 L.n, .int .i64 L.secret, .int .i64 L.rows, .int .i64 L.a, .int .i64 L.b, .int .i64 L.b, .int .i64 L.b] 35);have HL:=zH Ia;have HF:=zH fj;have HT:=zH hT;have H40:=zH h40;have HJ:=zH hj;clear hLL hL iE Ia fj hn64 h40 hT hj Na kc;go_wp2_with fail
 generalize w1.alloc _=w2 at Za kl xw |-;generalize w1.heap.size=gl at kl |-;refine (aD _).mono ?_;rintro e w3 ⟨rfl,Ga⟩;replace kl:=ea kl Ga;replace xw:=ea xw Ga;replace Za:=ja Za Ga;clear Ga;go_upto_region 4 with fail
 have cc:=xw.cell;have lc:=xw.lt;have KL:=zH kl;have KC:=zH xw;have HB:=zH Za;clear kl xw Za;refine Pc (Bb) [1,3] [0,2,1,3,4,5] (by kernel_rfl) (by kernel_rfl) ?_
 refine bf (pa) ?_;intro Wc Ba da;have sc:=zH (show Below W.heap.size W Wc by rw [Ba.out];exact HB.out.drew)
 have Wg:=zH (show Blk Wc _ _ _ by rw [Ba.out];exact KL.out.drew)
 have ze:=zH (show Blk Wc _ _ _ by rw [Ba.out];exact KC.out.drew)
 clear Ba HB KL KC;refine Kb ?_;refine oc (pa) rfl rfl rfl (fun _=>by go_simp <;> rfl) ((HBg.out _).mono ?_)
 rintro e wA ⟨ga,F1,rfl,h1,hF1,Aa⟩;refine ⟨_,rfl,Aa,?_⟩;replace da:=(pa).trans _ _ _ da (Aa);simp only [Act.put,zLa,zLb,zLc];have Zc:=zH h1;have HFa:=zH (show ∀ b,F1 b -> W.heap.size<b /\ gl<b from fun b hb=>by have h:=hF1 b hb;have:=ze.out.lt;have:=Wg.out.lt;omega)
 replace sc:=zH (ja sc.out Aa);replace Wg:=zH (Wg.out.below Aa Wg.out.lt);replace ze:=zH (ze.out.below Aa ze.out.lt);clear h1 hF1 Aa;refine Kb ?_;refine oc (pa) rfl rfl rfl (fun _=>by go_simp <;> rfl) ((HBg.out _).mono ?_)
 rintro e wB ⟨gb,F2,rfl,h2,hF2,Aa⟩;refine ⟨_,rfl,Aa,?_⟩;replace da:=(pa).trans _ _ _ da (Aa);simp only [Act.put,zLa,zLb,zLc];have HO1:=zH (Zc.out.below Aa);have HF12:=zH (show ∀ b,F2 b -> ¬F1 b from fun b hb h=>by have:=hF2 b hb;have:=Zc.out.lt b h;omega)
 have HFb:=zH (show ∀ b,F2 b -> W.heap.size<b /\ gl<b from fun b hb=>by have h:=hF2 b hb;have:=ze.out.lt;have:=Wg.out.lt;omega)
 have po:=zH h2;replace sc:=zH (ja sc.out Aa);replace Wg:=zH (Wg.out.below Aa Wg.out.lt);replace ze:=zH (ze.out.below Aa ze.out.lt);clear h2 hF2 Aa Zc;refine Kb ?_;refine pc ?_;clear da cc lc;have HFs:=zH (fun w'=>rR L Ub w' HL.out HCN.out)
 unfold Ua at HFs;have cl:=Wg.out.cell;have cc:=ze.out.cell;go_wp2_with fail
 refine (HFs.out _).mono ?_;rintro e wC ⟨v0,v1,v2,v3,v4,nr,crs,rfl,o0,Ht,o1,o2,o3,o4,Qq⟩;have Ou:=zH (HO1.out.below Qq);have jq:=zH (po.out.below Qq);have Kk:=UG L Ub (by have:=nc HL.out.p;omega)
 obtain ⟨Qv,So,Nc,jf,vi⟩:=BA Kk;have hc4:=TG Kk;have Lb:=(nc HL.out.p).2;have zr:=rF Ht o0 zR zR;obtain ⟨A0,n0,c0,rfl⟩:=RSl.slc zr.here;obtain ⟨A1,c1,rfl,-⟩:=Tb o1;obtain ⟨A2,c2,rfl,-⟩:=Tb o2;obtain ⟨A3,c3,rfl,-⟩:=Tb o3;obtain ⟨A4,c4,rfl,-⟩:=Tb o4;have Na:=ja sc.out Qq;obtain ⟨K,hK⟩:∃ K:Nat -> Prop,K=fun b=>b<W.heap.size \/ (wB.heap.size <= b /\ b<wC.heap.size):=⟨_,rfl⟩
 have Lg:∀ b,b<W.heap.size -> K b:=fun b h=>by rw [hK];exact .inl h
 have mn:∀ b,wB.heap.size <= b -> b<wC.heap.size -> K b:=fun b h1 h2=>by rw [hK];exact .inr ⟨h1,h2⟩
 obtain ⟨AR,hAR⟩:∃ AR:World -> Prop,AR=fun u=>RSl 3 Md u [.slice A n c] rows /\ RWd u [.slice B m d] ws /\ Qd u [.slice A0 n0 c0] (Tn L Ub (L.a+L.b+L.b+L.b)) /\ RWd u [.slice A1 L.k c1] (af L.p Ub [1] L.k) /\ RWd u [.slice A2 (L.k+L.block-2) c2] (af L.p Ub [2] (L.k+L.block-2)) /\ RWd u [.slice A3 (L.block+2*L.queries-1) c3] (af L.p Ub [3] (L.block+2*L.queries-1)) /\ RWd u [.slice A4 L.n c4] (af Xa Ub [4] L.n):=⟨_,rfl⟩
 have hHA:Hd K wC AR:=fun u a=>by
  rw [hAR];exact ⟨OH (Le Ke) il.out.rows Na u (Us a Lg),OH zw il.out.ws Na u (Us a Lg),FN zr u (Us a fun b h=>mn b h.1 h.2),
   Fh (Yy o1 u (Us a fun b h=>mn b (o1.lt b h).1 (o1.lt b h).2)) fun y hy=>Nat.lt_trans (Nc.2 y hy) Lb,
   Fh (Yy o2 u (Us a fun b h=>mn b (o2.lt b h).1 (o2.lt b h).2)) fun y hy=>Nat.lt_trans (jf.2 y hy) Lb,
   Fh (Yy o3 u (Us a fun b h=>mn b (o3.lt b h).1 (o3.lt b h).2)) fun y hy=>Nat.lt_trans (vi.2 y hy) Lb,
   Fh (Yy o4 u (Us a fun b h=>mn b (o4.lt b h).1 (o4.lt b h).2)) fun y hy=>Ti (of_decide_eq_true (List.all_eq_true.1 hc4.2 y hy))⟩
 have Zk:=zH hAR;have HO1w:=zH (show ∀ b,F1 b -> b<wC.heap.size from Ou.out.lt)
 have HO2w:=zH (show ∀ b,F2 b -> b<wC.heap.size from jq.out.lt)
 have HKF:=zH (show ∀ b,K b -> b<wC.heap.size /\ ¬F1 b /\ ¬F2 b by
  rw [hK];intro b hb;have s:=Na.size;rcases hb with h | h
  ·exact ⟨by omega,fun e=>by have:=(HFa.out b e).1;omega,fun e=>by have:=(HFb.out b e).1;omega⟩
  ·exact ⟨h.2,fun e=>by have:=HO1.out.lt b e;omega,fun e=>by have:=po.out.lt b e;omega⟩)
 have HHA:=zH hHA;have ia:=(Below.refl wC.heap.size wC).alloc zR (.cells #[.slice A0 n0 c0, .slice A1 L.k c1, .slice A2 (L.k+L.block-2) c2, .slice A3 (L.block+2*L.queries-1) c3, .slice A4 L.n c4] 43);have k8:=Blk.new wC 43 #[.slice A0 n0 c0, .slice A1 L.k c1, .slice A2 (L.k+L.block-2) c2, .slice A3 (L.block+2*L.queries-1) c3, .slice A4 L.n c4];replace Wg:=zH (Wg.out.below Qq Wg.out.lt);replace ze:=zH (ze.out.below Qq ze.out.lt);replace sc:=zH (ja sc.out Qq);replace Wg:=zH (Wg.out.below ia Wg.out.lt);replace ze:=zH (ze.out.below ia ze.out.lt);replace sc:=zH (ja sc.out ia);replace Ou:=zH (Ou.out.below ia);replace jq:=zH (jq.out.below ia);have HHD:=zH (Mc HHA.out (vf ia));have HwC:=zH (show wC.heap.size <= (wC.alloc (.cells #[.slice A0 n0 c0, .slice A1 L.k c1, .slice A2 (L.k+L.block-2) c2, .slice A3 (L.block+2*L.queries-1) c3, .slice A4 L.n c4] 43)).heap.size from ia.size)
 clear ia Qq Na hK Lg mn hAR hHA o0 o1 o2 o3 o4 Ht zr Kk Qv So Nc jf vi hc4 Lb cl cc HFs HO1 po;go_upto_region 8 with fail
 generalize wC.alloc _=wD at Wg ze sc Ou jq HHD HwC k8 |-;have HKd:=zH (show ∀ b,K b -> b<wD.heap.size /\ ¬F1 b /\ ¬F2 b from fun b hb=>⟨Nat.lt_of_lt_of_le (HKF.out b hb).1 HwC.out,(HKF.out b hb).2⟩)
 have l8:=k8.lt;have n81:¬F1 wC.heap.size:=fun e=>by have:=HO1w.out _ e;omega
 have n82:¬F2 wC.heap.size:=fun e=>by have:=HO2w.out _ e;omega
 generalize wC.heap.size=g8 at k8 l8 n81 n82 |-;obtain ⟨x,hx⟩:=zEX (Ur L j pu vars rows ws Ub);obtain ⟨O,hO⟩:=zEX (Pn real Fc);rw [<- hO] at Ou jq Ms;have HX:=zH hx;have vt:∀ u,AR u -> _:=fun u h=>by rw [Zk.out] at h;exact h
 have rn:=fun (w':World) (g:Nat) (F:Nat -> Prop) (h:OrcAt w' g O F) (hA:Hd K w' AR) (hK:∀ b,K b -> b<w'.heap.size /\ ¬F b)=>qQ h L j pu Ub vars A B A0 A1 A2 A3 A4 n c m d n0 c0 L.k c1 (L.k+L.block-2) c2 (L.block+2*L.queries-1) c3 L.n c4 rows ws bl bw qs HL.out HJ.out HF.out H40.out HT.out AR hA hK (fun u h=>(vt u h).1) (fun u h=>(vt u h).2.1) (fun u h=>(vt u h).2.2.1) (fun u h=>(vt u h).2.2.2.1) (fun u h=>(vt u h).2.2.2.2.1) (fun u h=>(vt u h).2.2.2.2.2.1) (fun u h=>(vt u h).2.2.2.2.2.2) (Ih Ms.out.le (by omega))
 rw [<- hx] at rn;obtain ⟨P,hP⟩:=zEX (x.pr O);obtain ⟨OF,hOF⟩:=zEX (x.oF O);rw [<- hP,<- hOF] at rn;have HP:=zH hP;have HOF:=zH hOF;have xC:=zH (show Qc OF 700000 by
  rw [hOF];have Od:=HL.out.n2;have sp:=HL.out.q2;refine Ih (oF_le x O (by rw [hx];exact HJ.out) Ms.out.le) ?_
  rw [hx];show 0+1+2*L.n+4+1+L.queries <= 700000
  omega)
 unfold Ib Jc at rn;have HPV:=zH rn;clear rn hx hO vt hP hOF;have c8:=k8.cell;have cc:=ze.out.cell;have K8:=zH k8;clear k8;go_wp2_with fail
 refine (HPV.out _ _ _ Ou.out HHD.out fun b hb=>⟨(HKd.out b hb).1,(HKd.out b hb).2.1⟩).mono ?_
 rintro _ wE ⟨Sa,G1,rfl,Pd,Mn,Jd⟩;have s1:=Mn.size;have HG1:=zH (show ∀ b,G1 b -> ¬F2 b from fun b h e=>by
  rcases Mn.foot b h with h | h
  ·exact HF12.out b e h
  ·have:=jq.out.lt b e;omega)
 have nc1:¬F1 W.heap.size:=fun e=>by have:=(HFa.out _ e).1;omega
 have nl1:¬F1 gl:=fun e=>by have:=(HFa.out _ e).2;omega
 have nc2:¬F2 W.heap.size:=fun e=>by have:=(HFb.out _ e).1;omega
 have nl2:¬F2 gl:=fun e=>by have:=(HFb.out _ e).2;omega
 have HGf:=zH Mn.foot;have HG1L:=zH (show ∀ b,G1 b -> b<wE.heap.size from Pd.lt)
 have HGW:=zH (show ∀ b,G1 b -> W.heap.size <= b from fun b hb=>(Mn.foot b hb).elim (fun h=>Nat.le_of_lt (HFa.out b h).1) fun h=>by have:=sc.out.size;omega)
 have HDc:=zH ze.out.lt;have HDl:=zH Wg.out.lt;have HHE:=zH (Mc HHD.out (zl Mn fun b h=>(HKd.out b h).2.1))
 have uy:=zH (jq.out.moved Mn fun b h2 h1=>HF12.out b h2 h1)
 have mx:=zH Pd;have Ij:=zH Jd;have yo:=zH (ze.out.moved Mn nc1);have KL3:=zH (Wg.out.moved Mn nl1);have Uu:=zH (K8.out.moved Mn n81);have ym:=zH (cD sc.out Mn fun b hb=>Nat.le_of_lt (HFa.out b hb).1)
 have HDE:=zH s1;have HF2D:=zH (show ∀ b,F2 b -> b<wD.heap.size from jq.out.lt)
 clear Pd Mn Jd s1 c8 cc ze Wg K8 sc Ou jq HHD;have ia:=(Below.refl wE.heap.size wE).alloc zR (.cells #[.int .u64 P.root, .slice Sa.A1 Sa.n1 Sa.c1, .slice Sa.A2 Sa.n2 Sa.c2, .slice Sa.A3 Sa.n3 Sa.c3, .slice Sa.A4 Sa.n4 Sa.c4, .slice Sa.A5 Sa.n5 Sa.c5, .slice Sa.A6 Sa.n6 Sa.c6] 46);have k9:=Blk.new wE 46 #[.int .u64 P.root, .slice Sa.A1 Sa.n1 Sa.c1, .slice Sa.A2 Sa.n2 Sa.c2, .slice Sa.A3 Sa.n3 Sa.c3, .slice Sa.A4 Sa.n4 Sa.c4, .slice Sa.A5 Sa.n5 Sa.c5, .slice Sa.A6 Sa.n6 Sa.c6];have n92:¬F2 wE.heap.size:=fun e=>by have:=HF2D.out _ e;have:=HDE.out;omega
 have n91:¬G1 wE.heap.size:=fun e=>by have:=mx.out.lt _ e;omega
 have nG0:¬G1 W.heap.size:=fun e=>(HGf.out _ e).elim nc1 fun h=>by have:=ym.out.size;have:=yo.out.lt;have:=HDc.out;omega
 have nGl:¬G1 gl:=fun e=>(HGf.out _ e).elim nl1 fun h=>by have:=HDl.out;omega
 have HEF:=zH (show wE.heap.size <= (wE.alloc (.cells #[.int .u64 P.root, .slice Sa.A1 Sa.n1 Sa.c1, .slice Sa.A2 Sa.n2 Sa.c2, .slice Sa.A3 Sa.n3 Sa.c3, .slice Sa.A4 Sa.n4 Sa.c4, .slice Sa.A5 Sa.n5 Sa.c5, .slice Sa.A6 Sa.n6 Sa.c6] 46)).heap.size from ia.size)
 replace yo:=zH (yo.out.below ia yo.out.lt);replace KL3:=zH (KL3.out.below ia KL3.out.lt);replace Uu:=zH (Uu.out.below ia Uu.out.lt);replace ym:=zH (ja ym.out ia);replace mx:=zH (mx.out.below ia);replace uy:=zH (uy.out.below ia);replace HHE:=zH (Mc HHE.out (vf ia));replace Ij:=zH (Mc Ij.out (vf ia));clear ia;go_upto_region 9 with fail
 generalize wE.alloc _=wF at k9 HEF yo KL3 Uu ym mx uy HHE Ij |-;have c8:=Uu.out.cell;have cc:=yo.out.cell;have l83:=Uu.out.lt;have K9:=zH k9;clear k9;go_wp2_with fail
 refine (HPV.out _ _ _ uy.out HHE.out fun b hb=>⟨by have:=(HKd.out b hb).1;have:=HDE.out;have:=HEF.out;omega,(HKd.out b hb).2.2⟩).mono ?_
 rintro _ wG ⟨Sb,G2,rfl,Lb,ku,Ch⟩;have oo:=zH (mx.out.moved ku fun b h1 h2=>HG1.out b h1 h2)
 have zo:=zH (yo.out.moved ku nc2);have xl:=zH (KL3.out.moved ku nl2);have Jm:=zH (K9.out.moved ku n92);have ao:=zH (cD ym.out ku fun b hb=>Nat.le_of_lt (HFb.out b hb).1)
 have Pu:=zH (Mc Ij.out (zl ku fun b h e=>by have:=HF2D.out b e;have:=h.1;omega))
 have Jj:=zH Ch;have HFG:=zH ku.size;clear Lb ku Ch c8 cc yo KL3 Uu K9 ym mx uy HHE Ij HPV l83;have ia:=(Below.refl wG.heap.size wG).alloc zR (.cells #[.int .u64 P.root, .slice Sb.A1 Sb.n1 Sb.c1, .slice Sb.A2 Sb.n2 Sb.c2, .slice Sb.A3 Sb.n3 Sb.c3, .slice Sb.A4 Sb.n4 Sb.c4, .slice Sb.A5 Sb.n5 Sb.c5, .slice Sb.A6 Sb.n6 Sb.c6] 46);have k11:=Blk.new wG 46 #[.int .u64 P.root, .slice Sb.A1 Sb.n1 Sb.c1, .slice Sb.A2 Sb.n2 Sb.c2, .slice Sb.A3 Sb.n3 Sb.c3, .slice Sb.A4 Sb.n4 Sb.c4, .slice Sb.A5 Sb.n5 Sb.c5, .slice Sb.A6 Sb.n6 Sb.c6];have n11:¬G1 wG.heap.size:=fun e=>by have:=oo.out.lt _ e;omega
 replace zo:=zH (zo.out.below ia zo.out.lt);replace xl:=zH (xl.out.below ia xl.out.lt);replace Jm:=zH (Jm.out.below ia Jm.out.lt);replace ao:=zH (ja ao.out ia);replace oo:=zH (oo.out.below ia);replace Pu:=zH (Mc Pu.out (vf ia));replace Jj:=zH (Mc Jj.out (vf ia));clear ia;go_upto_region 10 with fail
 generalize wG.alloc _=wH at k11 zo xl Jm ao oo Pu Jj |-;have K11:=zH k11;clear k11;have hqs:=RJ oo.out (Nat.le_trans xC.out.1 (by omega))
 have HQ:=zH hqs;clear hqs;go_wp2_with fail
 refine HQ.out.mono ?_;rintro _ wI ⟨gq,rfl,hrq,Rq⟩;replace zo:=zH (zo.out.below Rq zo.out.lt);replace xl:=zH (xl.out.below Rq xl.out.lt);replace Jm:=zH (Jm.out.below Rq Jm.out.lt);replace K11:=zH (K11.out.below Rq K11.out.lt);replace ao:=zH (ja ao.out Rq);replace oo:=zH (oo.out.below Rq);replace Pu:=zH (Mc Pu.out (vf Rq));replace Jj:=zH (Mc Jj.out (vf Rq));clear Rq hrq HQ;have hag:=dL L j pu Ub vars rows ws O;rw [<- HX.out,<- HP.out,<- HOF.out] at hag;have HAG:=zH hag;obtain ⟨hwv,-,-⟩:=CG HT.out.asg;have hmw:=(zb il.out.ws).1;have sr:=(zb il.out.ws).2.1;have hpv0:(pu:Int)<vars:=HF.out.vars;have jj:pu<m:=by omega
 have hv6:pu<65536:=by
  have h:=HT.out.tab;unfold Gb at h;simp only [Bool.and_eq_true,Bool.not_eq_true',decide_eq_false_iff_not] at h;omega
 obtain ⟨e0,he0⟩:=zEX (1+pu);have e1:(1:Int)+(pu:Int)=(e0:Int):=by omega
 have e2:=zd e0;have e3:(1:Int) <= (e0:Int):=by omega
 have e4:(e0:Int) <= (d:Int):=by omega
 have e5:e0-1=pu:=by omega
 have HPB:=zH (fun u (h:RWd u [.slice B m d] ws)=>RB (k:=pu) (Jz h (t:=1) (by omega)) (by omega))
 obtain ⟨BP,Hv⟩:∃ BP,(if d=1 then B else Option.map (fun y:Addr=>y.add 1) B)=BP:=⟨_,rfl⟩
 rw [Hv] at HPB;have hBP2:(if d=1 then B else Option.map (fun x=>(⟨x.block,x.off+1,none⟩:Addr)) B)=BP:=Hv
 have HBP:=zH hBP2;have Hl:=fun (u:World) (h:OrcAt u ga OF G1) (hb:Below W.heap.size W u) (hp:Hd (fun b=>wD.heap.size <= b /\ b<wE.heap.size /\ ¬G1 b) u (fun v=>Xg v P Sa))=>aQ h L j HL.out HJ.out (XE HJ.out HL.out.n2) L.p pu vars A BP n c pu (d-1) rows ((ws.drop 1).take pu) P Sa (Le Ke _ _ _ _ hb il.out.rows) (YG HT.out.tab HT.out.small) HT.out.tab (HPB.out u (ib hb il.out.ws)) hp (fun b h=>h.2.2) xC.out (by omega)
 rw [hag] at Hl;unfold Ua Ib Jc at Hl;have HCh:=zH Hl;have HPg:=zH (fun u=>ZQ L u)
 unfold Ua at HPg;clear Hl hag Hv hBP2 he0 hpv0 hmw hwv;have cl:=xl.out.cell;have cc:=zo.out.cell;have c9:=Jm.out.cell;obtain ⟨NQ,Nd⟩:=zEX (wI.heap.size);have lq0:W.heap.size<NQ:=by rw [Nd];exact zo.out.lt
 have lql:gl<NQ:=by rw [Nd];exact xl.out.lt
 have lq9:wE.heap.size<NQ:=by rw [Nd];exact Jm.out.lt
 have ye:=zH Nd;have ng0:¬G1 W.heap.size:=nG0;have ngl:¬G1 gl:=nGl;clear Nd;go_upto_region 11 with fail
 refine jy (G1) (G1) (NQ) [2,16] [0,1,3,4,5,6,7,8,9,10,11,12,13,14,15,2,16] [] [] (by kernel_rfl) (List.forall_mem_nil _) (by kernel_rfl) ?_
 refine ly ?_;intro Wc Ba da;have Wa:Hid (xh G1 NQ G1 Wc):=zH (by rw [Ba.out,ye.out];exact ⟨zR,oo.out.lt,fun _ _ h=>h⟩)
 have qo:=zH (show OrcAt Wc ga OF G1 by rw [Ba.out];exact oo.out.drew)
 have Up:=zH (show Below W.heap.size W Wc by rw [Ba.out];exact ao.out.drew)
 have pq:=zH (Mc Pu.out (show Vf _ _ Wc by rw [Ba.out];exact XC))
 have Js:=zH (Mc Jj.out (show Vf _ _ Wc by rw [Ba.out];exact XC))
 have Km:=zH (show Blk Wc _ _ _ by rw [Ba.out];exact Jm.out.drew)
 have Im:=zH (show Blk Wc _ _ _ by rw [Ba.out];exact K11.out.drew)
 clear Ba oo ao Pu Jj Jm K11 xl zo;refine Pp ?_;rw [HBP.out];refine Cu (f:=?_) (vals:=?_) rfl rfl rfl Wa ?_ (fun wF Mb=>?_)
 rotate_left 3
 replace qo:=zH (qo.out.below Mb);replace Up:=zH (ja Up.out Mb);replace pq:=zH (Mc pq.out (vf Mb));replace Js:=zH (Mc Js.out (vf Mb));replace Km:=zH (Km.out.below Mb Km.out.lt);replace Im:=zH (Im.out.below Mb Im.out.lt);replace da:=(Cb G1 NQ).trans _ _ _ da (xf Mb Wa.out.size);replace Wa:=zH (Xi Wa.out Mb);refine (HPg.out wF).mono ?_
 rotate_left
 ·intro w_;go_simp <;> rfl
 rintro e wU ⟨rfl,Aa⟩;clear Mb;refine ⟨_,G1,rfl,Ic Aa,(qo.out.below Aa).lt,?_⟩;replace da:=(Cb G1 NQ).trans _ _ _ da (Fq Wa.out (Ic Aa));replace Wa:=zH (qt Wa.out (Ic Aa) ((qo.out.below Aa).lt));simp only [Act.put,zLa,zLb,zLc];replace qo:=zH (qo.out.below Aa);replace Up:=zH (ja Up.out Aa);replace pq:=zH (Mc pq.out (vf Aa));replace Js:=zH (Mc Js.out (vf Aa));replace Km:=zH (Km.out.below Aa Km.out.lt);replace Im:=zH (Im.out.below Aa Im.out.lt);clear Aa;refine Pp ?_;refine Cu (f:=?_) (vals:=?_) rfl rfl rfl Wa ?_ (fun wF Mb=>?_)
 rotate_left 3
 replace qo:=zH (qo.out.below Mb);replace Up:=zH (ja Up.out Mb);replace pq:=zH (Mc pq.out (vf Mb));replace Js:=zH (Mc Js.out (vf Mb));replace Km:=zH (Km.out.below Mb Km.out.lt);replace Im:=zH (Im.out.below Mb Im.out.lt);replace da:=(Cb G1 NQ).trans _ _ _ da (xf Mb Wa.out.size);replace Wa:=zH (Xi Wa.out Mb);refine (HCh.out wF qo.out Up.out pq.out).mono ?_
 rotate_left
 ·intro w_;go_simp <;> rfl
 rintro e wV ⟨Aq,dq,G3,rfl,h2,m2,ow2⟩;clear Mb;refine ⟨_,G3,rfl,m2,h2.lt,?_⟩;replace da:=(Cb G1 NQ).trans _ _ _ da (Fq Wa.out (m2));replace Wa:=zH (qt Wa.out (m2) (h2.lt));simp only [Act.put,zLa,zLb,zLc];have HO9:=zH h2;have HB9:=zH (cD Up.out m2 fun b hb=>HGW.out b hb)
 have yC:=zH (Mc pq.out (zl m2 fun b h=>h.2.2))
 have zC:=zH (Mc Js.out (zl m2 fun b h e=>by have:=HG1L.out b e;have:=HEF.out;have:=h.1;omega))
 have K99:=zH (Km.out.moved m2 n91);have cA:=zH (Im.out.moved m2 n11);clear h2 m2 ow2 qo Up pq Js Km Im;refine Pp ?_;refine ky [] rfl Wa (fun Jq wE Hc Bi=>?_)
 clear Bi;unfold sk
 try simp only [List.foldl]
 replace HO9:=zH (HO9.out.below Hc);replace HB9:=zH (ja HB9.out Hc);replace yC:=zH (Mc yC.out (vf Hc));replace zC:=zH (Mc zC.out (vf Hc));replace K99:=zH (K99.out.below Hc K99.out.lt);replace cA:=zH (cA.out.below Hc cA.out.lt);replace da:=(Cb G1 NQ).trans _ _ _ da (xf Hc Wa.out.size);replace Wa:=zH (Xi Wa.out Hc)
 try simp only [Act.put,zLa,zLb,zLc]
 refine Zn ?_;refine pc ?_;clear da cl cc c9 lq0 lql lq9;have Vz:=zH (show 0<OF.qs.length by
  have ha:=HO9.out.ok.ans;rw [HOF.out] at ha |-;exact x.some_asked O ha)
 have c9:=K99.out.cell;have c11:=cA.out.cell;go_upto_region 12 with fail
 have HNL:=zH (show (oh P).length <= 1000000 by
  rw [HP.out];refine qP x O (by rw [HX.out];exact HL.out) (by rw [HX.out];exact HJ.out) (by rw [HX.out];exact XE HJ.out HL.out.n2) ?_
  rw [HX.out];show (Ew L rows ws pu).length <= 1000
  rw [XI];have:=H40.out;omega)
 have tn:=fun (u:World) (h1:Xg u P Sa) (h2:Xg u P Sb)=>vS P Sa Sb u h1 h2 HNL.out
 unfold Jc at tn;have HSm:=zH tn;have d1:decide ((0:Int)<(OF.qs.length:Int))=true:=decide_eq_true (by have:=Vz.out;omega)
 have d3:decide (0<OF.qs.length)=true:=decide_eq_true Vz.out;have d2:((OF.qs.length:Int) == (OF.qs.length:Int))=true:=by simp
 clear tn;go_wp2_with fail
 refine (HSm.out _ (dj yC.out) (dj zC.out)).mono ?_;rintro e wY ⟨rfl,hbY⟩;replace HO9:=zH (HO9.out.below hbY);replace HB9:=zH (ja HB9.out hbY);clear hbY c9 c11;have hqs:=RJ HO9.out (Nat.le_trans xC.out.1 (by omega))
 have HQ:=zH hqs;clear hqs;go_wp2_with fail
 refine HQ.out.mono ?_;rintro _ wZ ⟨gq2,rfl,hrq,hbZ⟩;have HBZ:=zH (ja HB9.out hbZ);clear hbZ hrq HQ;go_wp2;go_ret
 exact ⟨rfl,HBZ.out⟩
end Go.Proofs.YtjipleoamlmkfaaGreat
