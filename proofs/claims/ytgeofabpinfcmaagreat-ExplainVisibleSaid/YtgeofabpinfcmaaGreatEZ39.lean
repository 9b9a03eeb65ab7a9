/- A part of the proof. No condition. -/
import Derived.Test.YtgeofabpinfcmaaGreatProg
import Derived.Test.YtgeofabpinfcmaaGreatEZ37
import Derived.Test.YtgeofabpinfcmaaGreatEZ38
import Derived.Test.YtgeofabpinfcmaaGreatEZ32

set_option maxRecDepth 100000
set_option maxHeartbeats 8000000
set_option linter.unusedVariables false
set_option linter.unusedSimpArgs false
namespace Go.Proofs.YtgeofabpinfcmaaGreat
open Go.RowKit
theorem O5 {ws vs:List Nat} {pu:Nat} {p q:List Nat} (h1:ws.take (1+pu)=1 :: p) (h2:vs.take (1+pu)=1 :: q):decide ((ws.drop 1).take pu=(vs.drop 1).take pu)=decide (ws.take (1+pu)=vs.take (1+pu)):=by
 have e1:(ws.drop 1).take pu=p:=by
  cases ws with
  | nil=>simp at h1
  | cons a l=>rw [Nat.add_comm,List.take_succ_cons] at h1;simp at h1;simpa using h1.2
 have e2:(vs.drop 1).take pu=q:=by
  cases vs with
  | nil=>simp at h2
  | cons a l=>rw [Nat.add_comm,List.take_succ_cons] at h2;simp at h2;simpa using h2.2
 rw [h1,h2,e1,e2];exact decide_eq_decide.2 (by simp)
def lJ (L:Ja) (pu rho al be:Nat) (vars:Int) (rows:List Cb) (ws vs:List Nat) (r:List (List Nat)) (co li qu sa:List Nat) (pos:List Int) (w:World) (E:Int) (e:Ending) (w':World):Prop :=
 (E≠0 /\ e= .returned (.tuple #[.agg #[.slice none 0 0, .slice none 0 0, .slice none 0 0, .slice none 0 0, .slice none 0 0], .int .i64 E])) \/
 (E=0 /\ ∃ v0 v1 v2 v3 v4,e= .returned (.tuple #[.agg #[v0,v1,v2,v3,v4], .int .i64 0]) /\
  RRx w.heap.size w' v0 (zd L (Ia L rows ws pu) r (Ia L rows vs pu) co li qu pos) /\ Jc w.heap.size none w' v1 (Zf L (Ia L rows ws pu) r (Ia L rows vs pu) co li qu pos al) /\
  Jc w.heap.size none w' v2 (Tf L (Tc L pu rho rows) (Ia L rows ws pu) r (Ia L rows vs pu) co li qu pos) /\ Jc w.heap.size none w' v3 (Uf L (Ia L rows ws pu) r (Ia L rows vs pu) co li qu pos be) /\ Jc w.heap.size none w' v4 sa)
theorem tR (L:Ja) (pu rho al be:Nat) (vars bl bw qs:Int) (A B B2 P D0 D1 D2 D3 D4:Option Addr) (R c m d m2 d2 np cp n0 n1 n2 n3 n4 k0 k1 k2 k3 k4:Nat) (rows:List Cb) (ws vs:List Nat) (r:List (List Nat)) (co li qu sa:List Nat) (pos:List Int) (w:World)
  (hL:Db L) (gg:tl L ⟨L.p,(pu:Int),vars,rows.length,bl,bw,qs⟩) (ht:dd L.p (pu:Int) vars rows=true) (hr:RSl 3 te w [.slice A R c] rows) (hw:RWd w [.slice B m d] ws) (hv:RWd w [.slice B2 m2 d2] vs) (hpos:qi w [.slice P np cp] pos)
  (h0:Sb w [.slice D0 n0 k0] r) (h1:RWd w [.slice D1 n1 k1] co) (h2:RWd w [.slice D2 n2 k2] li) (h3:RWd w [.slice D3 n3 k3] qu) (h4:RWd w [.slice D4 n4 k4] sa) (Xb:Ze L r co li qu sa=true) :
  Calls Tryz.prog 42 #[pc L.p (pu:Int) vars (.slice A R c), .agg #[.int .i64 bl, .int .i64 bw, .int .i64 qs], .slice B m d, .agg #[.slice D0 n0 k0, .slice D1 n1 k1, .slice D2 n2 k2, .slice D3 n3 k3, .slice D4 n4 k4], .slice B2 m2 d2, .agg #[.int .u64 al, .int .u64 rho, .int .u64 be], .slice P np cp] w fun e w'=>lJ L pu rho al be vars rows ws vs r co li qu sa pos w (ti L pu vars rows ws vs pos al rho be) e w' /\ Below w.heap.size w w':=by
 have hp:=Va hL.p;obtain ⟨f1,f2,f3,f4,f5⟩:=Pq Xb;have Sg:=hL.q2;have Ka:=hL.b2;have Ga:=hL.b1;have tg:=hL.k;have yn:L.a+L.b+L.b+L.b <= 400000:=by have:=hL.a;have:=hL.b;omega
 have IF:td sa L.n Kd=true:=by
  have e2:=Xb;unfold Ze at e2;simp only [Bool.and_eq_true] at e2;exact e2.2.2.2.2.2
 have EE:=zH (fun w' (hb:Below w.heap.size w w')=>(EY L.p (pu:Int) vars A R c rows bl bw qs w' (Kc Gc _ _ _ _ hb hr) ht).mono (fun e dh h=>(show e= .returned (.tuple #[.agg (Ya L), .int .i64 0]) /\ Below w'.heap.size w' dh from ⟨SQ h.1 gg,h.2⟩)))
 have Yj:=zH (fun w' (hb:Below w.heap.size w w')=>by
  have:=CL L D0 D1 D2 D3 D4 n0 k0 n1 k1 n2 k2 n3 k3 n4 k4 r co li qu sa w' hL (Gb hb h0) (ta hb h1) (ta hb h2) (ta hb h3) (ta hb h4);rw [Xb] at this;exact this)
 have HGp:=zH (fun w' (hb:Below w.heap.size w w')=>VW L P np cp pos w' (pf _ _ _ _ hb hpos))
 have HGc:=zH (fun w' (_:Below w.heap.size w w')=>UW L al rho be w')
 have ax:(pu:Int)<vars:=by
  have ht:=ht;simp only [dd,Bool.and_eq_true,Bool.not_eq_true',decide_eq_false_iff_not] at ht;omega
 have rj:=zH (fun w' (hb:Below w.heap.size w w')=>lP L.p (pu:Int) vars (.slice A R c) B m d ws w' (ta hb hw) (by omega))
 have Ev:=zH (fun w' (hb:Below w.heap.size w w')=>lP L.p (pu:Int) vars (.slice A R c) B2 m2 d2 vs w' (ta hb hv) (by omega))
 have Ym:=zH (fun (ha:Dd L.p vars ws=true) w' (hb:Below w.heap.size w w')=>by
  have:=wR L.p (pu:Int) vars A B R c m d rows ws w' (Kc Gc _ _ _ _ hb hr) (ta hb hw);rw [ht,ha,Bool.true_and,Bool.true_and] at this;exact this)
 have ql:=zH (fun (ha:Dd L.p vars vs=true) w' (hb:Below w.heap.size w w')=>by
  have:=wR L.p (pu:Int) vars A B2 R c m2 d2 rows vs w' (Kc Gc _ _ _ _ hb hr) (ta hb hv);rw [ht,ha,Bool.true_and,Bool.true_and] at this;exact this)
 have mm:=zH (fun (ha:Dd L.p vars ws=true)=>(show 1+pu <= m /\ 1+pu <= ws.length /\ (ws.length:Int)=vars from by have h5:=(Nq ha ax).1;have h6:=(Ra hw).1;omega))
 have jm:=zH (fun (ha:Dd L.p vars vs=true)=>(show 1+pu <= m2 /\ 1+pu <= vs.length /\ (vs.length:Int)=vars from by have h5:=(Nq ha ax).1;have h6:=(Ra hv).1;omega))
 have Oy:=PI ht gg;have CB:=UI ht;have HEq:=zH (fun (ha:Dd L.p vars ws=true) (hb:Dd L.p vars vs=true) w' (uc:Below w.heap.size w w')=>by
  obtain ⟨a1,-,p1,a3⟩:=Nq ha ax;obtain ⟨b1,-,p2,b3⟩:=Nq hb ax;obtain ⟨A1,e1,r1⟩:=EN (ta uc hw) 1 pu (by omega)
  obtain ⟨A2,e2,r2⟩:=EN (ta uc hv) 1 pu (by omega)
  have:=p4 _ _ _ _ _ _ _ _ w' r1 r2;rw [O5 a3 b3] at this;rw [<- e1,<- e2] at this;exact this)
 have hMO:Kg L (Ia L rows ws pu) r:=⟨Vk _ _ _ _,by rw [f1,Vk],fun _ hx=>qx hx,fun x hx=>(f2 x hx).1⟩
 have HMs:=zH (fun (Jm:(ws.length:Int)=vars) w' (hb:Below w.heap.size w w')=>uR L pu vars A B R c m d rows ws w' hL Oy (Kc Gc _ _ _ _ hb hr) (ta hb hw) Jm)
 have HAn:=zH (fun AM T cM w' (hb:Below w.heap.size w w') (hm:Sb w' [.slice AM T cM] (Ia L rows ws pu))=>qR L pu rho al be vars A AM D0 D1 D2 D3 D4 R c T cM n0 n1 n2 n3 n4 k0 k1 k2 k3 k4 rows _ r co li qu sa w' hL Oy (Kc Gc _ _ _ _ hb hr) CB hm (Gb hb h0) (ta hb h1) (ta hb h2) (ta hb h3) (ta hb h4) Xb (Vk _ _ _ _) (fun _ hx=>qx hx))
 have yp:=zH (fun AM T cM w' (hb:Below w.heap.size w w') (hm:Sb w' [.slice AM T cM] (Ia L rows ws pu))=>JX L D0 D1 D2 D3 D4 AM n0 n1 n2 n3 n4 T k0 k1 k2 k3 k4 cM _ r co li qu w' hL hm (Gb hb h0) (ta hb h1) (ta hb h2) (ta hb h3) (by rw [f1,Vk]) (fun _ hx=>qx hx) (fun x hx=>by have:=(f2 x hx).1;omega) (by rw [Vk];omega) (by omega) (by omega) (by omega))
 have HCn:=zH (fun w' (hb:Below w.heap.size w w')=>QJ D4 n4 k4 sa w' (ta hb h4) (by
  have e1:=(Ra h4).1;have e2:=IF;unfold td at e2;simp only [Bool.and_eq_true,decide_eq_true_eq] at e2;have e4:=hL.n2;omega))
 have Qz:Rq L (Pd L (Ia L rows ws pu) r co al) (Nc L (Tc L pu rho rows) (Ia L rows ws pu) r li) (pd L (Ia L rows ws pu) r qu be)=true:=xD hL hMO fw (by rw [zy,Vk]) f3 f4 f5.1 al be
 unfold Rq at Qz;simp only [Bool.and_eq_true,decide_eq_true_eq] at Qz;have Sr:=zH (fun (Jm:(vs.length:Int)=vars) (Bf:se L.n L.queries pos=true) S0 S1 S2 S3 S4 m0 m1 m3 m4 m5 e0 e1 e3 e4 e5 w' (hb:Below w.heap.size w w') g0 g1 g2 g3 g4=>YV L pu rho al be vars A B2 P S0 S1 S2 S3 S4 R c m2 d2 np cp m0 e0 m1 e1 m3 e3 m4 e4 m5 e5 rows vs _ _ _ _ _ pos w' hL Oy (Kc Gc _ _ _ _ hb hr) CB (ta hb hv) Jm (pf _ _ _ _ hb hpos) Bf (show RWd w' [.slice S0 m0 e0] (Pd L (Ia L rows ws pu) r co al) from g0) (show RWd w' [.slice S1 m1 e1] (Nc L (Tc L pu rho rows) (Ia L rows ws pu) r li) from g1) (show RWd w' [.slice S2 m3 e3] (pd L (Ia L rows ws pu) r qu be) from g2) (show Sb w' [.slice S3 m4 e4] (Ie L (Ia L rows ws pu) r co li qu pos) from g3) (by omega) (by omega) (by omega) (by simp [Ie]) (fun x hx=>by have:=VJ hL Bf x hx;rw [Vk] at this;exact this) (show RWd w' [.slice S4 m5 e5] sa from g4) IF)
 have Hk:=zH (show ∀ x∈sa,x<18446744073709551616 from (Ra h4).2.2.2.1)
 have Tz:=zH (show m <= d /\ m2 <= d2 /\ d <= maxLen /\ d2 <= maxLen from ⟨(Ra hw).2.1,(Ra hv).2.1,(Ra hw).2.2.1,(Ra hv).2.2.1⟩)
 have Sx:=zH (fun i (hi:i<pos.length)=>GO L (Ia L rows ws pu) r co li qu pos hi)
 have Cp:=zH (fun (Bf:se L.n L.queries pos=true) i (hi:i<pos.length)=>Fz Bf hi)
 have ni:=zH (fun (Bf:se L.n L.queries pos=true)=>Jr Bf)
 obtain ⟨CC,tw⟩:=zEX ((List.range L.n).map fun i=>(List.range ((Ia L rows ws pu).length+3)).map (Bg L (Ge L (Ia L rows ws pu) r co li qu) i))
 have Yn:=zH (show CC.length=L.n by rw [tw];simp)
 have Yt:=zH (show ∀ z (hz:z<CC.length),CC[z]=Hp L (Ia L rows ws pu) r co li qu (z:Int) from fun z hz=>by subst tw;simp [Hp])
 rw [<- tw] at yp;obtain ⟨CA,uu⟩:∃ CA:Nat -> List (List Nat),CA=fun i=>Ie L (Ia L rows ws pu) r co li qu (pos.take i):=⟨_,rfl⟩
 have Rx:=zH (show CA 0=[] by rw [uu];rfl)
 have mJ:=zH (show ∀ i,i<pos.length -> ∀ z (hz:z<CC.length),pos.getD i 0=(z:Int) -> CA i++[CC[z]]=CA (i+1) from fun i hi z hz he=>by
  rw [uu,Yt.out z hz,<- he];exact Sx.out i hi)
 have xG:=zH (show CA pos.length=Ie L (Ia L rows ws pu) r co li qu pos by rw [uu];show Ie L _ _ _ _ _ (pos.take pos.length)=_;rw [List.take_length])
 have Kl:pos.length=np:=by
  obtain ⟨A',n',c',he,r1,-⟩:=id hpos;simp at he
  obtain ⟨-,rfl,-⟩:=he;exact r1
 have HPI:=zH hpos;subst Kl;have HLn:=zH (show L.n <= 1024 /\ L.queries <= 64 from ⟨hL.n2,Sg⟩)
 obtain ⟨E,hE⟩:=zEX (ti L pu vars rows ws vs pos al rho be);rw [<- hE];unfold ti at hE;have HE:=zH hE;have bL:(pu:Int) <= 100000:=by
  have ht:=ht;simp only [dd,Bool.and_eq_true,Bool.not_eq_true',decide_eq_false_iff_not] at ht;omega
 obtain ⟨bs,Ji⟩:=zEX (decide (ws.take (1+pu)=vs.take (1+pu)));rw [<- Ji] at HE HEq;obtain ⟨p1,jc⟩:=zEX (1+pu);have j1:(1:Int)+(pu:Int)=(p1:Int):=by omega
 have j2:=Yb p1;rw [<- jc] at mm jm HEq;have jl:=zH (show 1 <= p1 by omega)
 clear hE h0 h1 h2 h3 h4 Xb hr hw hv hpos gg ht hL hp f1 f2 f3 f4 f5 Sg Ka Ga tg ax Oy CB Qz Ji jc bL yn IF hMO Sx Yt tw uu;unfold lJ;unfold zd Zf Tf Uf;rw [<- xG.out];rw [<- xG.out] at Sr;generalize Pd L (Ia L rows ws pu) r co al=N1 at *;generalize Nc L (Tc L pu rho rows) (Ia L rows ws pu) r li=N2 at *;generalize pd L (Ia L rows ws pu) r qu be=N3 at *;generalize Ia L rows ws pu=M at *;unfold Ya pc Er at *;unfold pc at *;obtain ⟨kt,kx,kc,ky,ka,da,-⟩:=zD w 25 27 42 90 42 #[.int .u64 L.p, .int .i64 pu, .int .i64 vars, .slice A R c] #[.int .i64 bl, .int .i64 bw, .int .i64 qs] #[.slice D0 n0 k0, .slice D1 n1 k1, .slice D2 n2 k2, .slice D3 n3 k3, .slice D4 n4 k4] #[.int .u64 al, .int .u64 rho, .int .u64 be] #[.slice none 0 0, .slice none 0 0, .slice none 0 0, .slice none 0 0, .slice none 0 0];go_enter Tryz.func42,Tryz.ntmps42
 go_upto_region 1 with fail
 generalize ((((w.alloc _).alloc _).alloc _).alloc _).alloc _=w1 at kt kx kc ky ka da |-;have ct:=kt.cell;have cx:=kx.cell;go_wp2_with fail
 refine (EE.out _ da).mono ?_;rintro e w2 ⟨rfl,ea⟩;replace kt:=ia kt ea;replace kc:=ia kc ea;replace ky:=ia ky ea;replace ka:=ia ka ea;replace da:=oa da ea;clear ea ct cx kx EE;go_upto_region 4 with fail
 have Jl:w.heap.size+4<w2.heap.size:=ka.lt;have kl:=Blk.new w2 49 #[.int .u64 L.p, .int .i64 L.block, .int .i64 L.queries, .int .i64 L.k, .int .i64 L.n, .int .i64 L.secret, .int .i64 L.rows, .int .i64 L.a, .int .i64 L.b, .int .i64 L.b, .int .i64 L.b];have ma:=(Below.refl w2.heap.size w2).alloc zR (.cells #[.int .u64 L.p, .int .i64 L.block, .int .i64 L.queries, .int .i64 L.k, .int .i64 L.n, .int .i64 L.secret, .int .i64 L.rows, .int .i64 L.a, .int .i64 L.b, .int .i64 L.b, .int .i64 L.b] 49);replace kt:=ia kt ma;replace kc:=ia kc ma;replace ky:=ia ky ma;replace ka:=ia ka ma;replace da:=oa da ma;clear ma;generalize w2.alloc _=w3 at kl kt kc ky ka da |-;generalize w2.heap.size=gl at kl Jl |-;have cl:=kl.cell;have cc:=kc.cell;go_wp2_with fail
 refine (Yj.out _ da).mono ?_;rintro e w4 ⟨rfl,ea⟩;replace kl:=ia kl ea;replace kt:=ia kt ea;replace kc:=ia kc ea;replace ky:=ia ky ea;replace ka:=ia ka ea;replace da:=oa da ea;clear ea cl cc Yj;have cl:=kl.cell;have cy:=ky.cell;unfold Fs at HE;obtain ⟨bp,hbp⟩:=zEX (se L.n L.queries pos);rw [<- hbp] at HGp HE Cp ni Sr;clear hbp;cases bp
 ·have Ye:=zH (HGp.out _ da)
  have yc:=zH (show E=1 by rw [HE.out];rfl)
  clear HE;go_wp2_with fail
  refine Ye.out.mono ?_;rintro e w5 ⟨rfl,ea⟩;replace ka:=ia ka ea;replace da:=oa da ea;clear ea cl cy;have ca:=ka.cell;have fa:=ka.frozen;have la:=ka.lt;go_wp2_with fail
  have Ba:=zh (w:=w5) (g:=w.heap.size+4) (.slice none 0 0) (.slice none 0 0) (.slice none 0 0) (.slice none 0 0) (.slice none 0 0);have ic:=zH (Pb da Ba);have xd:=zH (yh ka (.slice none 0 0) (.slice none 0 0) (.slice none 0 0) (.slice none 0 0) (.slice none 0 0));clear Ba;generalize ((((w5.setCell _ _).setCell _ _).setCell _ _).setCell _ _).setCell _ _=wf at ic xd |-;have cf:=xd.out.cell;exact bodyPost_ret (v:=.tuple #[.agg #[.slice none 0 0, .slice none 0 0, .slice none 0 0, .slice none 0 0, .slice none 0 0], .int .i64 1]) (by simp [results,Tryz.results42,go_sem,cf]) rfl ⟨.inl ⟨by rw [yc.out];decide,by rw [yc.out]⟩,ic.out⟩
 go_wp2_with fail
 refine (HGp.out _ da).mono ?_;rintro e w5 ⟨rfl,ea⟩;replace kl:=ia kl ea;replace kt:=ia kt ea;replace kc:=ia kc ea;replace ky:=ia ky ea;replace ka:=ia ka ea;replace da:=oa da ea;clear ea cl cy HGp;have cl:=kl.cell;have cy:=ky.cell;obtain ⟨bg,hbg⟩:=zEX ((decide (al<L.p)&&decide (rho<L.p)&&decide (be<L.p)));rw [<- hbg] at HGc;rw [Bool.true_and,<- Bool.and_assoc,<- hbg] at HE;clear hbg;cases bg
 ·have Ye:=zH (HGc.out _ da)
  have yc:=zH (show E=1 by rw [HE.out];rfl)
  clear HE;go_wp2_with fail
  refine Ye.out.mono ?_;rintro e w6 ⟨rfl,ea⟩;replace ka:=ia ka ea;replace da:=oa da ea;clear ea cl cy;have ca:=ka.cell;have fa:=ka.frozen;have la:=ka.lt;go_wp2_with fail
  have Ba:=zh (w:=w6) (g:=w.heap.size+4) (.slice none 0 0) (.slice none 0 0) (.slice none 0 0) (.slice none 0 0) (.slice none 0 0);have ic:=zH (Pb da Ba);have xd:=zH (yh ka (.slice none 0 0) (.slice none 0 0) (.slice none 0 0) (.slice none 0 0) (.slice none 0 0));clear Ba;generalize ((((w6.setCell _ _).setCell _ _).setCell _ _).setCell _ _).setCell _ _=wf at ic xd |-;have cf:=xd.out.cell;exact bodyPost_ret (v:=.tuple #[.agg #[.slice none 0 0, .slice none 0 0, .slice none 0 0, .slice none 0 0, .slice none 0 0], .int .i64 1]) (by simp [results,Tryz.results42,go_sem,cf]) rfl ⟨.inl ⟨by rw [yc.out];decide,by rw [yc.out]⟩,ic.out⟩
 go_wp2_with fail
 refine (HGc.out _ da).mono ?_;rintro e w6 ⟨rfl,ea⟩;replace kl:=ia kl ea;replace kt:=ia kt ea;replace kc:=ia kc ea;replace ky:=ia ky ea;replace ka:=ia ka ea;replace da:=oa da ea;clear ea cl cy HGc;have ct:=kt.cell;obtain ⟨bw',uc⟩:∃ b,b=Dd L.p vars ws:=⟨_,rfl⟩;rw [<- uc] at rj HE Ym mm HEq;clear uc;cases bw'
 ·have Ye:=zH (rj.out _ da)
  have yc:=zH (show E=1 by rw [HE.out];rfl)
  clear HE;go_wp2_with fail
  refine Ye.out.mono ?_;rintro e w7 ⟨rfl,ea⟩;replace ka:=ia ka ea;replace da:=oa da ea;clear ea ct;have ca:=ka.cell;have fa:=ka.frozen;have la:=ka.lt;go_wp2_with fail
  have Ba:=zh (w:=w7) (g:=w.heap.size+4) (.slice none 0 0) (.slice none 0 0) (.slice none 0 0) (.slice none 0 0) (.slice none 0 0);have ic:=zH (Pb da Ba);have xd:=zH (yh ka (.slice none 0 0) (.slice none 0 0) (.slice none 0 0) (.slice none 0 0) (.slice none 0 0));clear Ba;generalize ((((w7.setCell _ _).setCell _ _).setCell _ _).setCell _ _).setCell _ _=wf at ic xd |-;have cf:=xd.out.cell;exact bodyPost_ret (v:=.tuple #[.agg #[.slice none 0 0, .slice none 0 0, .slice none 0 0, .slice none 0 0, .slice none 0 0], .int .i64 1]) (by simp [results,Tryz.results42,go_sem,cf]) rfl ⟨.inl ⟨by rw [yc.out];decide,by rw [yc.out]⟩,ic.out⟩
 go_wp2_with fail
 refine (rj.out _ da).mono ?_;rintro e w7 ⟨rfl,ea⟩;replace kl:=ia kl ea;replace kt:=ia kt ea;replace kc:=ia kc ea;replace ky:=ia ky ea;replace ka:=ia ka ea;replace da:=oa da ea;clear ea ct rj;have ct:=kt.cell;obtain ⟨bv,Fl⟩:=zEX (Dd L.p vars vs);rw [<- Fl] at Ev HE ql jm HEq;clear Fl;cases bv
 ·have Ye:=zH (Ev.out _ da)
  have yc:=zH (show E=1 by rw [HE.out];rfl)
  clear HE;go_wp2_with fail
  refine Ye.out.mono ?_;rintro e w8 ⟨rfl,ea⟩;replace ka:=ia ka ea;replace da:=oa da ea;clear ea ct;have ca:=ka.cell;have fa:=ka.frozen;have la:=ka.lt;go_wp2_with fail
  have Ba:=zh (w:=w8) (g:=w.heap.size+4) (.slice none 0 0) (.slice none 0 0) (.slice none 0 0) (.slice none 0 0) (.slice none 0 0);have ic:=zH (Pb da Ba);have xd:=zH (yh ka (.slice none 0 0) (.slice none 0 0) (.slice none 0 0) (.slice none 0 0) (.slice none 0 0));clear Ba;generalize ((((w8.setCell _ _).setCell _ _).setCell _ _).setCell _ _).setCell _ _=wf at ic xd |-;have cf:=xd.out.cell;exact bodyPost_ret (v:=.tuple #[.agg #[.slice none 0 0, .slice none 0 0, .slice none 0 0, .slice none 0 0, .slice none 0 0], .int .i64 1]) (by simp [results,Tryz.results42,go_sem,cf]) rfl ⟨.inl ⟨by rw [yc.out];decide,by rw [yc.out]⟩,ic.out⟩
 go_wp2_with fail
 refine (Ev.out _ da).mono ?_;rintro e w8 ⟨rfl,ea⟩;replace kl:=ia kl ea;replace kt:=ia kt ea;replace kc:=ia kc ea;replace ky:=ia ky ea;replace ka:=ia ka ea;replace da:=oa da ea;clear ea ct Ev;replace Ym:=zH (Ym.out (by first | rfl | trivial))
 replace ql:=zH (ql.out (by first | rfl | trivial))
 replace HEq:=zH (HEq.out (by first | rfl | trivial) (by first | rfl | trivial))
 replace mm:=zH (mm.out (by first | rfl | trivial))
 replace jm:=zH (jm.out (by first | rfl | trivial))
 have ct:=kt.cell;obtain ⟨bsw,tF⟩:=zEX (Sj L.p rows ws);rw [<- tF] at Ym HE;clear tF;cases bsw
 ·have Ye:=zH (Ym.out _ da)
  have yc:=zH (show E=9 by rw [HE.out];rfl)
  clear HE;go_wp2_with fail
  refine Ye.out.mono ?_;rintro e w9 ⟨rfl,ea⟩;replace ka:=ia ka ea;replace da:=oa da ea;clear ea ct;have ca:=ka.cell;have fa:=ka.frozen;have la:=ka.lt;go_wp2_with fail
  have Ba:=zh (w:=w9) (g:=w.heap.size+4) (.slice none 0 0) (.slice none 0 0) (.slice none 0 0) (.slice none 0 0) (.slice none 0 0);have ic:=zH (Pb da Ba);have xd:=zH (yh ka (.slice none 0 0) (.slice none 0 0) (.slice none 0 0) (.slice none 0 0) (.slice none 0 0));clear Ba;generalize ((((w9.setCell _ _).setCell _ _).setCell _ _).setCell _ _).setCell _ _=wf at ic xd |-;have cf:=xd.out.cell;exact bodyPost_ret (v:=.tuple #[.agg #[.slice none 0 0, .slice none 0 0, .slice none 0 0, .slice none 0 0, .slice none 0 0], .int .i64 9]) (by simp [results,Tryz.results42,go_sem,cf]) rfl ⟨.inl ⟨by rw [yc.out];decide,by rw [yc.out]⟩,ic.out⟩
 go_wp2_with fail
 refine (Ym.out _ da).mono ?_;rintro e w9 ⟨rfl,ea⟩;replace kl:=ia kl ea;replace kt:=ia kt ea;replace kc:=ia kc ea;replace ky:=ia ky ea;replace ka:=ia ka ea;replace da:=oa da ea;clear ea ct Ym;have ct:=kt.cell;obtain ⟨bsv,sF⟩:=zEX (Sj L.p rows vs);rw [<- sF] at ql HE;clear sF;cases bsv
 ·have Ye:=zH (ql.out _ da)
  have yc:=zH (show E=9 by rw [HE.out];rfl)
  clear HE;go_wp2_with fail
  refine Ye.out.mono ?_;rintro e wA ⟨rfl,ea⟩;replace ka:=ia ka ea;replace da:=oa da ea;clear ea ct;have ca:=ka.cell;have fa:=ka.frozen;have la:=ka.lt;go_wp2_with fail
  have Ba:=zh (w:=wA) (g:=w.heap.size+4) (.slice none 0 0) (.slice none 0 0) (.slice none 0 0) (.slice none 0 0) (.slice none 0 0);have ic:=zH (Pb da Ba);have xd:=zH (yh ka (.slice none 0 0) (.slice none 0 0) (.slice none 0 0) (.slice none 0 0) (.slice none 0 0));clear Ba;generalize ((((wA.setCell _ _).setCell _ _).setCell _ _).setCell _ _).setCell _ _=wf at ic xd |-;have cf:=xd.out.cell;exact bodyPost_ret (v:=.tuple #[.agg #[.slice none 0 0, .slice none 0 0, .slice none 0 0, .slice none 0 0, .slice none 0 0], .int .i64 9]) (by simp [results,Tryz.results42,go_sem,cf]) rfl ⟨.inl ⟨by rw [yc.out];decide,by rw [yc.out]⟩,ic.out⟩
 go_wp2_with fail
 refine (ql.out _ da).mono ?_;rintro e wA ⟨rfl,ea⟩;replace kl:=ia kl ea;replace kt:=ia kt ea;replace kc:=ia kc ea;replace ky:=ia ky ea;replace ka:=ia ka ea;replace da:=oa da ea;clear ea ct ql;have ct:=kt.cell;have lt:=kt.lt;have z1:(p1:Int) <= (m:Int):=by have:=mm.out.1;omega
 have z2:(p1:Int) <= (m2:Int):=by have:=jm.out.1;omega
 have z3:(p1:Int) <= (d:Int):=by have:=Tz.out.1;omega
 have z4:(p1:Int) <= (d2:Int):=by have:=Tz.out.2.1;omega
 have z5:(1:Int) <= (p1:Int):=by have:=jl.out;omega
 go_upto_region 10 with fail
 refine Rc (Ib) [10] [0,1,2,3,4,5,6,7,8,9,10,11] (by kernel_rfl) (by kernel_rfl) ?_
 refine vd (xa) ?_;intro Wc Na ja;have ya:=Cc Na;replace kl:=ia kl ya;replace kt:=ia kt ya;replace kc:=ia kc ya;replace ky:=ia ky ya;replace ka:=ia ka ya;replace da:=oa da ya;clear Na ya;refine pb ?_;refine Mb (xa) rfl rfl rfl (fun _=>by go_simp <;> rfl) ((HEq.out _ da).mono ?_)
 rintro e wB ⟨rfl,ea⟩;refine ⟨_,rfl,ea,?_⟩;replace ja:=(xa).trans _ _ _ ja (ea);simp only [Act.put,zLa,zLb,zLc];replace kl:=ia kl ea;replace kt:=ia kt ea;replace kc:=ia kc ea;replace ky:=ia ky ea;replace ka:=ia ka ea;replace da:=oa da ea;clear ea ct lt HEq;refine pb ?_;refine Fc ?_;clear ja z1 z2 z3 z4 z5 j1 j2 Tz jl;generalize Value.slice _ (p1-1) (d-1)=q76;generalize Value.slice _ (p1-1) (d2-1)=q81;cases bs
 ·have yc:=zH (show E=1 by rw [HE.out];rfl)
  clear HE;have ca:=ka.cell;have fa:=ka.frozen;have la:=ka.lt;go_wp2_with fail
  have Ba:=zh (w:=wB) (g:=w.heap.size+4) (.slice none 0 0) (.slice none 0 0) (.slice none 0 0) (.slice none 0 0) (.slice none 0 0);have ic:=zH (Pb da Ba);have xd:=zH (yh ka (.slice none 0 0) (.slice none 0 0) (.slice none 0 0) (.slice none 0 0) (.slice none 0 0));clear Ba;generalize ((((wB.setCell _ _).setCell _ _).setCell _ _).setCell _ _).setCell _ _=wf at ic xd |-;have cf:=xd.out.cell;exact bodyPost_ret (v:=.tuple #[.agg #[.slice none 0 0, .slice none 0 0, .slice none 0 0, .slice none 0 0, .slice none 0 0], .int .i64 1]) (by simp [results,Tryz.results42,go_sem,cf]) rfl ⟨.inl ⟨by rw [yc.out];decide,by rw [yc.out]⟩,ic.out⟩
 have yc:=zH (show E=0 by rw [HE.out];rfl)
 clear HE;replace Sr:=zH (Sr.out jm.out.2.2 (by first | rfl | trivial))
 replace HMs:=zH (HMs.out mm.out.2.2);replace Cp:=zH (Cp.out (by first | rfl | trivial))
 replace ni:=zH (ni.out (by first | rfl | trivial))
 clear mm jm;have cl:=kl.cell;have ct:=kt.cell;go_wp2_with fail
 refine (HMs.out _ da).mono ?_;rintro e wC ⟨v,rfl,hM,ea⟩;obtain ⟨AM,nM,cM,rfl⟩:=RSl.slc hM.here;replace kl:=ia kl ea;replace kt:=ia kt ea;replace kc:=ia kc ea;replace ky:=ia ky ea;replace ka:=ia ka ea;replace da:=oa da ea;clear ea cl ct HMs;go_upto_region 14 with fail
 have kv:=Blk.new wC 195 #[.slice none 0 0, .slice none 0 0, .slice none 0 0, .slice none 0 0];have ma:=(Below.refl wC.heap.size wC).alloc zR (.cells #[.slice none 0 0, .slice none 0 0, .slice none 0 0, .slice none 0 0] 195);have hls:w.heap.size+4<wC.heap.size:=ka.lt;have hlg:gl<wC.heap.size:=kl.lt;replace kl:=ia kl ma;replace kt:=ia kt ma;replace kc:=ia kc ma;replace ky:=ia ky ma;replace ka:=ia ka ma;replace da:=oa da ma;have Gj:=ma;obtain ⟨gv,Em⟩:=zEX (wC.heap.size);rw [<- Em] at kv hls hlg Gj;have HGV:=zH Em;clear ma;rw [<- Em];clear Em;generalize wC.alloc _=wD at kv kl kt kc ky ka da Gj |-;have Co:=hM.2 wD (fun b _ h2=>Gj.block b (by rw [HGV.out];exact h2))
 have cl:=kl.cell;have ct:=kt.cell;have cc:=kc.cell;have cy:=ky.cell;go_wp2_with fail
 refine (HAn.out _ _ _ _ da Co).mono ?_;rintro e wE ⟨B1,B3,B4,b1,b3,b4,rfl,⟨o1,t1⟩,⟨o2,t2⟩,⟨o3,t3⟩,ea⟩;have HT1:=zH t1;have Dh:=zH t2;have tA:=zH t3;have Dm:gv<wD.heap.size:=kv.lt;obtain ⟨ND,hND⟩:=zEX (wD.heap.size);have HND:=zH hND;rw [<- hND] at o1 o2 o3 Dm;have hNDw:w.heap.size <= ND:=by rw [hND];exact da.size
 have Qp:gv <= wD.heap.size:=by omega
 replace Gj:=Gj.trans (ea.mono Qp);replace kl:=ia kl ea;replace kt:=ia kt ea;replace kc:=ia kc ea;replace ky:=ia ky ea;replace ka:=ia ka ea;replace kv:=ia kv ea;replace da:=oa da ea;clear ea cl ct cc cy HAn t1 t2 t3 hND Co;have cv:=kv.cell;have fv:=kv.frozen;have lv:=kv.lt;go_upto_region 15 with fail
 have Ba:wE.grownBy (((wE.setCell ⟨gv,0,none⟩ (.slice B1 L.k b1)).setCell ⟨gv,1,none⟩ (.slice B3 (L.k+L.block-1) b3)).setCell ⟨gv,2,none⟩ (.slice B4 (2*L.k-1) b4)) (some gv):=vq _ _ _;replace kv:=((kv.set_ 0 (.slice B1 L.k b1)).set_ 1 (.slice B3 (L.k+L.block-1) b3)).set_ 2 (.slice B4 (2*L.k-1) b4);simp only [List.setIfInBounds_toArray,List.set_cons_zero,List.set_cons_succ] at kv;have hE:∀ {a b:Nat},a≠b -> some a≠some b:=fun h e=>h (Option.some.inj e)
 replace kl:=kl.grown Ba (hE (by omega))
 replace kt:=kt.grown Ba (hE (by omega))
 replace kc:=kc.grown Ba (hE (by omega))
 replace ky:=ky.grown Ba (hE (by omega))
 replace ka:=ka.grown Ba (hE (by omega))
 replace o1:=Hc o1 Ba Dm;replace o2:=Hc o2 Ba Dm;replace o3:=Hc o3 Ba Dm;replace da:=Pb da Ba;replace Gj:=Gj.trans (Ff Ba (by have:=Gj.size;have:=HGV.out;omega) zR)
 clear Ba cv fv lv hE Qp;generalize ((wE.setCell _ _).setCell _ _).setCell _ _=wF at kv kl kt kc ky ka o1 o2 o3 da Gj |-;have Co:=hM.2 wF (fun b _ h2=>Gj.block b (by rw [HGV.out];exact h2))
 have cl:=kl.cell;have cc:=kc.cell;go_wp2_with fail
 refine (yp.out _ _ _ _ da Co).mono ?_;rintro e wG ⟨v,rfl,Li,ea⟩;have Dw:RRx wF.heap.size wG v CC:=Li;obtain ⟨AC,nC,cC,rfl⟩:=RSl.slc Dw.here;obtain ⟨NF,hNF⟩:=zEX (wF.heap.size);rw [<- hNF] at Dw;have hNFv:gv<NF:=by rw [hNF];exact kv.lt
 have hNFG:NF <= wG.heap.size:=by rw [hNF];exact ea.size
 have hNFw:w.heap.size+4<NF:=by omega
 replace kl:=ia kl ea;replace kt:=ia kt ea;replace kc:=ia kc ea;replace ky:=ia ky ea;replace ka:=ia ka ea;replace kv:=ia kv ea;replace o1:=Oa o1 ea zR;replace o2:=Oa o2 ea zR;replace o3:=Oa o3 ea zR;replace da:=oa da ea;clear ea cl cc yp Co hM Gj Li hNF;obtain ⟨N,hN⟩:=zEX (wG.heap.size);have hgN2:gv<N:=by omega
 have Mk:N <= wG.heap.size:=by omega
 have Gh:wG.heap.size <= N:=by omega
 clear hN;have Vf:=(Ve Dw.here);have hnC:nC=CC.length:=Vf.1.symm;subst hnC;have jo:=zH (fun b hb=>o1.lt b hb)
 have Lv:=zH (fun b hb=>o2.lt b hb)
 have Mv:=zH (fun b hb=>o3.lt b hb)
 have yt:=Below.refl wG.heap.size wG;have gnp:pos.length <= 64:=by have:=ni.out;have:=HLn.out;omega
 go_upto_region 17 with fail
 go_loopw [108] (fun y wr=>∃ (i:Nat) (v:Value) (cs:List Value),i <= pos.length /\ y= .int .i64 i /\ Blk wr gv 195 #[.slice B1 L.k b1, .slice B3 (L.k+L.block-1) b3, .slice B4 (2*L.k-1) b4,v] /\ wr.ownsRow N 28 1 v i cs /\ tD NF wG cs (CA i) /\ qj gv N wG wr /\ N <= wr.heap.size) (fun y _=>pos.length-(intOf y).toNat)
 case atStart=>exact ⟨0,_,[],Nat.zero_le _,rfl,kv,⟨rfl, .inl ⟨rfl,rfl⟩⟩,by rw [Rx.out];exact mR _ _,(xb _ _).refl _,Mk⟩
 case round =>
  clear kv;obtain ⟨i,v,cs,hi,rfl,kb,ra,Qw,Ua,qg⟩:=hrel;have Qa:Below w.heap.size w wr:=da.trans ⟨Ua.1,Ua.2.1,Ua.2.2.1,Ua.2.2.2.1,fun b hb=>Ua.2.2.2.2 b (by omega) (by omega)⟩
  have uc:∀ b,NF <= b -> b<wG.heap.size -> wr.heap[b]?=wG.heap[b]?:=fun b b1 b2=>Ua.2.2.2.2 b (by omega) (by omega)
  have Ji:wG.heap.size <= wr.heap.size:=by omega
  by_cases za:i<pos.length
  ·have g1:(0:Int) <= (i:Int):=by omega
   have g2:(i:Int)<(pos.length:Int):=by omega
   obtain ⟨Ar,nr,cr,her,hlr,-,-,Mi⟩:=HPI.out;simp at her
   obtain ⟨rfl,rfl,rfl⟩:=her;obtain ⟨b,q,rfl,oF,Ki,-,-⟩:=Jt Mi za;have hc:=(Qa.cell (p:=⟨b,q+i,none⟩) oF).trans Ki;have Ii:b<wr.heap.size:=by omega
   have hgb1:gv≠N:=by omega
   obtain ⟨Tg,fe,-⟩:=Cp.out i za;obtain ⟨z,hz⟩:∃ z:Nat,pos.getD i 0=(z:Int):=⟨_,(Int.toNat_of_nonneg Tg).symm⟩;have hzC:z<CC.length:=by rw [Yn.out];omega
   have Xc:=zH (mJ.out i za z hzC hz);rw [hz] at hc;obtain ⟨bC,qC,A1,Et,c1,rfl,bf,Wy,Gj,FF⟩:=DI Dw hzC;have tt:Jc NF none wG (.slice A1 Et c1) CC[z]:=fun u hu=>FF u fun b b1 b2=>hu b b1 b2 (fun e=>by cases e)
   have hcC':wr.cell? ⟨bC,qC+z,none⟩=some (.slice A1 Et c1):=(WG (uc bC bf Wy)).trans Gj;have hbC':bC<wr.heap.size:=by omega
   have hbC1:bC<N:=by omega
   have hbC2:bC≠N:=by omega
   have g3:(0:Int) <= (z:Int):=by omega
   have g4:(z:Int)<(CC.length:Int):=by omega
   have HRW:=zH tt;have Qg:=zH za;obtain ⟨Ax,cx,jq,-⟩:=Ob ra;subst jq;have cb:=kb.cell;have lb:=kb.lt;clear hz Tg fe Mi tt FF Gj Wy Ki oF bf;go_upto_region 19 with fail
   refine Qt (qj N N) [6,7,9] [9] [0,1,2,3,4,5,6,7,8,9] (by kernel_rfl) (by kernel_rfl) ?_
   refine Tt (xb N N) ?_;intro Wc Na ja;have ya:=Cc Na;have Dc:N <= Wc.heap.size:=by have:=ya.size;omega
   replace kb:=ia kb ya;replace ra:=Oa ra ya zR;replace Ua:=(xb gv N).trans _ _ _ Ua (ue ya qg);clear Na ya uc Ji;refine Ah ?_;refine Rh (xb N N) rfl rfl rfl ?_;go_simp;have ma:=(Below.refl Wc.heap.size Wc).alloc zR (.cells #[.slice A1 Et c1] 28);have Qe:=Lf Wc (.slice A1 Et c1) 28;refine ⟨fun _=>ue ma Dc,?_⟩
   replace kb:=ia kb ma;replace ra:=Oa ra ma zR;replace Ua:=(xb gv N).trans _ _ _ Ua (ue ma Dc);have de:=Nat.le_trans Dc ma.size
   try simp only [Act.put,zLa,zLb,zLc]
   generalize Wc.alloc _=w7 at kb ra Ua Qe de |-;generalize Wc.heap.size=g6 at Qe |-;clear ma Dc ja cb;have ja:=(xb N N).refl w7;refine Ah ?_;refine Rh (xb N N) rfl rfl rfl ?_;refine Tn _ _ rfl Cj rfl ra rfl Qe (by intro u hu;simp at hu;subst hu;rfl) (by omega) de ?_
   intro v' wn db Ma Lb;have Rb:∀ q,(Value.slice Ax i cx).ownBlock=some q -> N <= q:=fun q e=>(ra.lt q e).1
   refine ⟨fun _=>Ao Ma de Rb,?_⟩
   replace kb:=kb.grown Ma (fun e=>by first | (have:=Rb _ e;omega) | (have:=Rb _ e.symm;omega))
   replace Ua:=(xb gv N).trans _ _ _ Ua (Ao Ma de Rb);have BF:=kR Qw HRW.out;rw [Xc.out] at BF;obtain ⟨Aw,cw,rfl,-⟩:=Ob db;have af:=Nat.le_trans de Ma.size;clear ra Ma Lb Rb de Qe ja Qw;have ja:=(xb N N).refl wn;have cb:=kb.cell;have fb:=kb.frozen;have lb:=kb.lt
   try simp only [Act.put,zLa,zLb,zLc]
   refine Ah ?_;refine Rh (xb N N) rfl rfl rfl ?_;go_simp;refine ⟨fun h=>Bool.noConfusion h,?_⟩
   have Ba:=Me (w:=wn) gv 3 (.slice Aw (i+1) cw);replace kb:=kb.set_ 3 (.slice Aw (i+1) cw);simp only [List.setIfInBounds_toArray,List.set_cons_zero,List.set_cons_succ] at kb;have sc:=Hc db Ba hgN2;replace Ua:=(xb gv N).trans _ _ _ Ua (mB Ba af);replace af:=Nat.le_trans af Ba.size;clear Ba cb fb ja db;generalize wn.setCell _ _=wz at kb sc Ua af |-;have ja:=(xb N N).refl wz;refine Ah ?_;refine Rt ?_;go_wp2
   go_roundw
   case rel=>exact ⟨i+1, .slice Aw (i+1) cw,_,Qg.out,by go_num,kb,sc,BF,Ua,af⟩
   case measure=>have:=Qg.out;simp [intOf];omega
  ·obtain rfl:i=pos.length:=by omega
   have hfr:∀ b,b<N -> b≠gv -> wr.heap[b]?=wG.heap[b]?:=fun b b1 b2=>Ua.2.2.2.2 b b1 b2
   have Pm:=fE (u:=wr) o1 fun b hb=>hfr b (by have:=(jo.out b hb).2;omega) (by have:=(jo.out b hb).1;omega)
   have Az:=fE (u:=wr) o2 fun b hb=>hfr b (by have:=(Lv.out b hb).2;omega) (by have:=(Lv.out b hb).1;omega)
   have Hr:=fE (u:=wr) o3 fun b hb=>hfr b (by have:=(Mv.out b hb).2;omega) (by have:=(Mv.out b hb).1;omega)
   have Qo:=lR Qw Ji uc ra (by omega) hNFG
   obtain ⟨Ax,cx,rfl,-⟩:=Ob ra;have Lc:=uo kl Ua (by omega) (by omega)
   have Ad:=uo kt Ua (by omega) (by omega)
   have kcr:=uo kc Ua (by omega) (by omega)
   have kyr:=uo ky Ua (by omega) (by omega)
   have Vc:=uo ka Ua (by omega) (by omega)
   have q1:=qf Pm HT1.out;have q2:=qf Az Dh.out;have q3:=qf Hr tA.out;have q4:=Qo.here;clear ra Qw Ua hfr uc Ji o1 o2 o3 Pm Az Hr Qo kl kt kc ky ka da Dw Vf yt jo Lv Mv;have cl:=Lc.cell;have ll:=Lc.lt;have ct:=Ad.cell;have lt:=Ad.lt;have cc:=kcr.cell;have lc:=kcr.lt;have cy:=kyr.cell;have ly:=kyr.lt;have cb:=kb.cell;have lb:=kb.lt;go_upto_region 21 with fail
   refine Qt (Ib) [8,9,12] [12] [0,1,2,3,4,5,6,7,8,9,10,11,12,13] (by kernel_rfl) (by kernel_rfl) ?_
   refine Tt (xa) ?_;intro Wc Na ja;have ya:=Cc Na;replace Vc:=ia Vc ya;replace Qa:=oa Qa ya;replace q1:=ta ya q1;replace q2:=ta ya q2;replace q3:=ta ya q3;replace q4:=Gb ya q4;clear Na ya;have hXs:=Vc.lt;refine Ag ?_;refine fh (xa) rfl rfl rfl (fun _=>by go_simp <;> rfl) ((HCn.out _ Qa).mono ?_)
   rintro e wX ⟨vS,rfl,oS,ea⟩;refine ⟨_,rfl,fun _=>ea,?_⟩
   replace ja:=(xa).trans _ _ _ ja (ea);simp only [Act.put,zLa,zLb,zLc];replace Vc:=ia Vc ea;replace Qa:=oa Qa ea;replace q1:=ta ea q1;replace q2:=ta ea q2;replace q3:=ta ea q3;replace q4:=Gb ea q4;clear ea;obtain ⟨AS,cS,rfl,-⟩:=Ob oS;have q5:=qf oS Hk.out;refine Ag ?_;refine fh (xa) rfl rfl rfl (fun _=>by go_simp <;> rfl) ((Sr.out _ _ _ _ _ _ _ _ _ _ _ _ _ _ _ _ Qa q1 q2 q3 q4 q5).mono ?_)
   rintro e wY ⟨v0,v1,v2,v3,rfl,x0,x1,x2,x3,ea⟩;refine ⟨_,rfl,fun _=>ea,?_⟩
   replace ja:=(xa).trans _ _ _ ja (ea);simp only [Act.put,zLa,zLb,zLc];have hYs:w.heap.size+4<wX.heap.size:=Vc.lt;have x4:=Gx (B:=Wc.heap.size) (Oa oS ea zR) Hk.out zR;replace Vc:=ia Vc ea;replace Qa:=oa Qa ea;obtain ⟨C0,y0,z0,rfl⟩:=RSl.slc x0.here;obtain ⟨C1,y1,z1,rfl⟩:=Rm x1;obtain ⟨C2,y2,z2,rfl⟩:=Rm x2;obtain ⟨C3,y3,z3,rfl⟩:=Rm x3;have ca:=Vc.cell;have fa:=Vc.frozen;have la:=Vc.lt;clear ea cl ll ct lt cc lc cy ly cb lb q1 q2 q3 q4 q5 oS;refine Ag ?_;refine Rh (xa) rfl rfl rfl ?_;go_simp;refine ⟨fun h=>Bool.noConfusion h,?_⟩
   have Ba:=zh (w:=wY) (g:=w.heap.size+4) (.slice C0 y0 z0) (.slice C1 y1 z1) (.slice C2 y2 z2) (.slice C3 y3 z3) (.slice AS n4 cS);have xd:=zH (yh Vc (.slice C0 y0 z0) (.slice C1 y1 z1) (.slice C2 y2 z2) (.slice C3 y3 z3) (.slice AS n4 cS));have ic:=zH (Pb Qa Ba);have Y0:=zH ((Wl x0 Ba.size (fun b b1 b2=>Ba.block b b2 (fun e=>by have:=Option.some.inj e;omega))).mono (show w.heap.size <= wX.heap.size by omega))
   have Y1:=zH (fp (Ek x1 Ba hYs) (show w.heap.size <= wX.heap.size by omega))
   have Y2:=zH (fp (Ek x2 Ba hYs) (show w.heap.size <= wX.heap.size by omega))
   have Y3:=zH (fp (Ek x3 Ba hYs) (show w.heap.size <= wX.heap.size by omega))
   have Y4:=zH (fp (Ek x4 Ba hXs) (show w.heap.size <= Wc.heap.size by omega))
   clear Ba x0 x1 x2 x3 x4 ca fa la Vc Qa
   try simp only [Act.put,zLa,zLb,zLc]
   generalize ((((wY.setCell _ _).setCell _ _).setCell _ _).setCell _ _).setCell _ _=wf at xd ic Y0 Y1 Y2 Y3 Y4 |-;refine Ag ?_;refine Rt ?_;clear ja;have cf:=xd.out.cell;go_wp2_with fail
   exact bodyPost_ret (v:=.tuple #[.agg #[.slice C0 y0 z0, .slice C1 y1 z1, .slice C2 y2 z2, .slice C3 y3 z3, .slice AS n4 cS], .int .i64 0]) (by simp [results,Tryz.results42,go_sem,cf]) rfl ⟨.inr ⟨yc.out,_,_,_,_,_,rfl,Y0.out,Y1.out,Y2.out,Y3.out,Y4.out⟩,ic.out⟩
theorem Bz (A:Option Addr) (n c:Nat) (l:List Nat) (w:World) (hl:RWd w [.slice A n c] l) (hn:n <= 5000000000) :
  Calls Tryz.prog 20 #[.slice A n c] w fun e w'=>∃ v,e= .returned v /\ w'.ownsRow w.heap.size 22 1 v n (Fa l) /\ Below w.heap.size w w':=by
 obtain ⟨rfl,h1,h2,za,La⟩:=Ra hl;have ma:=(Below.refl w.heap.size w).alloc zR (.cells #[] 22);have HN:=zH hn;clear hl h1 h2 za hn;go_enter Tryz.func20,Tryz.ntmps20
 go_wp2_with (at_builtin;refine Mf rfl _ _ rfl xf rfl (Wk w 22 zR) rfl (La.alloc _) (mg l) (by have:=HN.out;omega) (by simp) ?_)
 intro v1 w1 ra Ma Lb;have hB:=Ae (Wk w 22 zR) Ma (by simp)
 replace hB:=ma.trans hB;replace ra:w1.ownsRow w.heap.size 22 1 v1 l.length (Fa l):=by simpa using ra
 go_wp2;go_ret
 exact ⟨_,rfl,ra,hB⟩
theorem rV (A:Option Addr) (n c:Nat) (m:List (List Nat)) (w:World) (hm:Sb w [.slice A n c] m) (hn:n <= 400000) (Ud:∀ x∈m,x.length <= 100000) :
  Calls Tryz.prog 115 #[.slice A n c] w fun e w'=>∃ v,e= .returned v /\ RRx w.heap.size w' v m /\ Below w.heap.size w w':=by
 obtain ⟨sr,-,-,Up⟩:=Ve hm;have HO:=zH (fun A n c l w hl hn=>Bz A n c l w hl hn)
 have HMN:=zH sr;have zj:=zH Ud;have gn:(n:Int) <= 400000:=by omega
 obtain ⟨f,hf⟩:∃ f:Nat -> List Nat,f=fun i=>m.getD i []:=⟨_,rfl⟩
 have HF:=zH (show ∀ i (h:i<m.length),f i=m[i] from fun i h=>by rw [hf];exact Sq h)
 have fu:=zH (cG f);have HE:=zH (show (List.range n).map f=m by
  refine List.ext_getElem (by simp [sr]) fun i h1 h2=>?_
  rw [List.getElem_map,List.getElem_range,hf];exact Sq h2)
 clear hm sr Ud hf;go_enter Tryz.func115,Tryz.ntmps115
 go_wp2_with fail
 go_loopw [3,8] (fun u y wr=>∃ (i:Nat) (v:Value) (cs:List Value),v=u /\ i <= n /\ y= .int .i64 i /\ wr.ownsRow w.heap.size 28 1 v i cs /\ Rf w.heap.size wr v cs ((List.range i).map f) /\ Below w.heap.size w wr) (fun _ y _=>n-(intOf y).toNat)
 case atStart=>exact ⟨0,_,[],rfl,Nat.zero_le _,rfl,⟨rfl, .inl ⟨rfl,rfl⟩⟩,Ns _ _ _,Below.refl _ _⟩
 case round =>
  obtain ⟨i,v,cs,rfl,hi,rfl,ra,Da,hb⟩:=hrel;by_cases za:i<n
  ·have q1:(i:Int)<(n:Int):=by omega
   have q2:(0:Int) <= (i:Int):=by omega
   have Dn:i<m.length:=by rw [HMN.out];exact za
   obtain ⟨b1,Tl,A1,n1,c1,rfl,Hh,Lg,ud⟩:=vh Up Dn;have Ds:=(hb.cell (p:=⟨b1,Tl+i,none⟩) Hh).trans Lg;have Qc:=ta hb ud;have fl:=zH (HF.out i Dn);have HRi:=zH (fu.out i);have Eg:=zj.out _ (List.getElem_mem Dn);rw [<- fl.out] at Qc Eg;have Md:=(Ra Qc).1;have hlx:=zH (Ra Qc).2.2.2.1;have re:n1 <= 100000:=by omega
   obtain ⟨fi,Hj⟩:=zEX (f i);rw [<- Hj] at Qc hlx HRi;clear Hj Eg Md Lg ud fl;go_wp2_with fail
   refine (HO.out _ _ _ _ _ Qc (by omega)).mono ?_
   rintro e w7 ⟨v7,rfl,o7,Wa⟩;obtain ⟨A7,c7,rfl,-⟩:=Ob o7;have hx:=Xl (N:=w.heap.size) (gb:=v.ownBlock) o7 hlx.out hb.size (fun q e=>(ra.lt q e).2)
   replace ra:=Oa ra Wa zR;replace Da:=Uc Da Wa;replace hb:=oa hb Wa;clear Wa o7 Ds Qc;go_wp2_with (at_builtin;refine Mf rfl _ _ rfl Cj rfl (ra.alloc _) rfl (Lf _ _ _) (by intro u hu;simp at hu;subst hu;rfl) (by omega) (by simp;have:=hb.size;omega) ?_)
   intro v' wn db Ma Lb;have ma:=(Below.refl w7.heap.size w7).alloc zR (.cells #[.slice A7 n1 c7] 28);have Ej:=Ae (ra.alloc _) Ma (by simp;have:=hb.size;omega)
   replace Da:=Uc Da ma;replace hx:=Mh hx ma.size (fun b _ h2 _=>ma.block b h2)
   have ee:=Tq Da hx Ma (by simpa using Lb)
   rw [HRi.out] at ee;replace hb:=(oa hb ma).trans Ej;clear ma Ma Lb Ej Da hx ra;go_wp2
   go_roundw
   case rel=>exact ⟨i+1,v',_,rfl,by omega,by go_num,db,ee,hb⟩
   case measure=>simp [intOf];omega
  ·obtain rfl:i=n:=by omega
   have q1:¬((i:Int)<(i:Int)):=by omega
   rw [HE.out] at Da;have Au:=qE Da ra zR zR;go_wp2;go_ret
   exact ⟨_,rfl,Au,hb⟩
theorem iV (A0 A1 A2 A3 A4:Option Addr) (n0 n1 n2 n3 n4 c0 c1 c2 c3 c4:Nat) (r:List (List Nat)) (x1 x2 x3 x4:List Nat) (w:World) (h0:Sb w [.slice A0 n0 c0] r) (h1:RWd w [.slice A1 n1 c1] x1) (h2:RWd w [.slice A2 n2 c2] x2) (h3:RWd w [.slice A3 n3 c3] x3) (h4:RWd w [.slice A4 n4 c4] x4)
  (l0:n0 <= 400000) (l1:∀ x∈r,x.length <= 100000) (l2:n1 <= 100000 /\ n2 <= 100000 /\ n3 <= 100000 /\ n4 <= 100000) :
  Calls Tryz.prog 44 #[.agg #[.slice A0 n0 c0, .slice A1 n1 c1, .slice A2 n2 c2, .slice A3 n3 c3, .slice A4 n4 c4]] w fun e w'=>∃ (B0 B1 B2 B3 B4:Option Addr) (m0 m1 m2 m3 m4 d0 d1 d2 d3 d4:Nat),e= .returned (.agg #[.slice B0 m0 d0, .slice B1 m1 d1, .slice B2 m2 d2, .slice B3 m3 d3, .slice B4 m4 d4]) /\ Sb w' [.slice B0 m0 d0] r /\ RWd w' [.slice B1 m1 d1] x1 /\ RWd w' [.slice B2 m2 d2] x2 /\ RWd w' [.slice B3 m3 d3] x3 /\ RWd w' [.slice B4 m4 d4] x4 /\ Below w.heap.size w w':=by
 have HC:=zH (fun w' (hb:Below w.heap.size w w')=>rV A0 n0 c0 r w' (Gb hb h0) l0 l1)
 have jo:=zH (fun w' (hb:Below w.heap.size w w')=>Bz A1 n1 c1 x1 w' (ta hb h1) (by omega))
 have Lv:=zH (fun w' (hb:Below w.heap.size w w')=>Bz A2 n2 c2 x2 w' (ta hb h2) (by omega))
 have Mv:=zH (fun w' (hb:Below w.heap.size w w')=>Bz A3 n3 c3 x3 w' (ta hb h3) (by omega))
 have HO4:=zH (fun w' (hb:Below w.heap.size w w')=>Bz A4 n4 c4 x4 w' (ta hb h4) (by omega))
 have Bh:=zH (Ra h1).2.2.2.1;have Jv:=zH (Ra h2).2.2.2.1;have HL3:=zH (Ra h3).2.2.2.1;have HL4:=zH (Ra h4).2.2.2.1;clear h0 h1 h2 h3 h4 l0 l1 l2;obtain ⟨kc,ka,da,-⟩:=Ue w 42 42 #[.slice A0 n0 c0, .slice A1 n1 c1, .slice A2 n2 c2, .slice A3 n3 c3, .slice A4 n4 c4] #[.slice none 0 0, .slice none 0 0, .slice none 0 0, .slice none 0 0, .slice none 0 0];go_enter Tryz.func44,Tryz.ntmps44
 go_upto_region 1 with fail
 generalize (w.alloc _).alloc _=w1 at kc ka da |-;have cc:=kc.cell;have lc:=kc.lt;refine Qt (Ib) [2,5,8,11,14,16] [16] [0,1,3,4,6,7,9,10,12,13,2,5,8,11,14,15,16] (by kernel_rfl) (by kernel_rfl) ?_
 refine Tt (xa) ?_;intro Wc Na ja;have ya:=Cc Na;replace ka:=ia ka ya;replace da:=oa da ya;clear ya Na;refine Ag ?_;have qg:=ka.lt;refine fh (xa) rfl rfl rfl (fun _=>by go_simp <;> rfl) ((HC.out _ da).mono ?_)
 rintro e w2 ⟨v0,rfl,x0,ea⟩;refine ⟨_,rfl,fun _=>ea,?_⟩
 replace ja:=(xa).trans _ _ _ ja (ea);simp only [Act.put,zLa,zLb,zLc];have Fh:w.heap.size+1<Wc.heap.size:=qg;replace ka:=ia ka ea;replace da:=oa da ea;clear ea;obtain ⟨B0,m0,d0,rfl⟩:=RSl.slc x0.here;have ve:w.heap.size+1<w2.heap.size:=ka.lt;refine Ag ?_;refine fh (xa) rfl rfl rfl (fun _=>by go_simp <;> rfl) ((jo.out _ da).mono ?_)
 rintro e w3 ⟨v1,rfl,o1,ea⟩;refine ⟨_,rfl,fun _=>ea,?_⟩
 replace ja:=(xa).trans _ _ _ ja (ea);simp only [Act.put,zLa,zLb,zLc];obtain ⟨B1,d1,rfl,-⟩:=Ob o1;replace x0:=Wl x0 ea.size (fun b _ h2=>ea.block b h2)
 replace ka:=ia ka ea;replace da:=oa da ea;clear ea;have rk:w.heap.size+1<w3.heap.size:=ka.lt;refine Ag ?_;refine fh (xa) rfl rfl rfl (fun _=>by go_simp <;> rfl) ((Lv.out _ da).mono ?_)
 rintro e w4 ⟨v2,rfl,o2,ea⟩;refine ⟨_,rfl,fun _=>ea,?_⟩
 replace ja:=(xa).trans _ _ _ ja (ea);simp only [Act.put,zLa,zLb,zLc];obtain ⟨B2,d2,rfl,-⟩:=Ob o2;replace x0:=Wl x0 ea.size (fun b _ h2=>ea.block b h2)
 replace ka:=ia ka ea;replace da:=oa da ea;replace o1:=Oa o1 ea zR;clear ea;have My:w.heap.size+1<w4.heap.size:=ka.lt;refine Ag ?_;refine fh (xa) rfl rfl rfl (fun _=>by go_simp <;> rfl) ((Mv.out _ da).mono ?_)
 rintro e w5 ⟨v3,rfl,o3,ea⟩;refine ⟨_,rfl,fun _=>ea,?_⟩
 replace ja:=(xa).trans _ _ _ ja (ea);simp only [Act.put,zLa,zLb,zLc];obtain ⟨B3,d3,rfl,-⟩:=Ob o3;replace x0:=Wl x0 ea.size (fun b _ h2=>ea.block b h2)
 replace ka:=ia ka ea;replace da:=oa da ea;replace o1:=Oa o1 ea zR;replace o2:=Oa o2 ea zR;clear ea;have Mk:w.heap.size+1<w5.heap.size:=ka.lt;refine Ag ?_;refine fh (xa) rfl rfl rfl (fun _=>by go_simp <;> rfl) ((HO4.out _ da).mono ?_)
 rintro e w6 ⟨v4,rfl,o4,ea⟩;refine ⟨_,rfl,fun _=>ea,?_⟩
 replace ja:=(xa).trans _ _ _ ja (ea);simp only [Act.put,zLa,zLb,zLc];obtain ⟨B4,d4,rfl,-⟩:=Ob o4;replace x0:=Wl x0 ea.size (fun b _ h2=>ea.block b h2)
 replace ka:=ia ka ea;replace da:=oa da ea;replace o1:=Oa o1 ea zR;replace o2:=Oa o2 ea zR;replace o3:=Oa o3 ea zR;clear ea;have ca:=ka.cell;have fa:=ka.frozen;have la:=ka.lt;refine Ag ?_;refine Rh (xa) rfl rfl rfl ?_;go_simp;refine ⟨fun h=>Bool.noConfusion h,?_⟩
 have Ba:=zh (w:=w6) (g:=w.heap.size+1) (.slice B0 m0 d0) (.slice B1 n1 d1) (.slice B2 n2 d2) (.slice B3 n3 d3) (.slice B4 n4 d4);have xd:=zH (yh ka (.slice B0 m0 d0) (.slice B1 n1 d1) (.slice B2 n2 d2) (.slice B3 n3 d3) (.slice B4 n4 d4));have ic:=zH (Pb da Ba);have Y0:=zH (Wl x0 Ba.size (fun b b1 b2=>Ba.block b b2 (fun e=>by have:=Option.some.inj e;omega))).here
 have Y1:=zH (qf (Hc o1 Ba ve) Bh.out);have Y2:=zH (qf (Hc o2 Ba rk) Jv.out);have Y3:=zH (qf (Hc o3 Ba My) HL3.out);have Y4:=zH (qf (Hc o4 Ba Mk) HL4.out);clear Ba x0 o1 o2 o3 o4 ca fa la ka da cc lc
 try simp only [Act.put,zLa,zLb,zLc]
 generalize ((((w6.setCell _ _).setCell _ _).setCell _ _).setCell _ _).setCell _ _=wf at xd ic Y0 Y1 Y2 Y3 Y4 |-;refine Ag ?_;refine Rt ?_;clear ja;have cf:=xd.out.cell;go_wp2_with fail
 exact bodyPost_ret (v:=.agg #[.slice B0 m0 d0, .slice B1 n1 d1, .slice B2 n2 d2, .slice B3 n3 d3, .slice B4 n4 d4]) (by simp [results,Tryz.results44,go_sem,cf]) rfl ⟨_,_,_,_,_,_,_,_,_,_,_,_,_,_,_,rfl,Y0.out,Y1.out,Y2.out,Y3.out,Y4.out,ic.out⟩
end Go.Proofs.YtgeofabpinfcmaaGreat
