/- A part of the proof. No condition. -/
import Derived.Test.YtgeofabpinfcmaaGreatProg
import Derived.Test.YtgeofabpinfcmaaGreatEZ36
import Derived.Test.YtgeofabpinfcmaaGreatEZ34

set_option maxRecDepth 100000
set_option maxHeartbeats 8000000
set_option linter.unusedVariables false
set_option linter.unusedSimpArgs false
namespace Go.Proofs.YtgeofabpinfcmaaGreat
open Go.RowKit
theorem YV (L:Ja) (pu rho al be:Nat) (vars:Int) (A B P D0 D1 D2 D3 S:Option Addr) (R c m d np cp n0 k0 n1 k1 n2 k2 n3 k3 ns cs:Nat) (rows:List Cb) (ws sa sb sq sl:List Nat) (cols:List (List Nat)) (pos:List Int) (w:World)
  (hL:Db L) (hF:xl L pu vars rows) (hr:RSl 3 te w [.slice A R c] rows) (hV:mn vars rows) (hw:RWd w [.slice B m d] ws) (Ml:(ws.length:Int)=vars)
  (hpos:qi w [.slice P np cp] pos) (Bf:se L.n L.queries pos=true)
  (h0:RWd w [.slice D0 n0 k0] sa) (h1:RWd w [.slice D1 n1 k1] sb) (h2:RWd w [.slice D2 n2 k2] sq) (h3:Sb w [.slice D3 n3 k3] cols)
  (l0:sa.length=L.k) (l1:sb.length=L.k+L.block-1) (l2:sq.length=2*L.k-1) (l3:cols.length=pos.length) (l4:∀ x∈cols,x.length=L.a+L.b+L.b+L.b+3 /\ ∀ y∈x,y<L.p)
  (hs:RWd w [.slice S ns cs] sl) (aq:td sl L.n Kd=true) :
  Calls Tryz.prog 111 #[.agg (Ya L),pc L.p (pu:Int) vars (.slice A R c), .slice B m d, .agg #[.int .u64 al, .int .u64 rho, .int .u64 be], .slice P np cp, .agg #[.slice D0 n0 k0, .slice D1 n1 k1, .slice D2 n2 k2, .slice D3 n3 k3], .slice S ns cs] w fun e w'=>∃ v0 v1 v2 v3,e= .returned (.tuple #[.agg #[v0,v1,v2,v3, .slice S ns cs], .int .i64 0]) /\
   RRx w.heap.size w' v0 (Je L (Ia L rows ws pu) pos cols) /\ Jc w.heap.size none w' v1 (OD L (Ia L rows ws pu) pos cols sa al) /\ Jc w.heap.size none w' v2 (ZA L (Tc L pu rho rows) (Ia L rows ws pu) pos cols sb) /\ Jc w.heap.size none w' v3 (aB L (Ia L rows ws pu) pos cols sq be) /\ Below w.heap.size w w':=by
 have hp:=Va hL.p;have Ga:=hL.b1;have Ka:=hL.b2;have Xf:=hL.q1;have Sg:=hL.q2;have tg:=hL.k;have yn:L.a+L.b+L.b+L.b <= 400000:=by have:=hL.a;have:=hL.b;omega
 obtain ⟨M,vu⟩:=zEX (Ia L rows ws pu);have Qs:M.length=L.a+L.b+L.b+L.b:=by rw [vu];exact Vk _ _ _ _
 have Co:∀ x∈M,x.length=L.block:=fun x hx=>by rw [vu] at hx;exact qx hx
 obtain ⟨T,hT⟩:=zEX (L.a+L.b+L.b+L.b);rw [<- hT] at yn;have Jh:=Jr Bf;have Yh:=(Ve h3).1;have iA:=zH (fun w' (hb:Below w.heap.size w w')=>uR L pu vars A B R c m d rows ws w' hL hF (Kc Gc _ _ _ _ hb hr) (ta hb hw) Ml)
 rw [<- vu] at iA;have HMk:=zH (fun (A1 C:Option Addr) n1 c1 k e r (hr:r<M.length) w' (hb:Below w.heap.size w w') hm hv=>DY L A1 P C n1 c1 np cp k e (M.getD r []) (rn cols pos.length r) pos w' hL hm (by
  have e1:=(Ra hm).1;rw [List.getD_eq_getElem?_getD,List.getElem?_eq_getElem hr] at e1;rw [e1];exact Co _ (List.getElem_mem hr)) (pf _ _ _ _ hb hpos) hv)
 have ki:=zH (fun r=>iK (r:=r) (L:=L) (by omega) Bf (cols:=cols) (fun x hx=>(l4 x hx).2))
 have HAn:=zH (fun (AM Z0 Z1 Z2 Z3:Option Addr) TM cM z0 y0 z1 y1 z2 y2 z3 y3 w' (hb:Below w.heap.size w w') hm h0 h1 h2 h3=>qR L pu rho al be vars A AM Z0 Z1 Z2 Z3 S R c TM cM z0 z1 z2 z3 ns y0 y1 y2 y3 cs rows M (Je L M pos cols) (Pc L.k) (Pc (L.k+L.block-2)) (Pc (L.block+2*L.queries-1)) sl w' hL hF (Kc Gc _ _ _ _ hb hr) hV hm h0 h1 h2 h3 (ta hb hs) (oP (by omega) Bf Qs aq) Qs Co)
 have Uz:=zH (fun B m d b w' (hb:Below w.heap.size w w') hl h=>XJ L D0 B n0 k0 m d sa b w' hL (ta hb h0) hl h (by have:=(Ra h0).1;omega))
 have HD1:=zH (fun B m d b w' (hb:Below w.heap.size w w') hl h=>XJ L D1 B n1 k1 m d sb b w' hL (ta hb h1) hl h (by have:=(Ra h1).1;omega))
 have Vz:=zH (fun B m d b w' (hb:Below w.heap.size w w') hl h=>XJ L D2 B n2 k2 m d sq b w' hL (ta hb h2) hl h (by have:=(Ra h2).1;omega))
 have eu:=zH (fun A n c a w' ha hm hn=>kZ L A n c (2*L.queries-1) a w' hL ha hm (by omega) hn)
 obtain ⟨F,hF2⟩:∃ F:Nat -> Nat -> Nat,F=fun r i=>(Bl L M pos cols r).getD i 0:=⟨_,rfl⟩
 have bA:=zH (show ∀ r i,F r i<18446744073709551616 from fun r i=>by
  rw [hF2];exact Nat.lt_trans (gK (by omega) i) hp.2)
 have Zz:=zH (show ∀ r,(fun i=>(kj L (M.getD r []) pos (rn cols pos.length r)).getD i 0)=F r from fun r=>by rw [hF2];rfl)
 have HFR:=zH (show (List.range T).map (fun i=>(List.range L.queries).map (F i))=Je L M pos cols by
  rw [hF2,hT,<- Qs];unfold Je;refine List.map_congr_left fun r _=>?_
  exact tI _ _ (iH Jh))
 obtain ⟨m2,Qc⟩:=zEX (L.k+L.block-2);obtain ⟨m3,jf⟩:=zEX (L.block+2*L.queries-1);obtain ⟨PL,vw⟩:=zEX (pos.length);rw [<- Qc,<- jf] at HAn;rw [<- vw] at HMk ki Zz Jh l3;have Xi:=zH hpos;obtain ⟨Kl,hnpc,hnpx,ZK⟩:pos.length=np /\ np <= cp /\ cp <= maxLen /\ RdL w 1 Wv P pos:=by
  obtain ⟨A',n',c',he,r1,r2,r3,r4⟩:=hpos;simp at he
  obtain ⟨rfl,rfl,rfl⟩:=he;exact ⟨r1,r2,r3,r4⟩
 have hnP:np=PL:=by omega
 subst hnP;have hL0:=(Ra h0).1;have hL1:=(Ra h1).1;have hL2:=(Ra h2).1;have gP:(np:Int) <= 100000:=by omega
 have mkp:=mj np (by omega)
 have mkr:=DL T (by omega)
 have mk1:=mj L.k (by omega)
 have mk2:=mj m2 (by omega)
 have mk3:=mj m3 (by omega)
 have gT:(T:Int) <= 400000:=by omega
 have HN:=zH (show L.k <= 1000000 /\ m2 <= 1000000 /\ m3 <= 1000000 /\ L.queries <= 1000000 /\ T <= 1000000 /\ np=L.queries /\ 1 <= L.queries /\ 2 <= L.block /\ L.block <= 1000000 /\ L.k=L.block+L.queries by omega)
 have Fv:=zH (show ∀ x∈cols,x.length=T+3 /\ ∀ y∈x,y<L.p from fun x hx=>by rw [hT];exact l4 x hx)
 have HE:=zH (show OD L M pos cols sa al=(List.range L.k).map (mw L.p sa (Pd L M (Je L M pos cols) (Pc L.k) al)) /\ ZA L (Tc L pu rho rows) M pos cols sb=((List.range (L.k+L.block-1)).map (mw L.p sb (Nc L (Tc L pu rho rows) M (Je L M pos cols) (Pc m2)))).drop 1 /\ aB L M pos cols sq be=Hg L ((List.range (2*L.k-1)).map (mw L.p sq (pd L M (Je L M pos cols) (Pc m3) be))) by rw [Qc,jf];exact ⟨rfl,rfl,rfl⟩)
 rw [<- vu];generalize OD L M pos cols sa al=EC at *;generalize ZA L (Tc L pu rho rows) M pos cols sb=EL at *;generalize aB L M pos cols sq be=EQ at *;have e1:(L.k:Int)+(L.block:Int)=(((m2+2:Nat)):Int):=by omega
 have il:=zH (And.intro l0 (And.intro l1 (And.intro l2 (And.intro l3 (And.intro Qs hT)))));have HLn:=zH (And.intro hL0 (And.intro hL1 hL2));have nm:=zH (And.intro Qc jf);have Xm:=zH h3;have HPos:0<L.p:=by omega
 have mo:=zH hp.2;have Xi:=zH HPos;have bu:=zH (show n0=L.k /\ n1=L.k+L.block-1 /\ n2=2*L.k-1 /\ L.k <= 1000 from ⟨by omega,by omega,by omega,by omega⟩)
 clear e1 hp Ga Ka Xf Sg tg yn vu Qs Co hT Jh Yh hpos Bf h0 h1 h2 h3 l0 l1 l2 l3 l4 hs aq hL hF hr hV hw Ml Qc jf vw Kl hnpc hnpx ZK hL0 hL1 hL2 hF2 HPos;unfold Ya pc at *;obtain ⟨kl,kt,kx,kv,ka,da,-⟩:=zD w 49 25 90 195 42 #[.int .u64 L.p, .int .i64 L.block, .int .i64 L.queries, .int .i64 L.k, .int .i64 L.n, .int .i64 L.secret, .int .i64 L.rows, .int .i64 L.a, .int .i64 L.b, .int .i64 L.b, .int .i64 L.b] #[.int .u64 L.p, .int .i64 pu, .int .i64 vars, .slice A R c] #[.int .u64 al, .int .u64 rho, .int .u64 be] #[.slice D0 n0 k0, .slice D1 n1 k1, .slice D2 n2 k2, .slice D3 n3 k3] #[.slice none 0 0, .slice none 0 0, .slice none 0 0, .slice none 0 0, .slice none 0 0];go_enter Tryz.func111,Tryz.ntmps111
 go_upto_region 1 with fail
 have vt:w.heap.size+4<(((((w.alloc (.cells #[.int .u64 L.p, .int .i64 L.block, .int .i64 L.queries, .int .i64 L.k, .int .i64 L.n, .int .i64 L.secret, .int .i64 L.rows, .int .i64 L.a, .int .i64 L.b, .int .i64 L.b, .int .i64 L.b] 49)).alloc (.cells #[.int .u64 L.p, .int .i64 pu, .int .i64 vars, .slice A R c] 25)).alloc (.cells #[.int .u64 al, .int .u64 rho, .int .u64 be] 90)).alloc (.cells #[.slice D0 n0 k0, .slice D1 n1 k1, .slice D2 n2 k2, .slice D3 n3 k3] 195)).alloc (.cells #[.slice none 0 0, .slice none 0 0, .slice none 0 0, .slice none 0 0, .slice none 0 0] 42)).heap.size:=ka.lt;generalize ((((w.alloc _).alloc _).alloc _).alloc _).alloc _=w1 at kl kt kx kv ka da vt |-;have cl:=kl.cell;have ct:=kt.cell;go_wp2_with fail
 refine (iA.out _ da).mono ?_;rintro e w2 ⟨v,rfl,hM,ea⟩;replace hM:=hM.here;obtain ⟨AM,TM,cM,rfl⟩:=RSl.slc hM;have hTM:TM=T:=by rw [<- (Ve hM).1,il.out.2.2.2.2.1];exact il.out.2.2.2.2.2.symm
 subst hTM;replace kl:=ia kl ea;replace kt:=ia kt ea;replace kx:=ia kx ea;replace kv:=ia kv ea;replace ka:=ia ka ea;replace da:=oa da ea;replace vt:=Nat.le_trans vt ea.size;clear ea cl ct;go_wp2_with fail
 have kr:=Blk.new w2 28 (ag TM fun _=>.slice none 0 0)
 have ma:=(Below.refl w2.heap.size w2).alloc zR (.cells (ag TM fun _=>.slice none 0 0) 28)
 clear mkr;generalize w2.alloc _=w3 at kr ma |-;have xk:w2.heap.size<w3.heap.size:=kr.lt;obtain ⟨N,hN⟩:=zEX (w2.heap.size+1);have Fh:w2.heap.size<N:=by omega
 have rk:N <= w3.heap.size:=by omega
 clear hN xk;go_wp2_with fail
 go_loopw [37] (fun y wr=>∃ (r:Nat) (CS:Array Value),r <= TM /\ y= .int .i64 r /\ Blk wr w2.heap.size 28 CS /\ CS.size=TM /\ Vt N L.queries wr CS r F /\ Below w2.heap.size w2 wr /\ N <= wr.heap.size) (fun y _=>TM-(intOf y).toNat)
 case atStart=>exact ⟨0,_,Nat.zero_le _,rfl,kr,by simp [ag],fun k hk=>by omega,ma,rk⟩
 case round =>
  clear kr ma rk;obtain ⟨r,CS,hr,rfl,kr,tB,eg,Ka,rk⟩:=hrel;by_cases Ww:r<TM
  ·have q1:(0:Int) <= (r:Int):=by omega
   have q2:(r:Int)<(TM:Int):=by omega
   have HR:=zH Ww;have Qs:=il.out.2.2.2.2;have hrM:r<M.length:=by omega
   obtain ⟨bM,qM,A1,nM,c1,eM,hbM,hcM,GF⟩:=vh (Ve (Gb Ka hM)).2.2.2 hrM;subst eM;have YW:RWd wr [.slice A1 nM c1] (M.getD r []):=by
    rw [List.getD_eq_getElem?_getD,List.getElem?_eq_getElem hrM];exact GF
   have HMkr:=zH (fun C k e w' hb hm hv=>HMk.out A1 C nM c1 k e r hrM w' hb hm hv)
   have HOKr:=zH (ki.out r);have HFEr:=zH (Zz.out r);obtain ⟨V,hV⟩:∃ V:Nat -> Nat,V=fun k=>(cols.getD k []).getD r 0:=⟨_,rfl⟩
   have HVV:=zH hV;have Yt:=zH (show ∀ k,k<np -> ∃ hk:k<cols.length,r<cols[k].length /\ cols[k].getD r 0=V k from fun k hk=>by
    have Vf:=il.out.2.2.2.1;have Ih:k<cols.length:=by omega
    refine ⟨Ih,?_,?_⟩
    ·have:=(Fv.out _ (List.getElem_mem Ih)).1
     omega
    ·rw [hV]
     show _=(cols.getD k []).getD r 0
     rw [List.getD_eq_getElem?_getD (l:=cols),List.getElem?_eq_getElem Ih]
     rfl)
   have Xr:=zH (show ∀ k,k<np -> V k<18446744073709551616 from fun k hk=>by
    obtain ⟨h1,h2,h3⟩:=Yt.out k hk;rw [<- h3];exact Nat.lt_trans (Wg (p:=L.p) (by have:=mo.out;have:=(Fv.out _ (List.getElem_mem h1)).2;exact Nat.lt_of_le_of_lt (Nat.zero_le _) (this _ (List.getElem_mem h2))) (Fv.out _ (List.getElem_mem h1)).2 _) mo.out)
   have HVE:=zH (show (List.range np).map V=rn cols np r by rw [hV];rfl)
   clear hV Qs hrM GF;obtain ⟨wo,Ln⟩:=zEX (wr);subst Ln;go_upto_region 7 with fail
   have kg:=Blk.new wo 22 (Ha np fun _=>0)
   have ma:=(Below.refl wo.heap.size wo).alloc zR (.cells (Ha np fun _=>0) 22)
   generalize wo.alloc _=wa at kg ma |-;rw [<- Cq _ V] at kg;go_wp2_with fail
   go_loopw [47] (fun y wr=>∃ k:Nat,k <= np /\ y= .int .i64 k /\ Blk wr wo.heap.size 22 (Ha np (He V (fun _=>0) k)) /\ Below wo.heap.size wo wr) (fun y _=>np-(intOf y).toNat)
   case atStart=>exact ⟨0,Nat.zero_le _,rfl,kg,ma⟩
   case round =>
    clear kg ma;obtain ⟨k,hk,rfl,kg,Fl⟩:=hrel;by_cases jz:k<np
    ·have g1:(0:Int) <= (k:Int):=by omega
     have g2:(k:Int)<(np:Int):=by omega
     obtain ⟨Ld,Zp,Ws⟩:=Yt.out k jz;have ib:Below w2.heap.size w2 wo:=Ka;have Zh:=((ia kv ib).below Fl (Nat.lt_of_lt_of_le kv.lt ib.size)).cell 3;have Cn:=Ve (Gb ((da.trans (ib.mono da.size)).trans (Fl.mono (Nat.le_trans da.size ib.size))) Xm.out);obtain ⟨bC,qC,Ac,nc,cc,eC,Wy,Gj,tt⟩:=vh Cn.2.2.2 Ld;subst eC;obtain ⟨Iu,-,-,-,La⟩:=Ra tt;have Pk:Rd wr 1 Ac cols[k].length (Fa cols[k]):=by rw [<- Iu];exact La
     obtain ⟨bD,qD,eD,hbD,hcD⟩:=Vd Pk Zp;subst eD;rw [Ws] at hcD;have g3:(k:Int)<(n3:Int):=by have:=Cn.1;omega
     have g4:(r:Int)<(nc:Int):=by omega
     have HVk:=zH (show (V k)=V k from rfl)
     obtain ⟨x,hx⟩:=zEX (V k);rw [<- hx] at hcD;have cg:=kg.cell k;rw [Zl _ _ jz] at cg;have fg:=kg.frozen;have HX:=zH hx;have HKN:=zH jz;clear Ws Zp Iu La Pk tt Cn Ld hx HVk ib;go_wp2_with fail
     have Ba:=Me (w:=wr) wo.heap.size k (.int .u64 x);replace kg:=kg.set_ k (.int .u64 x);rw [Sn (F:=V) HX.out] at kg;have Rg:=Fl.trans (Ff Ba Fl.size zR);clear Ba
     go_roundw
     case rel=>exact ⟨k+1,HKN.out,by go_num,kg,Rg⟩
     case measure=>have:=HKN.out;simp [intOf];omega
    ·obtain rfl:k=np:=by omega
     rw [Kx] at kg;have hrv:=jk kg Xr.out (by have:=HN.out;simp [maxLen];omega)
     rw [HVE.out] at hrv;have uc:Below w.heap.size w wr:=(da.trans (Ka.mono da.size)).trans (Fl.mono (Nat.le_trans da.size Ka.size));have jt:=ta Fl YW;have Fe:=(ia kl Ka).below Fl (Nat.lt_of_lt_of_le kl.lt Ka.size);have cl:=Fe.cell;clear Fe;go_wp2_with fail
     refine (HMkr.out _ _ _ _ uc jt hrv).mono ?_;rintro e w4 ⟨Fb,⟨Bw,rfl⟩ | ⟨Ta,g,rfl,hg,kg4⟩⟩
     ·exact absurd Bw (by rw [HOKr.out];simp)
     rw [HFEr.out] at kg4;have ea:=Fl.trans (Fb.mono Fl.size);have hBR4:=xo eg (Xv ea);have kr4:=ia kr ea;have hb24:=Ka.trans (ea.mono Ka.size);have Dm:N <= g:=Nat.le_trans (Nat.le_trans rk Fl.size) hg;have My:=Nat.le_trans rk ea.size;clear cl Ta jt hrv hg Fl Fb kg ea;have hrC:r<CS.size:=by omega
     have c4:=kr4.cell r;rw [Array.getElem?_eq_getElem hrC] at c4;have f4:=kr4.frozen;generalize CS[r]=old at c4;go_wp2_with fail
     have Ba:=Me (w:=w4) w2.heap.size r (.slice (some ⟨g,0,none⟩) L.queries L.queries);have kr5:=kr4.set_ r (.slice (some ⟨g,0,none⟩) L.queries L.queries);have hBR5:=xO (xo hBR4 (SE Ba Fh)) (by omega) Dm (kg4.grown Ba (fun e=>by have:=Option.some.inj e;omega))
     have hb25:=hb24.trans (Ff Ba hb24.size zR);have Mk:=Nat.le_trans My Ba.size;clear Ba
     go_roundw
     case rel=>exact ⟨r+1,_,HR.out,by go_num,kr5,by simp [tB],hBR5,hb25,Mk⟩
     case measure=>have:=HR.out;simp [intOf];omega
  ·obtain rfl:TM=r:=by omega
   have Ny:=vO kr (by rw [tB] at *;exact eg) (by have:=HN.out;simp [maxLen];omega) (by have:=HN.out;simp [maxLen];omega) bA.out
   rw [HFR.out] at Ny;have hRx:=UU (B:=w2.heap.size) kr (by rw [tB] at *;exact eg) (by have:=HN.out;simp [maxLen];omega) (by have:=HN.out;simp [maxLen];omega) bA.out zR (by omega)
   rw [HFR.out] at hRx;have HRx:=zH hRx;have Th:=zH (show w.heap.size+4<w2.heap.size from vt)
   clear kr eg tB hRx;obtain ⟨w5,qh⟩:=zEX (wr);subst qh;replace kl:=ia kl Ka;replace kt:=ia kt Ka;replace kx:=ia kx Ka;replace kv:=ia kv Ka;replace ka:=ia ka Ka;replace da:=oa da Ka;replace hM:=Gb Ka hM;replace vt:=Nat.le_trans vt Ka.size;clear Ka rk Fh HMk ki Zz bA HFR iA Fv mkp;obtain ⟨s1,Jn⟩:=zEX (L.k+L.block);obtain ⟨q2,Sg⟩:=zEX (2*L.queries);obtain ⟨s2,xi⟩:=zEX (L.block+q2);have nh:=HN.out;have uw:=nm.out;have i1:(L.k:Int)+(L.block:Int)=(s1:Int):=by omega
   have i2:=Yb s1;have i3:(s1:Int)-2=(m2:Int):=by omega
   have i4:=Yb m2;have i5:(2:Int)*(L.queries:Int)=(q2:Int):=by omega
   have i6:=Yb q2;have i7:(L.block:Int)+(q2:Int)=(s2:Int):=by omega
   have i8:=Yb s2;have i9:(s2:Int)-1=(m3:Int):=by omega
   have i10:=Yb m3;have u1:(L.k:Int) <= 1000000:=by omega
   have u2:(m2:Int) <= 1000000:=by omega
   have u3:(m3:Int) <= 1000000:=by omega
   clear nh uw Jn Sg xi;have cl:=kl.cell;have ll:=kl.lt;go_upto_region 17 with fail
   refine XI (Yf w5.heap.size) [0,1,2,4,5,6,7,8,9,11,12,13,14,15,16,17,19] 6 (by kernel_rfl) (by kernel_rfl) ?_
   refine ZI (zb w5.heap.size) ?_;intro Wc Na ja;have ya:=Cc Na;have Dc:w5.heap.size <= Wc.heap.size:=ya.size;refine jJ ?_;refine YI (zb w5.heap.size) [⟨3,[],[]⟩,⟨10,[],[]⟩,⟨18,[],[]⟩,⟨20,[3,10,18],[]⟩,⟨21,[],[]⟩] [(3,vf 22 (fun _=>Ha L.k fun _=>0) (Se L.k) 3),(10,vf 22 (fun _=>Ha m2 fun _=>0) (Se m2) 10),(18,vf 22 (fun _=>Ha m3 fun _=>0) (Se m3) 18),(20,zs (fun vs=>.agg #[.slice (some ⟨w2.heap.size,0,none⟩) TM TM,vs 3,vs 10,vs 18, .slice S ns cs]) 20),(21,vf 42 (fun _=>#[.slice none 0 0, .slice none 0 0, .slice none 0 0, .slice none 0 0, .slice none 0 0]) mq 21)] [(some 82,3),(some 89,10),(some 97,18),(some 99,20),(some 24,21)] [22] [22] (by kernel_rfl) (by kernel_rfl) (by first | exact zR | omega) (fun w1 h1=>h1) ?_ ?_ ?_
   ·exact List.forall_mem_cons.2 ⟨uv rfl (fun _ _ _=>rfl),List.forall_mem_cons.2 ⟨uv rfl (fun _ _ _=>rfl),List.forall_mem_cons.2 ⟨uv rfl (fun _ _ _=>rfl),List.forall_mem_cons.2 ⟨XM rfl (fun vs us h=>by simp only [h 3 (by decide),h 10 (by decide),h 18 (by decide)]),List.forall_mem_cons.2 ⟨uv rfl (fun _ _ _=>rfl),List.forall_mem_nil _⟩⟩⟩⟩⟩
   ·refine List.forall_mem_cons.2 ⟨?_,List.forall_mem_cons.2 ⟨?_,List.forall_mem_cons.2 ⟨?_,List.forall_mem_cons.2 ⟨?_,List.forall_mem_cons.2 ⟨?_,List.forall_mem_nil _⟩⟩⟩⟩⟩
    ·refine yq [] rfl (by kernel_rfl) ?_
     intro w1 vs F Ga hd Dg;clear hd;unfold Rj;simp only [List.foldl];change Vi _ _ _ fun v w'=>sm _ w1 w' F [] /\ vf 22 (fun _=>Ha L.k fun _=>0) (Se L.k) 3 (Nh vs 3 v) (Um w1 w' F []) w'
     have oe:=Nat.le_trans Dc Ga.size;exact Jp (v:=.slice (some ⟨w1.heap.size,0,none⟩) L.k L.k) (w':=w1.alloc (.cells (Ha L.k fun _=>0) 22)) (by have:=mk1 w1;go_simp <;> rfl) ⟨Ru ((Below.refl _ _).alloc zR _) oe _ _,ru (Blk.new _ _ _) zR⟩
    ·refine yq [] rfl (by kernel_rfl) ?_
     intro w1 vs F Ga hd Dg;clear hd;unfold Rj;simp only [List.foldl];change Vi _ _ _ fun v w'=>sm _ w1 w' F [] /\ vf 22 (fun _=>Ha m2 fun _=>0) (Se m2) 10 (Nh vs 10 v) (Um w1 w' F []) w'
     have oe:=Nat.le_trans Dc Ga.size;exact Jp (v:=.slice (some ⟨w1.heap.size,0,none⟩) m2 m2) (w':=w1.alloc (.cells (Ha m2 fun _=>0) 22)) (by have:=mk2 w1;go_simp <;> rfl) ⟨Ru ((Below.refl _ _).alloc zR _) oe _ _,ru (Blk.new _ _ _) zR⟩
    ·refine yq [] rfl (by kernel_rfl) ?_
     intro w1 vs F Ga hd Dg;clear hd;unfold Rj;simp only [List.foldl];change Vi _ _ _ fun v w'=>sm _ w1 w' F [] /\ vf 22 (fun _=>Ha m3 fun _=>0) (Se m3) 18 (Nh vs 18 v) (Um w1 w' F []) w'
     have oe:=Nat.le_trans Dc Ga.size;exact Jp (v:=.slice (some ⟨w1.heap.size,0,none⟩) m3 m3) (w':=w1.alloc (.cells (Ha m3 fun _=>0) 22)) (by have:=mk3 w1;go_simp <;> rfl) ⟨Ru ((Below.refl _ _).alloc zR _) oe _ _,ru (Blk.new _ _ _) zR⟩
    ·refine yq [(some 82,3),(some 89,10),(some 97,18)] rfl (by kernel_rfl) ?_
     intro w1 vs F Ga hd Dg;have d3:vf 22 (fun _=>Ha L.k fun _=>0) (Se L.k) 3 vs (F 3) w1 /\ ∀ b,F 3 b -> b<w1.heap.size /\ _ <= b:=hd 3 (by decide)
     have d10:vf 22 (fun _=>Ha m2 fun _=>0) (Se m2) 10 vs (F 10) w1 /\ ∀ b,F 10 b -> b<w1.heap.size /\ _ <= b:=hd 10 (by decide)
     have d18:vf 22 (fun _=>Ha m3 fun _=>0) (Se m3) 18 vs (F 18) w1 /\ ∀ b,F 18 b -> b<w1.heap.size /\ _ <= b:=hd 18 (by decide)
     clear hd;unfold Rj;simp only [List.foldl];change Vi _ _ _ fun v w'=>sm _ w1 w' F [] /\ zs (fun vs=>.agg #[.slice (some ⟨w2.heap.size,0,none⟩) TM TM,vs 3,vs 10,vs 18, .slice S ns cs]) 20 (Nh vs 20 v) (Um w1 w' F []) w'
     obtain ⟨g3,e3,-⟩:=d3.1;obtain ⟨g10,e10,-⟩:=d10.1;obtain ⟨g18,e18,-⟩:=d18.1;exact Jp (v:=.agg #[.slice (some ⟨w2.heap.size,0,none⟩) TM TM,vs 3,vs 10,vs 18, .slice S ns cs]) (w':=w1) (by rw [e3,e10,e18];go_simp <;> rfl) ⟨ML _ _ _ _,rfl⟩
    ·refine yq [] rfl (by kernel_rfl) ?_
     intro w1 vs F Ga hd Dg;clear hd;unfold Rj;simp only [List.foldl];change Vi _ _ _ fun v w'=>sm _ w1 w' F [] /\ vf 42 (fun _=>#[.slice none 0 0, .slice none 0 0, .slice none 0 0, .slice none 0 0, .slice none 0 0]) mq 21 (Nh vs 21 v) (Um w1 w' F []) w'
     have oe:=Nat.le_trans Dc Ga.size;exact Jp (v:=.pointer (some ⟨w1.heap.size,0,none⟩)) (w':=w1.alloc (.cells #[.slice none 0 0, .slice none 0 0, .slice none 0 0, .slice none 0 0, .slice none 0 0] 42)) (by go_simp <;> rfl) ⟨Ru ((Below.refl _ _).alloc zR _) oe _ _,ru (Blk.new _ _ _) zR⟩
   intro wf vs F Qd hf Dg;have f3:vf 22 (fun _=>Ha L.k fun _=>0) (Se L.k) 3 vs (F 3) wf /\ ∀ b,F 3 b -> b<wf.heap.size /\ _ <= b:=hf _ (.head _) (by decide)
   have f10:vf 22 (fun _=>Ha m2 fun _=>0) (Se m2) 10 vs (F 10) wf /\ ∀ b,F 10 b -> b<wf.heap.size /\ _ <= b:=hf _ (.tail _ (.head _)) (by decide)
   have f18:vf 22 (fun _=>Ha m3 fun _=>0) (Se m3) 18 vs (F 18) wf /\ ∀ b,F 18 b -> b<wf.heap.size /\ _ <= b:=hf _ (.tail _ (.tail _ (.head _))) (by decide)
   have f20:zs (fun vs=>.agg #[.slice (some ⟨w2.heap.size,0,none⟩) TM TM,vs 3,vs 10,vs 18, .slice S ns cs]) 20 vs (F 20) wf /\ ∀ b,F 20 b -> b<wf.heap.size /\ _ <= b:=hf _ (.tail _ (.tail _ (.tail _ (.head _)))) (by decide)
   have f21:vf 42 (fun _=>#[.slice none 0 0, .slice none 0 0, .slice none 0 0, .slice none 0 0, .slice none 0 0]) mq 21 vs (F 21) wf /\ ∀ b,F 21 b -> b<wf.heap.size /\ _ <= b:=hf _ (.tail _ (.tail _ (.tail _ (.tail _ (.head _))))) (by decide)
   clear hf;unfold Rj;simp only [List.foldl];obtain ⟨⟨g3,e3,h3,k3⟩,b3⟩:=f3;have y3:=(b3 _ h3).2;obtain ⟨⟨g10,e10,h10,uC⟩,b10⟩:=f10;have Wd:=(b10 _ h10).2;obtain ⟨⟨g18,e18,h18,xC⟩,b18⟩:=f18;have y18:=(b18 _ h18).2;have e20:vs 20= .agg #[.slice (some ⟨w2.heap.size,0,none⟩) TM TM,vs 3,vs 10,vs 18, .slice S ns cs]:=f20.1;obtain ⟨⟨g21,e21,h21,k21⟩,b21⟩:=f21;have y21:=(b21 _ h21).2;have n3_10:g3≠g10:=fun e=>Dg 3 10 _ (by decide) h3 (by rw [e];exact h10)
   have n3_18:g3≠g18:=fun e=>Dg 3 18 _ (by decide) h3 (by rw [e];exact h18)
   have n3_21:g3≠g21:=fun e=>Dg 3 21 _ (by decide) h3 (by rw [e];exact h21)
   have n10_18:g10≠g18:=fun e=>Dg 10 18 _ (by decide) h10 (by rw [e];exact h18)
   have dY:g10≠g21:=fun e=>Dg 10 21 _ (by decide) h10 (by rw [e];exact h21)
   have eY:g18≠g21:=fun e=>Dg 18 21 _ (by decide) h18 (by rw [e];exact h21)
   simp only [e3,e10,e18] at e20;simp only [e3,e10,e18,e20,e21];clear b3 b10 b18 f20 b21 e3 e10 e18 e20 e21 h3 h10 h18 h21
   try dsimp only [Se]
   try dsimp only [mq]
   have c21:=k21.frozen;have cc21:=k21.cell;clear Dg;refine Ug (zb w5.heap.size) rfl rfl rfl ?_;go_simp;have Ba:=zh (w:=wf) (g:=g21) (.slice (some ⟨w2.heap.size,0,none⟩) TM TM) (.slice (some ⟨g3,0,none⟩) L.k L.k) (.slice (some ⟨g10,0,none⟩) m2 m2) (.slice (some ⟨g18,0,none⟩) m3 m3) (.slice S ns cs);have pL:=yh k21 (.slice (some ⟨w2.heap.size,0,none⟩) TM TM) (.slice (some ⟨g3,0,none⟩) L.k L.k) (.slice (some ⟨g10,0,none⟩) m2 m2) (.slice (some ⟨g18,0,none⟩) m3 m3) (.slice S ns cs);refine ⟨Ff Ba (by have:=Qd.size;omega) y21,?_⟩
   have jd:Below w5.heap.size w5 wf:=ya.trans (Qd.mono (by omega))
   have zt:=Pb jd Ba;have hE:∀ {a b:Nat},a≠b -> some a≠some b:=fun h e=>h (Option.some.inj e)
   replace k3:=k3.grown Ba (hE n3_21);replace uC:=uC.grown Ba (hE dY);replace xC:=xC.grown Ba (hE eY);have y21':w5.heap.size <= g21:=by omega
   clear Ba c21 cc21 k21 ya Qd Dc ja Na cl ll jd hE;generalize ((((wf.setCell _ _).setCell _ _).setCell _ _).setCell _ _).setCell _ _=w6 at k3 uC xC pL zt |-
   try simp only [Act.put,zLa,zLb,zLc]
   have hs6:w.heap.size+4<g21:=by omega
   replace kl:=ia kl zt;replace kt:=ia kt zt;replace kx:=ia kx zt;replace kv:=ia kv zt;replace ka:=ia ka zt;replace da:=oa da zt;replace hM:=Gb zt hM;replace Ny:=Gb zt Ny;have qh:=zt;clear zt vt;have z1:=jk k3 (fun _ _=>by omega) (by have:=HN.out;simp [maxLen];omega)
   have z2:=jk uC (fun _ _=>by omega) (by have:=HN.out;simp [maxLen];omega)
   have z3:=jk xC (fun _ _=>by omega) (by have:=HN.out;simp [maxLen];omega)
   have kq:=pL;clear k3 uC xC pL mk1 mk2 mk3 i1 i2 i3 i4 i5 i6 i7 i8 i9 i10;refine Fc ?_;have cl:=kl.cell;have ct:=kt.cell;have cx:=kx.cell;have cq:=kq.cell;go_wp2_with fail
   refine (HAn.out _ _ _ _ _ _ _ _ _ _ _ _ _ _ _ _ da hM Ny z1 z2 z3).mono ?_;rintro e w7 ⟨B1,B2,B3,d1,d2,d3,rfl,⟨o1,t1⟩,⟨o2,t2⟩,⟨o3,t3⟩,Wa⟩;generalize Pd L M (Je L M pos cols) (Pc L.k) al=N1 at *;generalize Nc L (Tc L pu rho rows) M (Je L M pos cols) (Pc m2)=N2 at *;generalize pd L M (Je L M pos cols) (Pc m3) be=N3 at *;have q1:=qf o1 t1;have Dh:=zH t2;have tA:=zH t3;have hgA:g21<w6.heap.size:=kq.lt;obtain ⟨NA,hNA⟩:=zEX (w6.heap.size);rw [<- hNA] at o2 o3 hgA;have ay:=zH hNA;replace kl:=ia kl Wa;replace kt:=ia kt Wa;replace kx:=ia kx Wa;replace kv:=ia kv Wa;replace ka:=ia ka Wa;replace kq:=ia kq Wa;replace da:=oa da Wa;replace qh:=oa qh Wa;clear Wa cl ct cx cq z1 z2 z3 kt kx HAn hM Ny t1 t2 t3 o1 hNA;replace o2:=Oa o2 (show Below w7.heap.size w7 w7 from Below.refl _ _) zR
   have cl:=kl.cell;have cv:=kv.cell;go_wp2_with fail
   refine (Uz.out _ _ _ _ _ da q1 (by have:=HLn.out;have:=il.out;omega)).mono ?_
   rintro e w8 ⟨gd,rfl,Hw,kd,je⟩;have lq:=kq.lt;have hgd1:g21<gd:=by omega
   replace kl:=ia kl je;replace kv:=ia kv je;replace ka:=ia ka je;replace kq:=ia kq je;replace da:=oa da je;replace qh:=oa qh je;replace o2:=Oa o2 je zR;replace o3:=Oa o3 je zR;clear je cl cv q1 lq Hw;have cq:=kq.cell;have fq:=kq.frozen;have lq:=kq.lt;go_upto_region 20 with fail
   have Ba:=Me (w:=w8) g21 1 (.slice (some ⟨gd,0,none⟩) n0 n0);replace kq:=kq.set_ 1 (.slice (some ⟨gd,0,none⟩) n0 n0);simp only [List.setIfInBounds_toArray,List.set_cons_zero,List.set_cons_succ] at kq;have nGd:gd≠g21:=by omega
   replace kl:=xc kl Ba;replace kv:=xc kv Ba;replace ka:=xc ka Ba;replace kd:=xc kd Ba;replace o2:=Hc o2 Ba (by omega)
   replace o3:=Hc o3 Ba (by omega)
   replace da:=Pb da Ba;replace qh:=Pb qh Ba;clear Ba cq fq lq;generalize w8.setCell _ _=w9 at kq kl kv ka kd o2 o3 da qh |-;have q2:=qf o2 Dh.out;have cl:=kl.cell;have cv:=kv.cell;have lq:=kq.lt;go_wp2_with fail
   refine (HD1.out _ _ _ _ _ da q2 (by have:=HLn.out;have:=il.out;omega)).mono ?_
   rintro e Sm ⟨ge,rfl,Rp,ke,ui⟩;have hge1:g21<ge:=by omega
   replace kl:=ia kl ui;replace kv:=ia kv ui;replace ka:=ia ka ui;replace kd:=ia kd ui;replace kq:=ia kq ui;replace da:=oa da ui;replace qh:=oa qh ui;replace o3:=Oa o3 ui zR;clear ui cl cv q2 o2 lq Rp;have cq:=kq.cell;have fq:=kq.frozen;have lq:=kq.lt;have s1:(1:Int) <= (n1:Int):=by have:=HLn.out;have:=il.out;have:=HN.out;omega
   have s2:¬(n1=1):=by have:=HLn.out;have:=il.out;have:=HN.out;omega
   go_upto_region 21 with fail
   have Ba:=Me (w:=Sm) g21 2 (.slice (some ⟨ge,1,none⟩) (n1-1) (n1-1));replace kq:=kq.set_ 2 (.slice (some ⟨ge,1,none⟩) (n1-1) (n1-1));simp only [List.setIfInBounds_toArray,List.set_cons_zero,List.set_cons_succ] at kq;have nGe:ge≠g21:=by omega
   replace kl:=xc kl Ba;replace kv:=xc kv Ba;replace ka:=xc ka Ba;replace kd:=xc kd Ba;replace ke:=xc ke Ba;replace o3:=Hc o3 Ba (by omega)
   replace da:=Pb da Ba;replace qh:=Pb qh Ba;clear Ba cq fq lq s1 s2;generalize Sm.setCell _ _=Lx at kq kl kv ka kd ke o3 da qh |-;have q3:=qf o3 tA.out;have cl:=kl.cell;have ll:=kl.lt;have cv:=kv.cell;have lv:=kv.lt;refine Qt (Ib) [5,6,8] [8] [0,1,2,3,4,5,6,7,8] (by kernel_rfl) (by kernel_rfl) ?_
   refine Tt (xa) ?_;intro Wc Na ja;have ya:=Cc Na;replace kl:=ia kl ya;replace kv:=ia kv ya;replace ka:=ia ka ya;replace kd:=ia kd ya;replace ke:=ia ke ya;replace kq:=ia kq ya;replace da:=oa da ya;replace qh:=oa qh ya;replace q3:=ta ya q3;clear Na ya o3;refine Ag ?_;refine fh (xa) rfl rfl rfl (fun _=>by go_simp <;> rfl) ((Vz.out _ _ _ _ _ da q3 (by have:=bu.out;omega)).mono ?_)
   rintro e wA ⟨gf,rfl,Fu,kf,ea⟩;refine ⟨_,rfl,fun _=>ea,?_⟩
   replace ja:=(xa).trans _ _ _ ja (ea);simp only [Act.put,zLa,zLb,zLc];replace kl:=ia kl ea;replace kv:=ia kv ea;replace ka:=ia ka ea;replace kd:=ia kd ea;replace ke:=ia ke ea;replace kq:=ia kq ea;replace da:=oa da ea;replace qh:=oa qh ea;clear ea q3;have hX:=jk kf (fun k _=>Nat.lt_trans (Nat.mod_lt _ Xi.out) mo.out) (by have:=bu.out;have:=HN.out;simp [maxLen];omega)
   refine Ag ?_;refine fh (xa) rfl rfl rfl (fun _=>by go_simp <;> rfl) ((eu.out _ _ _ _ _ hX (by have:=bu.out;have:=HN.out;omega) (by have:=bu.out;have:=HN.out;omega)).mono ?_)
   rintro e wB ⟨v,rfl,YB,ea⟩;refine ⟨_,rfl,fun _=>ea,?_⟩
   replace ja:=(xa).trans _ _ _ ja (ea);simp only [Act.put,zLa,zLb,zLc];have HBA:=zH (show w.heap.size+4<wA.heap.size from ka.lt)
   have kq0:=kq.lt;replace kl:=ia kl ea;replace ka:=ia ka ea;replace kd:=ia kd ea;replace ke:=ia ke ea;replace kq:=ia kq ea;replace da:=oa da ea;replace qh:=oa qh ea;clear ea hX kf;obtain ⟨Aq,cq',rfl,-⟩:=Ob YB;have cq:=kq.cell;have fq:=kq.frozen;have lq:=kq.lt;have HGA:=zH (show g21<wA.heap.size from kq0)
   refine Ag ?_;refine Rh (xa) rfl rfl rfl ?_;go_simp;refine ⟨fun h=>Bool.noConfusion h,?_⟩
   have Ba:=Me (w:=wB) g21 3 (.slice Aq (n2-L.block) cq');replace kq:=kq.set_ 3 (.slice Aq (n2-L.block) cq');simp only [List.setIfInBounds_toArray,List.set_cons_zero,List.set_cons_succ] at kq;have UK:=Hc YB Ba HGA.out;replace ka:=xc ka Ba;replace kd:=xc kd Ba;replace ke:=xc ke Ba;replace da:=Pb da Ba;replace qh:=Pb qh Ba;clear Ba cq fq lq YB kq0 kl ll cl cv lv ja
   try simp only [Act.put,zLa,zLb,zLc]
   generalize wB.setCell _ _=Mr at kq ka kd ke UK da qh |-;refine Rt ?_;have cq:=kq.cell;have lq:=kq.lt;have ca:=ka.cell;have fa:=ka.frozen;have la:=ka.lt;have Ba:=zh (w:=Mr) (g:=w.heap.size+4) (.slice (some ⟨w2.heap.size,0,none⟩) TM TM) (.slice (some ⟨gd,0,none⟩) n0 n0) (.slice (some ⟨ge,1,none⟩) (n1-1) (n1-1)) (.slice Aq (n2-L.block) cq') (.slice S ns cs);have ic:=zH (Pb da Ba);have HKd:=zH (kd.grown Ba (fun e=>by have:=Option.some.inj e;omega))
   have HKe:=zH (ke.grown Ba (fun e=>by have:=Option.some.inj e;omega))
   have HOv:=zH (Hc UK Ba HBA.out);have HRr:=zH (Wl HRx.out (Nat.le_trans qh.size Ba.size) (fun b b1 b2=>(Ba.block b (Nat.lt_of_lt_of_le b2 qh.size) (fun e=>by have:=Option.some.inj e;have:=Th.out;omega)).trans (qh.block b b2)))
   have xd:=zH (yh ka (.slice (some ⟨w2.heap.size,0,none⟩) TM TM) (.slice (some ⟨gd,0,none⟩) n0 n0) (.slice (some ⟨ge,1,none⟩) (n1-1) (n1-1)) (.slice Aq (n2-L.block) cq') (.slice S ns cs));have HGG:=zH (show w.heap.size <= gd /\ w.heap.size <= ge from ⟨by omega,by omega⟩)
   clear Ba kd ke UK qh da;go_wp2_with fail
   generalize ((((Mr.setCell _ _).setCell _ _).setCell _ _).setCell _ _).setCell _ _=wf at ic HKd HKe HOv HRr xd |-;have cf:=xd.out.cell;have x1:=TS (B:=w.heap.size) HKd.out (fun k _=>Nat.lt_trans (Nat.mod_lt _ Xi.out) mo.out) (by have:=bu.out;simp [maxLen];omega) HGG.out.1
   have x2:=T3 (TS (B:=w.heap.size) HKe.out (fun k _=>Nat.lt_trans (Nat.mod_lt _ Xi.out) mo.out) (by have:=bu.out;have:=HN.out;simp [maxLen];omega) HGG.out.2) (by have:=bu.out;have:=HN.out;omega) zR
   have hE3:EQ=(List.range (n2-L.block)).map (Si L.p L.block (2*L.queries-1) (fun k=>(((List.range n2).map (mw L.p sq N3)).drop L.block).getD k 0) (2*L.queries-1)):=by
    rw [HE.out.2.2,bu.out.2.2.1]
    rfl
   have hq3:∀ x∈EQ,x<18446744073709551616:=by
    rw [HE.out.2.2];exact fun x hx=>Nat.lt_trans (uM Xi.out (by have:=HN.out;omega) (fun y hy=>by
     obtain ⟨k,-,rfl⟩:=List.mem_map.1 hy;exact Nat.mod_lt _ Xi.out) x hx) mo.out
   have x3:=HOv.out;rw [<- hE3] at x3;have x3':=Gx (B:=w.heap.size) x3 hq3 (by have:=HBA.out;omega)
   have hE1:EC=(List.range n0).map (mw L.p sa N1):=by rw [HE.out.1,bu.out.1]
   have hE2:EL=((List.range n1).map (mw L.p sb N2)).drop 1:=by rw [HE.out.2.1,bu.out.2.1]
   rw [hE1,hE2];exact bodyPost_ret (v:=.tuple #[.agg #[.slice (some ⟨w2.heap.size,0,none⟩) TM TM, .slice (some ⟨gd,0,none⟩) n0 n0, .slice (some ⟨ge,1,none⟩) (n1-1) (n1-1), .slice Aq (n2-L.block) cq', .slice S ns cs], .int .i64 0]) (by simp [results,Tryz.results111,go_sem,cf]) rfl ⟨_,_,_,_,rfl,HRr.out.mono (by have:=Th.out;omega),x1,x2,x3',ic.out⟩
end Go.Proofs.YtgeofabpinfcmaaGreat
