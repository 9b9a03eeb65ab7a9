/- A part of the proof. No condition. -/
import Derived.Test.YtgeofabpinfcmaaGreatProg
import Derived.Test.YtgeofabpinfcmaaGreatEZ39
import Derived.Test.YtgeofabpinfcmaaGreatEZ30
import Derived.Test.YtgeofabpinfcmaaGreatEZ40

set_option maxRecDepth 100000
set_option maxHeartbeats 8000000
set_option linter.unusedVariables false
set_option linter.unusedSimpArgs false
namespace Go.Proofs.YtgeofabpinfcmaaGreat
open Go.RowKit
def Lk (p:Nat) (pub vars:Int) (rows:Value) (bl bw qs:Int) (ws vs:Value) (seed al rho be:Nat) (pos:Value):Array Value:=#[.int .u64 p, .int .i64 pub, .int .i64 vars,rows, .int .i64 bl, .int .i64 bw, .int .i64 qs,ws,vs, .int .u64 seed, .int .u64 al, .int .u64 rho, .int .u64 be,pos]
def ExOut (R:List (List Nat)) (C X Q S:List Nat) (B:Nat) (E:Int) (v0 v1 v2 v3 v4:Value) (w:World):Prop :=
 (E≠0 /\ v0= .slice none 0 0 /\ v1= .slice none 0 0 /\ v2= .slice none 0 0 /\ v3= .slice none 0 0 /\ v4= .slice none 0 0) \/
 (E=0 /\ RRx B w v0 R /\ Jc B none w v1 C /\ Jc B none w v2 X /\ Jc B none w v3 Q /\ Jc B none w v4 S)
theorem ExOut.keep {R:List (List Nat)} {C X Q S:List Nat} {B:Nat} {E:Int} {v0 v1 v2 v3 v4:Value} {w w':World} (h:ExOut R C X Q S B E v0 v1 v2 v3 v4 w) (hs:w.heap.size <= w'.heap.size) (hw:∀ b,B <= b -> b<w.heap.size -> w'.heap[b]?=w.heap[b]?):ExOut R C X Q S B E v0 v1 v2 v3 v4 w' :=
 h.imp id fun ⟨a,b,c,d,e,f⟩=>⟨a,Wl b hs hw,rp c hs hw,rp d hs hw,rp e hs hw,rp f hs hw⟩
theorem ExOut.below {R:List (List Nat)} {C X Q S:List Nat} {B:Nat} {E:Int} {v0 v1 v2 v3 v4:Value} {w w':World} (h:ExOut R C X Q S B E v0 v1 v2 v3 v4 w) (hb:Below w.heap.size w w'):ExOut R C X Q S B E v0 v1 v2 v3 v4 w':=h.keep hb.size fun b _ h2=>hb.block b h2
theorem ExOut.only {R:List (List Nat)} {C X Q S:List Nat} {B g:Nat} {E:Int} {v0 v1 v2 v3 v4:Value} {w w':World} (h:ExOut R C X Q S B E v0 v1 v2 v3 v4 w) (hg:w.grownBy w' (some g)) (hB:g<B):ExOut R C X Q S B E v0 v1 v2 v3 v4 w':=h.keep hg.size fun b h1 h2=>hg.block b h2 fun e=>by have:=Option.some.inj e;omega
theorem ExOut.mono {R:List (List Nat)} {C X Q S:List Nat} {B D:Nat} {E:Int} {v0 v1 v2 v3 v4:Value} {w:World} (h:ExOut R C X Q S B E v0 v1 v2 v3 v4 w) (hD:D <= B):ExOut R C X Q S D E v0 v1 v2 v3 v4 w :=
 h.imp id fun ⟨a,b,c,d,e,f⟩=>⟨a,b.mono hD,fp c hD,fp d hD,fp e hD,fp f hD⟩
def tG (R:List (List Nat)) (C X Q S:List Nat) (B:Nat) (E:Int) (e:Ending) (w:World):Prop:=∃ (A0 A1 A2 A3 A4:Option Addr) (n0 n1 n2 n3 n4 c0 c1 c2 c3 c4:Nat),e= .returned (.tuple #[.agg #[.slice A0 n0 c0, .slice A1 n1 c1, .slice A2 n2 c2, .slice A3 n3 c3, .slice A4 n4 c4], .int .i64 E]) /\ ExOut R C X Q S B E (.slice A0 n0 c0) (.slice A1 n1 c1) (.slice A2 n2 c2) (.slice A3 n3 c3) (.slice A4 n4 c4) w
theorem nP {L:Ja} {pu rho al be:Nat} {vars:Int} {rows:List Cb} {ws vs:List Nat} {r:List (List Nat)} {co li qu sa:List Nat} {pos:List Int} {w w':World} {E:Int} {e:Ending} (h:lJ L pu rho al be vars rows ws vs r co li qu sa pos w E e w') :
  tG (zd L (Ia L rows ws pu) r (Ia L rows vs pu) co li qu pos) (Zf L (Ia L rows ws pu) r (Ia L rows vs pu) co li qu pos al) (Tf L (Tc L pu rho rows) (Ia L rows ws pu) r (Ia L rows vs pu) co li qu pos) (Uf L (Ia L rows ws pu) r (Ia L rows vs pu) co li qu pos be) sa w.heap.size E e w':=by
 rcases h with ⟨h1,rfl⟩ | ⟨rfl,v0,v1,v2,v3,v4,rfl,x0,x1,x2,x3,x4⟩
 ·exact ⟨_,_,_,_,_,_,_,_,_,_,_,_,_,_,_,rfl, .inl ⟨h1,rfl,rfl,rfl,rfl,rfl⟩⟩
 ·obtain ⟨A0,n0,c0,rfl⟩:=RSl.slc x0.here
  obtain ⟨A1,n1,c1,rfl⟩:=Rm x1;obtain ⟨A2,n2,c2,rfl⟩:=Rm x2;obtain ⟨A3,n3,c3,rfl⟩:=Rm x3;obtain ⟨A4,n4,c4,rfl⟩:=Rm x4;exact ⟨_,_,_,_,_,_,_,_,_,_,_,_,_,_,_,rfl, .inr ⟨rfl,x0,x1,x2,x3,x4⟩⟩
def KG (w u:World):Prop:=∀ p v,w.cell? p=some v -> u.cell? p=some v
theorem W4 {w u:World} {g:Nat} {t:TypeId} (k:Blk w g t #[]) (hg:w.grownBy u (some g)):KG w u:=fun p v h=>by
 by_cases e:p.block=g
 ·have h0:w.heap[p.block]?=some (.cells #[] t (0,0)):=by rw [e];exact k
  simp [World.cell?,h0] at h
 ·by_cases hb:p.block<w.heap.size
  ·have:=hg.block p.block hb (fun x=>e (Option.some.inj x))
   rw [<- h];simp [World.cell?,this]
  ·have h0:w.heap[p.block]?=none:=Array.getElem?_eq_none (by omega)
   simp [World.cell?,h0] at h
theorem M0 {w u:World} {A:Option Addr} {n:Nat} {xs:List Value} (h:Rd w 1 A n xs) (hs:KG w u):Rd u 1 A n xs:=⟨h.1,fun h0=>by
 obtain ⟨ad,e,hc⟩:=h.2 h0;exact ⟨ad,e,fun j v hj=>hs _ _ (hc j v hj)⟩⟩
theorem ZC {w u:World} {vs:List Value} {l:List Nat} (h:RWd w vs l) (hs:KG w u):RWd u vs l:=by
 obtain ⟨A,n,c,he,h1,h2,h3,h4⟩:=h;exact ⟨A,n,c,he,h1,h2,M0 h3 hs,h4⟩
theorem L2 {w u:World} {vs:List Value} {l:List (List Nat)} (h:Sb w vs l) (hs:KG w u):Sb u vs l:=by
 obtain ⟨A,n,c,he,h1,h2,h3,h4⟩:=h;refine ⟨A,n,c,he,h1,h2,h3,fun i hi=>?_⟩
 obtain ⟨a,cs,e,hl,hc,hr⟩:=h4 i hi;refine ⟨a,cs,e,hl,fun j hj=>?_,ZC hr hs⟩
 have e2:=List.getElem?_eq_getElem (show j<cs.length by omega)
 rw [e2];exact hs _ _ (by rw [hc j hj,e2])
theorem pP (L:Ja) (pu rho al be seed:Nat) (vars bl bw qs:Int) (A B B2 P D0 D1 D2 D3 D4:Option Addr) (R c m d m2 d2 np cp n0 n1 n2 n3 n4 k0 k1 k2 k3 k4:Nat) (rows:List Cb) (ws vs:List Nat) (r:List (List Nat)) (co li qu sa:List Nat) (pos:List Int) (w:World)
  (hL:Db L) (gg:tl L ⟨L.p,(pu:Int),vars,rows.length,bl,bw,qs⟩) (ht:dd L.p (pu:Int) vars rows=true) (hr:RSl 3 te w [.slice A R c] rows) (hw:RWd w [.slice B m d] ws) (hv:RWd w [.slice B2 m2 d2] vs) (hpos:qi w [.slice P np cp] pos)
  (h0:Sb w [.slice D0 n0 k0] r) (h1:RWd w [.slice D1 n1 k1] co) (h2:RWd w [.slice D2 n2 k2] li) (h3:RWd w [.slice D3 n3 k3] qu) (h4:RWd w [.slice D4 n4 k4] sa) (Xb:Ze L r co li qu sa=true) (hm:m <= 100000) (Qc:m2 <= 100000) (Kl:np <= 1000) :
  Calls Tryz.prog 12 #[.agg (Lk L.p (pu:Int) vars (.slice A R c) bl bw qs (.slice B m d) (.slice B2 m2 d2) seed al rho be (.slice P np cp)), .agg #[.slice D0 n0 k0, .slice D1 n1 k1, .slice D2 n2 k2, .slice D3 n3 k3, .slice D4 n4 k4]] w fun e w'=>tG (zd L (Ia L rows ws pu) r (Ia L rows vs pu) co li qu pos) (Zf L (Ia L rows ws pu) r (Ia L rows vs pu) co li qu pos al) (Tf L (Tc L pu rho rows) (Ia L rows ws pu) r (Ia L rows vs pu) co li qu pos) (Uf L (Ia L rows ws pu) r (Ia L rows vs pu) co li qu pos be) sa w.heap.size (ti L pu vars rows ws vs pos al rho be) e w' /\ Below w.heap.size w w':=by
 have hp:=Va hL.p;obtain ⟨f1,f2,f3,f4,f5⟩:=Pq Xb;have Sg:=hL.q2;have Ka:=hL.b2;have tg:=hL.k;have yn:L.a+L.b+L.b+L.b <= 400000:=by have:=hL.a;have:=hL.b;omega
 have IF:sa.length=L.n:=by
  have e2:=Xb;unfold Ze td at e2;simp only [Bool.and_eq_true,decide_eq_true_eq] at e2;exact e2.2.2.2.2.2.1
 have re:=hL.n2;have HOw:=zH (fun w' (hb:Below w.heap.size w w')=>Bz B m d ws w' (ta hb hw) (by omega))
 have HOv:=zH (fun w' (hb:Below w.heap.size w w')=>Bz B2 m2 d2 vs w' (ta hb hv) (by omega))
 have yp:=zH (fun w' (hb:Below w.heap.size w w')=>iV D0 D1 D2 D3 D4 n0 n1 n2 n3 n4 k0 k1 k2 k3 k4 r co li qu sa w' (Gb hb h0) (ta hb h1) (ta hb h2) (ta hb h3) (ta hb h4) (by have:=(Ve h0).1;omega) (fun x hx=>by have:=(f2 x hx).1;omega) ⟨by have:=(Ra h1).1;omega,by have:=(Ra h2).1;omega,by have:=(Ra h3).1;omega,by have:=(Ra h4).1;omega⟩)
 have im:=zH (fun (B' B2' P' E0 E1 E2 E3 E4:Option Addr) d' d2' cp' m0 m1 m3 m4 m5 e0 e1 e2 e3 e4 w' (hb:Below w.heap.size w w') iq sC Yp g0 g1 g2 g3 g4=>tR L pu rho al be vars bl bw qs A B' B2' P' E0 E1 E2 E3 E4 R c m d' m2 d2' np cp' m0 m1 m3 m4 m5 e0 e1 e2 e3 e4 rows ws vs r co li qu sa pos w' hL gg ht (Kc Gc _ _ _ _ hb hr) iq sC Yp g0 g1 g2 g3 g4 Xb |>.mono fun _ _ h=>(And.intro (nP h.1) h.2))
 have mm:=zH (Ra hw).2.2.2.1;have jm:=zH (Ra hv).2.2.2.1;obtain ⟨A',n',c',he,r1,r2,r3,r4⟩:=hpos;simp at he
 obtain ⟨rfl,rfl,rfl⟩:=he;have HPr:=zH (show ∀ w',Below w.heap.size w w' -> Rd w' 1 P np (iu pos) from fun w' hb=>(by
  have:=r4.below zC hb;rw [<- r1];exact ri_rd this))
 have Ch:=zH (U0 r4);have ey:=zH r1;obtain ⟨E,hE⟩:=zEX (ti L pu vars rows ws vs pos al rho be);rw [<- hE] at im |-;generalize zd L (Ia L rows ws pu) r (Ia L rows vs pu) co li qu pos=XR at *;generalize Zf L (Ia L rows ws pu) r (Ia L rows vs pu) co li qu pos al=XC at *;generalize Tf L (Tc L pu rho rows) (Ia L rows ws pu) r (Ia L rows vs pu) co li qu pos=XL at *;generalize Uf L (Ia L rows ws pu) r (Ia L rows vs pu) co li qu pos be=XQ at *;clear hE hp f1 f2 f3 f4 f5 Sg Ka tg yn IF re hL gg ht hr hw hv h0 h1 h2 h3 h4 Xb hm Qc r1 r2 r3 r4;unfold Lk pc at *;obtain ⟨kb,kc,ka,da,Nb⟩:=Oq w 35 42 42 #[.int .u64 L.p, .int .i64 pu, .int .i64 vars, .slice A R c, .int .i64 bl, .int .i64 bw, .int .i64 qs, .slice B m d, .slice B2 m2 d2, .int .u64 seed, .int .u64 al, .int .u64 rho, .int .u64 be, .slice P np cp] #[.slice D0 n0 k0, .slice D1 n1 k1, .slice D2 n2 k2, .slice D3 n3 k3, .slice D4 n4 k4] #[.slice none 0 0, .slice none 0 0, .slice none 0 0, .slice none 0 0, .slice none 0 0];go_enter Tryz.func12,Tryz.ntmps12
 go_upto_region 1 with fail
 generalize ((w.alloc _).alloc _).alloc _=w1 at kb kc ka da Nb |-;have xi:w.heap.size+2 <= w1.heap.size:=by omega
 have Lu:w.heap.size+2 <= w1.drew.heap.size:=xi;have x1:w.heap.size<w.heap.size+2:=by omega
 have x2:w.heap.size+1<w.heap.size+2:=by omega
 clear Nb;have cb:=kb.cell;have lb:=kb.lt;have cc:=kc.cell;have lc:=kc.lt;refine P6 ((w.heap.size+2)) [9,11,14,20,21,24] [0,1,2,3,4,5,6,7,8,10,12,13,15,16,18,19,9,11,14] 17 [20,21,22,23,24,25] 3 #[] (by kernel_rfl) rfl ⟨rfl,fun a w=>by go_simp <;> rfl⟩ (by kernel_rfl) ?_
 refine T6 ?_;intro Wc Na ja;have Pa:(w.heap.size+2) <= Wc.heap.size:=by rw [Na.out];first | exact zR | omega
 have ya:Below w.heap.size w Wc:=by rw [Na.out];exact da.drew
 have kA:Blk Wc (w.heap.size+1+1) 42 #[.slice none 0 0, .slice none 0 0, .slice none 0 0, .slice none 0 0, .slice none 0 0]:=by rw [Na.out];exact ka.drew
 clear Na da ka xi Lu;refine kJ ?_;refine KN (f:=?_) (vals:=?_) rfl rfl rfl Pa ?_ (fun wF mf=>?_)
 rotate_left 3
 replace ya:=oa ya mf;replace kA:=ia kA mf;replace ja:=(zb (w.heap.size+2)).trans _ _ _ ja (yf mf Pa);replace Pa:=Nat.le_trans Pa mf.size;refine (HOw.out _ ya).mono ?_
 rotate_left
 ·intro w_;go_simp <;> rfl
 rintro e w2 ⟨v2,rfl,o2,ea⟩;clear mf;refine ⟨_,rfl,ea,?_⟩;replace ya:=oa ya ea;replace kA:=ia kA ea;replace ja:=(zb (w.heap.size+2)).trans _ _ _ ja (yf ea Pa);replace Pa:=Nat.le_trans Pa ea.size;simp only [Act.put,zLa,zLb,zLc];clear ea;obtain ⟨G2,e2,rfl,-⟩:=Ob o2;have y2:=qf o2 mm.out;clear o2;refine kJ ?_;refine KN (f:=?_) (vals:=?_) rfl rfl rfl Pa ?_ (fun wF mf=>?_)
 rotate_left 3
 replace ya:=oa ya mf;replace kA:=ia kA mf;replace y2:=ta mf y2;replace ja:=(zb (w.heap.size+2)).trans _ _ _ ja (yf mf Pa);replace Pa:=Nat.le_trans Pa mf.size;refine (yp.out _ ya).mono ?_
 rotate_left
 ·intro w_;go_simp <;> rfl
 rintro e w3 ⟨E0,E1,E2,E3,E4,m0,m1,m3,m4,m5,t0,t1,t2,t3,t4,rfl,g0,g1,g2,g3,g4,ea⟩;clear mf;refine ⟨_,rfl,ea,?_⟩;replace ya:=oa ya ea;replace kA:=ia kA ea;replace y2:=ta ea y2;replace ja:=(zb (w.heap.size+2)).trans _ _ _ ja (yf ea Pa);replace Pa:=Nat.le_trans Pa ea.size;simp only [Act.put,zLa,zLb,zLc];clear ea;refine kJ ?_;refine KN (f:=?_) (vals:=?_) rfl rfl rfl Pa ?_ (fun wF mf=>?_)
 rotate_left 3
 replace ya:=oa ya mf;replace kA:=ia kA mf;replace y2:=ta mf y2;replace g0:=Gb mf g0;replace g1:=ta mf g1;replace g2:=ta mf g2;replace g3:=ta mf g3;replace g4:=ta mf g4;replace ja:=(zb (w.heap.size+2)).trans _ _ _ ja (yf mf Pa);replace Pa:=Nat.le_trans Pa mf.size;refine (HOv.out _ ya).mono ?_
 rotate_left
 ·intro w_;go_simp <;> rfl
 rintro e w4 ⟨v4,rfl,o4,ea⟩;clear mf;refine ⟨_,rfl,ea,?_⟩;replace ya:=oa ya ea;replace kA:=ia kA ea;replace y2:=ta ea y2;replace g0:=Gb ea g0;replace g1:=ta ea g1;replace g2:=ta ea g2;replace g3:=ta ea g3;replace g4:=ta ea g4;replace ja:=(zb (w.heap.size+2)).trans _ _ _ ja (yf ea Pa);replace Pa:=Nat.le_trans Pa ea.size;simp only [Act.put,zLa,zLb,zLc];clear ea;obtain ⟨G4,e4,rfl,-⟩:=Ob o4;have y4:=qf o4 jm.out;clear o4;refine kJ ?_;have LA:=zH kA.lt;refine Q6 Pa (fun oj wE gE Nd Nl kE hgE=>?_)
 obtain rfl:=Option.some.inj Nd;clear Nd;replace ya:=oa ya Nl;replace kA:=ia kA Nl;replace y2:=ta Nl y2;replace y4:=ta Nl y4;replace g0:=Gb Nl g0;replace g1:=ta Nl g1;replace g2:=ta Nl g2;replace g3:=ta Nl g3;replace g4:=ta Nl g4;replace ja:=(zb (w.heap.size+2)).trans _ _ _ ja (yf Nl Pa);replace Pa:=Nat.le_trans Pa Nl.size;clear Nl;simp only [Act.put,zLa,zLb,zLc];have VK:wE.ownsRow (w.heap.size+2) 3 1 (.slice (some ⟨gE,0,none⟩) 0 0) 0 []:=⟨rfl, .inr ⟨gE,0,#[],rfl,hgE,kE,zR,by simp [maxLen],rfl,rfl⟩⟩
 have hrdP:=HPr.out _ ya;refine Nf ?_;refine Ug (zb (w.heap.size+2)) rfl rfl rfl ?_;refine Tn _ _ rfl el_i rfl VK rfl hrdP (by intro u hu;obtain ⟨x,-,rfl⟩:=List.mem_map.1 hu;rfl) (by omega) Pa ?_
 intro v' wn db Ma Lb;have qz:=W4 kE Ma;have vn:=Ae VK Ma Pa;refine ⟨vn,?_⟩;replace y2:=ZC y2 qz;replace y4:=ZC y4 qz;replace g0:=L2 g0 qz;replace g1:=ZC g1 qz;replace g2:=ZC g2 qz;replace g3:=ZC g3 qz;replace g4:=ZC g4 qz;have Bb:gE≠w.heap.size+1+1:=fun e=>by
  have kE2:=kE;rw [e] at kE2;have h:=Option.some.inj (kE2.symm.trans kA)
  injection h with h1
  exact absurd (congrArg Array.size h1) (by decide)
 replace kA:=kA.grown Ma (fun e=>by first | exact Bb (Option.some.inj e) | exact Bb (Option.some.inj e).symm)
 replace ya:=ya.trans (vn.mono (by omega))
 replace db:wn.ownsRow (w.heap.size+2) 3 1 v' np (iu pos):=by simpa using db
 obtain ⟨GP,eP,rfl,-⟩:=Ob db;have yP:=pR db Ch.out;clear db Ma Lb qz vn VK hrdP ja kE;have af:w.heap.size+2<wn.heap.size:=kA.lt;have ja:=(zb (w.heap.size+2)).refl wn
 try simp only [Act.put,zLa,zLb,zLc]
 refine Nf ?_;have hwn:=ya.size;refine Mb (zb (w.heap.size+2)) rfl rfl rfl (fun _=>by go_simp <;> rfl) ((im.out _ _ _ _ _ _ _ _ _ _ _ _ _ _ _ _ _ _ _ _ _ _ ya y2 y4 yP g0 g1 g2 g3 g4).mono ?_)
 rintro e wX ⟨⟨F0,F1,F2,F3,F4,q0,q1,q2,q3,q4,u0,u1,u2,u3,u4,rfl,Sw⟩,ea⟩;refine ⟨_,rfl,yf ea (Nat.le_of_lt af),?_⟩;replace ja:=(zb (w.heap.size+2)).trans _ _ _ ja (yf ea (Nat.le_of_lt af));simp only [Act.put,zLa,zLb,zLc];replace kA:=ia kA ea;replace ya:=oa ya ea;clear ea y2 y4 yP g0 g1 g2 g3 g4 cb lb cc lc x1 x2;have ca:=kA.cell;have fa:=kA.frozen;have la:=kA.lt;refine Nf ?_;refine Ug (zb (w.heap.size+2)) rfl rfl rfl ?_;go_simp;have Ba:=zh (w:=wX) (g:=w.heap.size+1+1) (.slice F0 q0 u0) (.slice F1 q1 u1) (.slice F2 q2 u2) (.slice F3 q3 u3) (.slice F4 q4 u4);refine ⟨Ff Ba (by omega) zR,?_⟩
 have xd:=zH (yh kA (.slice F0 q0 u0) (.slice F1 q1 u1) (.slice F2 q2 u2) (.slice F3 q3 u3) (.slice F4 q4 u4));have ic:=zH (Pb ya Ba);have HOu:=zH ((Sw.only Ba af).mono hwn);clear Ba Sw ca fa la kA ya ja
 try simp only [Act.put,zLa,zLb,zLc]
 generalize ((((wX.setCell _ _).setCell _ _).setCell _ _).setCell _ _).setCell _ _=wf at xd ic HOu |-;have ja:=(zb (w.heap.size+2)).refl wf;refine Nf ?_;refine Fc ?_;clear ja;have cf:=xd.out.cell;go_wp2_with fail
 exact bodyPost_ret (v:=.tuple #[.agg #[.slice F0 q0 u0, .slice F1 q1 u1, .slice F2 q2 u2, .slice F3 q3 u3, .slice F4 q4 u4], .int .i64 E]) (by simp [results,Tryz.results12,go_sem,cf]) rfl ⟨⟨_,_,_,_,_,_,_,_,_,_,_,_,_,_,_,rfl,HOu.out⟩,ic.out⟩
structure IJ (w:World) (B:Nat) (L:Ja) (p pu:Nat) (vars bl bw qs:Int) (rows:List Cb) (ws vs:List Nat) (seed al rho be:Nat) (pos:List Int) (v0 v1 v2 v3 v4:Value):Prop where
 pe:L.p=p
 lf:tl L ⟨p,(pu:Int),vars,rows.length,bl,bw,qs⟩
 ok:ExOk L pu vars rows ws vs pos
 err:ti L pu vars rows ws vs pos al rho be=0
 lv:vs.length <= 200
 r:Sb w [v0] (Dk L seed (L.a+L.b+L.b+L.b))
 co:RWd w [v1] (Gd L.p seed [1] L.k)
 li:RWd w [v2] (Gd L.p seed [2] (L.k+L.block-2))
 qu:RWd w [v3] (Gd L.p seed [3] (L.block+2*L.queries-1))
 sa:RWd w [v4] (Gd Kd seed [4] L.n)
 mv:RRx B w v0 (Dk L seed (L.a+L.b+L.b+L.b)) /\ Jc B none w v1 (Gd L.p seed [1] L.k) /\ Jc B none w v2 (Gd L.p seed [2] (L.k+L.block-2)) /\ Jc B none w v3 (Gd L.p seed [3] (L.block+2*L.queries-1)) /\ Jc B none w v4 (Gd Kd seed [4] L.n)
theorem vI {w w':World} {B:Nat} {L:Ja} {p pu:Nat} {vars bl bw qs:Int} {rows:List Cb} {ws vs:List Nat} {seed al rho be:Nat} {pos:List Int} {v0 v1 v2 v3 v4:Value} (h:Below w.heap.size w w') (k:IJ w B L p pu vars bl bw qs rows ws vs seed al rho be pos v0 v1 v2 v3 v4):IJ w' B L p pu vars bl bw qs rows ws vs seed al rho be pos v0 v1 v2 v3 v4 :=
 ⟨k.pe,k.lf,k.ok,k.err,k.lv,Gb h k.r,ta h k.co,ta h k.li,ta h k.qu,ta h k.sa,Wl k.mv.1 h.size (fun b _ h2=>h.block b h2),rp k.mv.2.1 h.size (fun b _ h2=>h.block b h2),rp k.mv.2.2.1 h.size (fun b _ h2=>h.block b h2),rp k.mv.2.2.2.1 h.size (fun b _ h2=>h.block b h2),rp k.mv.2.2.2.2 h.size (fun b _ h2=>h.block b h2)⟩
theorem mP {L:Ja} {pu:Nat} {vars:Int} {rows:List Cb} {ws vs:List Nat} {pos:List Int} {al rho be:Nat} (hL:Db L) (ht:dd L.p (pu:Int) vars rows=true) (hT:xl L pu vars rows) (h:ti L pu vars rows ws vs pos al rho be=0):ExOk L pu vars rows ws vs pos:=by
 unfold ti at h;split at h
 ·cases h
 split at h
 ·cases h
 split at h
 ·cases h
 split at h
 ·cases h
 split at h
 ·cases h
 split at h
 ·cases h
 rename_i h1 h2 h3 h4 h5 h6
 simp only [Bool.not_eq_false] at h1 h2 h3 h4 h5 h6;unfold Fs at h1;rw [Bool.and_eq_true] at h1;exact ⟨hL,ht,hT,h2,h3,h4,h5,of_decide_eq_true h6,h1.1⟩
def mu (B:Nat) (p:Nat) (pub vars bl bw qs:Int) (rows:List Cb) (ws vs:List Nat) (seed al rho be:Nat) (pos:List Int) (e:Ending) (w':World):Prop :=
 ∃ (y0 y1 y2 y3 y4 y5 y6 y7 y8 y9 Wd:Int) (b:Bool) (A0 A1 A2 A3 A4:Option Addr) (n0 n1 n2 n3 n4 c0 c1 c2 c3 c4:Nat),
   e= .returned (.tuple #[.agg #[.int .u64 y0, .int .i64 y1, .int .i64 y2, .int .i64 y3, .int .i64 y4, .int .i64 y5, .int .i64 y6, .int .i64 y7, .int .i64 y8, .int .i64 y9, .int .i64 Wd], .agg #[.slice A0 n0 c0, .slice A1 n1 c1, .slice A2 n2 c2, .slice A3 n3 c3, .slice A4 n4 c4], .bool b]) /\
   (b=true -> ∃ (L:Ja) (pu:Nat),pub=(pu:Int) /\ Ya L=#[.int .u64 y0, .int .i64 y1, .int .i64 y2, .int .i64 y3, .int .i64 y4, .int .i64 y5, .int .i64 y6, .int .i64 y7, .int .i64 y8, .int .i64 y9, .int .i64 Wd] /\ IJ w' B L p pu vars bl bw qs rows ws vs seed al rho be pos (.slice A0 n0 c0) (.slice A1 n1 c1) (.slice A2 n2 c2) (.slice A3 n3 c3) (.slice A4 n4 c4))
theorem xI (p:Nat) (pub vars:Int) (A B B2 P:Option Addr) (R c m d m2 d2 np cp:Nat) (rows:List Cb) (ws vs:List Nat) (bl bw qs:Int) (seed al rho be:Nat) (pos:List Int) (w:World)
  (hp:p<18446744073709551616) (hs:seed<18446744073709551616) (hr:RSl 3 te w [.slice A R c] rows) (hw:RWd w [.slice B m d] ws) (hv:RWd w [.slice B2 m2 d2] vs) (hpos:qi w [.slice P np cp] pos) :
  Calls Tryz.prog 11 #[.agg (Lk p pub vars (.slice A R c) bl bw qs (.slice B m d) (.slice B2 m2 d2) seed al rho be (.slice P np cp))] w fun e w'=>mu w.heap.size p pub vars bl bw qs rows ws vs seed al rho be pos e w' /\ Below w.heap.size w w':=by
 have HR:=zH (fun w' (hb:Below w.heap.size w w')=>TZ 24 p pub vars A B R c m d rows ws bl bw qs w' (Kc Gc _ _ _ _ hb hr) (ta hb hw) hp)
 have Zk:=zH (fun L w hL=>CZ L seed w hL hs)
 have hlm2:=(Ra hv).1;have hcm2:=Kf (Ra hv).2.1 (Ra hv).2.2.1;have hcnp:(np:Int) <= 9223372036854775807:=by
  obtain ⟨A',n',c',he,r1,r2,r3,-⟩:=id hpos;simp at he
  obtain ⟨rfl,rfl,rfl⟩:=he;have:=Kf r2 r3;omega
 have im:=zH (fun (L:Ja) (pu:Nat) (hL:Db L) gg ht (D0 D1 D2 D3 D4:Option Addr) n0 n1 n2 n3 n4 k0 k1 k2 k3 k4 r co li qu sa w' (hb:Below w.heap.size w w') h0 h1 h2 h3 h4 Xb=>AZ L pu rho al be vars bl bw qs A B B2 P D0 D1 D2 D3 D4 R c m d m2 d2 np cp n0 n1 n2 n3 n4 k0 k1 k2 k3 k4 rows ws vs r co li qu sa pos w' hL gg ht (Kc Gc _ _ _ _ hb hr) (ta hb hw) (ta hb hv) (pf _ _ _ _ hb hpos) h0 h1 h2 h3 h4 Xb)
 have HLM2:=zH hlm2;clear hp hs hr hw hv hpos hlm2;unfold Lk Zv at *;obtain ⟨kb,kr,kq,da,Nb⟩:=Oq w 35 39 42 #[.int .u64 p, .int .i64 pub, .int .i64 vars, .slice A R c, .int .i64 bl, .int .i64 bw, .int .i64 qs, .slice B m d, .slice B2 m2 d2, .int .u64 seed, .int .u64 al, .int .u64 rho, .int .u64 be, .slice P np cp] Fg #[.slice none 0 0, .slice none 0 0, .slice none 0 0, .slice none 0 0, .slice none 0 0];unfold Fg at *;go_enter Tryz.func11,Tryz.ntmps11
 go_upto_region 1 with fail
 generalize ((w.alloc _).alloc _).alloc _=w1 at kb kr kq da Nb |-;clear Nb;have cb:=kb.cell;go_wp2_with fail
 refine (HR.out _ da).mono ?_;rintro e w2 ⟨⟨Jj,htt⟩,ea⟩;obtain ⟨y0,y1,y2,y3,y4,y5,y6,y7,y8,y9,Wd,b,rfl,hL⟩:=Jj;have HL:=zH hL;have my:=zH (htt (.agg #[.int .u64 y0, .int .i64 y1, .int .i64 y2, .int .i64 y3, .int .i64 y4, .int .i64 y5, .int .i64 y6, .int .i64 y7, .int .i64 y8, .int .i64 y9, .int .i64 Wd]));replace kb:=ia kb ea;replace kr:=ia kr ea;replace kq:=ia kq ea;replace da:=oa da ea;clear ea cb HR hL htt;go_upto_region 2 with fail
 have kl:=Blk.new w2 39 #[.int .u64 y0, .int .i64 y1, .int .i64 y2, .int .i64 y3, .int .i64 y4, .int .i64 y5, .int .i64 y6, .int .i64 y7, .int .i64 y8, .int .i64 y9, .int .i64 Wd];have ma:=(Below.refl w2.heap.size w2).alloc zR (.cells #[.int .u64 y0, .int .i64 y1, .int .i64 y2, .int .i64 y3, .int .i64 y4, .int .i64 y5, .int .i64 y6, .int .i64 y7, .int .i64 y8, .int .i64 y9, .int .i64 Wd] 39);have hlq:w.heap.size+1+1<w2.heap.size:=kq.lt;replace kb:=ia kb ma;replace kr:=ia kr ma;replace kq:=ia kq ma;replace da:=oa da ma;clear ma;generalize w2.alloc _=w3 at kl kb kr kq da |-;generalize w2.heap.size=gl at kl hlq |-;have cb:=kb.cell;have lb:=kb.lt;have cl:=kl.cell;have ll:=kl.lt;have cr:=kr.cell;have fr:=kr.frozen;have lr:=kr.lt;have cq:=kq.cell;have fq:=kq.frozen;have lq:=kq.lt;have ot:gl≠w.heap.size+1:=by omega
 cases b
 ·clear HL my im Zk
  go_wp2_with fail
  have o1:=II (g:=w.heap.size+1) w3 (.int .u64 y0) (.int .i64 y1) (.int .i64 y2) (.int .i64 y3) (.int .i64 y4) (.int .i64 y5) (.int .i64 y6) (.int .i64 y7) (.int .i64 y8) (.int .i64 y9) (.int .i64 Wd);unfold jn at o1;replace kr:=iG kr (.int .u64 y0) (.int .i64 y1) (.int .i64 y2) (.int .i64 y3) (.int .i64 y4) (.int .i64 y5) (.int .i64 y6) (.int .i64 y7) (.int .i64 y8) (.int .i64 y9) (.int .i64 Wd);replace kq:=kq.grown o1 (fun e=>by have:=Option.some.inj e;omega)
  replace da:=Pb da o1;clear o1;generalize ((((((((((World.setCell w3 _ _).setCell _ _).setCell _ _).setCell _ _).setCell _ _).setCell _ _).setCell _ _).setCell _ _).setCell _ _).setCell _ _).setCell _ _=wY at kr kq da |-;have o2:=zh (w:=wY) (g:=w.heap.size+1+1) (.slice none 0 0) (.slice none 0 0) (.slice none 0 0) (.slice none 0 0) (.slice none 0 0);replace kq:=yh kq (.slice none 0 0) (.slice none 0 0) (.slice none 0 0) (.slice none 0 0) (.slice none 0 0);replace kr:=kr.grown o2 (fun e=>by have:=Option.some.inj e;omega)
  replace da:=Pb da o2;clear o2;generalize ((((World.setCell wY _ _).setCell _ _).setCell _ _).setCell _ _).setCell _ _=wZ at kr kq da |-;have g1:=kr.cell;have g2:=kq.cell;exact bodyPost_ret (v:=.tuple #[.agg #[.int .u64 y0, .int .i64 y1, .int .i64 y2, .int .i64 y3, .int .i64 y4, .int .i64 y5, .int .i64 y6, .int .i64 y7, .int .i64 y8, .int .i64 y9, .int .i64 Wd], .agg #[.slice none 0 0, .slice none 0 0, .slice none 0 0, .slice none 0 0, .slice none 0 0], .bool false]) (by simp [results,Tryz.results11,go_sem,g1,g2]) rfl ⟨by unfold mu;exact ⟨_,_,_,_,_,_,_,_,_,_,_,false,_,_,_,_,_,_,_,_,_,_,_,_,_,_,_,rfl,fun h=>by cases h⟩,da⟩
 by_cases h200:(200:Int)<(m2:Int)
 ·have d1:decide ((200:Int)<(m2:Int))=true:=decide_eq_true h200
  clear HL my im Zk;go_wp2_with fail
  have o1:=II (g:=w.heap.size+1) w3 (.int .u64 y0) (.int .i64 y1) (.int .i64 y2) (.int .i64 y3) (.int .i64 y4) (.int .i64 y5) (.int .i64 y6) (.int .i64 y7) (.int .i64 y8) (.int .i64 y9) (.int .i64 Wd);unfold jn at o1;replace kr:=iG kr (.int .u64 y0) (.int .i64 y1) (.int .i64 y2) (.int .i64 y3) (.int .i64 y4) (.int .i64 y5) (.int .i64 y6) (.int .i64 y7) (.int .i64 y8) (.int .i64 y9) (.int .i64 Wd);replace kq:=kq.grown o1 (fun e=>by have:=Option.some.inj e;omega)
  replace da:=Pb da o1;clear o1;generalize ((((((((((World.setCell w3 _ _).setCell _ _).setCell _ _).setCell _ _).setCell _ _).setCell _ _).setCell _ _).setCell _ _).setCell _ _).setCell _ _).setCell _ _=wY at kr kq da |-;have o2:=zh (w:=wY) (g:=w.heap.size+1+1) (.slice none 0 0) (.slice none 0 0) (.slice none 0 0) (.slice none 0 0) (.slice none 0 0);replace kq:=yh kq (.slice none 0 0) (.slice none 0 0) (.slice none 0 0) (.slice none 0 0) (.slice none 0 0);replace kr:=kr.grown o2 (fun e=>by have:=Option.some.inj e;omega)
  replace da:=Pb da o2;clear o2;generalize ((((World.setCell wY _ _).setCell _ _).setCell _ _).setCell _ _).setCell _ _=wZ at kr kq da |-;have g1:=kr.cell;have g2:=kq.cell;exact bodyPost_ret (v:=.tuple #[.agg #[.int .u64 y0, .int .i64 y1, .int .i64 y2, .int .i64 y3, .int .i64 y4, .int .i64 y5, .int .i64 y6, .int .i64 y7, .int .i64 y8, .int .i64 y9, .int .i64 Wd], .agg #[.slice none 0 0, .slice none 0 0, .slice none 0 0, .slice none 0 0, .slice none 0 0], .bool false]) (by simp [results,Tryz.results11,go_sem,g1,g2]) rfl ⟨by unfold mu;exact ⟨_,_,_,_,_,_,_,_,_,_,_,false,_,_,_,_,_,_,_,_,_,_,_,_,_,_,_,rfl,fun h=>by cases h⟩,da⟩
 have d1:decide ((200:Int)<(m2:Int))=false:=decide_eq_false h200;by_cases h70:(70:Int)<(np:Int)
 ·have d2:decide ((70:Int)<(np:Int))=true:=decide_eq_true h70
  clear HL my im Zk;go_wp2_with fail
  have o1:=II (g:=w.heap.size+1) w3 (.int .u64 y0) (.int .i64 y1) (.int .i64 y2) (.int .i64 y3) (.int .i64 y4) (.int .i64 y5) (.int .i64 y6) (.int .i64 y7) (.int .i64 y8) (.int .i64 y9) (.int .i64 Wd);unfold jn at o1;replace kr:=iG kr (.int .u64 y0) (.int .i64 y1) (.int .i64 y2) (.int .i64 y3) (.int .i64 y4) (.int .i64 y5) (.int .i64 y6) (.int .i64 y7) (.int .i64 y8) (.int .i64 y9) (.int .i64 Wd);replace kq:=kq.grown o1 (fun e=>by have:=Option.some.inj e;omega)
  replace da:=Pb da o1;clear o1;generalize ((((((((((World.setCell w3 _ _).setCell _ _).setCell _ _).setCell _ _).setCell _ _).setCell _ _).setCell _ _).setCell _ _).setCell _ _).setCell _ _).setCell _ _=wY at kr kq da |-;have o2:=zh (w:=wY) (g:=w.heap.size+1+1) (.slice none 0 0) (.slice none 0 0) (.slice none 0 0) (.slice none 0 0) (.slice none 0 0);replace kq:=yh kq (.slice none 0 0) (.slice none 0 0) (.slice none 0 0) (.slice none 0 0) (.slice none 0 0);replace kr:=kr.grown o2 (fun e=>by have:=Option.some.inj e;omega)
  replace da:=Pb da o2;clear o2;generalize ((((World.setCell wY _ _).setCell _ _).setCell _ _).setCell _ _).setCell _ _=wZ at kr kq da |-;have g1:=kr.cell;have g2:=kq.cell;exact bodyPost_ret (v:=.tuple #[.agg #[.int .u64 y0, .int .i64 y1, .int .i64 y2, .int .i64 y3, .int .i64 y4, .int .i64 y5, .int .i64 y6, .int .i64 y7, .int .i64 y8, .int .i64 y9, .int .i64 Wd], .agg #[.slice none 0 0, .slice none 0 0, .slice none 0 0, .slice none 0 0, .slice none 0 0], .bool false]) (by simp [results,Tryz.results11,go_sem,g1,g2]) rfl ⟨by unfold mu;exact ⟨_,_,_,_,_,_,_,_,_,_,_,false,_,_,_,_,_,_,_,_,_,_,_,_,_,_,_,rfl,fun h=>by cases h⟩,da⟩
 have d2:decide ((70:Int)<(np:Int))=false:=decide_eq_false h70;obtain ⟨L,hL,Eu,qe⟩:=HL.out rfl;obtain ⟨ht,ha⟩:=my.out rfl;obtain ⟨pu,rfl,h1,h2,h3⟩:=VU ht ha;have hpL:p=L.p:=Eu.p.symm;subst hpL;have Ed:=Va hL.p;have uA:=zH (PI ht Eu);have HFor:=zH Eu;have HTb:=zH ht;have HLo:=zH hL;have Ch:=zH Ed;have H200:=zH (show vs.length <= 200 by have:=HLM2.out;omega)
 replace Zk:=zH (fun w=>Zk.out L w hL)
 replace im:=zH (im.out L pu hL Eu ht);have HCS:=zH qe;rw [qe] at kl cl;rw [qe];clear HL my qe ht ha h1 h2 h3 Eu hL Ed h200 h70;unfold Ya at *;go_wp2_with fail
 refine (Zk.out _).mono ?_;rintro e w4 ⟨v0,v1,v2,v3,v4,n0,ze,rfl,o0,gr0,o1,o2,o3,o4,ea⟩;have Pa:w.heap.size+1+1<w3.heap.size:=kq.lt;have x0:=qE gr0 o0 zR zR;have x1:=Gx o1 (zv L.p seed [1] _ (by have:=Ch.out;omega) Ch.out.2) zR
 have x2:=Gx o2 (zv L.p seed [2] _ (by have:=Ch.out;omega) Ch.out.2) zR
 have x3:=Gx o3 (zv L.p seed [3] _ (by have:=Ch.out;omega) Ch.out.2) zR
 have x4:=Gx o4 (zv Kd seed [4] _ (by decide) (by decide)) zR
 obtain ⟨A0,c0,rfl,-⟩:=Ob o0;obtain ⟨A1,c1,rfl,-⟩:=Ob o1;obtain ⟨A2,c2,rfl,-⟩:=Ob o2;obtain ⟨A3,c3,rfl,-⟩:=Ob o3;obtain ⟨A4,c4,rfl,-⟩:=Ob o4;generalize w3.heap.size=NB at x0 x1 x2 x3 x4 Pa;replace kl:=ia kl ea;replace kb:=ia kb ea;replace kr:=ia kr ea;replace kq:=ia kq ea;replace da:=oa da ea;clear ea o0 gr0 o1 o2 o3 o4 cb lb cl ll cr fr lr cq fq lq Zk;go_upto_region 5 with fail
 have kc:=Blk.new w4 42 #[.slice A0 n0 c0, .slice A1 L.k c1, .slice A2 (L.k+L.block-2) c2, .slice A3 (L.block+2*L.queries-1) c3, .slice A4 L.n c4];have ma:=(Below.refl w4.heap.size w4).alloc zR (.cells #[.slice A0 n0 c0, .slice A1 L.k c1, .slice A2 (L.k+L.block-2) c2, .slice A3 (L.block+2*L.queries-1) c3, .slice A4 L.n c4] 42);have Iu:w.heap.size+1+1<w4.heap.size:=kq.lt;replace x0:=Wl x0 ma.size (fun b _ h2=>ma.block b h2)
 replace x1:=zg x1 ma;replace x2:=zg x2 ma;replace x3:=zg x3 ma;replace x4:=zg x4 ma;replace kl:=ia kl ma;replace kb:=ia kb ma;replace kr:=ia kr ma;replace kq:=ia kq ma;replace da:=oa da ma;clear ma;generalize w4.alloc _=w5 at kc kl kb kr kq da x0 x1 x2 x3 x4 |-;generalize w4.heap.size=gc at kc Iu |-;have Xb:=MA L seed (by have:=Ch.out;omega)
 obtain ⟨m1,ud⟩:=zEX (L.k+L.block-2);obtain ⟨m3,jf⟩:=zEX (L.block+2*L.queries-1);have AG:=zH (And.intro ud jf);rw [<- ud,<- jf] at kc;rw [<- ud] at x2;rw [<- jf] at x3;rw [<- ud,<- jf];have yc:=zH (fun w' hb (g0:Sb w' [.slice A0 n0 c0] _) (g1:RWd w' [.slice A1 L.k c1] _) (g2:RWd w' [.slice A2 m1 c2] _) (g3:RWd w' [.slice A3 m3 c3] _) (g4:RWd w' [.slice A4 L.n c4] _)=>im.out A0 A1 A2 A3 A4 n0 L.k m1 m3 L.n c0 c1 c2 c3 c4 _ _ _ _ _ w' hb g0 g1 g2 g3 g4 Xb)
 rw [<- ud,<- jf] at yc;have HCO:=zH Xb;clear ud jf Xb im;have cb:=kb.cell;have cc:=kc.cell;go_wp2_with fail
 refine (yc.out _ da x0.here (ff x1) (ff x2) (ff x3) (ff x4)).mono ?_;rintro e w6 ⟨F0,F1,F2,F3,F4,q0,q1,q2,q3,q4,u0,u1,u2,u3,u4,rfl,ea⟩;obtain ⟨E,hE⟩:=zEX (ti L pu vars rows ws vs pos al rho be);rw [<- hE];have Vx:=zH hE;replace x0:=Wl x0 ea.size (fun b _ h2=>ea.block b h2)
 replace x1:=zg x1 ea;replace x2:=zg x2 ea;replace x3:=zg x3 ea;replace x4:=zg x4 ea;replace kl:=ia kl ea;replace kc:=ia kc ea;replace kr:=ia kr ea;replace kq:=ia kq ea;replace da:=oa da ea;clear ea cb cc yc hE kb;go_upto_region 6 with fail
 have ma:=(Below.refl w6.heap.size w6).alloc zR (.cells #[.slice F0 q0 u0, .slice F1 q1 u1, .slice F2 q2 u2, .slice F3 q3 u3, .slice F4 q4 u4] 42);replace x0:=Wl x0 ma.size (fun b _ h2=>ma.block b h2)
 replace x1:=zg x1 ma;replace x2:=zg x2 ma;replace x3:=zg x3 ma;replace x4:=zg x4 ma;replace kl:=ia kl ma;replace kc:=ia kc ma;replace kr:=ia kr ma;replace kq:=ia kq ma;replace da:=oa da ma;clear ma;generalize w6.alloc _=w7 at kc kl kr kq da x0 x1 x2 x3 x4 |-;have cl:=kl.cell;have ll:=kl.lt;have cc:=kc.cell;have lc:=kc.lt;obtain ⟨h1,hh1⟩:=zEX (w.heap.size+1);have z1:gl≠w.heap.size+1:=by omega
 have z2:gl≠w.heap.size+1+1:=by omega
 have z3:gc≠w.heap.size+1:=by omega
 have z4:gc≠w.heap.size+1+1:=by omega
 clear hh1;refine Rc (Wn (w.heap.size+1) (w.heap.size+1+1) (w.heap.size+1+1)) [4,5] [0,1,2,3,4,5,6] (by kernel_rfl) (by kernel_rfl) ?_
 refine vd (Fy (w.heap.size+1) (w.heap.size+1+1) (w.heap.size+1+1)) ?_;intro Wc Na ja;have ya:=Cc Na;replace x0:=Wl x0 ya.size (fun b _ h2=>ya.block b h2)
 replace x1:=zg x1 ya;replace x2:=zg x2 ya;replace x3:=zg x3 ya;replace x4:=zg x4 ya;replace kr:=ia kr ya;replace kq:=ia kq ya;replace da:=oa da ya;clear Na ya;refine ON ?_;have cr:=kr.cell;have fr:=kr.frozen;have lr:=kr.lt;refine Ug (Fy (w.heap.size+1) (w.heap.size+1+1) (w.heap.size+1+1)) rfl rfl rfl ?_;go_simp;have o1:=II (g:=w.heap.size+1) Wc (.int .u64 L.p) (.int .i64 L.block) (.int .i64 L.queries) (.int .i64 L.k) (.int .i64 L.n) (.int .i64 L.secret) (.int .i64 L.rows) (.int .i64 L.a) (.int .i64 L.b) (.int .i64 L.b) (.int .i64 L.b);unfold jn at o1;refine ⟨Js o1 (.inl rfl),?_⟩;replace kr:=iG kr (.int .u64 L.p) (.int .i64 L.block) (.int .i64 L.queries) (.int .i64 L.k) (.int .i64 L.n) (.int .i64 L.secret) (.int .i64 L.rows) (.int .i64 L.a) (.int .i64 L.b) (.int .i64 L.b) (.int .i64 L.b);replace kq:=kq.grown o1 (fun e=>by have:=Option.some.inj e;omega)
 replace da:=Pb da o1;replace x0:=Wl x0 o1.size (fun b b1 b2=>o1.block b b2 (fun e=>by have:=Option.some.inj e;omega))
 replace x1:=Ek x1 o1 (by omega)
 replace x2:=Ek x2 o1 (by omega)
 replace x3:=Ek x3 o1 (by omega)
 replace x4:=Ek x4 o1 (by omega)
 clear o1 cr fr lr
 try simp only [Act.put,zLa,zLb,zLc]
 generalize ((((((((((World.setCell Wc _ _).setCell _ _).setCell _ _).setCell _ _).setCell _ _).setCell _ _).setCell _ _).setCell _ _).setCell _ _).setCell _ _).setCell _ _=wY at kr kq da x0 x1 x2 x3 x4 |-;have ja:=(Fy (w.heap.size+1) (w.heap.size+1+1) (w.heap.size+1+1)).refl wY;have cq:=kq.cell;have fq:=kq.frozen;have lq:=kq.lt;refine ON ?_;refine Ug (Fy (w.heap.size+1) (w.heap.size+1+1) (w.heap.size+1+1)) rfl rfl rfl ?_;go_simp;have o2:=zh (w:=wY) (g:=w.heap.size+1+1) (.slice A0 n0 c0) (.slice A1 L.k c1) (.slice A2 m1 c2) (.slice A3 m3 c3) (.slice A4 L.n c4);refine ⟨Js o2 (.inr (.inl rfl)),?_⟩;replace kq:=yh kq (.slice A0 n0 c0) (.slice A1 L.k c1) (.slice A2 m1 c2) (.slice A3 m3 c3) (.slice A4 L.n c4);replace kr:=kr.grown o2 (fun e=>by have:=Option.some.inj e;omega)
 replace da:=Pb da o2;have X0:=zH (Wl x0 o2.size (fun b b1 b2=>o2.block b b2 (fun e=>by have:=Option.some.inj e;omega))).here
 have X1:=zH (ff (Ek x1 o2 Pa));have X2:=zH (ff (Ek x2 o2 Pa));have X3:=zH (ff (Ek x3 o2 Pa));have X4:=zH (ff (Ek x4 o2 Pa));have XX:=zH (And.intro ((Wl x0 o2.size (fun b b1 b2=>o2.block b b2 (fun e=>by have:=Option.some.inj e;omega))).mono (show w.heap.size <= _ by omega)) (And.intro (fp (Ek x1 o2 Pa) (show w.heap.size <= _ by omega)) (And.intro (fp (Ek x2 o2 Pa) (show w.heap.size <= _ by omega)) (And.intro (fp (Ek x3 o2 Pa) (show w.heap.size <= _ by omega)) (fp (Ek x4 o2 Pa) (show w.heap.size <= _ by omega))))))
 clear o2 cq fq lq x0 x1 x2 x3 x4
 try simp only [Act.put,zLa,zLb,zLc]
 generalize ((((World.setCell wY _ _).setCell _ _).setCell _ _).setCell _ _).setCell _ _=wZ at kr kq da X0 X1 X2 X3 X4 XX |-;have ja:=(Fy (w.heap.size+1) (w.heap.size+1+1) (w.heap.size+1+1)).refl wZ;refine ON ?_;refine Fc ?_;have g1:=kr.cell;have g2:=kq.cell;have CK:=da;clear ja cl ll cc lc;go_wp2_with fail
 have Jj:mu w.heap.size L.p (pu:Int) vars bl bw qs rows ws vs seed al rho be pos (.returned (.tuple #[.agg #[.int .u64 L.p, .int .i64 L.block, .int .i64 L.queries, .int .i64 L.k, .int .i64 L.n, .int .i64 L.secret, .int .i64 L.rows, .int .i64 L.a, .int .i64 L.b, .int .i64 L.b, .int .i64 L.b], .agg #[.slice A0 n0 c0, .slice A1 L.k c1, .slice A2 m1 c2, .slice A3 m3 c3, .slice A4 L.n c4], .bool (E == 0)])) wZ:=by
  unfold mu;refine ⟨_,_,_,_,_,_,_,_,_,_,_,_,_,_,_,_,_,_,_,_,_,_,_,_,_,_,_,rfl,fun hb=>⟨L,pu,rfl,rfl,⟨rfl,HFor.out,?_,?_,H200.out,X0.out,X1.out,?_,?_,X4.out,?_⟩⟩⟩
  ·refine mP HLo.out HTb.out uA.out (al:=al) (rho:=rho) (be:=be) ?_
   rw [<- Vx.out];exact beq_iff_eq.1 hb
  ·rw [<- Vx.out]
   exact beq_iff_eq.1 hb
  ·rw [<- AG.out.1]
   exact X2.out
  ·rw [<- AG.out.2]
   exact X3.out
  ·rw [<- AG.out.1,<- AG.out.2]
   exact XX.out
 exact bodyPost_ret (v:=.tuple #[.agg #[.int .u64 L.p, .int .i64 L.block, .int .i64 L.queries, .int .i64 L.k, .int .i64 L.n, .int .i64 L.secret, .int .i64 L.rows, .int .i64 L.a, .int .i64 L.b, .int .i64 L.b, .int .i64 L.b], .agg #[.slice A0 n0 c0, .slice A1 L.k c1, .slice A2 m1 c2, .slice A3 m3 c3, .slice A4 L.n c4], .bool (E == 0)]) (by simp [results,Tryz.results11,go_sem,g1,g2]) rfl ⟨Jj,CK⟩
end Go.Proofs.YtgeofabpinfcmaaGreat
