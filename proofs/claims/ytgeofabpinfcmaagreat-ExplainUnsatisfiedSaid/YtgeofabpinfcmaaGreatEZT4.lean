/-
  ExplainUnsatisfied, for every input: the law returns true and leaves its arguments as they were. No condition.
-/
import Derived.Test.YtgeofabpinfcmaaGreatProg
import Derived.Test.YtgeofabpinfcmaaGreatEZ32
import Derived.Test.YtgeofabpinfcmaaGreatEZ41
import Derived.Test.YtgeofabpinfcmaaGreatEZ46
import Derived.Test.YtgeofabpinfcmaaGreatRows

set_option maxRecDepth 100000
set_option maxHeartbeats 8000000
set_option linter.unusedVariables false
set_option linter.unusedSimpArgs false
namespace Go.Proofs.YtgeofabpinfcmaaGreat
open Go.RowKit
theorem bU {n:Int} (h:(Lit.int .u16 n).wf=true):∃ m:Nat,n=(m:Int) /\ m<65536:=by
 have hx:0 <= n /\ n <= 65535:=by simpa [Lit.wf,IntKind.min,IntKind.max,IntKind.signed,IntKind.bits] using h
 obtain ⟨m,rfl⟩:=Int.eq_ofNat_of_zero_le hx.1;exact ⟨m,rfl,by omega⟩
theorem qO {p:Nat} {vars:Int} {vs:List Nat} {i u:Nat} (h:Dd p vars vs=true) (hi:1 <= i) (hu:u<p):Dd p vars (vs.set i u)=true:=by
 simp only [Dd,Bool.and_eq_true,Bool.not_eq_true',bne_eq_false_iff_eq,List.all_eq_true,decide_eq_true_eq,List.length_set] at h |-;obtain ⟨⟨⟨h5,h6⟩,h7⟩,h8⟩:=h;refine ⟨⟨⟨h5,h6⟩,?_⟩,fun x hx=>?_⟩
 ·have e:(vs.set i u).getD 0 0=vs.getD 0 0:=by
   rw [List.getD_eq_getElem?_getD,List.getD_eq_getElem?_getD,List.getElem?_set_ne (by omega)]
  rw [e];exact h7
 ·rcases List.mem_or_eq_of_mem_set hx with h | h
  ·exact h8 x h
  ·omega
theorem OV {L:Ja} {pu:Nat} {vars:Int} {rows:List Cb} {ws vs:List Nat} {pos:List Int} {al rho be i u:Nat} (h:ExOk L pu vars rows ws vs pos) (hc:Fs L pos al rho be=true) (Io:1 <= i) (hi:i<vs.length) (hu:u<L.p) (Bb:u≠vs.getD i 0) :
  ti L pu vars rows ws (vs.set i u) pos al rho be=if Sj L.p rows (vs.set i u)=false then 9 else if i <= pu then 1 else 0:=by
 have hp:decide (ws.take (1+pu)=(vs.set i u).take (1+pu))=!decide (i <= pu):=by
  rw [h.pub];by_cases ar:i <= pu
  ·rw [decide_eq_true ar]
   refine decide_eq_false fun e=>Bb ?_
   have e2:=congrArg (fun l=>l[i]?) e
   simp only [List.getElem?_take,show i<1+pu by omega,if_true] at e2
   rw [List.getElem?_set_self hi] at e2;rw [List.getD_eq_getElem?_getD,e2]
   rfl
  ·rw [decide_eq_false ar]
   refine decide_eq_true ?_;rw [List.take_set,List.set_eq_of_length_le];simp
   omega
 unfold ti;rw [hc,h.aw,qO h.av Io hu,h.sw,hp];by_cases ar:i <= pu
 ·simp [ar]
 ·simp [ar]
theorem DU {p v b:Nat} (hv:v<p) (hb:¬b%p=0):(v+b)%p≠v:=fun e=>hb (by
 have h1:(v+b)%p=(v+b%p)%p:=by simp
 rw [h1] at e;have za:b%p<p:=Nat.mod_lt _ (by omega)
 by_cases h:v+b%p<p
 ·rw [Nat.mod_eq_of_lt h] at e
  omega
 ·rw [Nat.mod_eq_sub_mod (by omega),Nat.mod_eq_of_lt (by omega)] at e
  omega)
theorem b7 (x:Int) (h1:0 <= x) (h2:x<18446744073709551616):IntKind.u64.wrap x=x:=by rw [IntKind.wrap_u64];omega
theorem F6 {vs:List Nat} {i y:Nat}:(Fa vs).set i (.int .u64 y)=Fa (vs.set i y):=by
 simp [Fa,List.map_set]
theorem tO {w:World} {a b:Nat} {t u:TypeId} {x y:Array Value} (h:Blk w a t x) (k:Blk w b u y) (hs:x.size≠y.size):a≠b:=fun e=>by
 subst e;have h2:=Option.some.inj (h.symm.trans k)
 injection h2 with h3
 exact hs (by rw [h3])
def JE (X:Nat) (w3 w:World):Prop:=w3.heap.size <= w.heap.size /\ ∀ b,X<b -> b<w3.heap.size -> w.heap[b]?=w3.heap[b]?
theorem pX {X:Nat} {w3 w w':World} (k:JE X w3 w) (h:Below w.heap.size w w'):JE X w3 w':=⟨Nat.le_trans k.1 h.size,fun b h1 h2=>(h.block b (Nat.lt_of_lt_of_le h2 k.1)).trans (k.2 b h1 h2)⟩
theorem eQ {X g:Nat} {w3 w w':World} (k:JE X w3 w) (h:w.grownBy w' (some g)) (hg:g <= X \/ w3.heap.size <= g):JE X w3 w':=⟨Nat.le_trans k.1 h.size,fun b h1 h2=>(h.block b (Nat.lt_of_lt_of_le h2 k.1) (fun e=>by have:=Option.some.inj e;omega)).trans (k.2 b h1 h2)⟩
theorem RS (w:World):Sb w [.slice none 0 0] []:=⟨none,0,0,rfl,rfl,zR,by simp [maxLen],fun i hi=>absurd hi (by simp)⟩
theorem Gz (w:World):RWd w [.slice none 0 0] []:=⟨none,0,0,rfl,zR,by simp [maxLen],⟨rfl,fun h=>absurd h (by omega)⟩,fun x hx=>by cases hx⟩
theorem jW (W:World) (ze:Array Value) (f0:Fits Tryz.prog W 35 (Value.agg ze).cells.toList) (n1:Int) (f1:(Lit.int .u16 n1).wf=true) (n2:Int) (f2:(Lit.int .u64 n2).wf=true) :
  Calls Tryz.prog 6 #[.agg ze, .int .u16 n1, .int .u64 n2] W fun e W'=>e= .returned (.bool true) /\ Below W.heap.size W W':=by
 obtain ⟨p,pub,vars,A,B,B2,P,n,c,m,d,m2,d2,np,cp,rows,ws,vs,bl,bw,qs,seed,al,rho,be,pos,rfl,Ub⟩:=TH f0;clear f0;obtain ⟨aa,rfl,haa⟩:=bU f1;obtain ⟨bb,rfl,xu⟩:=CN f2;have HAA:=zH haa;have HBB:=zH xu;clear f1 f2 haa xu;have Xm:=zH (fun w' (hb:Below W.heap.size W w')=>xI p pub vars A B B2 P n c m d m2 d2 np cp rows ws vs bl bw qs seed al rho be pos w' Ub.p Ub.seed (Kc Gc _ _ _ _ hb Ub.rows) (ta hb Ub.ws) (ta hb Ub.vs) (pf _ _ _ _ hb Ub.pos))
 have rj:=zH (fun w=>UG w)
 have Vj:=zH Ub;clear Ub;unfold Lk at *;have kb:=Blk.new W 35 #[.int .u64 p, .int .i64 pub, .int .i64 vars, .slice A n c, .int .i64 bl, .int .i64 bw, .int .i64 qs, .slice B m d, .slice B2 m2 d2, .int .u64 seed, .int .u64 al, .int .u64 rho, .int .u64 be, .slice P np cp];have da:Below W.heap.size W (W.alloc (.cells #[.int .u64 p, .int .i64 pub, .int .i64 vars, .slice A n c, .int .i64 bl, .int .i64 bw, .int .i64 qs, .slice B m d, .slice B2 m2 d2, .int .u64 seed, .int .u64 al, .int .u64 rho, .int .u64 be, .slice P np cp] 35)):=(Below.refl _ W).alloc zR _;go_enter Tryz.func6,Tryz.ntmps6
 go_upto_region 1 with fail
 generalize W.alloc _=w0 at da kb |-;go_wp2_with fail
 refine (rj.out _).mono ?_;rintro e w1 ⟨rfl,Ga⟩;replace kb:=ia kb Ga;replace da:=oa da Ga;clear Ga rj;have HWL:=zH (show W.heap.size<w1.heap.size from kb.lt)
 have IA:=kb.cell;go_wp2_with fail
 refine (Xm.out _ da).mono ?_;rintro e w2 ⟨Jj,Ka⟩;unfold mu at Jj;obtain ⟨y0,y1,y2,y3,y4,y5,y6,y7,y8,y9,Wd,b,A0,A1,A2,A3,A4,n0,n1,n2,n3,n4,c0,c1,c2,c3,c4,rfl,hT⟩:=Jj;have HT:=zH hT;replace kb:=ia kb Ka;replace da:=oa da Ka;clear Ka Xm IA hT;obtain ⟨kl,kc,ea,-⟩:=Ue w2 39 42 #[.int .u64 y0, .int .i64 y1, .int .i64 y2, .int .i64 y3, .int .i64 y4, .int .i64 y5, .int .i64 y6, .int .i64 y7, .int .i64 y8, .int .i64 y9, .int .i64 Wd] #[.slice A0 n0 c0, .slice A1 n1 c1, .slice A2 n2 c2, .slice A3 n3 c3, .slice A4 n4 c4];go_upto_region 4 with fail
 generalize (w2.alloc _).alloc _=w3 at kl kc ea |-;replace kb:=ia kb ea;replace da:=oa da ea;generalize w2.heap.size+1=gc at kc |-;obtain ⟨gl,xk⟩:=zEX (w2.heap.size);rw [<- xk] at kl |-;clear xk;cases b
 ·clear HT kl kc kb ea Vj
  go_wp2;go_ret
  exact ⟨rfl,da⟩
 obtain ⟨L,pu,rfl,qe,k⟩:=HT.out rfl;clear HT;rw [<- qe] at kl;clear qe;replace k:=vI ea k;obtain rfl:p=L.p:=k.pe.symm;have Ta:=k.ok;have gg:=k.lf;have df:=k.lv;have Ed:=Va Ta.hL.p;have Xb:=MA L seed (by omega)
 have Fo:=k.err;have r0:=k.r;have r1:=k.co;have r2:=k.li;have r3:=k.qu;have r4:=k.sa;have jt:=k.mv;have Ub:=Vj.out;have ig:=Kc Gc _ _ _ _ da Ub.rows;have Bk:=ta da Ub.ws;have ph:=ta da Ub.vs;have ah:=pf _ _ _ _ da Ub.pos;have Gm:=Ub.seed;clear Ub k ea;generalize Dk L seed (L.a+L.b+L.b+L.b)=Y0 at *;generalize Gd L.p seed [1] L.k=Y1 at *;generalize Gd L.p seed [2] (L.k+L.block-2)=Y2 at *;generalize Gd L.p seed [3] (L.block+2*L.queries-1)=Y3 at *;generalize Gd Kd seed [4] L.n=Y4 at *;have zj:=zH (Ra ph).1;have Tx:=zH (Kf (Ra ph).2.1 (Ra ph).2.2.1);have Xr:=zH (Ra ph).2.2.2.1;have Qc:(m2:Int) <= 200:=by have:=zj.out;omega
 have jc:1<L.p:=by have:=Va Ta.hL.p;omega
 have dy:=zH Ed;have p1:(0:Int)<(L.p:Int):=by omega
 have p2:¬((L.p:Int)=0):=by omega
 have p3:¬(L.p=0):=by omega
 obtain ⟨z,hz⟩:=zEX (bb%L.p);have HZ:=zH hz;have e1:(bb:Int)%(L.p:Int)=(z:Int):=by rw [hz];rfl
 have e2:(bb:Int).tmod (L.p:Int)=(z:Int):=by rw [hz];rfl
 have hzp:z<L.p:=by rw [hz];exact Nat.mod_lt _ (by omega)
 have e3:IntKind.u64.wrap (z:Int)=(z:Int):=b7 _ (by omega) (by omega)
 have HC:=zH Xb;have ki:=zH Ta;have HFo:=zH gg;have HLV:=zH df;have HER:=zH Fo;have HVR:=zH ph;have HMV:=zH jt;clear Ta gg df Xb Fo ig Bk ph ah Gm hz hzp Ed jc jt r0 r1 r2 r3 r4;unfold Ya at *;have cb:=kb.cell;have cl:=kl.cell;by_cases hS:(m2:Int)<2
 ·have t1:decide ((m2:Int)<2)=true:=decide_eq_true hS
  go_wp2;go_ret
  exact ⟨rfl,da⟩
 have t1:decide ((m2:Int)<2)=false:=decide_eq_false hS;by_cases Tg:z=0
 ·subst Tg
  go_wp2;go_ret
  exact ⟨rfl,da⟩
 have t2:((z:Int) == 0)=false:=by rw [beq_eq_false_iff_ne];omega
 have t3:¬((z:Int)=0):=by omega
 go_wp2_with fail
 have HNZ:=zH Tg;have nm:=zH (show 2 <= m2 by omega)
 have ud:1 <= m2:=by omega
 clear e1 e2 e3 t1 t2 t3 Tg hS;refine (Bz B2 m2 d2 vs w3 HVR.out (by omega)).mono ?_
 rintro e w4 ⟨v,rfl,ra,ea⟩;have HK:=zH (show JE W.heap.size w3 w4 from ⟨ea.size,fun b _ h2=>ea.block b h2⟩)
 have JB:=tO kb kc (by simp)
 have Wb:=tO kb kl (by simp)
 have hgW:W.heap.size<w3.heap.size:=kb.lt;have hgl3:gl<w3.heap.size:=kl.lt;have hgc3:gc<w3.heap.size:=kc.lt;replace kb:=ia kb ea;replace kl:=ia kl ea;replace kc:=ia kc ea;replace da:=oa da ea;obtain ⟨g,cap,rfl,Af,Ok⟩:=World.ownsRow.form ra (by omega)
 clear ea HVR cb cl;obtain ⟨cb,fb⟩:=kb.cells';go_upto_region 7 with fail
 have hg:=qv (w:=w4) W.heap.size 8 (.slice (some ⟨g,0,none⟩) m2 cap);replace kb:=kb.set_ 8 (.slice (some ⟨g,0,none⟩) m2 cap);replace kl:=kl.grown hg (fun e=>Wb (Option.some.inj e).symm)
 replace kc:=kc.grown hg (fun e=>JB (Option.some.inj e).symm)
 replace ra:=Hc ra hg (by omega)
 replace da:=da.trans (Ff hg da.size zR);replace HK:=zH (eQ HK.out hg (.inl zR));clear hg cb fb JB Wb
 try simp only [Act.put,zLa,zLb,zLc] at kb |-
 generalize World.setCell w4 _ _=w5 at *;obtain ⟨l1,fj⟩:=zEX (m2-1);have Hu:0<l1:=by have:=nm.out;omega
 have j1:(m2:Int)-1=(l1:Int):=by omega
 have j2:=Yb l1;have j3:IntKind.i64.wrap (aa:Int)=(aa:Int):=Df _ (by omega) (by have:=HAA.out;omega)
 have j4:¬((l1:Int)=0):=by omega
 have j5:¬(l1=0):=by omega
 have j6:((l1:Int) == 0)=false:=by rw [beq_eq_false_iff_ne];omega
 obtain ⟨i0,Zs⟩:=zEX (aa%l1);have dt:i0<l1:=by rw [Zs];exact Nat.mod_lt _ Hu
 have j7:(aa:Int)%(l1:Int)=(i0:Int):=by rw [Zs];rfl
 have j8:(aa:Int).tmod (l1:Int)=(i0:Int):=by rw [Zs];rfl
 have j9:=Yb i0;obtain ⟨i,hi⟩:=zEX (1+i0);have q1:(1:Int)+(i0:Int)=(i:Int):=by omega
 have q2:=Yb i;have ft:i<m2:=by omega
 have Di:=zH (show 1 <= i by omega)
 clear Zs hi fj;have cb:=kb.cell;go_upto_region 8 with fail
 clear j1 j2 j3 j4 j5 j6 j7 j8 j9 q1 q2 dt Hu;have hiv:i<vs.length:=by have:=zj.out;omega
 obtain ⟨y,hy⟩:=zEX (vs.getD i 0);obtain ⟨u,hu⟩:=zEX ((y+bb)%L.p);have HY:=zH hy;have HU:=zH hu;have HA:Hid (∀ w:World,Calls Tryz.prog 21 #[.int .u64 L.p, .int .u64 y, .int .u64 bb] w fun e w'=>e= .returned (.int .u64 u) /\ Below w.heap.size w w'):=zH (fun w=>by
  rw [hu];exact Kr L.p y bb w ki.out.hL.p)
 have HIV:=zH hiv;clear hy hu hiv;have r5:(0:Int) <= (i:Int):=by omega
 have r6:(i:Int)<(m2:Int):=by omega
 have ci:w5.cell? ⟨g,i,none⟩=some (.int .u64 y):=by
  rw [ra.cellAt i (by omega),HY.out]
  have:=HIV.out;simp [Fa,List.getD_eq_getElem?_getD,this]
 have lg:g<w5.heap.size:=World.block_lt_of_cell? _ _ ci;have lb:=kb.lt;have cl:=kl.cell;have ll:=kl.lt;refine Hd (Ib) (xa) [13] [13] [0,1,2,3,4,5,6,7,8,9,10,11,12,13] (by kernel_rfl) (by kernel_rfl) ?_
 refine Jd (xa) ?_;intro Wc ja;refine Sc ?_;refine vc (xa) rfl rfl rfl rfl (fun _ _ _ h=>h) (fun _=>by go_simp <;> rfl) (fun w' hR=>HA.out _) ?_
 simp only [Act.put,zLa,zLb,zLc];refine Sc ?_;refine Ph rfl rfl rfl rfl ?_;intro wh tc;replace ja:=(xa).trans _ _ _ ja tc;have Za:=oa (Below.refl w5.heap.size w5).drew ja;replace kb:=ia kb Za;replace kl:=ia kl Za;replace kc:=ia kc Za;replace ra:=Oa ra Za zR;replace da:=oa da Za;replace HK:=zH (pX HK.out Za);clear Za ja cb lg lb cl ll ci;have c2:wh.cell? ⟨g,i,none⟩=some (.int .u64 y):=by
  rw [ra.cellAt i (by omega),HY.out]
  have:=HIV.out;simp [Fa,List.getD_eq_getElem?_getD,this]
 have f2:=ra.frozenAt;go_simp;refine ⟨fun h=>Bool.noConfusion h,?_⟩
 obtain ⟨sc,hg⟩:=ra.stored i (.int .u64 u);rw [F6] at sc;replace HK:=zH (eQ HK.out hg (.inr Af));replace kb:=xc kb hg;replace kl:=xc kl hg;replace kc:=xc kc hg;replace da:=Pb da hg;clear hg f2 c2 ra hgW hgl3 hgc3
 try simp only [Act.put,zLa,zLb,zLc]
 generalize wh.setCell _ _=w6 at *;refine Sc ?_;refine Oh rfl ?_;clear r5 r6;have hk:=HK.out;have Jm:=HWL.out;have r0:=(Wl HMV.out.1 hk.1 (fun b b1 b2=>hk.2 b (by omega) b2)).here
 have r1:=ff (rp HMV.out.2.1 hk.1 (fun b b1 b2=>hk.2 b (by omega) b2))
 have r2:=ff (rp HMV.out.2.2.1 hk.1 (fun b b1 b2=>hk.2 b (by omega) b2))
 have r3:=ff (rp HMV.out.2.2.2.1 hk.1 (fun b b1 b2=>hk.2 b (by omega) b2))
 have r4:=ff (rp HMV.out.2.2.2.2 hk.1 (fun b b1 b2=>hk.2 b (by omega) b2))
 have rC:u<L.p:=by rw [HU.out];exact Nat.mod_lt _ (by omega)
 have hyp:y<L.p:=by
  have h1:=(Nq ki.out.av ki.out.vars).2.1;have h2:=HIV.out;rw [HY.out,List.getD_eq_getElem?_getD,List.getElem?_eq_getElem h2];exact h1 _ (List.getElem_mem h2)
 have Bb:u≠vs.getD i 0:=by
  rw [<- HY.out,HU.out];exact DU hyp (by rw [<- HZ.out];exact HNZ.out)
 have hvn:∀ x∈vs.set i u,x<18446744073709551616:=fun x hx=>by
  rcases List.mem_or_eq_of_mem_set hx with h | h
  ·exact Xr.out x h
  ·have:=dy.out;omega
 have ph:=qf sc hvn;have Ub:=Vj.out;have ig:=Kc Gc _ _ _ _ da Ub.rows;have Bk:=ta da Ub.ws;have ah:=pf _ _ _ _ da Ub.pos;have RB:=ki.out.len;have Ud:=zj.out;have hwm:=(Ra Bk).1;have df:=HLV.out;have HE:=zH (OV ki.out (aK HER.out) Di.out HIV.out rC Bb);have pJ:=pP L pu rho al be seed vars bl bw qs A B (some ⟨g,0,none⟩) P A0 A1 A2 A3 A4 n c m d m2 cap np cp n0 n1 n2 n3 n4 c0 c1 c2 c3 c4 rows ws (vs.set i u) Y0 Y1 Y2 Y3 Y4 pos w6 ki.out.hL HFo.out ki.out.ht ig Bk ph ah r0 r1 r2 r3 r4 HC.out (by omega) (by omega) (ER ki.out ah)
 have CJ:=zH (fun w' (hb:Below w6.heap.size w6 w')=>zM L.p (pu:Int) vars A (some ⟨g,0,none⟩) n c m2 cap rows (vs.set i u) w' (Kc Gc _ _ _ _ hb ig) (ta hb ph) ki.out.ht (qO ki.out.av Di.out rC))
 obtain ⟨E,hE⟩:=zEX (ti L pu vars rows ws (vs.set i u) pos al rho be);rw [<- hE] at pJ HE;obtain ⟨sb,hsb⟩:=zEX (Sj L.p rows (vs.set i u));rw [<- hsb] at CJ HE;have yp:=zH pJ;have HNil:=zH (fun w=>US none none none none none none none none none none 0 0 0 0 0 0 0 0 0 0 0 0 0 0 0 0 0 0 0 0 [] [] [] [] [] w (RS w) (Gz w) (Gz w) (Gz w) (Gz w) (RS w) (Gz w) (Gz w) (Gz w) (Gz w))
 clear hk Jm r0 r1 r2 r3 r4 rC hyp Bb hvn ph Ub ig Bk ah RB Ud hwm df hE hsb pJ HK HMV HWL ki HFo HC HER Vj Xr HU HA HLV HNZ HZ HY sc Qc ud nm Tx Di HIV ft p1 p2 p3;generalize zd L _ _ _ _ _ _ _=XR at *;generalize Zf L _ _ _ _ _ _ _ _=XC at *;generalize Tf L _ _ _ _ _ _ _ _=XL at *;generalize Uf L _ _ _ _ _ _ _ _=XQ at *;unfold Lk pc at *;have cb:=kb.cell;have cc:=kc.cell;go_wp2_with fail
 refine yp.out.mono ?_;rintro e w7 ⟨⟨F0,F1,F2,F3,F4,m0,m1,zr,m3,m4,u0,u1,u2,u3,u4,rfl,Sw⟩,ea⟩;have Wa:=ea;replace kb:=ia kb ea;replace da:=oa da ea;clear ea yp cb cc kc kl;go_upto_region 10 with fail
 have kd:=Blk.new w7 42 #[.slice F0 m0 u0, .slice F1 m1 u1, .slice F2 zr u2, .slice F3 m3 u3, .slice F4 m4 u4];have ma:=(Below.refl w7.heap.size w7).alloc zR (.cells #[.slice F0 m0 u0, .slice F1 m1 u1, .slice F2 zr u2, .slice F3 m3 u3, .slice F4 m4 u4] 42);replace Wa:=oa Wa ma;replace kb:=ia kb ma;replace da:=oa da ma;clear ma;generalize w7.alloc _=w8 at kb kd da Wa |-;generalize w7.heap.size=gd at kd |-;have cb:=kb.cell;go_wp2_with fail
 refine (CJ.out _ Wa).mono ?_;rintro e w9 ⟨rfl,ea⟩;replace kb:=ia kb ea;replace kd:=ia kd ea;replace da:=oa da ea;clear ea CJ cb Wa;cases sb
 ·clear zj
  obtain rfl:E=9:=by rw [HE.out];rfl
  rcases Sw with ⟨-,x0,x1,x2,x3,x4⟩ | ⟨h0,-⟩
  ·injection x0 with a1 a2 a3
   injection x1 with b1 b2 b3
   injection x2 with g1 g2 g3
   injection x3 with h1 h2 h3
   injection x4 with k1 k2 k3
   subst a1 a2 a3 b1 b2 b3 g1 g2 g3 h1 h2 h3 k1 k2 k3;have cb:=kb.cell;have cd:=kd.cell;go_wp2_with fail
   refine (HNil.out _).mono ?_;rintro e wz ⟨rfl,ea⟩;replace da:=oa da ea;go_wp2;go_ret
   exact ⟨rfl,da⟩
  ·exact absurd h0 (by decide)
 ·by_cases ar:i <= pu
  ·have t1:decide ((i:Int) <= (pu:Int))=true:=decide_eq_true (by omega)
   have t2:(i:Int) <= (pu:Int):=by omega
   obtain rfl:E=1:=by rw [HE.out,if_neg (by decide),if_pos ar]
   rcases Sw with ⟨-,x0,x1,x2,x3,x4⟩ | ⟨h0,-⟩
   ·injection x0 with a1 a2 a3
    injection x1 with b1 b2 b3
    injection x2 with g1 g2 g3
    injection x3 with h1 h2 h3
    injection x4 with k1 k2 k3
    subst a1 a2 a3 b1 b2 b3 g1 g2 g3 h1 h2 h3 k1 k2 k3;have cb:=kb.cell;have cd:=kd.cell;go_wp2_with fail
    refine (HNil.out _).mono ?_;rintro e wz ⟨rfl,ea⟩;replace da:=oa da ea;go_wp2;go_ret
    exact ⟨rfl,da⟩
   ·exact absurd h0 (by decide)
  ·have t1:decide ((i:Int) <= (pu:Int))=false:=decide_eq_false (by omega)
   have t2:¬((i:Int) <= (pu:Int)):=by omega
   obtain rfl:E=0:=by rw [HE.out,if_neg (by decide),if_neg ar]
   have cb:=kb.cell;go_wp2;go_ret
   exact ⟨rfl,da⟩
end Go.Proofs.YtgeofabpinfcmaaGreat
namespace Go.Proofs.YtgeofabpinfcmaaGreat.explainUnsatisfied
open Go.ChangeShapes Go.WideShapes Go.ChangeAt Go.RowKit
open Go.ChangeMaps (open_string shut_string)

theorem own:ownKnob Tryz.prog.godebug=none:=by kernel_rfl
theorem laidOut:laidOutB Tryz.prog=true:=by kernel_rfl
theorem lifted (os:Os) (started:os.Started) (H:Type) (enc:TypeId × Value -> H) :
  ReturnsInHanded {} Tryz.checked os 6 .any (Rows.explainUnsatisfiedSpec.pre6 enc Tryz.prog Tryz.f6 Rows.explainUnsatisfiedRow.domain false) (Rows.explainUnsatisfiedSpec.post enc Tryz.prog Tryz.f6 false true false false):=by
 refine returnsInHanded_of_change (C:=Tryz.checked) own started (by kernel_rfl) Tryz.func6
  (ChangeSpec.witness6 (enc:=enc) (C:=Tryz.checked) false ⟨#[],#[.agg #[.int .u64 0, .int .i64 0, .int .i64 0, .slice none 0 0, .int .i64 0, .int .i64 0, .int .i64 0, .slice none 0 0, .slice none 0 0, .int .u64 0, .int .u64 0, .int .u64 0, .int .u64 0, .slice none 0 0], .int .u16 0, .int .u64 0],[]⟩ 12 (by kernel_rfl) (by kernel_rfl) (by kernel_rfl) (by kernel_rfl)) ?_
 intro W base args ds gs before wt hW hcnd _;have Lj:∀ (j:Nat) t v,Tryz.f6.params[j]?=some t -> args[j]?=some v -> Value.okWide Tryz.prog W .any base t v:=wt;have DB:=hW;obtain ⟨p,q,Ps,hV,rfl,hfz,hnd⟩:=hW;have hA:DataW.TrodAll enc Tryz.prog W 0 (fun _=>true) true Tryz.f6.params.toList args.toList ds p:=Ps
 rw [Tryz.params6] at hA Lj;obtain ⟨v0,vs0,d0,ds0,p0,q0,BK,rfl,rfl,h0,r0⟩:=trodAll_cons hA;obtain ⟨v1,vs1,d1,ds1,p1,q1,rfl,rfl,rfl,h1,r1⟩:=trodAll_cons r0;obtain ⟨v2,vs2,d2,ds2,p2,q2,rfl,rfl,rfl,h2,r2⟩:=trodAll_cons r1;obtain ⟨rfl,rfl,rfl⟩:=trodAll_nil r2;obtain rfl:args=#[v0,v1,v2]:=by cases args;simp_all
 obtain ⟨rfl,rfl⟩:=trodVars_none hV;have GC:∀ x∈p0,x.block<W.heap.size:=by obtain ⟨m,hm⟩:=h0;exact DataW.trod_lt m _ _ _ hm
 have k0:=h0;have lt1:∀ x∈p1,x.block<W.heap.size:=by obtain ⟨m,hm⟩:=h1;exact DataW.trod_lt m _ _ _ hm
 have k1:=h1;have lt2:∀ x∈p2,x.block<W.heap.size:=by obtain ⟨m,hm⟩:=h2;exact DataW.trod_lt m _ _ _ hm
 have k2:=h2;obtain ⟨ze,rfl,z0⟩:=okWide_struct Tryz.underlying35 (Lj 0 35 v0 rfl rfl);obtain ⟨a1,rfl,rfl,rfl,w1⟩:=open_int Tryz.underlying62 (Lj 1 62 _ rfl rfl) h1;obtain ⟨a2,rfl,rfl,rfl,w2⟩:=open_int Tryz.underlying22 (Lj 2 22 _ rfl rfl) h2;clear Ps wt;refine (jW W ze (Fits.of_trod k0) a1 w1 a2 w2).mono fun e W' ⟨he,so⟩=>?_
 subst he;exact ⟨_,rfl,_,_,_,[],_,[],DB,trodAll_mk1 (shut_bool Tryz.underlying4 _),(trodAll_cons_mk (Below.trod laidOut (by kernel_rfl) (of_decide_eq_true (by kernel_rfl)) k0 so GC) (trodAll_cons_mk (Below.trod laidOut (by kernel_rfl) (of_decide_eq_true (by kernel_rfl)) k1 so lt1) (trodAll_cons_mk (Below.trod laidOut (by kernel_rfl) (of_decide_eq_true (by kernel_rfl)) k2 so lt2) trodAll_mk0))),rfl,so.frame _,fun h=>by cases h⟩
theorem j1:(Rows.explainUnsatisfiedRow.wf (OpenSpec.ofChange Rows.explainUnsatisfiedSpec))=true:=by kernel_rfl
theorem j2:(laidOutB Tryz.pinned.checked.prog)=true:=by kernel_rfl
theorem j3:(mapsRowed Tryz.pinned.checked.prog)=true:=by kernel_rfl
theorem j4:(Tryz.f6.params.all (Tryz.pinned.checked.prog.readableRec ·))=true:=by kernel_rfl
theorem j5:(namedTie Tryz.pinned.checked.prog Rows.explainUnsatisfiedRow.named Rows.explainUnsatisfiedSpec.vars)=true:=by kernel_rfl
theorem j6:((Rows.explainUnsatisfiedRow.stops == []))=true:=by kernel_rfl
theorem j7:((Tryz.pinned.checked.prog.stops == []))=true:=by kernel_rfl
theorem j8:((Rows.explainUnsatisfiedRow.knobs == []))=true:=by kernel_rfl
theorem j9:((Tryz.pinned.checked.prog.stopKnobs == []))=true:=by kernel_rfl
theorem j10:((Rows.explainUnsatisfiedRow.inPlace == Tryz.pinned.checked.prog.inPlace 6))=true:=by kernel_rfl
theorem j11:((Rows.explainUnsatisfiedRow.unfollowed == Tryz.pinned.checked.prog.unfollowed 6))=true:=by kernel_rfl
theorem j12:((Rows.explainUnsatisfiedRow.recurses == Tryz.pinned.checked.prog.recurses 6))=true:=by kernel_rfl
theorem j13:((Rows.explainUnsatisfiedRow.named == Tryz.pinned.checked.prog.varsNamed 6))=true:=by kernel_rfl
theorem j14:((Rows.explainUnsatisfiedRow.maps == (Tryz.f6.params.toList++Rows.explainUnsatisfiedSpec.plain.varTypes Tryz.pinned.checked.prog).any (Tryz.pinned.checked.prog.mapsRec ·)))=true:=by kernel_rfl
theorem j15:((Rows.explainUnsatisfiedRow.ifaces == (Tryz.f6.params.toList++Rows.explainUnsatisfiedSpec.plain.varTypes Tryz.pinned.checked.prog).any (Tryz.pinned.checked.prog.ifacesRec ·)))=true:=by kernel_rfl
theorem j16:((Rows.explainUnsatisfiedRow.mapsOut == Tryz.pinned.checked.prog.mapsAmong Tryz.f6.resultTypes.toList))=true:=by kernel_rfl
theorem j17:((Rows.explainUnsatisfiedRow.loops == (Tryz.f6.params.toList++Rows.explainUnsatisfiedSpec.plain.varTypes Tryz.pinned.checked.prog).any (Tryz.pinned.checked.prog.loopsFrom ·)))=true:=by kernel_rfl
theorem j18:((Rows.explainUnsatisfiedRow.wideKeys == (Tryz.f6.params.toList++Rows.explainUnsatisfiedSpec.plain.varTypes Tryz.pinned.checked.prog++Tryz.f6.resultTypes.toList).any (Tryz.pinned.checked.prog.wideKeysFrom ·)))=true:=by kernel_rfl
theorem j19:(Rows.explainUnsatisfiedSpec.vars.all (Tryz.pinned.checked.prog.varReadable ·))=true:=by kernel_rfl
theorem j20:(Tryz.f6.resultTypes.all (fun t=>Tryz.pinned.checked.prog.readableRec t&&decide (t<Tryz.pinned.checked.prog.types.size)))=true:=by kernel_rfl
theorem j21:((Rows.explainUnsatisfiedRow.ifacesOut == Tryz.f6.resultTypes.toList.any (Tryz.pinned.checked.prog.ifacesRec ·)))=true:=by kernel_rfl
theorem j22:((Rows.explainUnsatisfiedRow.loopsOut == Tryz.f6.resultTypes.toList.any (Tryz.pinned.checked.prog.loopsFrom ·)))=true:=by kernel_rfl
theorem j23:((Rows.explainUnsatisfiedRow.plainKeys == Tryz.pinned.checked.prog.plainKeys))=true:=by kernel_rfl
theorem j24:(Rows.explainUnsatisfiedRow.shortTexts.isNone)=true:=by kernel_rfl
theorem j25:(Tryz.pinned.checked.prog.stopsHeard)=true:=by kernel_rfl
theorem j26:(Tryz.pinned.checked.prog.mayEnter)=true:=by kernel_rfl
theorem j27:((Rows.explainUnsatisfiedRow.lifted == Tryz.pinned.checked.prog.liftsFinal))=true:=by kernel_rfl
theorem j28:((Tryz.pinned.checked.prog.make == some Rows.explainUnsatisfiedRow.make))=true:=by kernel_rfl
theorem j29:((Rows.explainUnsatisfiedRow.kinds == (if Rows.explainUnsatisfiedRow.domain.isEmpty then [] else Tryz.f6.params.toList.map fun t=>match Tryz.pinned.checked.prog.underlying t with | some (.int k)=>some k | _=>none)))=true:=by kernel_rfl
theorem j30:((Rows.explainUnsatisfiedRow.pinned == Rows.explainUnsatisfiedRow.pinnedBy))=true:=by kernel_rfl
theorem j31:((Rows.explainUnsatisfiedRow.veiled == (Tryz.f6.params.toList++Rows.explainUnsatisfiedSpec.plain.varTypes Tryz.pinned.checked.prog++Tryz.f6.resultTypes.toList).any (Tryz.pinned.checked.prog.veiledRec ·)))=true:=by kernel_rfl
theorem j32:(Rows.explainUnsatisfiedRow.veiledFits Tryz.pinned.checked.prog Tryz.f6.params.toList (Tryz.f6.params.toList++Rows.explainUnsatisfiedSpec.plain.varTypes Tryz.pinned.checked.prog++Tryz.f6.resultTypes.toList))=true:=by kernel_rfl
theorem over:Rows.explainUnsatisfiedRow.holds Tryz.pinned (OpenSpec.ofChange Rows.explainUnsatisfiedSpec) :=
 OpenClaim.holds_of_wide 6 Tryz.f6 rfl rfl rfl rfl rfl rfl rfl ⟨rfl,rfl,rfl,rfl,rfl⟩ rfl rfl rfl rfl rfl (by kernel_rfl) Tryz.func6 (GH j1 j2 j3 j4 j5 j6 j7 j8 j9 j10 j11 j12 j13 j14 j15 j16 j17 j18 j19 j20 j21 j22 j23 j24 j25 j26 j27 j28 j29 j30 j31 j32)
  (of_decide_eq_true (by kernel_rfl)) (by unfold Func.isWrapper;first | (rw [if_pos (by decide +kernel)];kernel_rfl) | (rw [if_neg (by decide +kernel)];exact ⟨rfl,rfl⟩))
  (fun os started H enc _=>lifted os started H enc)
theorem proved:Rows.ExplainUnsatisfiedSaid:=over
#print axioms proved
end Go.Proofs.YtgeofabpinfcmaaGreat.explainUnsatisfied
