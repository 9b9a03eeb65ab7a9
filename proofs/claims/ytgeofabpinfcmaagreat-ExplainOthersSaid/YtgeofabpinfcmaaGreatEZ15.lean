/- A part of the proof. No condition. -/
import Derived.Test.YtgeofabpinfcmaaGreatProg
import Derived.Test.YtgeofabpinfcmaaGreatEZ9
import Derived.Test.YtgeofabpinfcmaaGreatEZ11
import Derived.Test.YtgeofabpinfcmaaGreatEZ8
import Derived.Test.YtgeofabpinfcmaaGreatEZ7

set_option maxRecDepth 100000
set_option maxHeartbeats 8000000
set_option linter.unusedVariables false
set_option linter.unusedSimpArgs false
namespace Go.Proofs.YtgeofabpinfcmaaGreat
open Go.RowKit
def Kd:Nat:=18446744069414584321
theorem okBig:ab Kd=true:=by decide
def GV (x:Nat) (r:List Nat) (k:Nat):Nat:=Lt Kd (nu Kd 22 (x%Kd :: r)) k
def drawP (p x:Nat) (r:List Nat) (k:Nat):Nat:=GV x r k%p
def St.lt (p:Nat) (s:St):Prop:=s.a<p /\ s.b<p /\ s.c<p
theorem ZL {p:Nat} (hp:0<p) (s:St):(Gt p s).lt p:=⟨Nat.mod_lt _ hp,Nat.mod_lt _ hp,Nat.mod_lt _ hp⟩
theorem VN {p:Nat} (hp:0<p):∀ (l:List Nat) (s:St),s.lt p -> (Dp p l s).lt p
 | [],_,h=>h
 | [_],_,_=>ZL hp _
 | _ :: _ :: r,_,_=>VN hp r _ (ZL hp _)
theorem RY {p:Nat} (hp:0<p) (s:St) (h:s.lt p):∀ m,(yx p s m).lt p
 | 0=>h
 | _+1=>ZL hp _
theorem H5 (p label:Nat) (l:List Nat) (k:Nat) (hp:0<p):Lt p (nu p label l) k<p:=by
 have h:=RY hp _ (VN hp l ⟨0,0,(label*65536%p+l.length)%p⟩ ⟨hp,hp,Nat.mod_lt _ hp⟩) (k / 2);show St.at_ _ (k%2)<p
 unfold St.at_;split
 ·exact h.1
 ·split
  ·exact h.2.1
  ·exact h.2.2
theorem jV (L:Ja) (w:World) (hL:Db L) :
  Calls Tryz.prog 45 #[.agg (Ya L)] w fun e w'=>e= .returned (.agg #[.int .i64 L.k, .int .i64 ((L.k+L.block-2:Nat):Int), .int .i64 ((L.block+2*L.queries-1:Nat):Int)]) /\ Below w.heap.size w w':=by
 have h1:=hL.b1;have h2:=hL.b2;have h3:=hL.q1;have h4:=hL.q2;have h5:=hL.k;obtain ⟨x,hx⟩:=zEX (L.k+L.block-2);obtain ⟨y,hy⟩:=zEX (L.block+2*L.queries-1);rw [<- hx,<- hy];have e1:IntKind.i64.wrap ((L.k:Int)+(L.block:Int))=(L.k:Int)+(L.block:Int):=Df _ (by omega) (by omega)
 have e2:IntKind.i64.wrap ((L.k:Int)+(L.block:Int)-2)=(x:Int):=by rw [Df _ (by omega) (by omega)];omega
 have e3:IntKind.i64.wrap (2*(L.queries:Int))=2*(L.queries:Int):=Df _ (by omega) (by omega)
 have e4:IntKind.i64.wrap ((L.block:Int)+2*(L.queries:Int))=(L.block:Int)+2*(L.queries:Int):=Df _ (by omega) (by omega)
 have e5:IntKind.i64.wrap ((L.block:Int)+2*(L.queries:Int)-1)=(y:Int):=by rw [Df _ (by omega) (by omega)];omega
 clear h1 h2 h3 h4 h5 hx hy hL;unfold Ya at *;go_enter Tryz.func45,Tryz.ntmps45
 go_wp2_with fail
 exact bodyPost_ret (v:=.agg #[.int .i64 L.k, .int .i64 x, .int .i64 y]) (by simp [results,Tryz.results45,go_sem]) rfl ⟨rfl,((Below.refl _ w).alloc zR _).alloc (by simp) _⟩
theorem Q2 (p:Nat) (A:Option Addr) (n c m:Nat) (l:List Nat) (w:World) (hp:0<p) (Kb:p<18446744073709551616) (hl:RWd w [.slice A n c] l) (Bb:0<l.length) (hlen:l.length <= 1000000) (hm:m <= 65536) :
  Calls Tryz.prog 54 #[.int .u64 p, .int .i64 m, .slice A n c] w fun e w'=>∃ v,e= .returned v /\ w'.ownsRow w.heap.size 22 1 v m (Fa ((List.range m).map fun k=>Lt Kd (nu Kd 22 l) k%p)) /\ Below w.heap.size w w':=by
 have HS:=zH (YZ Kd 22 A n c m l w okBig hl Bb hlen hm);have HB:=zH (fun k=>Nat.lt_trans (H5 Kd 22 l k (by decide)) (show Kd<18446744073709551616 by decide))
 clear hl Bb hlen;generalize Lt Kd (nu Kd 22 l)=fs at *;unfold Kd at HS;go_enter Tryz.func54,Tryz.ntmps54
 go_wp2_with fail
 refine HS.out.mono ?_;rintro e w1 ⟨v,rfl,hv,da⟩;obtain ⟨A1,c1,rfl,Lg,Xg,La,-⟩:=Ob hv;have ir:RWd w1 [.slice A1 m c1] ((List.range m).map fs):=qf hv (fun x hx=>by
  obtain ⟨k,_,rfl⟩:=List.mem_map.1 hx;exact HB.out k)
 clear hv La;go_wp2_with fail
 go_loopw [8,9] (fun v y wr=>∃ i:Nat,i <= m /\ y= .int .i64 i /\ wr.ownsRow w1.heap.size 22 1 v i (Fa ((List.range i).map fun k=>fs k%p)) /\ Below w1.heap.size w1 wr) (fun _ y _=>m-(intOf y).toNat)
 case atStart=>exact ⟨0,Nat.zero_le _,rfl,Wk _ _ zR,(Below.refl _ _).alloc zR _⟩
 case round =>
  obtain ⟨i,hi,rfl,ra,Ga⟩:=hrel;by_cases za:i<m
  ·have g2:(i:Int)<(m:Int):=by omega
   have g3:(0:Int) <= (i:Int):=by omega
   obtain ⟨-,-,-,-,La⟩:=Ra (ta Ga ir);have hlen:((List.range m).map fs).length=m:=by simp
   have La:Rd wr 1 A1 ((List.range m).map fs).length (Fa ((List.range m).map fs)):=by rw [hlen];exact La
   obtain ⟨b,q,rfl,Wb,hc⟩:=Vd La (j:=i) (by rw [hlen];exact za)
   have Ho:((List.range m).map fs).getD i 0=fs i:=by simp [za]
   rw [Ho] at hc;obtain ⟨fi,Hj⟩:=zEX (fs i);obtain ⟨z,hz⟩:=zEX (fi%p);have Jq:=zH (show ((List.range i).map fun k=>fs k%p)++[z]=(List.range (i+1)).map fun k=>fs k%p by rw [hz,Hj];exact It (fun k=>fs k%p) _)
   rw [<- Hj] at hc;have mc:(p:Int)≠0:=by omega
   have jc:((p:Int) == 0)=false:=by rw [beq_eq_false_iff_ne];omega
   have e1:(fi:Int)%(p:Int)=(z:Int):=by rw [hz];exact (Int.natCast_emod _ _).symm
   have e2:(fi:Int).tmod (p:Int)=(z:Int):=by rw [Int.tmod_eq_emod_of_nonneg (by omega)];exact e1
   clear Hj hz Ho hlen La;have Jn:=Ga.size;go_wp2_with (at_builtin;refine Mf rfl _ _ rfl xf rfl (ra.alloc _) rfl (Lf _ _ _) (mg [z]) (by omega) (by simp;omega) ?_)
   intro v' wn db Ma Lb;have ma:=(Below.refl wr.heap.size wr).alloc zR (.cells #[.int .u64 z] 22);have hB:=Ae (ra.alloc _) Ma (by simp;have:=Ga.size;omega)
   replace Ga:=(Uh Ga ma Ga.size).trans hB;replace db:wn.ownsRow w1.heap.size 22 1 v' (i+1) (Fa ((List.range (i+1)).map fun k=>fs k%p)):=Qi (a:=(List.range i).map fun k=>fs k%p) (b:=[z]) db Jq.out
   clear ra Ma Lb ma hB hc Wb Jn;go_wp2
   go_roundw
   case rel=>exact ⟨i+1,by omega,by go_num,db,Ga⟩
   case measure=>simp [intOf];omega
  ·obtain rfl:i=m:=by omega
   go_wp2;go_ret
   exact ⟨_,rfl,Pf ra da.size,oa da Ga⟩
def Gd (p s:Nat) (r:List Nat) (m:Nat):List Nat:=(List.range m).map (drawP p s r)
def Dk (L:Ja) (s n:Nat):List (List Nat):=(List.range n).map fun k=>Gd L.p s [0,k] L.queries
theorem zv (p s:Nat) (r:List Nat) (m:Nat) (hp:0<p) (Kb:p<18446744073709551616):∀ x∈Gd p s r m,x<18446744073709551616:=fun x hx=>by
 obtain ⟨k,_,rfl⟩:=List.mem_map.1 hx;exact Nat.lt_trans (Nat.mod_lt _ hp) Kb
theorem QS (L:Ja) (s k:Nat):Dk L s k++[Gd L.p s [0,k] L.queries]=Dk L s (k+1):=by simp [Dk,List.range_succ]
theorem gX:(Tryz.prog.info? 28).map (fun i=>(i.zero,i.size,i.bytes))=some (some (.slice none 0 0),1,24):=by kernel_rfl
theorem Cj:Pz Tryz.prog 40 28 1 24 (.slice none 0 0):=by
 obtain ⟨i0,hi,Tg,fe,sh⟩:=info_parts gX;exact ⟨Tryz.underlying40,⟨i0,hi,Tg,fe,sh⟩,rfl,by omega⟩
theorem EI (p s:Nat) (r:List Nat) (m g:Nat) (w:World) (hp:0<p) (Kb:p<18446744073709551616) (kg:Blk w g 22 (Fa (s%Kd :: r)).toArray) (hr:∀ x∈r,x<18446744073709551616) (hlen:r.length <= 1000) (hm:m <= 65536) :
  Calls Tryz.prog 54 #[.int .u64 p, .int .i64 m, .slice (some ⟨g,0,none⟩) (r.length+1) (r.length+1)] w fun e w'=>∃ v,e= .returned v /\ w'.ownsRow w.heap.size 22 1 v m (Fa (Gd p s r m)) /\ Below w.heap.size w w':=by
 have:=Q2 p (some ⟨g,0,none⟩) (s%Kd :: r).length (s%Kd :: r).length m (s%Kd :: r) w hp Kb (IC kg (fun z hz=>by
  rcases List.mem_cons.1 hz with rfl | h
  ·exact Nat.lt_trans (Nat.mod_lt _ (by decide)) (show Kd<18446744073709551616 by decide)
  ·exact hr z h) (by simp [maxLen];omega)) (by simp) (by simp;omega) hm
 exact this
theorem yh {w:World} {g:Nat} {t:TypeId} {y0 y1 y2 y3 y4:Value} (k:Blk w g t #[y0,y1,y2,y3,y4]) (x0 x1 x2 x3 x4:Value):Blk (((((w.setCell ⟨g,0,none⟩ x0).setCell ⟨g,1,none⟩ x1).setCell ⟨g,2,none⟩ x2).setCell ⟨g,3,none⟩ x3).setCell ⟨g,4,none⟩ x4) g t #[x0,x1,x2,x3,x4]:=by
 have h:=(((((k.set_ 0 x0).set_ 1 x1).set_ 2 x2).set_ 3 x3).set_ 4 x4)
 simpa using h
theorem zh {w:World} {g:Nat} (x0 x1 x2 x3 x4:Value):w.grownBy (((((w.setCell ⟨g,0,none⟩ x0).setCell ⟨g,1,none⟩ x1).setCell ⟨g,2,none⟩ x2).setCell ⟨g,3,none⟩ x3).setCell ⟨g,4,none⟩ x4) (some g):=by
 iterate 5 refine mh ?_ (.inl rfl) _
 exact Hf w _
theorem dS (L:Ja) (s:Nat) (w:World) (hL:Db L) (hs:s<18446744073709551616) :
  Calls Tryz.prog 19 #[.agg (Ya L), .int .u64 s] w fun e w'=>∃ v0 v1 v2 v3 v4,e= .returned (.agg #[v0,v1,v2,v3,v4]) /\ Sb w' [v0] (Dk L s (L.a+L.b+L.b+L.b)) /\ RWd w' [v1] (Gd L.p s [1] L.k) /\ RWd w' [v2] (Gd L.p s [2] (L.k+L.block-2)) /\ RWd w' [v3] (Gd L.p s [3] (L.block+2*L.queries-1)) /\ RWd w' [v4] (Gd Kd s [4] L.n) /\ Below w.heap.size w w':=by
 have Ed:=Va hL.p;have HT:=zH (fun w=>CM L.p L.block L.queries L.k L.n L.secret L.rows L.a L.b L.b L.b w hL.a hL.b hL.b hL.b)
 have HS:=zH (fun r m g w kg hr hlen hm=>EI L.p s r m g w (by omega) Ed.2 kg hr hlen hm)
 have Tv:=zH (fun r m g w kg hr hlen hm=>EI Kd s r m g w (by decide) (by decide) kg hr hlen hm)
 have yn:L.a+L.b+L.b+L.b <= 400000:=by have:=hL.a;have:=hL.b;omega
 have Sg:=hL.q2;generalize L.a+L.b+L.b+L.b=T at *;obtain ⟨x,hx⟩:=zEX (s%Kd);have e1:(s:Int)%18446744069414584321=(x:Int):=by rw [hx];unfold Kd;omega
 have e2:(s:Int).tmod 18446744069414584321=(x:Int):=by rw [Int.tmod_eq_emod_of_nonneg (by omega)];exact e1
 rw [<- hx] at HS Tv;clear hx;unfold Ya at *;go_enter Tryz.func19,Tryz.ntmps19
 go_upto_region 3 with fail
 obtain ⟨kl,kz,kc,da,Nb⟩:=Oq w 39 42 42 #[.int .u64 L.p, .int .i64 L.block, .int .i64 L.queries, .int .i64 L.k, .int .i64 L.n, .int .i64 L.secret, .int .i64 L.rows, .int .i64 L.a, .int .i64 L.b, .int .i64 L.b, .int .i64 L.b] #[.slice none 0 0, .slice none 0 0, .slice none 0 0, .slice none 0 0, .slice none 0 0] #[.slice none 0 0, .slice none 0 0, .slice none 0 0, .slice none 0 0, .slice none 0 0];generalize ((w.alloc _).alloc _).alloc _=w3 at kl kz kc da Nb |-;obtain ⟨N,hN⟩:=zEX (w3.heap.size);rw [<- hN] at Nb;have Pa:N <= w3.heap.size:=by omega
 have ve:w.heap.size+2<N:=by omega
 clear hN Nb;go_wp2_with fail
 go_loopw [7] (fun y wr=>∃ (i:Nat) (v:Value) (cs:List Value),i <= T /\ y= .int .i64 i /\ Blk wr w.heap.size 39 #[.int .u64 L.p, .int .i64 L.block, .int .i64 L.queries, .int .i64 L.k, .int .i64 L.n, .int .i64 L.secret, .int .i64 L.rows, .int .i64 L.a, .int .i64 L.b, .int .i64 L.b, .int .i64 L.b] /\ Blk wr (w.heap.size+1) 42 #[.slice none 0 0, .slice none 0 0, .slice none 0 0, .slice none 0 0, .slice none 0 0] /\ Blk wr (w.heap.size+1+1) 42 #[v, .slice none 0 0, .slice none 0 0, .slice none 0 0, .slice none 0 0] /\ wr.ownsRow N 28 1 v i cs /\ Rf N wr v cs (Dk L s i) /\ Below w.heap.size w wr /\ N <= wr.heap.size) (fun y _=>T-(intOf y).toNat)
 case atStart=>exact ⟨0, .slice none 0 0,[],Nat.zero_le _,rfl,kl,kz,kc,⟨rfl, .inl ⟨rfl,rfl⟩⟩,Ns _ _ _,da,Pa⟩
 case round =>
  clear kl kz kc da Pa;obtain ⟨i,v,cs,hi,rfl,kl,kz,kc,ra,Da,da,Pa⟩:=hrel;have cl:=kl.cell;have ll:=kl.lt;by_cases za:i<T
  ·have g1:(0:Int) <= (i:Int):=by omega
   have g2:(i:Int)<(T:Int):=by omega
   have ew:IntKind.u64.wrap (i:Int)=(i:Int):=by rw [IntKind.wrap_u64];omega
   have HR:=zH (QS L s i);go_wp2_with fail
   refine (HT.out _).mono ?_;rintro e w4 ⟨rfl,Fb⟩;replace kl:=ia kl Fb;replace kz:=ia kz Fb;replace kc:=ia kc Fb;replace ra:=Oa ra Fb zR;replace Da:=Uc Da Fb;have My:N <= w4.heap.size:=by have:=Fb.size;omega
   replace da:=oa da Fb;clear cl ll Fb Pa;have cl:=kl.cell;have cc:=kc.cell;have x1:w.heap.size<N:=by omega
   have x2:w.heap.size+1+1<N:=by omega
   have x3:w.heap.size≠N:=by omega
   have x4:w.heap.size+1+1≠N:=by omega
   go_upto_region 6 with fail
   refine Qt (qj N N) [9,10,11,12,14] [14] [0,1,2,3,4,5,6,7,8,9,10,11,12,13,14] (by kernel_rfl) (by kernel_rfl) ?_
   refine Tt (xb N N) ?_;intro Wc Na ja;have ya:=Cc Na;replace kl:=ia kl ya;replace kz:=ia kz ya;replace kc:=ia kc ya;replace ra:=Oa ra ya zR;replace Da:=Uc Da ya;have Dc:N <= Wc.heap.size:=by have:=ya.size;omega
   replace da:=oa da ya;clear Na ya;refine Ah ?_;refine Rh (xb N N) rfl rfl rfl ?_;go_simp;refine ⟨fun _=>ue ((Below.refl _ _).alloc zR _) Dc,?_⟩
   have ma:=(Below.refl Wc.heap.size Wc).alloc zR (.cells #[.int .u64 x, .int .u64 0, .int .u64 i] 22);have kA:=Blk.new Wc 22 #[.int .u64 x, .int .u64 0, .int .u64 i];replace kl:=ia kl ma;replace kz:=ia kz ma;replace kc:=ia kc ma;replace ra:=Oa ra ma zR;replace Da:=Uc Da ma;have Gh:N <= (Wc.alloc (.cells #[.int .u64 x, .int .u64 0, .int .u64 i] 22)).heap.size:=by have:=ma.size;omega
   replace da:=oa da ma
   try simp only [Act.put,zLa,zLb,zLc]
   generalize Wc.alloc _=w6 at kl kz kc ra Da da kA Gh |-;generalize Wc.heap.size=gA at kA |-;clear ma Dc ja cl cc;have ja:=(xb N N).refl w6;have kA':Blk w6 gA 22 (Fa (x :: [0,i])).toArray:=by simpa [Fa] using kA
   have HC:=zH (HS.out [0,i] L.queries gA w6 kA' (by intro y hy;simp at hy;omega) (by simp) (by omega))
   clear kA kA';refine fh (xb N N) rfl rfl rfl (fun _=>by go_simp <;> rfl) ((HC.out).mono ?_)
   rintro e w7 ⟨va,rfl,uj,Wa⟩;refine ⟨_,rfl,fun _=>ue Wa Gh,?_⟩
   replace ja:=(xb N N).trans _ _ _ ja (ue Wa Gh);simp only [Act.put,zLa,zLb,zLc];obtain ⟨Av,cv,rfl,-⟩:=Ob uj;have xt:=uj;replace kl:=ia kl Wa;replace kz:=ia kz Wa;replace kc:=ia kc Wa;have df:∀ q,v.ownBlock=some q -> q<w6.heap.size:=fun q e=>(ra.lt q e).2
   replace ra:=Oa ra Wa zR;replace Da:=Uc Da Wa;have At:=Xl (N:=N) (gb:=v.ownBlock) xt (zv _ _ _ _ (by omega) Ed.2) Gh df
   have de:N <= w7.heap.size:=by have:=Wa.size;omega
   replace da:=oa da Wa;clear uj xt df Wa Gh ja HC;have ja:=(xb N N).refl w7;refine Rh (xb N N) rfl rfl rfl ?_;go_simp;refine ⟨fun _=>ue ((Below.refl _ _).alloc zR _) de,?_⟩
   have ma:=(Below.refl w7.heap.size w7).alloc zR (.cells #[.slice Av L.queries cv] 28);have La:=Lf w7 (.slice Av L.queries cv) 28;replace kl:=ia kl ma;replace kz:=ia kz ma;replace kc:=ia kc ma;replace ra:=Oa ra ma zR;replace Da:=Uc Da ma;replace At:=Mh At ma.size (fun b _ h2 _=>ma.block b h2)
   have Of:N <= (w7.alloc (.cells #[.slice Av L.queries cv] 28)).heap.size:=by have:=ma.size;omega
   replace da:=oa da ma
   try simp only [Act.put,zLa,zLb,zLc]
   generalize w7.alloc _=w8 at kl kz kc ra Da At da La Of |-;generalize w7.heap.size=g7 at La |-;clear ma de ja;have ja:=(xb N N).refl w8;have cc:=kc.cell;refine Ah ?_;refine Rh (xb N N) rfl rfl rfl ?_;refine Tn _ _ rfl Cj rfl ra rfl La (by intro u hu;simp at hu;subst hu;rfl) (by omega) Of ?_
   intro v' wn db Ma Lb;have Rb:∀ q,v.ownBlock=some q -> N <= q:=fun q e=>(ra.lt q e).1
   refine ⟨fun _=>Ao Ma Of Rb,?_⟩
   have ee:=Tq Da At Ma Lb;rw [HR.out] at ee;replace kl:=kl.grown Ma (fun e=>by first | (have:=Rb _ e;omega) | (have:=Rb _ e.symm;omega))
   replace kz:=kz.grown Ma (fun e=>by first | (have:=Rb _ e;omega) | (have:=Rb _ e.symm;omega))
   replace kc:=kc.grown Ma (fun e=>by first | (have:=Rb _ e;omega) | (have:=Rb _ e.symm;omega))
   replace da:=da.trans ((Ae ra Ma Of).mono (by omega))
   have af:N <= wn.heap.size:=by have:=Ma.size;omega
   obtain ⟨Aw,cw,rfl,-⟩:=Ob db;clear ra Da At Ma Lb Rb Of La cc ja;have ja:=(xb N N).refl wn;have cc:=kc.cell;have fc:=kc.frozen
   try simp only [Act.put,zLa,zLb,zLc]
   refine Ah ?_;refine Rh (xb N N) rfl rfl rfl ?_;go_simp;refine ⟨fun h=>Bool.noConfusion h,?_⟩
   have Ba:wn.grownBy (wn.setCell ⟨w.heap.size+1+1,0,none⟩ (.slice Aw (i+1) cw)) (some (w.heap.size+1+1)):=mh (p:=⟨w.heap.size+1+1,0,none⟩) (Hf wn _) (.inl rfl) _;replace kc:=kc.set_ 0 (.slice Aw (i+1) cw);simp at kc
   replace kl:=kl.grown Ba (fun e=>by have:=Option.some.inj e;omega)
   replace kz:=kz.grown Ba (fun e=>by have:=Option.some.inj e;omega)
   have sc:=Hc db Ba (by omega)
   replace ee:=Kp ee Ba (by omega)
   replace da:=Pb da Ba;have hNz:=Nat.le_trans af Ba.size;clear db Ba cc fc af ja;generalize wn.setCell _ _=wz at kl kz kc sc ee da hNz |-;have ja:=(xb N N).refl wz;refine Ah ?_;refine Rt ?_;go_wp2
   go_roundw
   case rel=>exact ⟨i+1, .slice Aw (i+1) cw,_,by omega,by go_num,kl,kz,kc,sc,ee,da,hNz⟩
   case measure=>simp [intOf];omega
  ·obtain rfl:i=T:=by omega
   clear ll;have ll:=kl.lt;have g2:¬((i:Int)<(i:Int)):=by omega
   go_wp2_with fail
   refine (HT.out _).mono ?_;rintro e w4 ⟨rfl,Fb⟩;replace kl:=ia kl Fb;replace kz:=ia kz Fb;replace kc:=ia kc Fb;replace ra:=Oa ra Fb zR;replace Da:=Uc Da Fb;replace da:=oa da Fb;replace Pa:=Nat.le_trans Pa Fb.size;clear cl ll Fb;have q1:=hL.b1;have q2:=hL.b2;have q3:=hL.q1;have q5:=hL.k;have q6:=hL.n2;have w1:IntKind.i64.wrap ((L.k:Int)+(L.block:Int))=(L.k:Int)+(L.block:Int):=Df _ (by omega) (by omega)
   obtain ⟨m2,Qc⟩:=zEX (L.k+L.block-2);obtain ⟨m3,jf⟩:=zEX (L.block+2*L.queries-1);have w2:IntKind.i64.wrap ((L.k:Int)+(L.block:Int)-2)=(m2:Int):=by rw [Df _ (by omega) (by omega)];omega
   have w5:IntKind.i64.wrap (2*(L.queries:Int))=2*(L.queries:Int):=Df _ (by omega) (by omega)
   have w6:IntKind.i64.wrap ((L.block:Int)+2*(L.queries:Int))=(L.block:Int)+2*(L.queries:Int):=Df _ (by omega) (by omega)
   have w7:IntKind.i64.wrap ((L.block:Int)+2*(L.queries:Int)-1)=(m3:Int):=by rw [Df _ (by omega) (by omega)];omega
   have u1:L.k <= 65536:=by omega
   have u2:m2 <= 65536:=by omega
   have u3:m3 <= 65536:=by omega
   have u4:L.n <= 65536:=by omega
   have nm:=zH Qc;have HM3:=zH jf;clear Qc jf q1 q2 q3 q5 q6 za hi;have cl:=kl.cell;go_wp2_with fail
   have ma:=(Below.refl w4.heap.size w4).alloc zR (.cells #[.int .u64 x, .int .u64 1] 22);have kA:=Blk.new w4 22 #[.int .u64 x, .int .u64 1];replace kl:=ia kl ma;replace kz:=ia kz ma;replace kc:=ia kc ma;replace Da:=Uc Da ma;replace ra:=Oa ra ma zR;replace da:=oa da ma;replace Pa:=Nat.le_trans Pa ma.size;clear cl ma;generalize w4.alloc _=a1 at kl kz kc Da ra  da Pa kA |-;generalize w4.heap.size=gA1 at kA |-;have HC:=zH (HS.out [1] L.k gA1 a1 (by simpa [Fa] using kA) (by intro y hy;simp at hy;omega) (by simp) u1)
   clear kA
   skip
   refine HC.out.mono ?_;rintro e b1 ⟨v1,rfl,hv,hb⟩;have o1:=Pf hv Pa;replace kl:=ia kl hb;replace kz:=ia kz hb;replace kc:=ia kc hb;replace Da:=Uc Da hb;replace ra:=Oa ra hb zR;replace da:=oa da hb;replace Pa:=Nat.le_trans Pa hb.size;clear hv hb HC;obtain ⟨A1,c1,rfl,-⟩:=Ob o1;have cc:=kc.cell;have fc:=kc.frozen;go_upto_region 8 with fail
   have Ba:b1.grownBy (b1.setCell ⟨w.heap.size+1+1,1,none⟩ (.slice A1 L.k c1)) (some (w.heap.size+1+1)):=mh (p:=⟨w.heap.size+1+1,1,none⟩) (Hf b1 _) (.inl rfl) _;replace kc:=kc.set_ 1 (.slice A1 L.k c1);simp at kc
   replace kl:=kl.grown Ba (fun e=>by have:=Option.some.inj e;omega)
   replace kz:=kz.grown Ba (fun e=>by have:=Option.some.inj e;omega)
   replace Da:=Kp Da Ba (by omega)
   replace ra:=Hc ra Ba (by omega)
   replace o1:=Hc o1 Ba (by omega)
   replace da:=Pb da Ba;replace Pa:=Nat.le_trans Pa Ba.size;clear Ba cc fc;generalize b1.setCell _ _=d1 at kl kz kc Da ra o1 da Pa |-;have cl:=kl.cell;go_wp2_with fail
   have ma:=(Below.refl d1.heap.size d1).alloc zR (.cells #[.int .u64 x, .int .u64 2] 22);have kA:=Blk.new d1 22 #[.int .u64 x, .int .u64 2];replace kl:=ia kl ma;replace kz:=ia kz ma;replace kc:=ia kc ma;replace Da:=Uc Da ma;replace ra:=Oa ra ma zR;replace o1:=Oa o1 ma zR;replace da:=oa da ma;replace Pa:=Nat.le_trans Pa ma.size;clear cl ma;generalize d1.alloc _=a2 at kl kz kc Da ra o1 da Pa kA |-;generalize d1.heap.size=gA2 at kA |-;have HC:=zH (HS.out [2] m2 gA2 a2 (by simpa [Fa] using kA) (by intro y hy;simp at hy;omega) (by simp) u2)
   clear kA
   skip
   refine HC.out.mono ?_;rintro e b2 ⟨v2,rfl,hv,hb⟩;have o2:=Pf hv Pa;replace kl:=ia kl hb;replace kz:=ia kz hb;replace kc:=ia kc hb;replace Da:=Uc Da hb;replace ra:=Oa ra hb zR;replace o1:=Oa o1 hb zR;replace da:=oa da hb;replace Pa:=Nat.le_trans Pa hb.size;clear hv hb HC;obtain ⟨A2,c2,rfl,-⟩:=Ob o2;have cc:=kc.cell;have fc:=kc.frozen;go_upto_region 9 with fail
   have Ba:b2.grownBy (b2.setCell ⟨w.heap.size+1+1,2,none⟩ (.slice A2 m2 c2)) (some (w.heap.size+1+1)):=mh (p:=⟨w.heap.size+1+1,2,none⟩) (Hf b2 _) (.inl rfl) _;replace kc:=kc.set_ 2 (.slice A2 m2 c2);simp at kc
   replace kl:=kl.grown Ba (fun e=>by have:=Option.some.inj e;omega)
   replace kz:=kz.grown Ba (fun e=>by have:=Option.some.inj e;omega)
   replace Da:=Kp Da Ba (by omega)
   replace ra:=Hc ra Ba (by omega)
   replace o1:=Hc o1 Ba (by omega)
   replace o2:=Hc o2 Ba (by omega)
   replace da:=Pb da Ba;replace Pa:=Nat.le_trans Pa Ba.size;clear Ba cc fc;generalize b2.setCell _ _=d2 at kl kz kc Da ra o1 o2 da Pa |-;have cl:=kl.cell;go_wp2_with fail
   have ma:=(Below.refl d2.heap.size d2).alloc zR (.cells #[.int .u64 x, .int .u64 3] 22);have kA:=Blk.new d2 22 #[.int .u64 x, .int .u64 3];replace kl:=ia kl ma;replace kz:=ia kz ma;replace kc:=ia kc ma;replace Da:=Uc Da ma;replace ra:=Oa ra ma zR;replace o1:=Oa o1 ma zR;replace o2:=Oa o2 ma zR;replace da:=oa da ma;replace Pa:=Nat.le_trans Pa ma.size;clear cl ma;generalize d2.alloc _=a3 at kl kz kc Da ra o1 o2 da Pa kA |-;generalize d2.heap.size=gA3 at kA |-;have HC:=zH (HS.out [3] m3 gA3 a3 (by simpa [Fa] using kA) (by intro y hy;simp at hy;omega) (by simp) u3)
   clear kA
   skip
   refine HC.out.mono ?_;rintro e b3 ⟨v3,rfl,hv,hb⟩;have o3:=Pf hv Pa;replace kl:=ia kl hb;replace kz:=ia kz hb;replace kc:=ia kc hb;replace Da:=Uc Da hb;replace ra:=Oa ra hb zR;replace o1:=Oa o1 hb zR;replace o2:=Oa o2 hb zR;replace da:=oa da hb;replace Pa:=Nat.le_trans Pa hb.size;clear hv hb HC;obtain ⟨A3,c3,rfl,-⟩:=Ob o3;have cc:=kc.cell;have fc:=kc.frozen;go_upto_region 10 with fail
   have Ba:b3.grownBy (b3.setCell ⟨w.heap.size+1+1,3,none⟩ (.slice A3 m3 c3)) (some (w.heap.size+1+1)):=mh (p:=⟨w.heap.size+1+1,3,none⟩) (Hf b3 _) (.inl rfl) _;replace kc:=kc.set_ 3 (.slice A3 m3 c3);simp at kc
   replace kl:=kl.grown Ba (fun e=>by have:=Option.some.inj e;omega)
   replace kz:=kz.grown Ba (fun e=>by have:=Option.some.inj e;omega)
   replace Da:=Kp Da Ba (by omega)
   replace ra:=Hc ra Ba (by omega)
   replace o1:=Hc o1 Ba (by omega)
   replace o2:=Hc o2 Ba (by omega)
   replace o3:=Hc o3 Ba (by omega)
   replace da:=Pb da Ba;replace Pa:=Nat.le_trans Pa Ba.size;clear Ba cc fc;generalize b3.setCell _ _=d3 at kl kz kc Da ra o1 o2 o3 da Pa |-;have cl:=kl.cell;go_wp2_with fail
   have ma:=(Below.refl d3.heap.size d3).alloc zR (.cells #[.int .u64 x, .int .u64 4] 22);have kA:=Blk.new d3 22 #[.int .u64 x, .int .u64 4];replace kl:=ia kl ma;replace kz:=ia kz ma;replace kc:=ia kc ma;replace Da:=Uc Da ma;replace ra:=Oa ra ma zR;replace o1:=Oa o1 ma zR;replace o2:=Oa o2 ma zR;replace o3:=Oa o3 ma zR;replace da:=oa da ma;replace Pa:=Nat.le_trans Pa ma.size;clear cl ma;generalize d3.alloc _=a4 at kl kz kc Da ra o1 o2 o3 da Pa kA |-;generalize d3.heap.size=gA4 at kA |-;have HC:=zH (Tv.out [4] L.n gA4 a4 (by simpa [Fa] using kA) (by intro y hy;simp at hy;omega) (by simp) u4)
   clear kA;unfold Kd at HC;refine HC.out.mono ?_;rintro e b4 ⟨v4,rfl,hv,hb⟩;have o4:=Pf hv Pa;replace kl:=ia kl hb;replace kz:=ia kz hb;replace kc:=ia kc hb;replace Da:=Uc Da hb;replace ra:=Oa ra hb zR;replace o1:=Oa o1 hb zR;replace o2:=Oa o2 hb zR;replace o3:=Oa o3 hb zR;replace da:=oa da hb;replace Pa:=Nat.le_trans Pa hb.size;clear hv hb HC;obtain ⟨A4,c4,rfl,-⟩:=Ob o4;have cc:=kc.cell;have fc:=kc.frozen;go_upto_region 11 with fail
   have Ba:b4.grownBy (b4.setCell ⟨w.heap.size+1+1,4,none⟩ (.slice A4 L.n c4)) (some (w.heap.size+1+1)):=mh (p:=⟨w.heap.size+1+1,4,none⟩) (Hf b4 _) (.inl rfl) _;replace kc:=kc.set_ 4 (.slice A4 L.n c4);simp at kc
   replace kl:=kl.grown Ba (fun e=>by have:=Option.some.inj e;omega)
   replace kz:=kz.grown Ba (fun e=>by have:=Option.some.inj e;omega)
   replace Da:=Kp Da Ba (by omega)
   replace ra:=Hc ra Ba (by omega)
   replace o1:=Hc o1 Ba (by omega)
   replace o2:=Hc o2 Ba (by omega)
   replace o3:=Hc o3 Ba (by omega)
   replace o4:=Hc o4 Ba (by omega)
   replace da:=Pb da Ba;replace Pa:=Nat.le_trans Pa Ba.size;clear Ba cc fc;generalize b4.setCell _ _=d4 at kl kz kc Da ra o1 o2 o3 o4 da Pa |-;obtain ⟨Av,cv,rfl,-⟩:=Ob ra;have cc:=kc.cell;have fc:=kc.frozen;have zc:=kz.cell;have zf:=kz.frozen;go_wp2_with fail
   have Ba:=zh (w:=d4) (g:=w.heap.size+1) (.slice Av i cv) (.slice A1 L.k c1) (.slice A2 m2 c2) (.slice A3 m3 c3) (.slice A4 L.n c4);replace kz:=yh kz (.slice Av i cv) (.slice A1 L.k c1) (.slice A2 m2 c2) (.slice A3 m3 c3) (.slice A4 L.n c4);replace Da:=Kp Da Ba (by omega)
   replace ra:=Hc ra Ba (by omega)
   replace o1:=Hc o1 Ba (by omega)
   replace o2:=Hc o2 Ba (by omega)
   replace o3:=Hc o3 Ba (by omega)
   replace o4:=Hc o4 Ba (by omega)
   replace da:=Pb da Ba;clear kl kc cc fc zc zf Ba Pa;generalize ((((d4.setCell _ _).setCell _ _).setCell _ _).setCell _ _).setCell _ _=d5 at kz Da ra o1 o2 o3 o4 da |-;have zc:=kz.cell;refine bodyPost_ret (v:=.agg #[.slice Av i cv, .slice A1 L.k c1, .slice A2 m2 c2, .slice A3 m3 c3, .slice A4 L.n c4]) (by simp [results,Tryz.results19,go_sem,zc]) rfl ?_
   obtain rfl:=nm.out;obtain rfl:=HM3.out;have mc:0<L.p:=by omega
   exact ⟨_,_,_,_,_,rfl,qw Da ra,qf o1 (zv _ _ _ _ mc Ed.2),qf o2 (zv _ _ _ _ mc Ed.2),qf o3 (zv _ _ _ _ mc Ed.2),qf o4 (zv _ _ _ _ (by decide) (by decide)),da⟩
theorem MX (n:Nat):madeCells (Value.slice none 0 0).cells (n*1)=Array.replicate n (.slice none 0 0):=by
 apply Array.toList_inj.1
 rw [show (Value.slice none 0 0).cells=#[.slice none 0 0] from rfl,toList_madeCells_one]
 simp
end Go.Proofs.YtgeofabpinfcmaaGreat
