/- A part of the proof. No condition. -/
import Derived.Test.YtjipleoamlmkfaaGreatProg
import Derived.Test.YtjipleoamlmkfaaGreatPF15
import Derived.Test.YtjipleoamlmkfaaGreatPF18
import Derived.Test.YtjipleoamlmkfaaGreatPF12

set_option maxRecDepth 100000
set_option maxHeartbeats 8000000
set_option linter.unusedVariables false
set_option linter.unusedSimpArgs false
namespace Go.Proofs.YtjipleoamlmkfaaGreat
open Go.RowKit
def Rr (p:Nat) (s:St):Nat -> St
 | 0=>s
 | m+1=>zj p (Rr p s m)
def Wn (p:Nat) (s:St) (k:Nat):Nat:=(Rr p s (k / 2)).at_ (k%2)
theorem zF (f:Nat -> Nat) (n k:Nat):Fa n (Pe (fun i=>if i<k then f i else 0) k (f k))=Fa n fun i=>if i<k+1 then f i else 0:=by
 refine ui fun i _=>?_
 simp only [Pe];by_cases h:i=k
 ·subst h;rw [if_pos rfl,if_pos (by omega)]
 ·rw [if_neg h]
  by_cases h2:i<k
  ·rw [if_pos h2,if_pos (by omega)]
  ·rw [if_neg h2,if_neg (by omega)]
theorem zCy (p label:Nat) (A:Option Addr) (n c m:Nat) (l:List Nat) (w:World) (hp:Db p=true) (hl:RWd w [.slice A n c] l) (Ka:0<l.length) (hlen:l.length <= 1000000) (hm:m <= 65536) :
  Calls Tryz.prog 146 #[.int .u64 p, .int .u64 label, .slice A n c, .int .i64 m] w fun e w'=>∃ g,e= .returned (.slice (some ⟨g,0,none⟩) m m) /\ w.heap.size <= g /\ Blk w' g 22 (Fa m (Wn p (Si p label l))) /\ Below w.heap.size w w':=by
 have HV:=zH (fun w=>Pj p w hp)
 have Hs:=zH (fun w' (hb:Below w.heap.size w w')=>XP p label A n c l w' hp (ib hb hl) Ka hlen)
 have HP:=zH (fun s w=>pQ p s w hp)
 have qv:=fun w=>Fp m (by omega) w
 have g0:¬((m:Int)<0):=by omega
 have g1:(m:Int) <= 65536:=by omega
 clear hl Ka hlen hp;generalize Si p label l=s at *;unfold fv at *;go_enter Tryz.func146,Tryz.ntmps146
 go_wp2_with fail
 refine (HV.out _).mono ?_;rintro e w1 ⟨rfl,ya⟩;go_wp2_with fail
 refine (Hs.out _ ya).mono ?_;rintro e w2 ⟨rfl,xa⟩;have aa:=ja ya xa;have ev:s.val= .agg #[.int .u64 s.a, .int .u64 s.b, .int .u64 s.c]:=rfl;rw [ev];obtain ⟨ks0,kg,Fl,Ra⟩:=ah w2 237 22 #[.int .u64 s.a, .int .u64 s.b, .int .u64 s.c] (Fa m fun _=>0)
 have Df:=aa.size;replace aa:=ja aa Fl;clear ev ya xa Fl;generalize hz:Fa m (fun _=>0)=zc at *
 go_upto_region 5 with fail
 generalize (w2.alloc _).alloc _=w3 at ks0 kg aa Ra |-;generalize w2.heap.size=gs at *;clear Ra;have ks:Blk w3 gs 237 (Rr p s ((0-1) / 2)).cs:=ks0;rw [<- hz,show Fa m (fun _=>0)=Fa m (fun k=>if k<0 then Wn p s k else 0) from ui fun i _=>by rw [if_neg (by omega)]] at kg
 clear hz ks0;go_wp2_with fail
 go_loopw [32] (fun y wr=>∃ i:Nat,i <= m /\ y= .int .i64 i /\ Blk wr gs 237 (Rr p s ((i-1) / 2)).cs /\ Blk wr (gs+1) 22 (Fa m fun k=>if k<i then Wn p s k else 0) /\ Below w.heap.size w wr) (fun y _=>m-(intOf y).toNat)
 case atStart=>exact ⟨0,Nat.zero_le _,rfl,ks,kg,aa⟩
 case round =>
  clear ks kg aa;obtain ⟨i,hi,rfl,ks,kg,aa⟩:=hrel;by_cases oa:i<m
  ·have g2:(i:Int)<(m:Int):=by omega
   have g3:(0:Int) <= (i:Int):=by omega
   obtain ⟨sv,eW⟩:=zEX (Wn p s i);obtain ⟨j,hj⟩:=zEX (i%2);have Vj:j<3:=by omega
   have ej:(i:Int)%2=(j:Int):=by omega
   have ej2:(i:Int).tmod 2=(j:Int):=by rw [Int.tmod_eq_emod_of_nonneg (by omega)];exact ej
   have HSQ:=zH (show (Rr p s (i / 2)).at_ j=sv by rw [hj,eW];rfl)
   have BW:=zH eW.symm;clear eW;rcases (show i=0 \/ i%2=1 \/ (0<i /\ i%2=0) by omega) with h0 | h1 | ⟨h2,h3⟩
   ·have d1:¬((0:Int)<(i:Int)):=by omega
    have d2:decide ((0:Int)<(i:Int))=false:=decide_eq_false d1;rw [show (i-1) / 2=i / 2 by omega] at ks
    have H0:=zH h0;clear h0 hj;have cj:=ks.cell j;rw [St.cs_at _ Vj] at cj;have ci:=kg.cell i;rw [Fe _ oa] at ci;rw [HSQ.out] at cj;have fi:=kg.frozen i;generalize (if i<i then Wn p s i else 0)=old at ci
    go_wp2_with fail
    have hg:wr.grownBy (wr.setCell ⟨gs+1,i,none⟩ (.int .u64 sv)) (some (gs+1)):=Yd (p:=⟨gs+1,i,none⟩) (Lc wr _) (.inl rfl) _;replace kg:=kg.set_ i (.int .u64 sv);have HN:(Fa m fun k=>if k<i then Wn p s k else 0).setIfInBounds i (.int .u64 sv)=Fa m (fun k=>if k<i+1 then Wn p s k else 0):=by rw [Tm,<- BW.out,zF]
    rw [HN] at kg;replace ks:=ks.grown hg (fun e=>by have:=Option.some.inj e;omega)
    replace aa:=yc aa hg;clear hg fi ci cj
    go_roundw
    case rel=>exact ⟨i+1,by omega,by go_num,by rw [show (i+1-1) / 2=i / 2 by omega];exact ks,kg,aa⟩
    case measure=>simp [intOf];omega
   ·have d1:(0:Int)<(i:Int):=by omega
    have d3:((j:Int) == 0)=false:=by rw [beq_eq_false_iff_ne];omega
    rw [show (i-1) / 2=i / 2 by omega] at ks
    clear h1 hj;have cj:=ks.cell j;rw [St.cs_at _ Vj] at cj;have ci:=kg.cell i;rw [Fe _ oa] at ci;rw [HSQ.out] at cj;have fi:=kg.frozen i;generalize (if i<i then Wn p s i else 0)=old at ci
    go_wp2_with fail
    have hg:wr.grownBy (wr.setCell ⟨gs+1,i,none⟩ (.int .u64 sv)) (some (gs+1)):=Yd (p:=⟨gs+1,i,none⟩) (Lc wr _) (.inl rfl) _;replace kg:=kg.set_ i (.int .u64 sv);have HN:(Fa m fun k=>if k<i then Wn p s k else 0).setIfInBounds i (.int .u64 sv)=Fa m (fun k=>if k<i+1 then Wn p s k else 0):=by rw [Tm,<- BW.out,zF]
    rw [HN] at kg;replace ks:=ks.grown hg (fun e=>by have:=Option.some.inj e;omega)
    replace aa:=yc aa hg;clear hg fi ci cj
    go_roundw
    case rel=>exact ⟨i+1,by omega,by go_num,by rw [show (i+1-1) / 2=i / 2 by omega];exact ks,kg,aa⟩
    case measure=>simp [intOf];omega
   ·have d1:(0:Int)<(i:Int):=by omega
    have d3:((j:Int) == 0)=true:=by rw [beq_iff_eq];omega
    obtain ⟨q,hq⟩:=zEX (Rr p s ((i-1) / 2));rw [<- hq] at ks;obtain ⟨z,hz⟩:=zEX (zj p q);have HZ:=zH (show Rr p s (i / 2)=z by rw [show i / 2=(i-1) / 2+1 by omega,Rr,<- hq,hz])
    have HX:=zH (show ∀ w,Calls Tryz.prog 200 #[.int .u64 p, .agg #[.int .u64 q.a, .int .u64 q.b, .int .u64 q.c]] w fun e w'=>e= .returned (.agg #[.int .u64 z.a, .int .u64 z.b, .int .u64 z.c]) /\ Below w.heap.size w w' from fun w=>by rw [hz];exact HP.out q w)
    have Yh:Blk wr gs 237 #[.int .u64 q.a, .int .u64 q.b, .int .u64 q.c]:=ks;clear h2 h3 hj hq hz ks;have cs:=Yh.cell;go_wp2_with fail
    refine (HX.out _).mono ?_;rintro e w5 ⟨rfl,Ma⟩;replace Yh:=ea Yh Ma;replace kg:=ea kg Ma;replace aa:=ja aa Ma;clear cs Ma;have cs:=Yh.cell;have fs:=Yh.frozen;go_upto_region 10 with fail
    have hg:=Ki (w:=w5) (g:=gs) (.int .u64 z.a) (.int .u64 z.b) (.int .u64 z.c);have ks:Blk _ gs 237 z.cs:=Ji Yh (.int .u64 z.a) (.int .u64 z.b) (.int .u64 z.c);replace kg:=kg.grown hg (fun e=>by have:=Option.some.inj e;omega)
    replace aa:=yc aa hg;clear hg cs fs Yh;generalize ((World.setCell w5 _ _).setCell _ _).setCell _ _=W8 at ks kg aa |-;rw [<- HZ.out] at ks;have cj:=ks.cell j;rw [St.cs_at _ Vj] at cj;have ci:=kg.cell i;rw [Fe _ oa] at ci;rw [HSQ.out] at cj;have fi:=kg.frozen i;generalize (if i<i then Wn p s i else 0)=old at ci
    go_wp2_with fail
    have hg:W8.grownBy (W8.setCell ⟨gs+1,i,none⟩ (.int .u64 sv)) (some (gs+1)):=Yd (p:=⟨gs+1,i,none⟩) (Lc W8 _) (.inl rfl) _;replace kg:=kg.set_ i (.int .u64 sv);have HN:(Fa m fun k=>if k<i then Wn p s k else 0).setIfInBounds i (.int .u64 sv)=Fa m (fun k=>if k<i+1 then Wn p s k else 0):=by rw [Tm,<- BW.out,zF]
    rw [HN] at kg;replace ks:=ks.grown hg (fun e=>by have:=Option.some.inj e;omega)
    replace aa:=yc aa hg;clear hg fi ci cj
    go_roundw
    case rel=>exact ⟨i+1,by omega,by go_num,by rw [show (i+1-1) / 2=i / 2 by omega];exact ks,kg,aa⟩
    case measure=>simp [intOf];omega
  ·obtain rfl:i=m:=by omega
   rw [show Fa i (fun k=>if k<i then Wn p s k else 0)=Fa i (Wn p s) from ui fun k hk=>by rw [if_pos hk]] at kg
   go_wp2;go_ret
   exact ⟨gs+1,rfl,by omega,kg,aa⟩
theorem Ze {w w':World} {base B:Nat} {e:TypeId} {size:Nat} {v:Value} {n:Nat} {xs:List Value} (h:w.ownsRow base e size v n xs) (hg:w.grownBy w' (some B)) (hB:B<base):w'.ownsRow base e size v n xs:=by
 obtain ⟨h1,h2⟩:=h;refine ⟨h1,?_⟩;rcases h2 with h2 | ⟨g,cap,cur,hv,Kg,hh,r⟩
 ·exact Or.inl h2
 ·exact Or.inr ⟨g,cap,cur,hv,Kg,by rw [hg.block g (Array.getElem?_eq_some_iff.1 hh).1 (fun e=>by have:=Option.some.inj e;omega)];exact hh,r⟩
theorem iF (f:Nat -> Nat) (i:Nat):(List.range i).map f++[f i]=(List.range (i+1)).map f:=by simp [List.range_succ]
def Xa:Nat:=18446744069414584321
theorem JE:Db Xa=true:=by decide
def rM (x:Nat) (r:List Nat) (k:Nat):Nat:=Wn Xa (Si Xa 22 (x%Xa :: r)) k
theorem zAp (x:Nat) (r:List Nat) (m g:Nat) (w:World) (kg:Blk w g 22 (Ca (x :: r)).toArray) (hx:∀ y∈x :: r,y<18446744073709551616) (hr:r.length <= 1000) (hm:m <= 65536) :
  Calls Tryz.prog 62 #[.int .i64 m, .slice (some ⟨g,0,none⟩) (r.length+1) (r.length+1)] w fun e w'=>∃ g',e= .returned (.slice (some ⟨g',0,none⟩) m m) /\ w.heap.size <= g' /\ Blk w' g' 22 (Fa m (rM x r)) /\ w.grownBy w' (some g):=by
 have HR:=zH (fun w=>KA Xa x w JE)
 have hq:x%Xa<18446744073709551616:=Nat.lt_of_le_of_lt (Nat.mod_le _ _) (hx x (by simp))
 obtain ⟨y,hy⟩:=zEX (x%Xa);have HD:=zH (show rM x r=Wn Xa (Si Xa 22 (y :: r)) by rw [hy];rfl)
 rw [<- hy] at HR hq;rw [HD.out];have HS:=zH (fun w (k:Blk w g 22 (Ca (y :: r)).toArray)=>zCy Xa 22 (some ⟨g,0,none⟩) (y :: r).length (y :: r).length m (y :: r) w JE (Ix k (fun z hz=>by
  rcases List.mem_cons.1 hz with rfl | h
  ·exact hq
  ·exact hx z (by simp [h])) (by simp [maxLen];omega)) (by simp) (by simp;omega) hm)
 have Xf:=zH (show (Ca (x :: r)).toArray.setIfInBounds 0 (.int .u64 y)=(Ca (y :: r)).toArray by simp [Ca])
 have aj:w.cell? ⟨g,0,none⟩=some (.int .u64 x):=by rw [kg.cell];simp [Ca]
 have n1:(0:Int)<((r.length+1:Nat):Int):=by omega
 have n2:0<r.length+1:=by omega
 simp only [List.length_cons] at HS;clear hy hq hx HD;generalize r.length+1=n at *;generalize Wn Xa (Si Xa 22 (y :: r))=fs at *;unfold Xa fv at *;have lg:=kg.lt;go_enter Tryz.func62,Tryz.ntmps62
 go_wp2_with fail
 refine (HR.out _).mono ?_;rintro e w1 ⟨rfl,ya⟩;replace kg:=kg.below ya lg;have Nc:w1.cell? ⟨g,0,none⟩=some (.int .u64 x):=(Below.cell ya lg).trans aj;have f1:=kg.frozen 0;clear aj;go_upto_region 2 with fail
 have hg:w1.grownBy (w1.setCell ⟨g,0,none⟩ (.int .u64 y)) (some g):=Yd (p:=⟨g,0,none⟩) (Lc w1 _) (.inl rfl) _;replace kg:=kg.set_ 0 (.int .u64 y);rw [Xf.out] at kg;have Da:=Iq (Uh (Lc w (some g)) ya zR) hg (fun _ e=>.inl e)
 have Gc:=Da.size;clear hg f1 Nc ya;generalize w1.setCell _ _=w2 at kg Da Gc |-;go_wp2_with fail
 refine (HS.out _ kg).mono ?_;rintro e w3 ⟨g',rfl,Yv,Hr,Ga⟩;go_wp2;go_ret
 exact ⟨g',rfl,by omega,Hr,Uh Da Ga Gc⟩
def L2 (p x:Nat) (r:List Nat) (k:Nat):Nat:=rM x r k%p
def St.lt (p:Nat) (s:St):Prop:=s.a<p /\ s.b<p /\ s.c<p
theorem WE {p:Nat} (hp:0<p) (s:St):(zj p s).lt p:=⟨Nat.mod_lt _ hp,Nat.mod_lt _ hp,Nat.mod_lt _ hp⟩
theorem SC {p:Nat} (hp:0<p):∀ (l:List Nat) (s:St),s.lt p -> (Yg p l s).lt p
 | [],_,h=>h
 | [_],_,_=>WE hp _
 | _ :: _ :: r,_,_=>SC hp r _ (WE hp _)
theorem GQ {p:Nat} (hp:0<p) (s:St) (h:s.lt p):∀ m,(Rr p s m).lt p
 | 0=>h
 | _+1=>WE hp _
theorem RS (p label:Nat) (l:List Nat) (k:Nat) (hp:0<p):Wn p (Si p label l) k<p:=by
 have h:=GQ hp _ (SC hp l ⟨0,0,(label*65536%p+l.length)%p⟩ ⟨hp,hp,Nat.mod_lt _ hp⟩) (k / 2);show St.at_ _ (k%2)<p
 unfold St.at_;split
 ·exact h.1
 ·split
  ·exact h.2.1
  ·exact h.2.2
theorem UL (L:Va) (w:World) (hL:Vc L) :
  Calls Tryz.prog 59 #[.agg (Ua L)] w fun e w'=>e= .returned (.agg #[.int .i64 L.k, .int .i64 ((L.k+L.block-2:Nat):Int), .int .i64 ((L.block+2*L.queries-1:Nat):Int)]) /\ Below w.heap.size w w':=by
 have h1:=hL.b1;have h2:=hL.b2;have h3:=hL.q1;have h4:=hL.q2;have h5:=hL.k;obtain ⟨x,hx⟩:=zEX (L.k+L.block-2);obtain ⟨y,hy⟩:=zEX (L.block+2*L.queries-1);rw [<- hx,<- hy];have e1:IntKind.i64.wrap ((L.k:Int)+(L.block:Int))=(L.k:Int)+(L.block:Int):=Jf _ (by omega) (by omega)
 have e2:IntKind.i64.wrap ((L.k:Int)+(L.block:Int)-2)=(x:Int):=by rw [Jf _ (by omega) (by omega)];omega
 have e3:IntKind.i64.wrap (2*(L.queries:Int))=2*(L.queries:Int):=Jf _ (by omega) (by omega)
 have e4:IntKind.i64.wrap ((L.block:Int)+2*(L.queries:Int))=(L.block:Int)+2*(L.queries:Int):=Jf _ (by omega) (by omega)
 have e5:IntKind.i64.wrap ((L.block:Int)+2*(L.queries:Int)-1)=(y:Int):=by rw [Jf _ (by omega) (by omega)];omega
 clear h1 h2 h3 h4 h5 hx hy hL;unfold Ua at *;go_enter Tryz.func59,Tryz.ntmps59
 go_wp2_with fail
 exact bodyPost_ret (v:=.agg #[.int .i64 L.k, .int .i64 x, .int .i64 y]) (by simp [results,Tryz.results59,go_sem]) rfl ⟨rfl,((Below.refl _ w).alloc zR _).alloc (by simp) _⟩
theorem zCm (L:Va) (x:Nat) (r:List Nat) (m g:Nat) (w:World) (hp:Db L.p=true) (kg:Blk w g 22 (Ca (x :: r)).toArray) (hx:∀ y∈x :: r,y<18446744073709551616) (hr:r.length <= 1000) (hm:m <= 65536) :
  Calls Tryz.prog 61 #[.agg (Ua L), .int .i64 m, .slice (some ⟨g,0,none⟩) (r.length+1) (r.length+1)] w fun e w'=>∃ g',e= .returned (.slice (some ⟨g',0,none⟩) m m) /\ w.heap.size <= g' /\ Blk w' g' 22 (Fa m (L2 L.p x r)) /\ w.grownBy w' (some g):=by
 have HD:=zH (fun w k=>zAp x r m g w k hx hr hm)
 have HR:=zH (fun n w=>KA L.p n w hp)
 have lg:=kg.lt;obtain ⟨kl,kf,Fl,Ra⟩:=ah w 68 175 (Ua L) #[.int .u64 L.p];have iW:=kg.below Fl lg;have HF:=zH (fun k hk=>Fe (n:=m) (f:=rM x r) (k:=k) hk)
 have hfp:L2 L.p x r=fun k=>rM x r k%L.p:=rfl
 rw [hfp];clear hx hr hfp;generalize r.length+1=n at *;generalize rM x r=fs at *;generalize (Ca (x :: r)).toArray=us at *;unfold Ua fv at *;generalize L.p=p at *;go_enter Tryz.func61,Tryz.ntmps61
 go_wp2_with fail
 generalize (w.alloc _).alloc _=w2 at kf iW Fl Ra |-;clear kl kg;refine (HD.out _ iW).mono ?_;rintro e w3 ⟨g',rfl,Yv,Hr,Da⟩;replace kf:=kf.grown Da (fun e=>by have:=Option.some.inj e;omega)
 replace Da:w.grownBy w3 (some g):=Iq (Uh (Lc w (some g)) Fl zR) Da (fun _ e=>.inl e)
 rw [show Fa m fs=Fa m (fun k=>if k<0 then fs k%p else fs k) from ui fun i _=>by rw [if_neg (by omega)]] at Hr
 clear iW;go_wp2_with fail
 go_loopw [19] (fun y wr=>∃ i:Nat,i <= m /\ y= .int .i64 i /\ Blk wr (w.heap.size+1) 175 #[.int .u64 p] /\ Blk wr g' 22 (Fa m fun k=>if k<i then fs k%p else fs k) /\ w.grownBy wr (some g)) (fun y _=>m-(intOf y).toNat)
 case atStart=>exact ⟨0,Nat.zero_le _,rfl,kf,Hr,Da⟩
 case round =>
  clear kf Hr Da;obtain ⟨i,hi,rfl,kf,Hr,Da⟩:=hrel;by_cases oa:i<m
  ·have g2:(i:Int)<(m:Int):=by omega
   have g3:(0:Int) <= (i:Int):=by omega
   have ci:=Hr.cell i;rw [Fe _ oa,if_neg (Nat.lt_irrefl i)] at ci;have cf:=kf.cell;obtain ⟨fi,kU⟩:=zEX (fs i);obtain ⟨z,hz⟩:=zEX (fi%p);have HZ:=zH (show fs i%p=z by rw [<- kU,hz])
   have HX:=zH (fun w=>by have:=HR.out fi w;rw [<- hz] at this;exact this)
   rw [<- kU] at ci;clear kU hz;go_wp2_with fail
   refine (HX.out _).mono ?_;rintro e w5 ⟨rfl,Ma⟩;replace kf:=ea kf Ma;replace Hr:=Hr.below Ma Hr.lt;have ZZ:w.grownBy w5 (some g):=Uh Da Ma Da.size;clear ci cf Da Ma;have fi2:=Hr.frozen i;have ci2:=Hr.cell i;rw [Fe _ oa] at ci2;generalize (if i<i then fs i%p else fs i)=old at ci2
   go_wp2_with fail
   have hg:w5.grownBy (w5.setCell ⟨g',i,none⟩ (.int .u64 z)) (some g'):=Yd (p:=⟨g',i,none⟩) (Lc w5 _) (.inl rfl) _;replace kf:=kf.grown hg (fun e=>by have:=Option.some.inj e;omega)
   replace Hr:=Hr.set_ i (.int .u64 z);have HN:(Fa m fun k=>if k<i then fs k%p else fs k).setIfInBounds i (.int .u64 z)=Fa m (fun k=>if k<i+1 then fs k%p else fs k):=by
    rw [Tm];refine ui fun k _=>?_
    simp only [Pe];by_cases h:k=i
    ·subst h;rw [if_pos rfl,if_pos (by omega),HZ.out]
    ·rw [if_neg h]
     by_cases h2:k<i
     ·rw [if_pos h2,if_pos (by omega)]
     ·rw [if_neg h2,if_neg (by omega)]
   rw [HN] at Hr;have aB:=Iq ZZ hg (fun b e=>by have:=Option.some.inj e;subst this;exact .inr (by omega))
   clear ZZ hg fi2 ci2
   go_roundw
   case rel=>exact ⟨i+1,by omega,by go_num,kf,Hr,aB⟩
   case measure=>simp [intOf];omega
  ·obtain rfl:i=m:=by omega
   rw [show Fa i (fun k=>if k<i then fs k%p else fs k)=Fa i (fun k=>fs k%p) from ui fun k hk=>by rw [if_pos hk]] at Hr
   go_wp2;go_ret
   exact ⟨g',rfl,by omega,Hr,Da⟩
end Go.Proofs.YtjipleoamlmkfaaGreat
