/- A part of the proof. No condition. -/
import Derived.Test.YtjipleoamlmkfaaGreatProg
import Derived.Test.YtjipleoamlmkfaaGreatPF35
import Derived.Laws.OwnMore
import Derived.Test.YtjipleoamlmkfaaGreatPF24

set_option maxRecDepth 100000
set_option maxHeartbeats 8000000
set_option linter.unusedVariables false
set_option linter.unusedSimpArgs false
namespace Go.Proofs.YtjipleoamlmkfaaGreat
open Go.RowKit
def QV (w:World) (b1 b2:Option Nat) (cs:List Value) (f:Nat -> Nat):Prop:=∀ k (h:k<cs.length),∃ g,cs[k]= .slice (some ⟨g,0,none⟩) 1 1 /\ Blk w g 22 #[.int .u64 (f k:Int)] /\ some g≠b1 /\ some g≠b2
theorem zAn (w:World) (b1 b2:Option Nat) (f:Nat -> Nat):QV w b1 b2 [] f:=fun k h=>by simp at h
theorem lW {w w':World} {b1 b2:Option Nat} {cs:List Value} {f:Nat -> Nat} (h:QV w b1 b2 cs f) (hb:Below w.heap.size w w'):QV w' b1 b2 cs f:=fun k hk=>by
 obtain ⟨g,h1,h2,h3⟩:=h k hk;exact ⟨g,h1,ea h2 hb,h3⟩
theorem R4 {w w':World} {b1 b2 c1 c2 row:Option Nat} {cs:List Value} {f:Nat -> Nat} (h:QV w b1 b2 cs f) (hg:w.grownBy w' row) (hr:row=b1 \/ row=b2) (h1:c1=b1 \/ c1=some w.heap.size) (h2:c2=b2 \/ c2=some w.heap.size):QV w' c1 c2 cs f:=fun k hk=>by
 obtain ⟨g,e,hB,n1,n2⟩:=h k hk;have hl:=hB.lt;refine ⟨g,e,hB.grown hg ?_,?_,?_⟩
 ·rcases hr with r | r
  ·rw [r];exact n1
  ·rw [r];exact n2
 ·rcases h1 with r | r
  ·rw [r];exact n1
  ·rw [r];intro e;have:=Option.some.inj e;omega
 ·rcases h2 with r | r
  ·rw [r];exact n2
  ·rw [r];intro e;have:=Option.some.inj e;omega
theorem zAl {w:World} {b1 b2:Option Nat} {cs:List Value} {f:Nat -> Nat} {g k:Nat} (h:QV w b1 b2 cs f) (hk:cs.length=k) (hB:Blk w g 22 #[.int .u64 (f k:Int)]) (n1:some g≠b1) (n2:some g≠b2):QV w b1 b2 (cs++[.slice (some ⟨g,0,none⟩) 1 1]) f:=fun j hj=>by
 by_cases e:j<cs.length
 ·rw [List.getElem_append_left e]
  exact h j e
 ·have e2:j=cs.length:=by simp at hj;omega
  subst e2;refine ⟨g,by simp,by rw [hk];exact hB,n1,n2⟩
theorem zAm {w:World} {base n:Nat} {e:TypeId} {v:Value} {cs:List Value} {b1 b2:Option Nat} {f:Nat -> Nat} (h:QV w b1 b2 cs f) (ho:w.ownsRow base e 1 v n cs) (hf:∀ k,k<n -> f k<18446744073709551616):Qd w [v] (Pu f n):=by
 obtain ⟨A,c,rfl,h1,h2,hr,-⟩:=Tb ho;have hn:cs.length=n:=by have:=ho.1;omega
 refine ⟨A,n,c,rfl,by simp [Pu],h1,h2,fun i hi=>?_⟩
 have ij:i<n:=by simpa [Pu] using hi
 have pq:i<cs.length:=by omega
 obtain ⟨b,q,hA,hb,hc⟩:=ru hr (by omega)
 obtain ⟨g,e1,hB,-⟩:=h i pq;refine ⟨_,[cs[i]],hA,rfl,fun j hj=>?_,?_⟩
 ·obtain rfl:j=0:=by omega
  rw [Kj,show q+(i*1+0)=q+i by omega,hc i (by omega),List.getElem?_eq_getElem pq]
  rfl
 ·rw [e1]
  have e2:(Pu f n)[i]=[f i]:=by simp [Pu]
  rw [e2];exact sZ (l:=[f i]) hB rfl (by intro x hx;simp at hx;subst hx;exact hf i ij) (by simp [maxLen])
theorem zAo {w w':World} {base:Nat} {e:TypeId} {size:Nat} {v:Value} {n:Nat} {xs:List Value} {u:Option Nat} (h:w.ownsRow base e size v n xs) (hg:w.grownBy w' u) (Ka:∀ q,v.ownBlock=some q -> u=some q -> False):w'.ownsRow base e size v n xs:=by
 obtain ⟨h1,h2⟩:=h;refine ⟨h1,?_⟩;rcases h2 with h2 | ⟨g,cap,cur,hv,Kg,hh,r⟩
 ·exact Or.inl h2
 ·exact Or.inr ⟨g,cap,cur,hv,Kg,by rw [hg.block g (Array.getElem?_eq_some_iff.1 hh).1 (fun e=>Ka g (by rw [hv];rfl) e.symm)];exact hh,r⟩
theorem L8 {w:World} {base:Nat} {e:TypeId} {size:Nat} {x x' y:Value} {n:Nat} {ys:List Value} (hy:w.ownsRow base e size y n ys) (Oq:∀ q,x.ownBlock=some q -> y.ownBlock=some q -> False) (hb:x'.ownBlock=x.ownBlock \/ x'.ownBlock=some w.heap.size):∀ q,x'.ownBlock=some q -> y.ownBlock=some q -> False:=fun q h1 h2=>by
 rcases hb with e | e
 ·exact Oq q (e ▸ h1) h2
 ·have:=(hy.lt q h2).2
  rw [e] at h1;have:=Option.some.inj h1;omega
theorem zAJ {w:World} {g:Nat} {t:TypeId} {v:Value} (k:Blk w g t #[v]):Rd w 1 (some ⟨g,0,none⟩) 1 [v]:=by
 refine ⟨rfl,fun _=>⟨_,rfl,fun j u hj=>?_⟩⟩
 match j,hj with
 | 0,hj =>
  simp at hj
  subst hj;rw [Kj,k.cell]
  rfl
theorem zAk {v:Value} {A:Option Addr} {n c:Nat} (h:v= .slice A n c):∀ u∈[v],u.oneCell'=true:=by intro u hu;simp at hu;subst hu;subst h;rfl
theorem zCQ (L:Va) (pu ra al be:Nat) (vars:Int) (A B1 B2 B3 F:Option Addr) (R c m1 d1 m2 d2 m3 d3 i n d:Nat) (rows:List Ya) (a b q front:List Nat) (w:World)
  (hL:Vc L) (hF:ux L pu vars rows) (hr:RSl 3 Md w [.slice A R c] rows) (hV:pA vars rows)
  (ha:RWd w [.slice B1 m1 d1] a) (hb:RWd w [.slice B2 m2 d2] b) (hq:RWd w [.slice B3 m3 d3] q) (hf:RWd w [.slice F n d] front) (hi:i<L.n) (hn:front.length=L.a+L.b+L.b+L.b) :
  Calls Tryz.prog 74 #[.agg (Ua L),Ib L.p (pu:Int) vars (.slice A R c), .agg #[.int .u64 al, .int .u64 ra, .int .u64 be], .agg #[.slice B1 m1 d1, .slice B2 m2 d2, .slice B3 m3 d3], .int .i64 i, .slice F n d] w fun e w'=>∃ v,e= .returned v /\ RWd w' [v] (IX L (Uu L pu ra rows) al be a b q (Qp L.p (Yc L.p).1 L.n i) front) /\ Below w.heap.size w w':=by
 obtain ⟨Pd,Lb⟩:=nc hL.p;have yV:=hL.a;have zV:=hL.b;have Od:=hL.n2;obtain ⟨hfn,hfc,tb,hflt,hrf⟩:=zb hf;subst hfn;obtain ⟨x,hx⟩:=zEX (Qp L.p (Yc L.p).1 L.n i);rw [<- hx];have HPt:=zH (fun w=>zAC L w hL)
 have oR:=zH (show ((List.range L.n).map (Qp L.p (Yc L.p).1 L.n)).getD i 0=x by rw [fF,if_pos hi,hx])
 have Ri:=zH (show ((List.range L.n).map (Qp L.p (Yc L.p).1 L.n)).length=L.n by simp)
 have HW:=zH (fun w' (hb:Below w.heap.size w w')=>zC6 L pu ra vars A R c rows w' hL hF (Le fq _ _ _ _ hb hr) hV)
 have OV:=zH (fun A n c x l w hl=>O7 L.p A n c x l w hL.p hl)
 have HS:=zH (fun a b w=>zAH L.p a b w hL.p)
 obtain ⟨cs,lq⟩:=zEX (Uu L pu ra rows);rw [<- lq] at HW |-;obtain ⟨ws,hws⟩:=zEX (aQ L.p cs);have DV:ws.length=front.length:=by rw [hws,aQ,List.length_map,List.length_range,lq,s6];omega
 rw [<- hws] at HW;obtain ⟨f,hff⟩:∃ f:Nat -> Nat,f=fun k=>front.getD k 0:=⟨_,rfl⟩
 obtain ⟨h,hh⟩:∃ h:Nat -> Nat,h=fun k=>oh L.p (ws.getD k []) x:=⟨_,rfl⟩
 have HFF:=zH (show ∀ k,front.getD k 0=f k from fun k=>by rw [hff])
 have HHH:=zH (show ∀ k (hk:k<ws.length),oh L.p ws[k] x=h k from fun k hk=>by rw [hh,<- TV hk])
 have eY:=zH (show ∀ k,k<front.length -> f k<18446744073709551616 from fun k hk=>by rw [hff];exact yz hflt hk)
 have HHX:=zH (show ∀ k,k<front.length -> h k<18446744073709551616 from fun k _=>by rw [hh];exact Nat.lt_trans (SV (by omega) _ _) Lb)
 obtain ⟨D1,hD1⟩:=zEX (rP L.p (Pu f front.length) al front.length);obtain ⟨D2,hD2⟩:=zEX (IP L.p (Pu f front.length) (Pu h front.length) front.length);obtain ⟨D3,hD3⟩:=zEX (zC L.p L.a L.b (Pu f front.length) be L.b);have RD:∀ (g:Nat -> Nat) n,∀ r∈Pu g n,r.length <= 1000:=fun g n r hr=>by
  obtain ⟨k,-,rfl⟩:=List.mem_map.1 hr;simp
 have HC:=zH (fun A c w hr=>by have:=zCN L A front.length c al (Pu f front.length) w hL hr (RD f _);rw [<- hD1] at this;exact this)
 have HLn:=zH (fun A B c d w hr hs=>by have:=zCY L A B front.length c front.length d (Pu f front.length) (Pu h front.length) w hL hr hs zR (RD f _) (RD h _);rw [<- hD2] at this;exact this)
 have HQ:=zH (fun A c w hr=>by have:=zCZ L A front.length c be (Pu f front.length) w hL hr (RD f _) hn.symm;rw [<- hD3] at this;exact this)
 have HE:=zH (show IX L cs al be a b q x front=[(oh L.p a x+xg L.p (oh L.p D1 0))%L.p,(oh L.p b x+xg L.p (oh L.p D2 0))%L.p,(oh L.p q x+xg L.p (oh L.p D3 0))%L.p] by rw [hD1,hD2,hD3,hff,hh,hws];rfl)
 rw [HE.out];obtain ⟨z1,Zb⟩:=zEX ((oh L.p a x+xg L.p (oh L.p D1 0))%L.p);obtain ⟨z2,td⟩:=zEX ((oh L.p b x+xg L.p (oh L.p D2 0))%L.p);obtain ⟨z3,hz3⟩:=zEX ((oh L.p q x+xg L.p (oh L.p D3 0))%L.p);have Eg:=zH (fun w=>by have:=HS.out (oh L.p a x) (oh L.p D1 0) w;rw [<- Zb] at this;exact this)
 have Em:=zH (fun w=>by have:=HS.out (oh L.p b x) (oh L.p D2 0) w;rw [<- td] at this;exact this)
 have HS3:=zH (fun w=>by have:=HS.out (oh L.p q x) (oh L.p D3 0) w;rw [<- hz3] at this;exact this)
 rw [<- Zb,<- td,<- hz3];have HZX:=zH (show ∀ y∈[z1,z2,z3],y<18446744073709551616 by
  intro y hy;simp only [List.mem_cons,List.not_mem_nil,or_false] at hy;rcases hy with h | h | h
  ·rw [h,Zb];exact Nat.lt_trans (Nat.mod_lt _ (by omega)) Lb
  ·rw [h,td];exact Nat.lt_trans (Nat.mod_lt _ (by omega)) Lb
  ·rw [h,hz3];exact Nat.lt_trans (Nat.mod_lt _ (by omega)) Lb)
 clear Zb td hz3;have HWL:=zH DV;have gi0:(0:Int) <= (i:Int):=by omega
 have gi1:(i:Int)<(L.n:Int):=by omega
 have gn:front.length <= 400000:=by omega
 have HRF:=zH hrf;have Fb:=zH (show ∀ y,y%L.p<18446744073709551616 from fun y=>Nat.lt_trans (Nat.mod_lt _ (by omega)) Lb)
 clear Pd Lb yV zV Od hx lq hws DV hff hh hD1 hD2 hD3 RD HE hi hn hL hF hr hV hf hfc tb hflt hrf;unfold Ua Ib at *;obtain ⟨kl,kt,kx,ka,aa,-⟩:=Hy w 35 25 72 74 #[.int .u64 L.p, .int .i64 L.block, .int .i64 L.queries, .int .i64 L.k, .int .i64 L.n, .int .i64 L.secret, .int .i64 L.rows, .int .i64 L.a, .int .i64 L.b, .int .i64 L.b, .int .i64 L.b] #[.int .u64 L.p, .int .i64 pu, .int .i64 vars, .slice A R c] #[.int .u64 al, .int .u64 ra, .int .u64 be] #[.slice B1 m1 d1, .slice B2 m2 d2, .slice B3 m3 d3];go_enter Tryz.func74,Tryz.ntmps74
 go_upto_region 1 with fail
 generalize (((w.alloc _).alloc _).alloc _).alloc _=w1 at kl kt kx ka aa |-;have cl:=kl.cell;go_wp2_with fail
 refine (HPt.out _).mono ?_;rintro e w2 ⟨u1,u2,rfl,ER,Xt,Aa⟩;replace kl:=ea kl Aa;replace kt:=ea kt Aa;replace kx:=ea kx Aa;replace ka:=ea ka Aa;replace aa:=ja aa Aa;obtain ⟨A1,e1,rfl⟩:=pS ER;clear Aa cl ER HPt;generalize (List.range L.n).map (Qp L.p (Yc L.p).1 L.n)=PN at *;obtain ⟨A2,e2,rfl⟩:=pS Xt;obtain ⟨bp,qp,rfl,hbp,XV⟩:=Ye (zb Xt).2.2.2.2 (show i<PN.length by rw [Ri.out];omega)
 rw [oR.out] at XV;rw [Ri.out];have cl:=kl.cell;have ct:=kt.cell;have cx:=kx.cell;go_wp2_with fail
 refine (HW.out _ aa).mono ?_;rintro e w3 ⟨vW,rfl,hW,Aa⟩;replace kl:=ea kl Aa;replace kx:=ea kx Aa;replace ka:=ea ka Aa;replace aa:=ja aa Aa;clear Aa cl ct cx XV Xt hbp kt HW;obtain ⟨AW,nW,cW,rfl⟩:=RSl.slc hW;obtain ⟨hWn,-,-,hWd⟩:=sh hW;have hnW:nW=front.length:=by rw [<- hWn];exact HWL.out
 subst hnW;clear hWn hW;go_wp2_with fail
 go_loopw [16,17,19] (fun p1 p2 y wr=>∃ (k:Nat) (v1 v2:Value) (Bc ed:List Value),v1=p1 /\ v2=p2 /\ k <= front.length /\ y= .int .i64 k /\ wr.ownsRow w3.heap.size 28 1 v1 k Bc /\ wr.ownsRow w3.heap.size 28 1 v2 k ed /\ QV wr v1.ownBlock v2.ownBlock Bc f /\ QV wr v1.ownBlock v2.ownBlock ed h /\ Hid (∀ q,v1.ownBlock=some q -> v2.ownBlock=some q -> False) /\ Below w3.heap.size w3 wr) (fun _ _ y _=>front.length-(intOf y).toNat)
 case atStart=>exact ⟨0,_,_,[],[],rfl,rfl,Nat.zero_le _,rfl,⟨rfl, .inl ⟨rfl,rfl⟩⟩,⟨rfl, .inl ⟨rfl,rfl⟩⟩,zAn _ _ _ _,zAn _ _ _ _,zH (fun q e _=>by cases e),Below.refl _ _⟩
 case round =>
  obtain ⟨k,v1,v2,Bc,ed,rfl,rfl,hk,rfl,o1,o2,oo,xt,Oq,Ga⟩:=hrel;have Zj:=ea kl Ga;have Rf:=ea kx Ga;have yC:=ea ka Ga;have Na:=ja aa Ga;by_cases oa:k<front.length
  ·have q1:(k:Int)<(front.length:Int):=by omega
   have q2:(0:Int) <= (k:Int):=by omega
   have hkw:k<ws.length:=by rw [HWL.out];exact oa
   obtain ⟨bf,qf,rfl,Ik,hcf⟩:=Ye HRF.out oa;obtain ⟨bw,qw,A4,n4,c4,rfl,hbW4,hcw,Je⟩:=Zl hWd hkw;have HHk:=zH (HHH.out k hkw);obtain ⟨pk,hpk⟩:=zEX (ws[k]);rw [<- hpk] at Je HHk;rw [HFF.out] at hcf;obtain ⟨x1,Ec⟩:=zEX (f k);obtain ⟨x2,lh⟩:=zEX (h k);rw [<- Ec] at hcf;rw [<- lh] at HHk;have rq:=zH Ec;have Vg:=zH lh;have cfr:=(Na.cell (p:=⟨bf,qf+k,none⟩) Ik).trans hcf;have Ve:Bc.length=k:=by have:=o1.1;omega
   have Od:ed.length=k:=by have:=o2.1;omega
   have HN12:=zH (And.intro Ve Od);have h3r:=Ga.size;clear Ec lh hpk hcf Ve Od;obtain ⟨kA,kB,ia,Ra⟩:=ah wr 22 28 #[.int .u64 x1] #[.slice (some ⟨wr.heap.size,0,none⟩) 1 1];have l1:∀ q,v1.ownBlock=some q -> q<wr.heap.size:=fun q e=>(o1.lt q e).2
   have l2:∀ q,v2.ownBlock=some q -> q<wr.heap.size:=fun q e=>(o2.lt q e).2
   have o1a:=db o1 ia zR;go_wp2_with (at_builtin;refine If rfl _ _ rfl Jo rfl o1a rfl (zAJ kB) (zAk rfl) (by omega) (by have:=ia.size;omega) ?_)
   intro v1' wn jk Ha Ab;rw [<- Ra] at Ab;clear cfr o1a;have o2a:=db o2 ia zR;replace oo:=lW oo ia;replace xt:=lW xt ia;have hO1a:=zAl oo HN12.out.1 (by rw [<- rq.out];exact kA) (fun e=>by have:=l1 _ e.symm;omega) (fun e=>by have:=l2 _ e.symm;omega)
   replace oo:=R4 hO1a Ha (.inl rfl) Ab (.inl rfl);replace xt:=R4 xt Ha (.inl rfl) Ab (.inl rfl);have uv:=mh (db o1 ia zR) Ha (by have:=ia.size;omega)
   replace o2:=zAo o2a Ha (fun q e1 e2=>Oq.out q e2 e1)
   replace Oq:=zH (L8 o2a Oq.out Ab);replace Ga:=(ja Ga ia).trans uv;clear hO1a o1 o2a Ha Ab uv ia Ra kA kB l1 l2 Zj Rf yC Na;obtain ⟨Av1,cv1,rfl,-⟩:=Tb jk;have Zj:=ea kl Ga;have cl:=Zj.cell;have ll:=Zj.lt;have cwr:=(Ga.cell (p:=⟨bw,qw+k,none⟩) hbW4).trans hcw;have h3n:=Ga.size;have hlN:=kl.lt;go_upto_region 9 with fail
   refine Pc (Tp w3.heap.size) [8,9,10,11] [0,1,2,3,4,5,6,7,8,9,10,11,12] (by kernel_rfl) (by kernel_rfl) ?_
   refine di (Ad w3.heap.size) ?_;intro Wc Ba da;have Ja:=Sg Ba;have Ob:w3.heap.size <= Wc.heap.size:=by have:=Ja.size;omega
   replace jk:=db jk Ja zR;replace o2:=db o2 Ja zR;replace oo:=lW oo Ja;replace xt:=lW xt Ja;replace Ga:=ja Ga Ja;have hrk:=ib Ga Je;refine iS ?_;refine oc (Ad w3.heap.size) rfl rfl rfl (fun _=>by go_simp <;> rfl) ((OV.out _ _ _ x _ _ hrk).mono ?_)
   rintro e w7 ⟨rfl,mc⟩;refine ⟨_,rfl,Mo mc Ob,?_⟩;replace da:=(Ad w3.heap.size).trans _ _ _ da (Mo mc Ob);simp only [Act.put,zLa,zLb,zLc];rw [HHk.out];have Zd:w3.heap.size <= w7.heap.size:=by have:=mc.size;omega
   replace jk:=db jk mc zR;replace o2:=db o2 mc zR;replace oo:=lW oo mc;replace xt:=lW xt mc;replace Ga:=ja Ga mc;clear mc Ja Ba Ob da cl ll cwr hrk;have da:=(Ad w3.heap.size).refl w7;refine iS ?_;refine de (Ad w3.heap.size) rfl rfl rfl ?_;go_simp;have ia:=(Below.refl w7.heap.size w7).alloc zR (.cells #[.int .u64 x2] 22);have kA:=Blk.new w7 22 #[.int .u64 x2];refine ⟨Mo ia Zd,?_⟩;have l1:∀ q,(Value.slice Av1 (k+1) cv1).ownBlock=some q -> q<w7.heap.size:=fun q e=>(jk.lt q e).2
   have l2:∀ q,v2.ownBlock=some q -> q<w7.heap.size:=fun q e=>(o2.lt q e).2
   replace jk:=db jk ia zR;replace o2:=db o2 ia zR;replace oo:=lW oo ia;replace xt:=lW xt ia;replace Ga:=ja Ga ia;have hN8:=Nat.le_trans Zd ia.size
   try simp only [Act.put,zLa,zLb,zLc]
   generalize w7.alloc _=w8 at kA jk o2 oo xt Ga hN8 |-;generalize w7.heap.size=g7 at kA l1 l2 |-;clear ia Zd da;have da:=(Ad w3.heap.size).refl w8;refine iS ?_;refine de (Ad w3.heap.size) rfl rfl rfl ?_;go_simp;have ia:=(Below.refl w8.heap.size w8).alloc zR (.cells #[.slice (some ⟨g7,0,none⟩) 1 1] 28);have kB:=Blk.new w8 28 #[.slice (some ⟨g7,0,none⟩) 1 1];refine ⟨Mo ia hN8,?_⟩;replace jk:=db jk ia zR;replace o2:=db o2 ia zR;replace kA:=ea kA ia;replace oo:=lW oo ia;replace xt:=lW xt ia;replace Ga:=ja Ga ia;have hN9:=Nat.le_trans hN8 ia.size
   try simp only [Act.put,zLa,zLb,zLc]
   generalize w8.alloc _=w9 at kA kB jk o2 oo xt Ga hN9 |-;generalize w8.heap.size=g8 at kB |-;clear ia hN8 da;have da:=(Ad w3.heap.size).refl w9;refine iS ?_;refine de (Ad w3.heap.size) rfl rfl rfl ?_;refine om _ _ rfl Jo rfl o2 rfl (zAJ kB) (zAk rfl) (by omega) hN9 ?_
   intro v2' wz WY Ha Ab;have uv:=mh o2 Ha hN9;refine ⟨uv,?_⟩;have hO2a:=zAl xt HN12.out.2 (by rw [<- Vg.out];exact kA) (fun e=>by have:=l1 _ e.symm;omega) (fun e=>by have:=l2 _ e.symm;omega)
   replace xt:=R4 hO2a Ha (.inr rfl) (.inl rfl) Ab;replace oo:=R4 oo Ha (.inr rfl) (.inl rfl) Ab;have o1z:=zAo jk Ha (fun q e1 e2=>Oq.out q e1 e2)
   have hap2:=L8 jk (fun q e1 e2=>Oq.out q e2 e1) Ab
   replace Ga:=Ga.trans uv;clear hO2a Ha Ab uv kA kB l1 l2 Oq o2 jk da;have da:=(Ad w3.heap.size).refl wz
   try simp only [Act.put,zLa,zLb,zLc]
   refine iS ?_;refine pc ?_;clear da;go_wp2
   go_roundw
   case rel=>exact ⟨k+1,_,v2',_,_,rfl,rfl,by omega,by go_num,o1z,WY,oo,xt,zH (fun q e1 e2=>hap2 q e2 e1),Ga⟩
   case measure=>simp [intOf];omega
  ·obtain rfl:k=front.length:=by omega
   have q1:¬((front.length:Int)<(front.length:Int)):=by omega
   have Kv:=zAm oo o1 eY.out;have fU:=zAm xt o2 HHX.out;obtain ⟨Av1,cv1,rfl,-⟩:=Tb o1;obtain ⟨Av2,cv2,rfl,-⟩:=Tb o2;clear oo xt o1 o2 Oq Ga hWd kl kx ka aa HRF;have El:=ib Na ha;have Qo:=ib Na hb;have cq:=ib Na hq;have cl:=Zj.cell;have ll:=Zj.lt;have cx:=Rf.cell;have lx:=Rf.lt;go_upto_region 10 with fail
   refine Pc (Bb) [6,7] [0,1,2,3,4,5,6,7,8] (by kernel_rfl) (by kernel_rfl) ?_
   refine di (pa) ?_;intro Wc Ba da;have Ja:=Sg Ba;replace Zj:=ea Zj Ja;replace Rf:=ea Rf Ja;replace yC:=ea yC Ja;replace Na:=ja Na Ja;replace Kv:=FR Ja Kv;replace fU:=FR Ja fU;replace El:=ib Ja El;replace Qo:=ib Ja Qo;replace cq:=ib Ja cq;clear Ja;refine Kb ?_;refine oc (pa) rfl rfl rfl (fun _=>by go_simp <;> rfl) ((HC.out _ _ _ Kv).mono ?_)
   rintro e x5 ⟨v5,rfl,h5,Ma⟩;refine ⟨_,rfl,Ma,?_⟩;replace da:=(pa).trans _ _ _ da (Ma);simp only [Act.put,zLa,zLb,zLc];replace Zj:=ea Zj Ma;replace Rf:=ea Rf Ma;replace yC:=ea yC Ma;replace Na:=ja Na Ma;replace Kv:=FR Ma Kv;replace fU:=FR Ma fU;replace El:=ib Ma El;replace Qo:=ib Ma Qo;replace cq:=ib Ma cq;clear Ma;obtain ⟨A5,c5,rfl⟩:=pS h5;refine Kb ?_;refine oc (pa) rfl rfl rfl (fun _=>by go_simp <;> rfl) ((OV.out _ _ _ 0 _ _ h5).mono ?_)
   rintro e x6 ⟨rfl,Cc⟩;refine ⟨_,rfl,Cc,?_⟩;replace da:=(pa).trans _ _ _ da (Cc);simp only [Act.put,zLa,zLb,zLc];replace Zj:=ea Zj Cc;replace Rf:=ea Rf Cc;replace yC:=ea yC Cc;replace Na:=ja Na Cc;replace Kv:=FR Cc Kv;replace fU:=FR Cc fU;replace El:=ib Cc El;replace Qo:=ib Cc Qo;replace cq:=ib Cc cq;clear Cc h5;refine Kb ?_;refine pc ?_;clear da Ba cl ll cx lx;have cl:=Zj.cell;have ll:=Zj.lt;go_upto_region 11 with fail
   refine Pc (Bb) [5,6] [0,1,2,3,4,5,6,7] (by kernel_rfl) (by kernel_rfl) ?_
   refine di (pa) ?_;intro Wc Ba da;have Ja:=Sg Ba;replace Zj:=ea Zj Ja;replace Rf:=ea Rf Ja;replace yC:=ea yC Ja;replace Na:=ja Na Ja;replace Kv:=FR Ja Kv;replace fU:=FR Ja fU;replace El:=ib Ja El;replace Qo:=ib Ja Qo;replace cq:=ib Ja cq;clear Ja;refine Kb ?_;refine oc (pa) rfl rfl rfl (fun _=>by go_simp <;> rfl) ((HLn.out _ _ _ _ _ Kv fU).mono ?_)
   rintro e x7 ⟨v7,rfl,h7,mc⟩;refine ⟨_,rfl,mc,?_⟩;replace da:=(pa).trans _ _ _ da (mc);simp only [Act.put,zLa,zLb,zLc];replace Zj:=ea Zj mc;replace Rf:=ea Rf mc;replace yC:=ea yC mc;replace Na:=ja Na mc;replace Kv:=FR mc Kv;replace El:=ib mc El;replace Qo:=ib mc Qo;replace cq:=ib mc cq;clear mc fU;obtain ⟨A7,c7,rfl⟩:=pS h7;refine Kb ?_;refine oc (pa) rfl rfl rfl (fun _=>by go_simp <;> rfl) ((OV.out _ _ _ 0 _ _ h7).mono ?_)
   rintro e x8 ⟨rfl,Jm⟩;refine ⟨_,rfl,Jm,?_⟩;replace da:=(pa).trans _ _ _ da (Jm);simp only [Act.put,zLa,zLb,zLc];replace Zj:=ea Zj Jm;replace Rf:=ea Rf Jm;replace yC:=ea yC Jm;replace Na:=ja Na Jm;replace Kv:=FR Jm Kv;replace El:=ib Jm El;replace Qo:=ib Jm Qo;replace cq:=ib Jm cq;clear Jm h7;refine Kb ?_;refine pc ?_;clear da Ba cl ll;have cl:=Zj.cell;have ll:=Zj.lt;have cx:=Rf.cell;have lx:=Rf.lt;go_upto_region 12 with fail
   refine Pc (Bb) [6,7] [0,1,2,3,4,5,6,7,8] (by kernel_rfl) (by kernel_rfl) ?_
   refine di (pa) ?_;intro Wc Ba da;have Ja:=Sg Ba;replace Zj:=ea Zj Ja;replace yC:=ea yC Ja;replace Na:=ja Na Ja;replace Kv:=FR Ja Kv;replace El:=ib Ja El;replace Qo:=ib Ja Qo;replace cq:=ib Ja cq;clear Ja;refine Kb ?_;refine oc (pa) rfl rfl rfl (fun _=>by go_simp <;> rfl) ((HQ.out _ _ _ Kv).mono ?_)
   rintro e x9 ⟨v9,rfl,h9,Zi⟩;refine ⟨_,rfl,Zi,?_⟩;replace da:=(pa).trans _ _ _ da (Zi);simp only [Act.put,zLa,zLb,zLc];replace Zj:=ea Zj Zi;replace yC:=ea yC Zi;replace Na:=ja Na Zi;replace El:=ib Zi El;replace Qo:=ib Zi Qo;replace cq:=ib Zi cq;clear Zi Kv;obtain ⟨A9,c9,rfl⟩:=pS h9;refine Kb ?_;refine oc (pa) rfl rfl rfl (fun _=>by go_simp <;> rfl) ((OV.out _ _ _ 0 _ _ h9).mono ?_)
   rintro e Yk ⟨rfl,Ex⟩;refine ⟨_,rfl,Ex,?_⟩;replace da:=(pa).trans _ _ _ da (Ex);simp only [Act.put,zLa,zLb,zLc];replace Zj:=ea Zj Ex;replace yC:=ea yC Ex;replace Na:=ja Na Ex;replace El:=ib Ex El;replace Qo:=ib Ex Qo;replace cq:=ib Ex cq;clear Ex h9;refine Kb ?_;refine pc ?_;clear da Ba cl ll cx lx Rf;have cl:=Zj.cell;have ll:=Zj.lt;have ca:=yC.cell;have la:=yC.lt;go_upto_region 13 with fail
   refine Pc (Bb) [7,9,17,19,27,29,30] [0,1,2,3,4,5,6,8,10,11,12,13,14,15,16,18,20,21,22,23,24,25,26,28,7,9,17,19,27,29,30,31] (by kernel_rfl) (by kernel_rfl) ?_
   refine di (pa) ?_;intro Wc Ba da;have Ja:=Sg Ba;replace Na:=ja Na Ja;replace El:=ib Ja El;replace Qo:=ib Ja Qo;replace cq:=ib Ja cq;clear Ja;refine Kb ?_;refine oc (pa) rfl rfl rfl (fun _=>by go_simp <;> rfl) ((OV.out _ _ _ x _ _ El).mono ?_)
   rintro e y1 ⟨rfl,ya⟩;refine ⟨_,rfl,ya,?_⟩;replace da:=(pa).trans _ _ _ da (ya);simp only [Act.put,zLa,zLb,zLc];replace Na:=ja Na ya;replace Qo:=ib ya Qo;replace cq:=ib ya cq;clear ya El;refine Kb ?_;refine oc (pa) rfl rfl rfl (fun _=>by go_simp <;> rfl) ((Eg.out _).mono ?_)
   rintro e y2 ⟨rfl,xa⟩;refine ⟨_,rfl,xa,?_⟩;replace da:=(pa).trans _ _ _ da (xa);simp only [Act.put,zLa,zLb,zLc];replace Na:=ja Na xa;replace Qo:=ib xa Qo;replace cq:=ib xa cq;clear xa;refine Kb ?_;refine oc (pa) rfl rfl rfl (fun _=>by go_simp <;> rfl) ((OV.out _ _ _ x _ _ Qo).mono ?_)
   rintro e y3 ⟨rfl,ya⟩;refine ⟨_,rfl,ya,?_⟩;replace da:=(pa).trans _ _ _ da (ya);simp only [Act.put,zLa,zLb,zLc];replace Na:=ja Na ya;replace cq:=ib ya cq;clear ya Qo;refine Kb ?_;refine oc (pa) rfl rfl rfl (fun _=>by go_simp <;> rfl) ((Em.out _).mono ?_)
   rintro e y4 ⟨rfl,xa⟩;refine ⟨_,rfl,xa,?_⟩;replace da:=(pa).trans _ _ _ da (xa);simp only [Act.put,zLa,zLb,zLc];replace Na:=ja Na xa;replace cq:=ib xa cq;clear xa;refine Kb ?_;refine oc (pa) rfl rfl rfl (fun _=>by go_simp <;> rfl) ((OV.out _ _ _ x _ _ cq).mono ?_)
   rintro e y5 ⟨rfl,ya⟩;refine ⟨_,rfl,ya,?_⟩;replace da:=(pa).trans _ _ _ da (ya);simp only [Act.put,zLa,zLb,zLc];replace Na:=ja Na ya;clear ya cq;refine Kb ?_;refine oc (pa) rfl rfl rfl (fun _=>by go_simp <;> rfl) ((HS3.out _).mono ?_)
   rintro e y6 ⟨rfl,xa⟩;refine ⟨_,rfl,xa,?_⟩;replace da:=(pa).trans _ _ _ da (xa);simp only [Act.put,zLa,zLb,zLc];replace Na:=ja Na xa;clear xa;refine Kb ?_;refine de (pa) rfl rfl rfl ?_;go_simp;have ia:=(Below.refl y6.heap.size y6).alloc zR (.cells #[.int .u64 z1, .int .u64 z2, .int .u64 z3] 22);have kz:=Blk.new y6 22 #[.int .u64 z1, .int .u64 z2, .int .u64 z3];refine ⟨ia,?_⟩;replace Na:=ja Na ia;have eG:=sZ (l:=[z1,z2,z3]) kz rfl HZX.out (by simp [maxLen])
   try simp only [Act.put,zLa,zLb,zLc]
   generalize y6.alloc _=y7 at eG Na |-;generalize y6.heap.size=gz at eG |-;clear ia kz da;have da:=(pa).refl y7;refine Kb ?_;refine pc ?_;go_wp2;go_ret
   exact ⟨_,rfl,eG,Na⟩
def LW (L:Va) (cs:List (List Nat)) (al be:Nat) (a b q:List Nat) (i:Int) (v:List Nat):Bool :=
 wU L a b q&&decide (0 <= i)&&decide (i<(L.n:Int))&&Yf v (L.a+L.b+L.b+L.b+3) L.p&&decide (IX L cs al be a b q (Qp L.p (Yc L.p).1 L.n i.toNat) (v.take (L.a+L.b+L.b+L.b))=v.drop (L.a+L.b+L.b+L.b))
theorem zCP (L:Va) (pu ra al be:Nat) (vars i:Int) (A B1 B2 B3 F:Option Addr) (R c m1 d1 m2 d2 m3 d3 n d:Nat) (rows:List Ya) (a b q v:List Nat) (w:World)
  (hL:Vc L) (hF:ux L pu vars rows) (hr:RSl 3 Md w [.slice A R c] rows) (hV:pA vars rows)
  (ha:RWd w [.slice B1 m1 d1] a) (hb:RWd w [.slice B2 m2 d2] b) (hq:RWd w [.slice B3 m3 d3] q) (hv:RWd w [.slice F n d] v) :
  Calls Tryz.prog 22 #[.agg (Ua L),Ib L.p (pu:Int) vars (.slice A R c), .agg #[.int .u64 al, .int .u64 ra, .int .u64 be], .agg #[.slice B1 m1 d1, .slice B2 m2 d2, .slice B3 m3 d3], .int .i64 i, .slice F n d] w fun e w'=>e= .returned (.bool (LW L (Uu L pu ra rows) al be a b q i v)) /\ Below w.heap.size w w':=by
 have yV:=hL.a;have zV:=hL.b;obtain ⟨T,hT⟩:=zEX (L.a+L.b+L.b+L.b);obtain ⟨hvn,hvd,hvx,-,-⟩:=zb hv;have gm:=uj hvd hvx;obtain ⟨t,ht⟩:=zEX (T+3);have Fm:=zH (fun w=>by have:=UJ L.p L.block L.queries L.k L.n L.secret L.rows L.a L.b L.b L.b w hL.a hL.b hL.b hL.b;rw [<- hT] at this;exact this)
 have wX:=zH (fun w' (h:Below w.heap.size w w')=>zAE L B1 B2 B3 m1 d1 m2 d2 m3 d3 a b q w' hL (ib h ha) (ib h hb) (ib h hq))
 have zm:=zH (fun w' (h:Below w.heap.size w w')=>B5 F n d t L.p v w' (ib h hv))
 have HC:=zH (fun (w':World) (h:Below w.heap.size w w') (j:Nat) (hj:j<L.n) (hTn:T <= n)=>zCQ L pu ra al be vars A B1 B2 B3 F R c m1 d1 m2 d2 m3 d3 j T d rows a b q (v.take T) w' hL hF (Le fq _ _ _ _ h hr) hV (ib h ha) (ib h hb) (ib h hq) (RB (ib h hv) hTn) hj (by rw [List.length_take,<- hT];omega))
 obtain ⟨CD,hCD⟩:∃ CD:Nat -> List Nat,CD=fun j=>IX L (Uu L pu ra rows) al be a b q (Qp L.p (Yc L.p).1 L.n j) (v.take T):=⟨_,rfl⟩
 have Wp:=zH (show ∀ j,IX L (Uu L pu ra rows) al be a b q (Qp L.p (Yc L.p).1 L.n j) (v.take T)=CD j from fun j=>by rw [hCD])
 have HEq:=zH (fun (j:Nat) (A1:Option Addr) (c1:Nat) (w':World) (h:Below w.heap.size w w') (hTn:T <= n) (h3:RWd w' [.slice A1 (CD j).length c1] (CD j))=>zC0 (if d=T then F else Option.map (fun x=>x.add T) F) A1 (n-T) (d-T) (CD j).length c1 (v.drop T) (CD j) w' (Jz (ib h hv) hTn) h3)
 have HE:=zH (show LW L (Uu L pu ra rows) al be a b q i v=(wU L a b q&&decide (0 <= i)&&decide (i<(L.n:Int))&&Yf v t L.p&&decide (v.drop T=CD i.toNat)) by
  rw [hCD,ht,hT];unfold LW
  congr 1
  exact decide_eq_decide.2 eq_comm)
 have nR:=zH (show Yf v t L.p=true -> T <= n by
  intro h;unfold Yf at h;rw [Bool.and_eq_true,decide_eq_true_eq] at h;omega)
 obtain ⟨ans,Uy⟩:=zEX (LW L (Uu L pu ra rows) al be a b q i v);rw [<- Uy] at HE |-;have e1:(T:Int)+3=(t:Int):=by omega
 have e2:=zd t;generalize wU L a b q=b1 at *;generalize Yf v t L.p=b2 at *;have gT:T <= 400000:=by omega
 have gd:n <= d:=hvd;clear yV zV hT hvn hvd hvx hCD Uy ht hL hF hr hV ha hb hq hv;unfold Ua Ib at *;obtain ⟨kl,kt,kx,ka,aa,-⟩:=Hy w 35 25 72 74 #[.int .u64 L.p, .int .i64 L.block, .int .i64 L.queries, .int .i64 L.k, .int .i64 L.n, .int .i64 L.secret, .int .i64 L.rows, .int .i64 L.a, .int .i64 L.b, .int .i64 L.b, .int .i64 L.b] #[.int .u64 L.p, .int .i64 pu, .int .i64 vars, .slice A R c] #[.int .u64 al, .int .u64 ra, .int .u64 be] #[.slice B1 m1 d1, .slice B2 m2 d2, .slice B3 m3 d3];go_enter Tryz.func22,Tryz.ntmps22
 go_upto_region 1 with fail
 generalize (((w.alloc _).alloc _).alloc _).alloc _=w1 at kl kt kx ka aa |-;have cl:=kl.cell;go_wp2_with fail
 refine (Fm.out _).mono ?_;rintro e w2 ⟨rfl,Aa⟩;replace kl:=ea kl Aa;replace kt:=ea kt Aa;replace kx:=ea kx Aa;replace ka:=ea ka Aa;replace aa:=ja aa Aa;clear Aa cl;have cl:=kl.cell;have ca:=ka.cell;go_wp2_with fail
 refine (wX.out _ aa).mono ?_;rintro e w3 ⟨rfl,Aa⟩;replace kl:=ea kl Aa;replace kt:=ea kt Aa;replace kx:=ea kx Aa;replace ka:=ea ka Aa;replace aa:=ja aa Aa;clear Aa cl ca;cases b1
 ·go_wp2
  go_ret
  exact ⟨by rw [HE.out];simp,aa⟩
 by_cases YV:i<0
 ·have x1:decide (i<0)=true:=decide_eq_true YV
  have HF:=zH (show ans=false by rw [HE.out,decide_eq_false (show ¬(0 <= i) by omega)];simp)
  clear HE;go_wp2;go_ret
  exact ⟨by rw [HF.out];rfl,aa⟩
 have x1:decide (i<0)=false:=decide_eq_false YV;have cl:=kl.cell;by_cases hiN:(L.n:Int) <= i
 ·have x2:decide ((L.n:Int) <= i)=true:=decide_eq_true hiN
  have HF:=zH (show ans=false by rw [HE.out,decide_eq_false (show ¬(i<(L.n:Int)) by omega)];simp)
  clear HE;go_wp2;go_ret
  exact ⟨by rw [HF.out];rfl,aa⟩
 have x2:decide ((L.n:Int) <= i)=false:=decide_eq_false hiN;obtain ⟨j,rfl⟩:=Int.eq_ofNat_of_zero_le (show 0 <= i by omega)
 have hjn:j<L.n:=by omega
 have Sx:=zH (show ans=(b2&&decide (v.drop T=CD j)) by rw [HE.out,decide_eq_true (show 0 <= (j:Int) by omega),decide_eq_true (show (j:Int)<(L.n:Int) by omega)];simp)
 clear YV hiN HE;go_wp2_with fail
 refine (zm.out _ aa).mono ?_;rintro e w4 ⟨rfl,Aa⟩;replace kl:=ea kl Aa;replace kt:=ea kt Aa;replace kx:=ea kx Aa;replace ka:=ea ka Aa;replace aa:=ja aa Aa;clear Aa cl;cases b2
 ·go_wp2
  go_ret
  exact ⟨by rw [Sx.out];rfl,aa⟩
 have hTn:T <= n:=nR.out rfl;have y1:(0:Int) <= (T:Int):=by omega
 have y2:(T:Int) <= (n:Int):=by omega
 have y3:(T:Int) <= (d:Int):=by omega
 have cl:=kl.cell;have ll:=kl.lt;have ct:=kt.cell;have lt:=kt.lt;have cx:=kx.cell;have lx:=kx.lt;have ca:=ka.cell;have la:=ka.lt;go_upto_region 4 with fail
 refine Pc (Bb) [11,12] [0,1,2,3,4,5,6,7,8,9,10,11,12,13] (by kernel_rfl) (by kernel_rfl) ?_
 refine di (pa) ?_;intro Wc Ba da;have Ja:=Sg Ba;replace aa:=ja aa Ja;clear Ja;refine Kb ?_;refine oc (pa) rfl rfl rfl (fun _=>by go_simp <;> rfl) ((HC.out _ aa j hjn hTn).mono ?_)
 rintro e w5 ⟨v5,rfl,h5,Ma⟩;refine ⟨_,rfl,Ma,?_⟩;replace da:=(pa).trans _ _ _ da (Ma);simp only [Act.put,zLa,zLb,zLc];rw [Wp.out] at h5;obtain ⟨A5,c5,rfl⟩:=pS h5;replace aa:=ja aa Ma;clear Ma;refine Kb ?_;refine oc (pa) rfl rfl rfl (fun _=>by go_simp <;> rfl) ((HEq.out j _ _ _ aa hTn h5).mono ?_)
 rintro e w6 ⟨rfl,Cc⟩;refine ⟨_,rfl,Cc,?_⟩;replace da:=(pa).trans _ _ _ da (Cc);simp only [Act.put,zLa,zLb,zLc];replace aa:=ja aa Cc;clear Cc h5;refine Kb ?_;refine pc ?_;generalize (if d=T then F else Option.map (fun x=>x.add T) F)=FX
 go_wp2;go_ret
 exact ⟨by rw [Sx.out];rfl,aa⟩
theorem zBD {L:Va} {cs:List (List Nat)} {al be i:Nat} {a b q v l:List Nat} (hf:wU L a b q=true) (hi:i<L.n) (hv:v.length=L.a+L.b+L.b+L.b) (hlv:∀ x∈v,x<L.p) (hl:l.length=3) (Zo:∀ x∈l,x<L.p) :
  LW L cs al be a b q (i:Int) (v++l)=decide (IX L cs al be a b q (Qp L.p (Yc L.p).1 L.n i) v=l):=by
 have e1:Yf (v++l) (L.a+L.b+L.b+L.b+3) L.p=true:=by
  unfold Yf;rw [Bool.and_eq_true,decide_eq_true_eq,List.all_eq_true];refine ⟨by rw [List.length_append];omega,fun x hx=>?_⟩
  rw [decide_eq_true_eq];rcases List.mem_append.1 hx with h | h
  ·exact hlv x h
  ·exact Zo x h
 have e2:decide ((0:Int) <= (i:Int))=true:=decide_eq_true (by omega)
 have e3:decide ((i:Int)<(L.n:Int))=true:=decide_eq_true (by omega)
 unfold LW;rw [hf,e1,e2,e3,List.take_left' hv,List.drop_left' hv,Int.toNat_natCast]
 rfl
theorem Cg.less {p:Nat} {x y u v:Int} (h:Cg p x y) (h2:Cg p u v):Cg p (x-u) (y-v):=by
 rw [Int.sub_eq_add_neg,Int.sub_eq_add_neg];exact h.add h2.neg
theorem zBm {L:Va} (m r:List (List Nat)) (co:List Nat) (al:Nat) (x:Int):Cg L.p (bg (RV L m r co al) x) (bg co x+Sb (fun j=>(Pw L.p al (j+1):Int)*bg ((Ip L m r).getD j []) x) m.length):=by
 unfold RV;rw [N6];exact (JX _ _ _).trans (Cg.rfl'.add (Z5 _ _ _ _))
theorem I8 {L:Va} (cs m r:List (List Nat)) (li:List Nat) (x:Int):Cg L.p (bg (mV L cs m r li) x) (bg (Rk L li) x+Sb (fun j=>bg ((aQ L.p cs).getD j []) x*bg ((Ip L m r).getD j []) x) m.length):=by
 unfold mV;rw [N6];exact (JX _ _ _).trans (Cg.rfl'.add (B7 _ _ _ _))
theorem J8 {L:Va} (hp:1<L.p) (m r:List (List Nat)) (qu:List Nat) (be:Nat) (x:Int):Cg L.p (bg (nV L m r qu be) x) (bg (YU L qu) x+Sb (fun j=>(Pw L.p be (j+1):Int)*(bg ((Ip L m r).getD (L.a+j) []) x*bg ((Ip L m r).getD (L.a+L.b+j) []) x-bg ((Ip L m r).getD (L.a+L.b+L.b+j) []) x)) L.b):=by
 unfold nV;rw [N6];exact (JX _ _ _).trans (Cg.rfl'.add (L7 hp _ _ _ _ _ _))
theorem Y7 {p:Nat} (hp:0<p) {a c:List Nat} {s x:Nat} {S:Int} (h1:Cg p (bg a x) (bg c x+S)) (h2:Cg p (s:Int) S):bY p (oh p a x) s=oh p c x:=by
 refine Cg.eq (p:=p) ?_ (zDv hp _ _) (SV hp _ _);refine (zDu hp _ _).trans ?_;refine Cg.trans ?_ (xS c).symm;refine (Cg.less ((xS a).trans h1) h2).trans (Cg.of_eq ?_);omega
theorem zBF {L:Va} (hL:Vc L) {cs:List (List Nat)} {a b c co ml qd:List Nat} {R:List (List Nat)} {al be x:Nat} {v:List Nat} (hv:v.length=L.a+L.b+L.b+L.b) (hvx:∀ j,j<v.length -> v.getD j 0=oh L.p (R.getD j []) x)
  (ha:Cg L.p (bg a x) (bg co x+Sb (fun j=>(Pw L.p al (j+1):Int)*bg (R.getD j []) x) v.length))
  (hb:Cg L.p (bg b x) (bg ml x+Sb (fun j=>bg ((aQ L.p cs).getD j []) x*bg (R.getD j []) x) v.length))
  (hc:Cg L.p (bg c x) (bg qd x+Sb (fun j=>(Pw L.p be (j+1):Int)*(bg (R.getD (L.a+j) []) x*bg (R.getD (L.a+L.b+j) []) x-bg (R.getD (L.a+L.b+L.b+j) []) x)) L.b)) :
  IX L cs al be a b c x v=[oh L.p co x,oh L.p ml x,oh L.p qd x]:=by
 obtain ⟨hp,-⟩:=nc hL.p;have mx:0<L.p:=by omega
 have hf:∀ j,j<v.length -> Cg L.p ((v.getD j 0:Nat):Int) (bg (R.getD j []) x):=fun j h=>by rw [hvx j h];exact xS _
 unfold IX;rw [Y7 mx ha ((zBA _ al _).trans (qD _ fun j hj=>Cg.rfl'.mul (hf j hj)))]
 rw [Y7 mx hb ((zCi _ _ _).trans (qD _ fun j hj=>(xS _).mul (hf j hj)))]
 rw [Y7 mx hc ((N7 (by omega) hv.symm _ be).trans (qD _ fun j hj=>Cg.rfl'.mul (((hf _ (by omega)).mul (hf _ (by omega))).less (hf _ (by omega)))))]
theorem zCG {L:Va} (hL:Vc L) {m r:List (List Nat)} (h:tU L m r) (co li qu:List Nat) {j:Nat} (hj:j<m.length):(Ow L m r co li qu).getD j []=(Ip L m r).getD j []:=by
 rw [rX hL h hj];have h1:(Ow L m r co li qu).getD j []=Wx L m r j:=by
  unfold Ow;rw [List.getD_eq_getElem?_getD,List.getElem?_append_left (by simp [Nw];exact hj)]
  simp [Nw,hj]
 have h2:(r.getD j []).length=L.queries:=PX h.rr (by rw [h.rl];exact hj)
 rw [h1];unfold Wx sA Zu;rw [h2,<- hL.k]
theorem zCF (L:Va) (m r:List (List Nat)) (co li qu:List Nat):(Ow L m r co li qu).getD m.length []=co /\ (Ow L m r co li qu).getD (m.length+1) []=Rk L li /\ (Ow L m r co li qu).getD (m.length+2) []=NB L qu:=by
 have hl:(Nw L m r m.length).length=m.length:=by simp [Nw]
 unfold Ow;simp only [List.getD_eq_getElem?_getD];refine ⟨?_,?_,?_⟩
 ·rw [List.getElem?_append_right (by omega),hl,Nat.sub_self];rfl
 ·rw [List.getElem?_append_right (by omega),hl,Nat.add_sub_cancel_left];rfl
 ·rw [List.getElem?_append_right (by omega),hl,Nat.add_sub_cancel_left];rfl
theorem zBE {L:Va} (hL:Vc L) {cs m r:List (List Nat)} (h:tU L m r) (lq:∀ x∈cs,x.length=L.block) (Tq:cs.length=m.length) {co li qu:List Nat} (hc:co.length=L.k /\ ∀ y∈co,y<L.p) (hl:li.length=L.k+L.block-2 /\ ∀ y∈li,y<L.p) (hq:qu.length=L.block+2*L.queries-1) (al be:Nat) {i:Nat} (hi:i<L.n) :
  LW L cs al be (RV L m r co al) (mV L cs m r li) (nV L m r qu be) (i:Int) ((List.range (m.length+3)).map (CA L (Ow L m r co li qu) i))=true:=by
 obtain ⟨hp,-⟩:=nc hL.p;have mx:0<L.p:=by omega
 obtain ⟨Ve,Od⟩:=tI hL;have QU:∀ j,CA L (Ow L m r co li qu) i j=oh L.p ((Ow L m r co li qu).getD j []) (Qp L.p (Yc L.p).1 L.n i):=fun j=>by
  unfold CA;exact O6 hL.p Ve Od _ hi
 obtain ⟨F,hF⟩:=zEX ((List.range m.length).map (CA L (Ow L m r co li qu) i));have hFl:F.length=m.length:=by rw [hF];simp
 have hsplit:(List.range (m.length+3)).map (CA L (Ow L m r co li qu) i)=F++[CA L (Ow L m r co li qu) i m.length,CA L (Ow L m r co li qu) i (m.length+1),CA L (Ow L m r co li qu) i (m.length+2)]:=by
  rw [hF,show m.length+3=m.length+1+1+1 by omega,List.range_succ,List.range_succ,List.range_succ]
  simp
 obtain ⟨p0,p1,p2⟩:=zCF L m r co li qu;rw [hsplit,QU m.length,QU (m.length+1),QU (m.length+2),p0,p1,p2];rw [zBD (K8 hL h lq Tq hc hl hq al be) hi (by rw [hFl];exact h.ml) (fun x hx=>by
  rw [hF] at hx;obtain ⟨j,-,rfl⟩:=List.mem_map.1 hx;rw [QU];exact SV mx _ _) rfl (fun x hx=>by
  simp only [List.mem_cons,List.not_mem_nil,or_false] at hx;rcases hx with rfl | rfl | rfl <;> exact SV mx _ _)]
 refine decide_eq_true ?_;refine zBF hL (R:=Ip L m r) (by rw [hFl];exact h.ml) (fun j hj=>?_) ?_ ?_ ?_
 ·have dw:j<m.length:=by rw [<- hFl];exact hj
  rw [hF,fF,if_pos dw,QU,zCG hL h _ _ _ dw]
 ·rw [hFl];exact zBm _ _ _ _ _
 ·rw [hFl];exact I8 _ _ _ _ _
 ·refine (J8 (by omega) m r qu be _).trans ?_
  rw [Y4 hL hq];exact Cg.rfl'
end Go.Proofs.YtjipleoamlmkfaaGreat
