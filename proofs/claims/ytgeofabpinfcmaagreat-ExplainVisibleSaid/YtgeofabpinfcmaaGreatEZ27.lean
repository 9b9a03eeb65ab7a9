/- A part of the proof. No condition. -/
import Derived.Test.YtgeofabpinfcmaaGreatProg
import Derived.Test.YtgeofabpinfcmaaGreatEZ24
import Derived.Test.YtgeofabpinfcmaaGreatEZ23
import Derived.Test.YtgeofabpinfcmaaGreatEZ10
import Derived.Test.YtgeofabpinfcmaaGreatEZ12
import Derived.Test.YtgeofabpinfcmaaGreatEZ14
import Derived.Test.YtgeofabpinfcmaaGreatEZ22

set_option maxRecDepth 100000
set_option maxHeartbeats 8000000
set_option linter.unusedVariables false
set_option linter.unusedSimpArgs false
namespace Go.Proofs.YtgeofabpinfcmaaGreat
open Go.RowKit
def Vl (L:Ja) (m r:List (List Nat)) (k:Nat):List Nat:=tq L (m.getD k []) (r.getD k [])
def jE (L:Ja) (m r:List (List Nat)) (co li qu:List Nat):List (List Nat):=(List.range m.length).map (Vl L m r)++[co,Bd L li,Gg L qu]
theorem YY (L:Ja) (m r:List (List Nat)) (co li qu:List Nat):(jE L m r co li qu).length=m.length+3:=by simp [jE]
def By (L:Ja) (ps:List (List Nat)) (j i:Nat):Nat:=Bc L.p (ps.getD i []) (Vb L.p (tb L.p).1 L.n j)
def WE (L:Ja) (ps:List (List Nat)):List (List Nat):=(List.range L.n).map fun j=>(List.range ps.length).map (By L ps j)
theorem cG (f:Nat -> List Nat) (k:Nat):(List.range k).map f++[f k]=(List.range (k+1)).map f:=by simp [List.range_succ]
theorem WW {M N:Nat} {w:World} {v:Value} {cs:List Value} {l:List (List Nat)} (h:Rf N w v cs l) (hN:M <= N):Rf M w v cs l :=
 ⟨h.1,fun i h1 h2 u hu=>h.2 i h1 h2 u fun b b1 b2 b3=>hu b (by omega) b2 b3⟩
theorem sZ (L:Ja) (D0 D1 D2 D3 D4 AM:Option Addr) (n0 n1 n2 n3 n4 nM k0 k1 k2 k3 k4 cM:Nat) (m r:List (List Nat)) (co li qu:List Nat) (w:World) (hL:Db L)
  (hm:Sb w [.slice AM nM cM] m) (hr:Sb w [.slice D0 n0 k0] r) (hc:RWd w [.slice D1 n1 k1] co) (hl:RWd w [.slice D2 n2 k2] li) (hq:RWd w [.slice D3 n3 k3] qu)
  (hlen:m.length=r.length) (Ud:∀ x∈m,x.length=L.block) (Mg:∀ x∈r,x.length <= 2000) (hT:m.length <= 400000) (h2:li.length <= 2000) (h3:qu.length <= 2000) :
  Calls Tryz.prog 52 #[.agg (Ya L), .slice AM nM cM, .agg #[.slice D0 n0 k0, .slice D1 n1 k1, .slice D2 n2 k2, .slice D3 n3 k3, .slice D4 n4 k4]] w fun e w'=>∃ n v cs,e= .returned v /\ w'.ownsRow w.heap.size 28 1 v n cs /\ Rf w.heap.size w' v cs (WE L (jE L m r co li qu)) /\ Below w.heap.size w w':=by
 have Ed:=Va hL.p;have re:=hL.n2;obtain ⟨sr,-,-,zB⟩:=Ve hm;obtain ⟨tj,-,-,Tb⟩:=Ve hr;subst sr;subst tj;have sl:=fun A n c=>(⟨A,n,c,rfl⟩:slc (.slice A n c))
 have e1:=(Ra hc).1;have e2:=(Ra hl).1;have e3:=(Ra hq).1;subst e1 e2 e3;have HEv:=zH (fun A n c x l w hl=>vM L.p A n c x l w hL.p hl)
 have Kq:=zH (fun A B n c m d msg masks w hl hk hn hm=>qS L A B n c m d msg masks w hL hl hk hn hm)
 have zp:=zH (fun w=>aS L (.slice D0 r.length k0) (.slice D1 co.length k1) (.slice D2 li.length k2) (.slice D3 qu.length k3) (.slice D4 n4 k4) w (sl _ _ _) (sl _ _ _) (sl _ _ _) (sl _ _ _) (sl _ _ _))
 have Zn:=zH (fun w' (hb:Below w.heap.size w w')=>gS L (.slice D0 r.length k0) (.slice D1 co.length k1) (.slice D3 qu.length k3) (.slice D4 n4 k4) D2 li.length k2 li w' hL (sl _ _ _) (sl _ _ _) (sl _ _ _) (sl _ _ _) (ta hb hl) (by omega))
 have eu:=zH (fun w' (hb:Below w.heap.size w w')=>RZ L (.slice D0 r.length k0) (.slice D1 co.length k1) (.slice D2 li.length k2) (.slice D4 n4 k4) D3 qu.length k3 qu w' hL (sl _ _ _) (sl _ _ _) (sl _ _ _) (sl _ _ _) (ta hb hq) (by omega))
 have Iq:=zH (fun w=>lS L w hL)
 have Qg:=zH (show ∀ x∈Bd L li,x<18446744073709551616 from fun x hx=>by
  rcases List.mem_cons.1 hx with h | h
  ·rw [h];exact Nat.lt_trans (bE (by omega) _ _) Ed.2
  ·exact SS hl x h)
 have HQT:=zH (show ∀ x∈Gg L qu,x<18446744073709551616 from VH (by omega) fun x hx=>Nat.lt_trans (KQ (by omega) hx) Ed.2)
 have HRT:=zH (show ∀ a b,∀ x∈tq L a b,x<18446744073709551616 from fun a b=>VH (by omega) fun x hx=>Nat.lt_trans (nG (by omega) hx) Ed.2)
 have HCE:=zH (show ∀ ps j i,By L ps j i<18446744073709551616 from fun ps j i=>Nat.lt_trans (qn (by omega) _ _) Ed.2)
 have Gq:=zH hlen;have zj:=zH Ud;have lh:=zH Mg;obtain ⟨ps,Kj⟩:=zEX (jE L m r co li qu);have Xj:=zH (show (List.range m.length).map (Vl L m r)++[co,Bd L li,Gg L qu]=ps from Kj.symm)
 have ni:=zH (show ps.length=m.length+3 by rw [Kj,YY])
 rw [<- Kj];have fu:=zH (cG (Vl L m r));have HRG:=zH (show ∀ i (h1:i<m.length) (h2:i<r.length),tq L m[i] r[i]=Vl L m r i from fun i h1 h2=>by
  unfold Vl;rw [List.getD_eq_getElem?_getD,List.getD_eq_getElem?_getD,List.getElem?_eq_getElem h1,List.getElem?_eq_getElem h2]
  rfl)
 obtain ⟨rf,hrf⟩:=zEX (Vl L m r);rw [<- hrf] at Xj fu HRG;have Ka:=hL.b2;clear hL hlen Ud Mg Ed Kj hrf hm hr;unfold Ya at *;obtain ⟨kl,kc,da,Nb⟩:=Ue w 39 42 #[.int .u64 L.p, .int .i64 L.block, .int .i64 L.queries, .int .i64 L.k, .int .i64 L.n, .int .i64 L.secret, .int .i64 L.rows, .int .i64 L.a, .int .i64 L.b, .int .i64 L.b, .int .i64 L.b] #[.slice D0 r.length k0, .slice D1 co.length k1, .slice D2 li.length k2, .slice D3 qu.length k3, .slice D4 n4 k4];go_enter Tryz.func52,Tryz.ntmps52
 go_upto_region 1 with fail
 generalize (w.alloc _).alloc _=w1 at kl kc da Nb |-;obtain ⟨N,hN⟩:=zEX (w1.heap.size);have x1:w.heap.size<N:=by omega
 have x2:w.heap.size+1<N:=by omega
 have x3:w.heap.size≠N:=by omega
 have x4:w.heap.size+1≠N:=by omega
 have ra:=Wk w1 28 (base:=N) (by omega)
 have ma:=(Below.refl w1.heap.size w1).alloc zR (.cells #[] 28);have Pa:N <= (w1.alloc (.cells #[] 28)).heap.size:=by have:=ma.size;omega
 replace kl:=ia kl ma;replace kc:=ia kc ma;replace da:=oa da ma;clear ma Nb;go_upto_region 2 with fail
 have xt:∃ v0,v0=Value.slice (some ⟨w1.heap.size,0,none⟩) 0 0:=⟨_,rfl⟩;clear hN;generalize w1.alloc _=w2 at kl kc da ra Pa |-;go_wp2_with fail
 go_loopw [7,8] (fun u y wr=>∃ (i:Nat) (v:Value) (cs:List Value),v=u /\ i <= m.length /\ y= .int .i64 i /\ Blk wr w.heap.size 39 #[.int .u64 L.p, .int .i64 L.block, .int .i64 L.queries, .int .i64 L.k, .int .i64 L.n, .int .i64 L.secret, .int .i64 L.rows, .int .i64 L.a, .int .i64 L.b, .int .i64 L.b, .int .i64 L.b] /\ Blk wr (w.heap.size+1) 42 #[.slice D0 r.length k0, .slice D1 co.length k1, .slice D2 li.length k2, .slice D3 qu.length k3, .slice D4 n4 k4] /\ wr.ownsRow N 28 1 v i cs /\ Rf 0 wr v cs ((List.range i).map rf) /\ Below w.heap.size w wr /\ N <= wr.heap.size) (fun _ y _=>m.length-(intOf y).toNat)
 case atStart=>exact ⟨0,_,[],rfl,Nat.zero_le _,rfl,kl,kc,ra,Ns _ _ _,da,Pa⟩
 case round =>
  clear kl kc ra da Pa xt;obtain ⟨i,v,cs,rfl,hi,rfl,kl,kc,ra,Da,da,Pa⟩:=hrel;by_cases za:i<m.length
  ·have q1:(0:Int) <= (i:Int):=by omega
   have q2:(i:Int)<(m.length:Int):=by omega
   have Sp:i<r.length:=by have:=Gq.out;omega
   have q3:(i:Int)<(r.length:Int):=by omega
   obtain ⟨bm,qm,Am,lm,cm,rfl,qF,Xy,oz⟩:=vh zB za;have hcm:=(da.cell (p:=⟨bm,qm+i,none⟩) qF).trans Xy;have Hn:=ta da oz;obtain ⟨br,qr,Ar,lr,cr,rfl,rF,Yy,pz⟩:=vh Tb Sp;have Cn:=(da.cell (p:=⟨br,qr+i,none⟩) rF).trans Yy;have Mi:=ta da pz;have x5:bm<N:=by omega
   have x6:br<N:=by omega
   have x7:bm≠N:=by omega
   have x8:br≠N:=by omega
   have z1:=(Ra Hn).1;have z2:=(Ra Mi).1;have z3:lm=L.block:=by have:=zj.out _ (List.getElem_mem za);omega
   have z4:lr <= 2000:=by have:=lh.out _ (List.getElem_mem Sp);omega
   have HC:=zH (fun w' (hb:Below wr.heap.size wr w')=>Kq.out Am Ar lm cm lr cr m[i] r[i] w' (ta hb Hn) (ta hb Mi) z3 (by omega))
   have HRI:=zH (HRG.out i za Sp);have aA:=zH (fu.out i);have xA:=zH (HRT.out m[i] r[i]);rw [HRI.out] at HC xA;have HRIx:=zH (rfl:rf i=rf i);clear z1 z2 z3 z4 oz pz Xy Yy Hn Mi Sp HRIx HRI;have cl:=kl.cell;have ll:=kl.lt;have cc:=kc.cell;have lc:=kc.lt;have lbm:bm<wr.heap.size:=by omega
   have lbr:br<wr.heap.size:=by omega
   obtain ⟨fi,Hj⟩:=zEX (rf i);rw [<- Hj] at HC xA aA;clear Hj;go_upto_region 5 with fail
   refine Rc (qj N N) [11,12,13] [0,1,2,3,4,5,6,7,8,9,10,11,12,13,14] (by kernel_rfl) (by kernel_rfl) ?_
   refine vd (xb N N) ?_;intro Wc Na ja;have ya:=Cc Na;have Dc:N <= Wc.heap.size:=by have:=ya.size;omega
   replace kl:=ia kl ya;replace kc:=ia kc ya;replace ra:=Oa ra ya zR;replace Da:=Uc Da ya;replace da:=oa da ya;refine Vn ?_;refine Mb (xb N N) rfl rfl rfl (fun _=>by go_simp <;> rfl) ((HC.out _ ya).mono ?_)
   rintro e w7 ⟨va,rfl,uj,Wa⟩;refine ⟨_,rfl,ue Wa Dc,?_⟩;replace ja:=(xb N N).trans _ _ _ ja (ue Wa Dc);simp only [Act.put,zLa,zLb,zLc];obtain ⟨Av,cv,rfl,-⟩:=Ob uj;have df:∀ q,v.ownBlock=some q -> q<Wc.heap.size:=fun q e=>(ra.lt q e).2
   have de:N <= w7.heap.size:=by have:=Wa.size;omega
   have hx:=Xl (N:=0) (gb:=v.ownBlock) uj xA.out (Nat.zero_le _) df;replace kl:=ia kl Wa;replace kc:=ia kc Wa;replace ra:=Oa ra Wa zR;replace Da:=Uc Da Wa;replace da:=oa da Wa;clear uj df Wa ja HC ya Na Dc cl ll cc lc;refine Vn ?_;refine Ug (xb N N) rfl rfl rfl ?_;go_simp;have ma:=(Below.refl w7.heap.size w7).alloc zR (.cells #[.slice Av fi.length cv] 28);have La:=Lf w7 (.slice Av fi.length cv) 28;refine ⟨ue ma de,?_⟩;replace kl:=ia kl ma;replace kc:=ia kc ma;replace ra:=Oa ra ma zR;replace Da:=Uc Da ma;replace da:=oa da ma;replace hx:=Mh hx ma.size (fun b _ h2 _=>ma.block b h2)
   have Of:=Nat.le_trans de ma.size
   try simp only [Act.put,zLa,zLb,zLc]
   generalize w7.alloc _=w8 at kl kc ra Da hx da La Of |-;generalize w7.heap.size=g7 at La |-;clear ma de;have ja:=(xb N N).refl w8;refine Vn ?_;refine Ug (xb N N) rfl rfl rfl ?_;refine Tn _ _ rfl Cj rfl ra rfl La (by intro u hu;simp at hu;subst hu;rfl) (by omega) Of ?_
   intro v' wn db Ma Lb;have Rb:∀ q,v.ownBlock=some q -> N <= q:=fun q e=>(ra.lt q e).1
   refine ⟨Ao Ma Of Rb,?_⟩;have ee:=Tq Da hx Ma Lb;rw [aA.out] at ee;replace kl:=kl.grown Ma (fun e=>by first | (have:=Rb _ e;omega) | (have:=Rb _ e.symm;omega))
   replace kc:=kc.grown Ma (fun e=>by first | (have:=Rb _ e;omega) | (have:=Rb _ e.symm;omega))
   replace da:=da.trans ((Ae ra Ma Of).mono (by omega))
   have af:N <= wn.heap.size:=by have:=Ma.size;omega
   clear ra Da hx Ma Lb Rb Of La ja;have ja:=(xb N N).refl wn
   try simp only [Act.put,zLa,zLb,zLc]
   refine Vn ?_;refine Fc ?_;go_wp2
   go_roundw
   case rel=>exact ⟨i+1,v',_,rfl,by omega,by go_num,kl,kc,db,ee,da,af⟩
   case measure=>simp [intOf];omega
  ·obtain rfl:i=m.length:=by omega
   have q2:¬((m.length:Int)<(m.length:Int)):=by omega
   have cl:=kl.cell;have ll:=kl.lt;have cc:=kc.cell;have lc:=kc.lt;go_upto_region 6 with fail
   refine Rc (qj N N) [3,6,9,10,11] [0,1,2,4,5,7,8,3,6,9,10,11,12] (by kernel_rfl) (by kernel_rfl) ?_
   refine vd (xb N N) ?_;intro Wc Na ja;have ya:=Cc Na;have Dc:N <= Wc.heap.size:=by have:=ya.size;omega
   replace kl:=ia kl ya;replace kc:=ia kc ya;replace ra:=Oa ra ya zR;replace Da:=Uc Da ya;replace da:=oa da ya;refine Vn ?_;refine Mb (xb N N) rfl rfl rfl (fun _=>by go_simp <;> rfl) ((zp.out _).mono ?_)
   rintro e w5 ⟨rfl,jb⟩;refine ⟨_,rfl,ue jb Dc,?_⟩;replace ja:=(xb N N).trans _ _ _ ja (ue jb Dc);simp only [Act.put,zLa,zLb,zLc];have Mk:N <= w5.heap.size:=by have:=jb.size;omega
   replace kl:=ia kl jb;replace kc:=ia kc jb;replace ra:=Oa ra jb zR;replace Da:=Uc Da jb;replace da:=oa da jb;clear jb;refine Vn ?_;refine Mb (xb N N) rfl rfl rfl (fun _=>by go_simp <;> rfl) ((Zn.out _ da).mono ?_)
   rintro e w6 ⟨v6,rfl,o6,Zb⟩;refine ⟨_,rfl,ue Zb Mk,?_⟩;replace ja:=(xb N N).trans _ _ _ ja (ue Zb Mk);simp only [Act.put,zLa,zLb,zLc];have Gh:N <= w6.heap.size:=by have:=Zb.size;omega
   obtain ⟨A6,c6,rfl,-⟩:=Ob o6;have ye:=Xl (N:=0) (gb:=v.ownBlock) o6 Qg.out (Nat.zero_le _) (fun q e=>(ra.lt q e).2)
   replace kl:=ia kl Zb;replace kc:=ia kc Zb;replace ra:=Oa ra Zb zR;replace Da:=Uc Da Zb;replace da:=oa da Zb;clear Zb o6;refine Vn ?_;refine Mb (xb N N) rfl rfl rfl (fun _=>by go_simp <;> rfl) ((eu.out _ da).mono ?_)
   rintro e w7 ⟨v7,rfl,o7,Wa⟩;refine ⟨_,rfl,ue Wa Gh,?_⟩;replace ja:=(xb N N).trans _ _ _ ja (ue Wa Gh);simp only [Act.put,zLa,zLb,zLc];have de:N <= w7.heap.size:=by have:=Wa.size;omega
   obtain ⟨A7,c7,rfl,-⟩:=Ob o7;have To:=Xl (N:=0) (gb:=v.ownBlock) o7 HQT.out (Nat.zero_le _) (fun q e=>(ra.lt q e).2)
   replace ye:=Mh ye Wa.size (fun b _ h2 _=>Wa.block b h2)
   replace kl:=ia kl Wa;replace ra:=Oa ra Wa zR;replace Da:=Uc Da Wa;replace da:=oa da Wa;clear Wa o7 ja ya Na Dc Mk Gh cl ll cc lc kc;have Oc:=W3 (gb:=v.ownBlock) hc da (fun q e=>by have:=(ra.lt q e).1;omega)
   refine Vn ?_;refine Ug (xb N N) rfl rfl rfl ?_;go_simp;have ma:=(Below.refl w7.heap.size w7).alloc zR (.cells #[.slice D1 co.length k1, .slice A6 (li.length+1) c6, .slice A7 (Gg L qu).length c7] 28);have La:=ES w7 (.slice D1 co.length k1) (.slice A6 (li.length+1) c6) (.slice A7 (Gg L qu).length c7) 28;refine ⟨ue ma de,?_⟩;replace kl:=ia kl ma;replace ra:=Oa ra ma zR;replace Da:=Uc Da ma;replace da:=oa da ma;replace Oc:=Mh Oc ma.size (fun b _ h2 _=>ma.block b h2)
   replace ye:=Mh ye ma.size (fun b _ h2 _=>ma.block b h2)
   replace To:=Mh To ma.size (fun b _ h2 _=>ma.block b h2)
   have Of:=Nat.le_trans de ma.size
   try simp only [Act.put,zLa,zLb,zLc]
   generalize w7.alloc _=w8 at kl ra Da Oc ye To da La Of |-;generalize w7.heap.size=g7 at La |-;clear ma de;have ja:=(xb N N).refl w8;refine Vn ?_;refine Ug (xb N N) rfl rfl rfl ?_;refine Tn _ _ rfl Cj rfl ra rfl La (by intro u hu;simp at hu;rcases hu with rfl | rfl | rfl <;> rfl) (by omega) Of ?_
   intro v' wn db Ma Lb;have Rb:∀ q,v.ownBlock=some q -> N <= q:=fun q e=>(ra.lt q e).1
   refine ⟨Ao Ma Of Rb,?_⟩;have ee:=EP Da Oc ye To Ma Lb;rw [Xj.out] at ee;replace kl:=kl.grown Ma (fun e=>by first | (have:=Rb _ e;omega) | (have:=Rb _ e.symm;omega))
   replace da:=da.trans ((Ae ra Ma Of).mono (by omega))
   have Vw:=qw ee db;clear ra Da Oc ye To Ma Lb Rb Of La ja ee;have ja:=(xb N N).refl wn
   try simp only [Act.put,zLa,zLb,zLc]
   refine Vn ?_;refine Fc ?_;clear ja;rw [<- ni.out] at db;obtain ⟨Ap,cp,rfl,-⟩:=Ob db;clear db Xj fu HRG HRT Qg HQT zp Zn eu Kq zj lh zB Tb hc hl hq;obtain ⟨-,-,-,hPd⟩:=Ve Vw;have HM3:=ni.out;obtain ⟨M,hM⟩:=zEX (ps.length);have hM4:M <= 400003:=by omega
   have uw:=zH hM;rw [<- hM];clear HM3 hM;have cl:=kl.cell;have ll:=kl.lt;go_wp2_with fail
   refine (Iq.out _).mono ?_;rintro e w9 ⟨u1,u2,rfl,hpa,hpb,ea⟩;replace hPd:=hPd.below DC ea;replace kl:=ia kl ea;replace da:=oa da ea;clear ea cl ll Vw;obtain ⟨Aa,ca,rfl⟩:=Le hpa;clear hpa;have lA:=zH (show ∀ j,j<L.n -> ((List.range L.n).map (Vb L.p (tb L.p).1 L.n)).getD j 0=Vb L.p (tb L.p).1 L.n j from fun j hj=>by rw [Qf,if_pos hj])
   have ey:=zH (show ((List.range L.n).map (Vb L.p (tb L.p).1 L.n)).length=L.n by simp)
   have HCO:=zH (show ∀ j i,By L ps j i=Bc L.p (ps.getD i []) (Vb L.p (tb L.p).1 L.n j) from fun _ _=>rfl)
   have Jq:=zH (show WE L ps=(List.range L.n).map fun j=>(List.range M).map (By L ps j) by rw [uw.out];rfl)
   generalize (List.range L.n).map (Vb L.p (tb L.p).1 L.n)=P at *;obtain ⟨Ab,cb,rfl⟩:=Le hpb;have hrp:=(Ra hpb).2.2.2.2;obtain ⟨T,yw⟩:=zEX (P.length);have my:=zH yw;have gT:(T:Int) <= 1024:=by have:=ey.out;omega
   rw [<- yw];clear yw hpb;go_upto_region 9 with fail
   have ra:=Wk w9 28 (base:=w9.heap.size) zR;have ma:=(Below.refl w9.heap.size w9).alloc zR (.cells #[] 28);have kl9:=kl.alloc (.cells #[] 28);have hkl9:=kl.lt;go_wp2_with fail
   go_loopw [11,12] (fun u y wr=>∃ (j:Nat) (v:Value) (cs:List Value),v=u /\ j <= T /\ y= .int .i64 j /\ Blk wr w.heap.size 39 #[.int .u64 L.p, .int .i64 L.block, .int .i64 L.queries, .int .i64 L.k, .int .i64 L.n, .int .i64 L.secret, .int .i64 L.rows, .int .i64 L.a, .int .i64 L.b, .int .i64 L.b, .int .i64 L.b] /\ wr.ownsRow w9.heap.size 28 1 v j cs /\ Rf w9.heap.size wr v cs ((List.range j).map fun j=>(List.range M).map (By L ps j)) /\ Below w9.heap.size w9 wr) (fun _ y _=>T-(intOf y).toNat)
   case atStart=>exact ⟨0,_,[],rfl,Nat.zero_le _,rfl,kl9,ra,Ns _ _ _,ma⟩
   case round =>
    clear kl kl9 ra ma;obtain ⟨j,v,cs,rfl,hj,rfl,kl,ra,Da,Ke⟩:=hrel;by_cases zF:j<T
    ·have q3:(j:Int)<(T:Int):=by omega
     have q4:(0:Int) <= (j:Int):=by omega
     obtain ⟨wo,Ln⟩:=zEX (wr);subst Ln;have hjP:j<P.length:=by have:=my.out;omega
     have HRN:=zH (cG (fun j=>(List.range M).map (By L ps j)) j)
     obtain ⟨f,hf⟩:=zEX (By L ps j);have HF:=zH (show ∀ i,f i=Bc L.p (ps.getD i []) (P.getD j 0) from fun i=>by rw [hf,HCO.out,lA.out j (by have:=ey.out;omega)])
     have HFT:=zH (show ∀ x∈(List.range M).map f,x<18446744073709551616 from fun x hx=>by
      obtain ⟨i,-,rfl⟩:=List.mem_map.1 hx;rw [hf];exact HCE.out _ _ _)
     have pa:=zH (fun i=>It f i)
     rw [<- hf] at HRN;clear hf;go_upto_region 13 with fail
     have Fm:=Wk wo 22 (base:=wo.heap.size) zR;have ma:=(Below.refl wo.heap.size wo).alloc zR (.cells #[] 22);go_wp2_with fail
     go_loopw [13,14] (fun u y wr=>∃ (i:Nat) (x:Value),x=u /\ i <= M /\ y= .int .i64 i /\ wr.ownsRow wo.heap.size 22 1 x i (Fa ((List.range i).map f)) /\ Below wo.heap.size wo wr) (fun _ y _=>M-(intOf y).toNat)
     case atStart=>exact ⟨0,_,rfl,Nat.zero_le _,rfl,Fm,ma⟩
     case round =>
      clear Fm ma;obtain ⟨i,x,rfl,Yg,rfl,Fm,We⟩:=hrel;have rH:=oa Ke We;by_cases Lo:i<M
      ·have q5:(i:Int)<(M:Int):=by omega
       have q6:(0:Int) <= (i:Int):=by omega
       have ar:i<ps.length:=by rw [<- uw.out];exact Lo
       obtain ⟨bp,qp,A1,l1,c1,rfl,hbp9,hcp9,hrp9⟩:=vh hPd ar;obtain ⟨bq,qq,rfl,hbq9,hcq9⟩:=Vd hrp hjP;have hcp:=(rH.cell (p:=⟨bp,qp+i,none⟩) hbp9).trans hcp9;have Vs:=(rH.cell (p:=⟨bq,qq+j,none⟩) hbq9).trans hcq9;have hrp1:=ta rH hrp9;have hs9:=Ke.size;have hso:=We.size;have hbp:bp<wo.heap.size:=by omega
       have hbq:bq<wo.heap.size:=by omega
       have FK:bp<wr.heap.size:=by omega
       have hbq2:bq<wr.heap.size:=by omega
       have RB:w.heap.size<wo.heap.size:=kl.lt;clear hbp9 hcp9 hrp9 hbq9 hcq9;have Hw:ps.getD i []=ps[i]:=by rw [List.getD_eq_getElem?_getD,List.getElem?_eq_getElem ar];rfl
       have fl:=zH (HF.out i);rw [Hw] at fl;obtain ⟨pi,hpi⟩:=zEX (ps[i]);rw [<- hpi] at hrp1 fl;obtain ⟨y,hy⟩:=zEX (P.getD j 0);rw [<- hy] at Vs fl;obtain ⟨z,hz⟩:=zEX (f i);rw [<- hz] at fl;have HFNi:=zH (pa.out i);rw [<- hz] at HFNi;have yc:=zH (fun w' (If:Below wr.heap.size wr w')=>by have:=HEv.out A1 l1 c1 y pi w' (ta If hrp1);rw [<- fl.out] at this;exact this)
       have kl2:=ia kl We;have cl:=kl2.cell;have ll:=kl2.lt;clear Hw hpi hy hz fl ar kl2;go_upto_region 16 with fail
       refine Rc (Yf wo.heap.size) [11,12,13] [0,1,2,3,4,5,6,7,8,9,10,11,12,13,14] (by kernel_rfl) (by kernel_rfl) ?_
       refine vd (zb wo.heap.size) ?_;intro Wc Na ja;have ya:=Cc Na;have Dc:wo.heap.size <= Wc.heap.size:=by have:=ya.size;omega
       replace Fm:=Oa Fm ya zR;replace We:=oa We ya;refine Nf ?_;refine Mb (zb wo.heap.size) rfl rfl rfl (fun _=>by go_simp <;> rfl) ((yc.out _ ya).mono ?_)
       rintro e Sm ⟨rfl,ea⟩;refine ⟨_,rfl,yf ea Dc,?_⟩;replace ja:=(zb wo.heap.size).trans _ _ _ ja (yf ea Dc);simp only [Act.put,zLa,zLb,zLc];have zK:wo.heap.size <= Sm.heap.size:=by have:=ea.size;omega
       replace Fm:=Oa Fm ea zR;replace We:=oa We ea;clear ea ya Na Dc cl ll hcp Vs FK hbq2 ja;have ja:=(zb wo.heap.size).refl Sm;refine Nf ?_;refine Ug (zb wo.heap.size) rfl rfl rfl ?_;go_simp;have ma:=(Below.refl Sm.heap.size Sm).alloc zR (.cells #[.int .u64 z] 22);have La:=Lf Sm (.int .u64 z) 22;refine ⟨yf ma zK,?_⟩;replace Fm:=Oa Fm ma zR;replace We:=oa We ma;have AK:=Nat.le_trans zK ma.size
       try simp only [Act.put,zLa,zLb,zLc]
       generalize Sm.alloc _=Lx at Fm We La AK |-;generalize Sm.heap.size=g10 at La |-;clear ma zK ja;have ja:=(zb wo.heap.size).refl Lx;refine Nf ?_;refine Ug (zb wo.heap.size) rfl rfl rfl ?_;refine Tn _ _ rfl xf rfl Fm rfl La (mg [z]) (by omega) AK ?_
       intro x' wn WK Ma Lb;have vn:=Ae Fm Ma AK;refine ⟨vn,?_⟩;replace We:=We.trans vn;replace WK:wn.ownsRow wo.heap.size 22 1 x' (i+1) (Fa ((List.range (i+1)).map f)):=Qi (b:=[z]) WK HFNi.out;clear Fm Ma Lb vn La ja;have ja:=(zb wo.heap.size).refl wn
       try simp only [Act.put,zLa,zLb,zLc]
       refine Nf ?_;refine Fc ?_;go_wp2
       go_roundw
       case rel=>exact ⟨i+1,x',rfl,by omega,by go_num,WK,We⟩
       case measure=>simp [intOf];omega
      ·obtain rfl:i=M:=by omega
       have q5:¬((i:Int)<(i:Int)):=by omega
       obtain ⟨Ax,cx,rfl,-⟩:=Ob Fm;have Rb:∀ q,v.ownBlock=some q -> q<wo.heap.size:=fun q e=>(ra.lt q e).2
       have hx:=Xl (N:=w9.heap.size) (gb:=v.ownBlock) Fm HFT.out Ke.size Rb;replace kl:=ia kl We;replace ra:=Oa ra We zR;replace Da:=Uc Da We;replace Ke:=oa Ke We;clear We Fm Rb rH;go_wp2_with (at_builtin;refine Mf rfl _ _ rfl Cj rfl (ra.alloc _) rfl (Lf _ _ _) (by intro u hu;simp at hu;subst hu;rfl) (by omega) (by simp;have:=Ke.size;omega) ?_)
       intro v' wn db Ma Lb;have ma:=(Below.refl wr.heap.size wr).alloc zR (.cells #[.slice Ax i cx] 28);have yi:∀ q,v.ownBlock=some q -> w9.heap.size <= q:=fun q e=>(ra.lt q e).1
       have Ej:=Ae (ra.alloc _) Ma (by simp;have:=Ke.size;omega)
       have hk9:w.heap.size<w9.heap.size:=hkl9;replace kl:=ia kl ma;replace Da:=Uc Da ma;replace hx:=Mh hx ma.size (fun b _ h2 _=>ma.block b h2)
       have ee:=Tq Da hx Ma (by simpa using Lb)
       rw [HRN.out] at ee;replace kl:=kl.grown Ma (fun e=>by first | (have:=yi _ e;omega) | (have:=yi _ e.symm;omega))
       replace Ke:=(oa Ke ma).trans Ej;clear ma Ma Lb Ej Da hx ra;go_wp2
       go_roundw
       case rel=>exact ⟨j+1,v',_,rfl,by omega,by go_num,kl,db,ee,Ke⟩
       case measure=>simp [intOf];omega
    ·obtain rfl:j=T:=by omega
     have q3:¬((j:Int)<(j:Int)):=by omega
     have Au:=WW Da da.size;rw [show (List.range j).map (fun j=>(List.range M).map (By L ps j))=WE L ps by rw [Jq.out,show (j:Nat)=L.n by rw [my.out,ey.out]]] at Au
     have db:=Pf ra da.size;go_wp2;go_ret
     exact ⟨_,_,rfl,_,db,Au,da.trans (Ke.mono da.size)⟩
def yj (p:Nat) (a b:List Nat):List Nat:=Pe p a (xh p b (oc p 1))
theorem BS (p:Nat) (A B:Option Addr) (n c m d:Nat) (a b:List Nat) (w:World) (hp:ab p=true) (ha:RWd w [.slice A n c] a) (hb:RWd w [.slice B m d] b) (hn:n <= 100000) (hm:m <= 100000) :
  Calls Tryz.prog 199 #[.int .u64 p, .slice A n c, .slice B m d] w fun e w'=>∃ v,e= .returned v /\ RWd w' [v] (yj p a b) /\ Below w.heap.size w w':=by
 have Wb:=(Ra hb).1;have HN:=zH (fun w=>mI p 1 w hp)
 have sA:=zH (fun A n c s l w hl hn=>nE p A n c s l w hp hl hn)
 have HA:=zH (fun A B n c m d a b w ha hb hn hm=>Ex p A B n c m d a b w hp ha hb hn hm)
 have HL:=zH (show (xh p b (oc p 1)).length <= 100000 by have:=uq p b (oc p 1);omega)
 obtain ⟨x,hx⟩:=zEX (oc p 1);unfold yj;rw [<- hx] at HN HL |-;clear hx Wb hp;go_enter Tryz.func199,Tryz.ntmps199
 go_wp2_with fail
 refine (HN.out _).mono ?_;rintro e w1 ⟨rfl,Ga⟩;have Qy:=ta Ga ha;have DK:=ta Ga hb;go_wp2_with fail
 refine (sA.out _ _ _ x _ _ DK (by omega)).mono ?_
 rintro e w2 ⟨v2,rfl,h2,Ka⟩;have ha2:=ta Ka Qy;obtain ⟨A2,c2,rfl⟩:=Le h2;go_wp2_with fail
 refine (HA.out _ _ _ _ _ _ _ _ _ ha2 h2 (by omega) (by have:=HL.out;omega)).mono ?_
 rintro e w3 ⟨v3,rfl,h3,ib⟩;go_wp2;go_ret
 exact ⟨_,rfl,h3,oa (oa Ga Ka) ib⟩
def Yi (p:Nat) (rows:List (List Nat)) (al:Nat):Nat -> List Nat
 | 0=>[]
 | i+1=>Pe p (Yi p rows al i) (xh p (rows.getD i []) (yg p al (i+1)))
def Oi (p:Nat) (rows ws:List (List Nat)):Nat -> List Nat
 | 0=>[]
 | i+1=>Pe p (Oi p rows ws i) (Be p (ws.getD i []) (rows.getD i []))
def oB (p a b:Nat) (rows:List (List Nat)) (j:Nat):List Nat:=yj p (Be p (rows.getD (a+j) []) (rows.getD (a+b+j) [])) (rows.getD (a+b+b+j) [])
def bh (p a b:Nat) (rows:List (List Nat)) (be:Nat):Nat -> List Nat
 | 0=>[]
 | j+1=>Pe p (bh p a b rows be j) (xh p (oB p a b rows j) (yg p be (j+1)))
theorem TD {rows:List (List Nat)} {M:Nat} (h:∀ r∈rows,r.length <= M) (i:Nat):(rows.getD i []).length <= M:=by
 rw [List.getD_eq_getElem?_getD];by_cases hi:i<rows.length
 ·rw [List.getElem?_eq_getElem hi];exact h _ (List.getElem_mem hi)
 ·rw [List.getElem?_eq_none (by omega)];exact Nat.zero_le _
theorem VE {p al M:Nat} {rows:List (List Nat)} (h:∀ r∈rows,r.length <= M):∀ i,(Yi p rows al i).length <= M
 | 0=>Nat.zero_le _
 | i+1=>by
  have h1:=nn p (Yi p rows al i) (xh p (rows.getD i []) (yg p al (i+1)));have h2:=uq p (rows.getD i []) (yg p al (i+1));have h3:=VE (p:=p) (al:=al) h i;have h4:=TD h i;rw [Yi];omega
theorem RF {p M m:Nat} {rows ws:List (List Nat)} (h:∀ r∈rows,r.length <= M) (h2:∀ r∈ws,r.length <= m):∀ i,(Oi p rows ws i).length <= m-1+M
 | 0=>Nat.zero_le _
 | i+1=>by
  have h3:=nn p (Oi p rows ws i) (Be p (ws.getD i []) (rows.getD i []));have h4:=Dr p (ws.getD i []) (rows.getD i []);have h5:=RF (p:=p) h h2 i;have h6:=TD h i;have h7:=TD h2 i;rw [Oi];omega
theorem YM (p:Nat) (a b:List Nat):(yj p a b).length <= max a.length b.length:=by
 have h1:=nn p a (xh p b (oc p 1));have h2:=uq p b (oc p 1);unfold yj;omega
theorem NW {p a b M:Nat} {rows:List (List Nat)} (h:∀ r∈rows,r.length <= M) (j:Nat):(oB p a b rows j).length <= M-1+M:=by
 have h1:=YM p (Be p (rows.getD (a+j) []) (rows.getD (a+b+j) [])) (rows.getD (a+b+b+j) []);have h2:=Dr p (rows.getD (a+j) []) (rows.getD (a+b+j) []);have h3:=TD h (a+j);have h4:=TD h (a+b+j);have h5:=TD h (a+b+b+j);unfold oB;omega
theorem YF {p a b be M:Nat} {rows:List (List Nat)} (h:∀ r∈rows,r.length <= M):∀ i,(bh p a b rows be i).length <= M-1+M
 | 0=>Nat.zero_le _
 | i+1=>by
  have h1:=nn p (bh p a b rows be i) (xh p (oB p a b rows i) (yg p be (i+1)));have h2:=uq p (oB p a b rows i) (yg p be (i+1));have h3:=YF (p:=p) (a:=a) (b:=b) (be:=be) h i;have h4:=NW (p:=p) (a:=a) (b:=b) h i;rw [bh];omega
theorem GI (w:World):RWd w [.slice none 0 0] []:=⟨none,0,0,rfl,zR,by simp [maxLen],⟨rfl,fun h=>absurd h (by omega)⟩,fun x hx=>by cases hx⟩
theorem Sq {rows:List (List Nat)} {i:Nat} (h:i<rows.length):rows.getD i []=rows[i]:=by rw [List.getD_eq_getElem?_getD,List.getElem?_eq_getElem h];rfl
theorem ZR (L:Ja) (A:Option Addr) (n c al:Nat) (rows:List (List Nat)) (w:World) (hL:Db L) (hr:Sb w [.slice A n c] rows) (Mg:∀ r∈rows,r.length <= 1000) :
  Calls Tryz.prog 129 #[.agg (Ya L), .slice A n c, .int .u64 al] w fun e w'=>∃ v,e= .returned v /\ RWd w' [v] (Yi L.p rows al n) /\ Below w.heap.size w w':=by
 obtain ⟨vi,Ry,Sy,dC⟩:=Ve hr;have gm:=Kf Ry Sy;have HM:=zH (fun x y w=>Rn L.p x y w hL.p)
 have sA:=zH (fun A n c s l w hl hn=>nE L.p A n c s l w hL.p hl hn)
 have HA:=zH (fun A B n c m d a b w ha hb hn hm=>Ex L.p A B n c m d a b w hL.p ha hb hn hm)
 have il:=zH (VE (p:=L.p) (al:=al) Mg);have lh:=zH Mg;have Hk:=zH (fun a s=>uq L.p a s)
 obtain ⟨D,hD⟩:=zEX (Yi L.p rows al);obtain ⟨P,hP⟩:=zEX (yg L.p al);have Iv:=zH (show ∀ i,D (i+1)=Pe L.p (D i) (xh L.p (rows.getD i []) (P (i+1))) from fun i=>by rw [hD,hP];rfl)
 rw [<- hD] at il |-;have Uz:=zH (show D 0=[] by rw [hD];rfl)
 have Xi:=zH (show P 0=1 by rw [hP];rfl)
 have Xj:=zH (show ∀ i,P (i+1)=P i*al%L.p from fun i=>by rw [hP];rfl)
 have ay:=zH vi;clear hD hP vi Ry Sy hL hr Mg;unfold Ya at *;have kl:=Blk.new w 39 #[.int .u64 L.p, .int .i64 L.block, .int .i64 L.queries, .int .i64 L.k, .int .i64 L.n, .int .i64 L.secret, .int .i64 L.rows, .int .i64 L.a, .int .i64 L.b, .int .i64 L.b, .int .i64 L.b];have da:Below w.heap.size w (w.alloc (.cells #[.int .u64 L.p, .int .i64 L.block, .int .i64 L.queries, .int .i64 L.k, .int .i64 L.n, .int .i64 L.secret, .int .i64 L.rows, .int .i64 L.a, .int .i64 L.b, .int .i64 L.b, .int .i64 L.b] 39)):=(Below.refl _ _).alloc zR _;go_enter Tryz.func129,Tryz.ntmps129
 go_wp2_with fail
 generalize w.alloc _=w1 at kl da |-;go_loopw [7,8,9] (fun u b y wr=>∃ (i:Nat) (v:Value),v=u /\ i <= n /\ y= .int .i64 i /\ b= .int .u64 (P i:Int) /\ RWd wr [v] (D i) /\ Blk wr w.heap.size 39 #[.int .u64 L.p, .int .i64 L.block, .int .i64 L.queries, .int .i64 L.k, .int .i64 L.n, .int .i64 L.secret, .int .i64 L.rows, .int .i64 L.a, .int .i64 L.b, .int .i64 L.b, .int .i64 L.b] /\ Below w.heap.size w wr) (fun _ _ y _=>n-(intOf y).toNat)
 case atStart=>exact ⟨0,_,rfl,Nat.zero_le _,rfl,by rw [Xi.out];rfl,by rw [Uz.out];exact GI _,kl,da⟩
 case round =>
  clear kl da;obtain ⟨i,v,rfl,hi,rfl,rfl,hv,kl,da⟩:=hrel;by_cases za:i<n
  ·have q1:(i:Int)<(n:Int):=by omega
   have q2:(0:Int) <= (i:Int):=by omega
   have Dn:i<rows.length:=by rw [ay.out];exact za
   obtain ⟨b1,Tl,A1,n1,c1,rfl,Hh,Lg,ud⟩:=vh dC Dn;have Wi:=zH (Iv.out i);have Ur:=zH (Xj.out i);rw [Sq Dn] at Wi;have fj:=lh.out _ (List.getElem_mem Dn);obtain ⟨x,hx⟩:=zEX (rows[i]);rw [<- hx] at ud fj Wi;have Md:=(Ra ud).1;have Qc:=ta da ud;obtain ⟨y0,Mj⟩:=zEX (P i);obtain ⟨y1,Ee⟩:=zEX (P (i+1));rw [<- Mj,<- Ee] at Ur;rw [<- Ee] at Wi;rw [<- Mj];have BA:=zH Ee;have yd:Hid (∀ w:World,Calls Tryz.prog 184 #[.int .u64 L.p, .int .u64 y0, .int .u64 al] w fun e w'=>e= .returned (.int .u64 y1) /\ Below w.heap.size w w'):=zH (fun w=>by rw [Ur.out];exact HM.out y0 al w)
   have Zn:=zH (il.out i);have jy:=zH (Hk.out x y1);have Bh:=zH fj;have Jg:=zH Md;clear hx Mj Ee fj Md ud;obtain ⟨Av,cv,rfl⟩:=Le hv;have cl:=kl.cell;have ll:=kl.lt;go_wp2_with fail
   refine (yd.out _).mono ?_;rintro e w6 ⟨rfl,ea⟩;replace kl:=ia kl ea;replace da:=oa da ea;replace hv:=ta ea hv;replace Qc:=ta ea Qc;clear ea cl ll;have Ds:=(da.cell (p:=⟨b1,Tl+i,none⟩) Hh).trans Lg;have Mn:b1<w6.heap.size:=Nat.lt_of_lt_of_le Hh da.size;have cl:=kl.cell;have ll:=kl.lt;go_upto_region 7 with fail
   refine Rc (Ib) [10,11] [0,1,2,3,4,5,6,7,8,9,10,11,12] (by kernel_rfl) (by kernel_rfl) ?_
   refine vd (xa) ?_;intro Wc Na ja;have ya:=Cc Na;replace kl:=ia kl ya;replace da:=oa da ya;replace hv:=ta ya hv;replace Qc:=ta ya Qc;refine pb ?_;refine Mb (xa) rfl rfl rfl (fun _=>by go_simp <;> rfl) ((sA.out _ _ _ _ _ _ Qc (by have:=Bh.out;have:=Jg.out;omega)).mono ?_)
   rintro e w7 ⟨v7,rfl,h7,Wa⟩;refine ⟨_,rfl,Wa,?_⟩;replace ja:=(xa).trans _ _ _ ja (Wa);simp only [Act.put,zLa,zLb,zLc];replace kl:=ia kl Wa;replace da:=oa da Wa;replace hv:=ta Wa hv;obtain ⟨A7,c7,rfl⟩:=Le h7;refine pb ?_;refine Mb (xa) rfl rfl rfl (fun _=>by go_simp <;> rfl) ((HA.out _ _ _ _ _ _ _ _ _ hv h7 (by have:=Zn.out;omega) (by have:=Bh.out;have:=jy.out;omega)).mono ?_)
   rintro e w8 ⟨v8,rfl,h8,je⟩;refine ⟨_,rfl,je,?_⟩;replace ja:=(xa).trans _ _ _ ja (je);simp only [Act.put,zLa,zLb,zLc];replace kl:=ia kl je;replace da:=oa da je;refine pb ?_;refine Fc ?_;rw [<- Wi.out] at h8;clear ya Wa je ja Na Ds Mn cl ll h7 hv Qc;go_wp2_with fail
   go_roundw
   case rel=>exact ⟨i+1,_,rfl,by omega,by go_num,by rw [BA.out],h8,kl,da⟩
   case measure=>simp [intOf];omega
  ·obtain rfl:i=n:=by omega
   have q1:¬((i:Int)<(i:Int)):=by omega
   go_wp2;go_ret
   exact ⟨_,rfl,hv,da⟩
theorem iS (L:Ja) (A B:Option Addr) (n c m d:Nat) (rows ws:List (List Nat)) (w:World) (hL:Db L) (hr:Sb w [.slice A n c] rows) (hs:Sb w [.slice B m d] ws) (hnm:n <= m) (Mg:∀ r∈rows,r.length <= 1000) (aq:∀ r∈ws,r.length <= 1000) :
  Calls Tryz.prog 130 #[.agg (Ya L), .slice A n c, .slice B m d] w fun e w'=>∃ v,e= .returned v /\ RWd w' [v] (Oi L.p rows ws n) /\ Below w.heap.size w w':=by
 obtain ⟨vi,Ry,Sy,dC⟩:=Ve hr;obtain ⟨nt,-,-,hrb⟩:=Ve hs;have gm:=Kf Ry Sy;have jA:=zH (fun A B n c m d a b w ha hb hn hm=>WC L.p A B n c m d a b w hL.p ha hb hn hm)
 have HA:=zH (fun A B n c m d a b w ha hb hn hm=>Ex L.p A B n c m d a b w hL.p ha hb hn hm)
 have il:=zH (RF (p:=L.p) Mg aq);have lh:=zH Mg;have Hk:=zH aq;have zj:=zH (fun a b=>Dr L.p a b)
 obtain ⟨D,hD⟩:=zEX (Oi L.p rows ws);have Iv:=zH (show ∀ i,D (i+1)=Pe L.p (D i) (Be L.p (ws.getD i []) (rows.getD i [])) from fun i=>by rw [hD];rfl)
 rw [<- hD] at il |-;have Uz:=zH (show D 0=[] by rw [hD];rfl)
 have ay:=zH vi;have HNB:=zH nt;have HNM:=zH hnm;have HII:=zH (fun (i:Nat) (h:i<n)=>show (i:Int)<(m:Int) by omega)
 clear hD vi nt Ry Sy hL hr hs Mg aq hnm;unfold Ya at *;have kl:=Blk.new w 39 #[.int .u64 L.p, .int .i64 L.block, .int .i64 L.queries, .int .i64 L.k, .int .i64 L.n, .int .i64 L.secret, .int .i64 L.rows, .int .i64 L.a, .int .i64 L.b, .int .i64 L.b, .int .i64 L.b];have da:Below w.heap.size w (w.alloc (.cells #[.int .u64 L.p, .int .i64 L.block, .int .i64 L.queries, .int .i64 L.k, .int .i64 L.n, .int .i64 L.secret, .int .i64 L.rows, .int .i64 L.a, .int .i64 L.b, .int .i64 L.b, .int .i64 L.b] 39)):=(Below.refl _ _).alloc zR _;go_enter Tryz.func130,Tryz.ntmps130
 go_wp2_with fail
 generalize w.alloc _=w1 at kl da |-;go_loopw [7,8] (fun u y wr=>∃ (i:Nat) (v:Value),v=u /\ i <= n /\ y= .int .i64 i /\ RWd wr [v] (D i) /\ Blk wr w.heap.size 39 #[.int .u64 L.p, .int .i64 L.block, .int .i64 L.queries, .int .i64 L.k, .int .i64 L.n, .int .i64 L.secret, .int .i64 L.rows, .int .i64 L.a, .int .i64 L.b, .int .i64 L.b, .int .i64 L.b] /\ Below w.heap.size w wr) (fun _ y _=>n-(intOf y).toNat)
 case atStart=>exact ⟨0,_,rfl,Nat.zero_le _,rfl,by rw [Uz.out];exact GI _,kl,da⟩
 case round =>
  clear kl da;obtain ⟨i,v,rfl,hi,rfl,hv,kl,da⟩:=hrel;by_cases za:i<n
  ·have q1:(i:Int)<(n:Int):=by omega
   have q2:(0:Int) <= (i:Int):=by omega
   have q3:=HII.out i za;have Dn:i<rows.length:=by rw [ay.out];exact za
   have Gu:i<ws.length:=by rw [HNB.out];have:=HNM.out;omega
   obtain ⟨b1,Tl,A1,n1,c1,rfl,Hh,Lg,ud⟩:=vh dC Dn;obtain ⟨b2,Ht,A2,n2,c2,rfl,Ii,Xg,Qc⟩:=vh hrb Gu;have Wi:=zH (Iv.out i);rw [Sq Dn,Sq Gu] at Wi;have fj:=lh.out _ (List.getElem_mem Dn);have Ij:=Hk.out _ (List.getElem_mem Gu);obtain ⟨x,hx⟩:=zEX (rows[i]);obtain ⟨z,hz⟩:=zEX (ws[i]);rw [<- hx] at ud fj Wi;rw [<- hz] at Qc Ij Wi;have Jg:=zH (And.intro (Ra ud).1 fj);have fo:=zH (And.intro (Ra Qc).1 Ij);replace ud:=ta da ud;replace Qc:=ta da Qc;have Zn:=zH (il.out i);have HMi:=zH (zj.out z x);clear hx hz fj Ij;obtain ⟨Av,cv,rfl⟩:=Le hv;have Ds:=(da.cell (p:=⟨b1,Tl+i,none⟩) Hh).trans Lg;have Mn:b1<wr.heap.size:=Nat.lt_of_lt_of_le Hh da.size;have JA:=(da.cell (p:=⟨b2,Ht+i,none⟩) Ii).trans Xg;have Vo:b2<wr.heap.size:=Nat.lt_of_lt_of_le Ii da.size;have cl:=kl.cell;have ll:=kl.lt;go_upto_region 5 with fail
   refine Rc (Ib) [13,14] [0,1,2,3,4,5,6,7,8,9,10,11,12,13,14,15] (by kernel_rfl) (by kernel_rfl) ?_
   refine vd (xa) ?_;intro Wc Na ja;have ya:=Cc Na;replace kl:=ia kl ya;replace da:=oa da ya;replace hv:=ta ya hv;replace ud:=ta ya ud;replace Qc:=ta ya Qc;refine pb ?_;refine Mb (xa) rfl rfl rfl (fun _=>by go_simp <;> rfl) ((jA.out _ _ _ _ _ _ _ _ _ Qc ud (by have:=fo.out;omega) (by have:=Jg.out;omega)).mono ?_)
   rintro e w7 ⟨v7,rfl,h7,Wa⟩;refine ⟨_,rfl,Wa,?_⟩;replace ja:=(xa).trans _ _ _ ja (Wa);simp only [Act.put,zLa,zLb,zLc];replace kl:=ia kl Wa;replace da:=oa da Wa;replace hv:=ta Wa hv;obtain ⟨A7,c7,rfl⟩:=Le h7;refine pb ?_;refine Mb (xa) rfl rfl rfl (fun _=>by go_simp <;> rfl) ((HA.out _ _ _ _ _ _ _ _ _ hv h7 (by have:=Zn.out;omega) (by have:=Jg.out;have:=fo.out;have:=HMi.out;omega)).mono ?_)
   rintro e w8 ⟨v8,rfl,h8,je⟩;refine ⟨_,rfl,je,?_⟩;replace ja:=(xa).trans _ _ _ ja (je);simp only [Act.put,zLa,zLb,zLc];replace kl:=ia kl je;replace da:=oa da je;refine pb ?_;refine Fc ?_;rw [<- Wi.out] at h8;clear ya Wa je ja Na Ds JA Mn Vo cl ll h7 hv ud Qc;go_wp2_with fail
   go_roundw
   case rel=>exact ⟨i+1,_,rfl,by omega,by go_num,h8,kl,da⟩
   case measure=>simp [intOf];omega
  ·obtain rfl:i=n:=by omega
   have q1:¬((i:Int)<(i:Int)):=by omega
   go_wp2;go_ret
   exact ⟨_,rfl,hv,da⟩
theorem nS (L:Ja) (A:Option Addr) (n c be:Nat) (rows:List (List Nat)) (w:World) (hL:Db L) (hr:Sb w [.slice A n c] rows) (Mg:∀ r∈rows,r.length <= 1000) (hn:L.a+L.b+L.b+L.b=n) :
  Calls Tryz.prog 132 #[.agg (Ya L), .slice A n c, .int .u64 be] w fun e w'=>∃ v,e= .returned v /\ RWd w' [v] (bh L.p L.a L.b rows be L.b) /\ Below w.heap.size w w':=by
 obtain ⟨vi,Ry,Sy,dC⟩:=Ve hr;have gm:=Kf Ry Sy;have Jl:=hL.a;have Lw:=hL.b;have HM:=zH (fun x y w=>Rn L.p x y w hL.p)
 have jA:=zH (fun A B n c m d a b w ha hb hn hm=>WC L.p A B n c m d a b w hL.p ha hb hn hm)
 have HSu:=zH (fun A B n c m d a b w ha hb hn hm=>BS L.p A B n c m d a b w hL.p ha hb hn hm)
 have sA:=zH (fun A n c s l w hl hn=>nE L.p A n c s l w hL.p hl hn)
 have HA:=zH (fun A B n c m d a b w ha hb hn hm=>Ex L.p A B n c m d a b w hL.p ha hb hn hm)
 have il:=zH (YF (p:=L.p) (a:=L.a) (b:=L.b) (be:=be) Mg);have lh:=zH Mg;have Hk:=zH (fun a s=>uq L.p a s)
 have zj:=zH (fun a b=>Dr L.p a b)
 have HSuL:=zH (fun a b=>YM L.p a b)
 obtain ⟨D,hD⟩:=zEX (bh L.p L.a L.b rows be);obtain ⟨P,hP⟩:=zEX (yg L.p be);obtain ⟨y,hy⟩:=zEX (L.a+L.b);obtain ⟨z,hz⟩:=zEX (L.a+L.b+L.b);have Iv:=zH (show ∀ i,D (i+1)=Pe L.p (D i) (xh L.p (yj L.p (Be L.p (rows.getD (L.a+i) []) (rows.getD (y+i) [])) (rows.getD (z+i) [])) (P (i+1))) from fun i=>by rw [hD,hP,hy,hz];rfl)
 rw [<- hD] at il |-;have Uz:=zH (show D 0=[] by rw [hD];rfl)
 have Xi:=zH (show P 0=1 by rw [hP];rfl)
 have Xj:=zH (show ∀ i,P (i+1)=P i*be%L.p from fun i=>by rw [hP];rfl)
 have e1:(L.a:Int)+(L.b:Int)=(y:Int):=by omega
 have e2:=Yb y;have e3:(y:Int)+(L.b:Int)=(z:Int):=by omega
 have e4:=Yb z;have ay:=zH vi;have Yx:=zH (show ∀ i,i<L.b -> L.a+i<n /\ y+i<n /\ z+i<n /\ n <= 400000 from fun i hi=>by omega)
 have gb:(L.b:Int) <= 100000:=by omega
 clear hD hP vi Ry Sy hL hr Mg hy hz Jl Lw hn;unfold Ya at *;have kl:=Blk.new w 39 #[.int .u64 L.p, .int .i64 L.block, .int .i64 L.queries, .int .i64 L.k, .int .i64 L.n, .int .i64 L.secret, .int .i64 L.rows, .int .i64 L.a, .int .i64 L.b, .int .i64 L.b, .int .i64 L.b];have da:Below w.heap.size w (w.alloc (.cells #[.int .u64 L.p, .int .i64 L.block, .int .i64 L.queries, .int .i64 L.k, .int .i64 L.n, .int .i64 L.secret, .int .i64 L.rows, .int .i64 L.a, .int .i64 L.b, .int .i64 L.b, .int .i64 L.b] 39)):=(Below.refl _ _).alloc zR _;go_enter Tryz.func132,Tryz.ntmps132
 go_upto_region 2 with fail
 generalize w.alloc _=w1 at kl da |-;have cl:=kl.cell;go_wp2_with fail
 clear cl;go_loopw [7,11,12] (fun u b t wr=>∃ (i:Nat) (v:Value),v=u /\ i <= L.b /\ t= .int .i64 i /\ b= .int .u64 (P i:Int) /\ RWd wr [v] (D i) /\ Blk wr w.heap.size 39 #[.int .u64 L.p, .int .i64 L.block, .int .i64 L.queries, .int .i64 L.k, .int .i64 L.n, .int .i64 L.secret, .int .i64 L.rows, .int .i64 L.a, .int .i64 L.b, .int .i64 L.b, .int .i64 L.b] /\ Below w.heap.size w wr) (fun _ _ t _=>L.b-(intOf t).toNat)
 case atStart=>exact ⟨0,_,rfl,Nat.zero_le _,rfl,by rw [Xi.out];rfl,by rw [Uz.out];exact GI _,kl,da⟩
 case round =>
  clear kl da;obtain ⟨i,v,rfl,hi,rfl,rfl,hv,kl,da⟩:=hrel;by_cases za:i<L.b
  ·have q1:(i:Int)<(L.b:Int):=by omega
   obtain ⟨h1,h2,h3,h4⟩:=Yx.out i za;obtain ⟨j1,hj1⟩:=zEX (L.a+i);obtain ⟨j2,yk⟩:=zEX (y+i);obtain ⟨j3,Kw⟩:=zEX (z+i);have Wi:=zH (Iv.out i);rw [<- hj1,<- yk,<- Kw] at Wi;rw [<- hj1] at h1;rw [<- yk] at h2;rw [<- Kw] at h3;have f1:(L.a:Int)+(i:Int)=(j1:Int):=by omega
   have f2:(y:Int)+(i:Int)=(j2:Int):=by omega
   have f3:(z:Int)+(i:Int)=(j3:Int):=by omega
   have f4:=Yb j1;have f5:=Yb j2;have f6:=Yb j3;have r1:(0:Int) <= (j1:Int):=by omega
   have r2:(0:Int) <= (j2:Int):=by omega
   have r3:(0:Int) <= (j3:Int):=by omega
   have r4:(j1:Int)<(n:Int):=by omega
   have r5:(j2:Int)<(n:Int):=by omega
   have r6:(j3:Int)<(n:Int):=by omega
   clear hj1 yk Kw h4;have g1:j1<rows.length:=by rw [ay.out];exact h1
   have g2:j2<rows.length:=by rw [ay.out];exact h2
   have g3:j3<rows.length:=by rw [ay.out];exact h3
   obtain ⟨b1,Tl,A1,n1,c1,rfl,Wb,Lg,ud⟩:=vh dC g1;obtain ⟨b2,Ht,A2,n2,c2,hA,-,Xg,Qc⟩:=vh dC g2
   injection hA with hA;injection hA with hA1 hA2 hA3;subst hA1 hA2
   obtain ⟨b3,q3',A3,n3,c3,hA,-,Hl,jf⟩:=vh dC g3
   injection hA with hA;injection hA with hA1 hA2 hA3;subst hA1 hA2
   rw [Sq g1,Sq g2,Sq g3] at Wi;have Ur:=zH (Xj.out i);have fj:=lh.out _ (List.getElem_mem g1);have Ij:=lh.out _ (List.getElem_mem g2);have hl3:=lh.out _ (List.getElem_mem g3);obtain ⟨x1,Oc⟩:=zEX (rows[j1]);obtain ⟨x2,ye⟩:=zEX (rows[j2]);obtain ⟨x3,To⟩:=zEX (rows[j3]);rw [<- Oc] at ud fj Wi;rw [<- ye] at Qc Ij Wi;rw [<- To] at jf hl3 Wi;have Jg:=zH (And.intro (Ra ud).1 fj);have fo:=zH (And.intro (Ra Qc).1 Ij);have au:=zH (And.intro (Ra jf).1 hl3);replace ud:=ta da ud;replace Qc:=ta da Qc;replace jf:=ta da jf;obtain ⟨y0,Mj⟩:=zEX (P i);obtain ⟨y1,Ee⟩:=zEX (P (i+1));rw [<- Mj,<- Ee] at Ur;rw [<- Ee] at Wi;rw [<- Mj];have BA:=zH Ee;have yd:Hid (∀ w:World,Calls Tryz.prog 184 #[.int .u64 L.p, .int .u64 y0, .int .u64 be] w fun e w'=>e= .returned (.int .u64 y1) /\ Below w.heap.size w w'):=zH (fun w=>by rw [Ur.out];exact HM.out y0 be w)
   have Zn:=zH (il.out i);have HMi:=zH (zj.out x1 x2);obtain ⟨xy,hxy⟩:=zEX (Be L.p x1 x2);rw [<- hxy] at HMi Wi;have jy:=zH (HSuL.out xy x3);obtain ⟨gp,hgp⟩:=zEX (yj L.p xy x3);rw [<- hgp] at jy Wi;have HTi:=zH (Hk.out gp y1);have HXY:=zH hxy;have HGP:=zH hgp;clear Oc ye To Mj Ee fj Ij hl3 hxy hgp;obtain ⟨Av,cv,rfl⟩:=Le hv;have cl:=kl.cell;have ll:=kl.lt;go_wp2_with fail
   refine (yd.out _).mono ?_;rintro e w6 ⟨rfl,ea⟩;replace kl:=ia kl ea;replace da:=oa da ea;replace hv:=ta ea hv;replace ud:=ta ea ud;replace Qc:=ta ea Qc;replace jf:=ta ea jf;clear ea cl ll;have Ds:=(da.cell (p:=⟨b1,Tl+j1,none⟩) Wb).trans Lg;have JA:=(da.cell (p:=⟨b1,Tl+j2,none⟩) Wb).trans Xg;have cc3:=(da.cell (p:=⟨b1,Tl+j3,none⟩) Wb).trans Hl;have Mn:b1<w6.heap.size:=Nat.lt_of_lt_of_le Wb da.size;have cl:=kl.cell;have ll:=kl.lt;go_upto_region 10 with fail
   refine Rc (Ib) [16,23] [0,1,2,3,4,5,6,7,8,9,10,11,12,13,14,15,17,18,19,20,21,22,16,23,24] (by kernel_rfl) (by kernel_rfl) ?_
   refine vd (xa) ?_;intro Wc Na ja;have ya:=Cc Na;replace kl:=ia kl ya;replace da:=oa da ya;replace hv:=ta ya hv;replace ud:=ta ya ud;replace Qc:=ta ya Qc;replace jf:=ta ya jf;refine pb ?_;refine Mb (xa) rfl rfl rfl (fun _=>by go_simp <;> rfl) ((jA.out _ _ _ _ _ _ _ _ _ ud Qc (by have:=Jg.out;omega) (by have:=fo.out;omega)).mono ?_)
   rintro e w7 ⟨v7,rfl,h7,Wa⟩;refine ⟨_,rfl,Wa,?_⟩;replace ja:=(xa).trans _ _ _ ja (Wa);simp only [Act.put,zLa,zLb,zLc];replace kl:=ia kl Wa;replace da:=oa da Wa;replace hv:=ta Wa hv;replace jf:=ta Wa jf;rw [<- HXY.out] at h7;obtain ⟨A7,c7,rfl⟩:=Le h7;refine pb ?_;refine Mb (xa) rfl rfl rfl (fun _=>by go_simp <;> rfl) ((HSu.out _ _ _ _ _ _ _ _ _ h7 jf (by have:=HMi.out;have:=Jg.out;have:=fo.out;omega) (by have:=au.out;omega)).mono ?_)
   rintro e w8 ⟨v8,rfl,h8,je⟩;refine ⟨_,rfl,je,?_⟩;replace ja:=(xa).trans _ _ _ ja (je);simp only [Act.put,zLa,zLb,zLc];replace kl:=ia kl je;replace da:=oa da je;replace hv:=ta je hv;refine pb ?_;refine Fc ?_;rw [<- HGP.out] at h8;obtain ⟨A8,c8,rfl⟩:=Le h8;clear ya Wa je ja Na Ds JA cc3 Mn cl ll h7 ud Qc jf;have cl:=kl.cell;have ll:=kl.lt;go_upto_region 11 with fail
   refine Rc (Ib) [7,8] [0,1,2,3,4,5,6,7,8,9] (by kernel_rfl) (by kernel_rfl) ?_
   refine vd (xa) ?_;intro Wc Na ja;have ya:=Cc Na;replace kl:=ia kl ya;replace da:=oa da ya;replace hv:=ta ya hv;replace h8:=ta ya h8;refine pb ?_;refine Mb (xa) rfl rfl rfl (fun _=>by go_simp <;> rfl) ((sA.out _ _ _ _ _ _ h8 (by have:=jy.out;have:=HMi.out;have:=Jg.out;have:=fo.out;have:=au.out;omega)).mono ?_)
   rintro e w9 ⟨v9,rfl,h9,Ke⟩;refine ⟨_,rfl,Ke,?_⟩;replace ja:=(xa).trans _ _ _ ja (Ke);simp only [Act.put,zLa,zLb,zLc];replace kl:=ia kl Ke;replace da:=oa da Ke;replace hv:=ta Ke hv;obtain ⟨A9,c9,rfl⟩:=Le h9;refine pb ?_;refine Mb (xa) rfl rfl rfl (fun _=>by go_simp <;> rfl) ((HA.out _ _ _ _ _ _ _ _ _ hv h9 (by have:=Zn.out;omega) (by have:=HTi.out;have:=jy.out;have:=HMi.out;have:=Jg.out;have:=fo.out;have:=au.out;omega)).mono ?_)
   rintro e Sm ⟨v10,rfl,h10,ui⟩;refine ⟨_,rfl,ui,?_⟩;replace ja:=(xa).trans _ _ _ ja (ui);simp only [Act.put,zLa,zLb,zLc];replace kl:=ia kl ui;replace da:=oa da ui;refine pb ?_;refine Fc ?_;rw [<- Wi.out] at h10;clear ya Ke ui ja Na cl ll h8 h9 hv;go_wp2_with fail
   go_roundw
   case rel=>exact ⟨i+1,_,rfl,by omega,by go_num,by rw [BA.out],h10,kl,da⟩
   case measure=>simp [intOf];omega
  ·obtain rfl:i=L.b:=by omega
   have q1:¬((L.b:Int)<(L.b:Int)):=by omega
   have cl:=kl.cell;have ll:=kl.lt;go_wp2;go_ret
   exact ⟨_,rfl,hv,da⟩
theorem IZ (L:Ja) (t1 t2:Nat) (w:World) (hL:Db L) (h1:t1=L.k+L.block-1) (h2:t2=2*L.k-1) :
  Calls Tryz.prog 88 #[.agg (Ya L)] w fun e w'=>e= .returned (.agg #[.int .i64 L.k, .int .i64 t1, .int .i64 t2]) /\ Below w.heap.size w w':=by
 have Ga:=hL.b1;have Ka:=hL.b2;have Xf:=hL.q1;have Sg:=hL.q2;have hk:=hL.k;obtain ⟨t3,ht3⟩:=zEX (L.k+L.block);obtain ⟨t4,ht4⟩:=zEX (2*L.k);have e1:(L.k:Int)+(L.block:Int)=(t3:Int):=by omega
 have e2:=Yb t3;have e3:(t3:Int)-1=(t1:Int):=by omega
 have e4:=Yb t1;have e5:(2:Int)*(L.k:Int)=(t4:Int):=by omega
 have e6:=Yb t4;have e7:(t4:Int)-1=(t2:Int):=by omega
 have e8:=Yb t2;clear Ga Ka Xf Sg hk ht3 ht4 h1 h2 hL;unfold Ya;obtain ⟨kl,ka,da,-⟩:=Ue w 39 168 #[.int .u64 L.p, .int .i64 L.block, .int .i64 L.queries, .int .i64 L.k, .int .i64 L.n, .int .i64 L.secret, .int .i64 L.rows, .int .i64 L.a, .int .i64 L.b, .int .i64 L.b, .int .i64 L.b] #[.int .i64 0, .int .i64 0, .int .i64 0];go_enter Tryz.func88,Tryz.ntmps88
 go_upto_region 1 with fail
 generalize (w.alloc _).alloc _=w1 at kl ka da |-;have Ds:=kl.cell;obtain ⟨JA,f2⟩:=ka.cells';have l1:=kl.lt;have l2:=ka.lt;go_wp2_with fail
 have k3:=Lr ka (.int .i64 L.k) (.int .i64 t1) (.int .i64 t2);have hg:=vq (w:=w1) (g:=w.heap.size+1) (.int .i64 L.k) (.int .i64 t1) (.int .i64 t2);replace da:=Pb da hg;revert k3 da
 generalize ((World.setCell _ _ _).setCell _ _).setCell _ _=wf;intro k3 da;have c4:=k3.cell;exact bodyPost_ret (v:=.agg #[.int .i64 L.k, .int .i64 t1, .int .i64 t2]) (by simp [results,Tryz.results88,go_sem,c4]) rfl ⟨rfl,da⟩
def tE (p:Nat) (a b:List (List Nat)):Nat -> Nat
 | 0=>0
 | k+1=>(tE p a b k+bH p (a.getD k []) (b.getD k []) (a.getD k []).length)%p
end Go.Proofs.YtgeofabpinfcmaaGreat
