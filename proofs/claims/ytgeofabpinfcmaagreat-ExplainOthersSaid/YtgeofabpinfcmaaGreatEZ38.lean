/- A part of the proof. No condition. -/
import Derived.Test.YtgeofabpinfcmaaGreatProg
import Derived.Test.YtgeofabpinfcmaaGreatEZ36
import Derived.Test.YtgeofabpinfcmaaGreatEZ34
import Derived.Test.YtgeofabpinfcmaaGreatEZ32
import Derived.Test.YtgeofabpinfcmaaGreatEZ30

set_option maxRecDepth 100000
set_option maxHeartbeats 8000000
set_option linter.unusedVariables false
set_option linter.unusedSimpArgs false
namespace Go.Proofs.YtgeofabpinfcmaaGreat
open Go.RowKit
def tD (B:Nat) (w0:World) (cs:List Value) (l:List (List Nat)):Prop:=cs.length=l.length /\ ∀ (i:Nat) (h1:i<cs.length) (h2:i<l.length),Jc B none w0 cs[i] l[i]
theorem mR (B:Nat) (w0:World):tD B w0 [] []:=⟨rfl,fun i h=>by simp at h⟩
theorem kR {B:Nat} {w0:World} {cs:List Value} {l:List (List Nat)} {x:Value} {y:List Nat} (h:tD B w0 cs l) (hx:Jc B none w0 x y):tD B w0 (cs++[x]) (l++[y]):=by
 obtain ⟨h1,h2⟩:=h;refine ⟨by simp [h1],fun i h3 h4=>?_⟩
 by_cases hi:i<cs.length
 ·rw [List.getElem_append_left hi,List.getElem_append_left (by omega)]
  exact h2 i hi (by omega)
 ·have e:i=cs.length:=by simp at h3;omega
  subst e;simp only [List.getElem_append_right zR,Nat.sub_self,List.getElem_cons_zero];rw [List.getElem_append_right (by omega)]
  simp only [h1,Nat.sub_self,List.getElem_cons_zero];exact hx
theorem lR {B:Nat} {w0 w:World} {base n:Nat} {e:TypeId} {v:Value} {cs:List Value} {l:List (List Nat)} (h:tD B w0 cs l) (hs:w0.heap.size <= w.heap.size) (hw:∀ b,B <= b -> b<w0.heap.size -> w.heap[b]?=w0.heap[b]?) (ho:w.ownsRow base e 1 v n cs) (VD:w0.heap.size <= base) (hB:B <= w0.heap.size):RRx B w v l:=by
 refine qE (N:=B) ⟨h.1,fun i h1 h2 u hu=>?_⟩ ho zR (by omega)
 refine h.2 i h1 h2 u fun b b1 b2 _=>(hu b b1 (by omega) fun e2=>?_).trans (hw b b1 b2)
 have:=(ho.lt b e2.symm).1;omega
theorem p5 {w:World} {g:Nat} {t:TypeId} {y0 y1 y2 y3:Value} (k:Blk w g t #[y0,y1,y2,y3]) (x0 x1 x2 x3:Value):Blk ((((w.setCell ⟨g,0,none⟩ x0).setCell ⟨g,1,none⟩ x1).setCell ⟨g,2,none⟩ x2).setCell ⟨g,3,none⟩ x3) g t #[x0,x1,x2,x3]:=by
 have h:=((((k.set_ 0 x0).set_ 1 x1).set_ 2 x2).set_ 3 x3)
 simpa using h
theorem u5 {w:World} {g:Nat} (x0 x1 x2 x3:Value):w.grownBy ((((w.setCell ⟨g,0,none⟩ x0).setCell ⟨g,1,none⟩ x1).setCell ⟨g,2,none⟩ x2).setCell ⟨g,3,none⟩ x3) (some g):=by
 iterate 4 refine mh ?_ (.inl rfl) _
 exact Hf w _
theorem GO (L:Ja) (m r:List (List Nat)) (co li qu:List Nat) (pos:List Int) {i:Nat} (hi:i<pos.length):Ie L m r co li qu (pos.take i)++[Hp L m r co li qu (pos.getD i 0)]=Ie L m r co li qu (pos.take (i+1)):=by
 unfold Ie;rw [List.take_succ_eq_append_getElem hi,List.map_append,List.getD_eq_getElem?_getD,List.getElem?_eq_getElem hi]
 rfl
theorem uS (A0 A1 A2 A3 B0 B1 B2 B3:Option Addr) (n0 c0 n1 c1 n2 c2 n3 c3 m0 d0 m1 d1 m2 d2 m3 d3:Nat) (x0 x1 x2 y0 y1 y2:List Nat) (r s:List (List Nat)) (w:World)
  (h0:RWd w [.slice A0 n0 c0] x0) (h1:RWd w [.slice A1 n1 c1] x1) (h2:RWd w [.slice A2 n2 c2] x2) (h3:Sb w [.slice A3 n3 c3] r)
  (k0:RWd w [.slice B0 m0 d0] y0) (k1:RWd w [.slice B1 m1 d1] y1) (k2:RWd w [.slice B2 m2 d2] y2) (k3:Sb w [.slice B3 m3 d3] s) :
  Calls Tryz.prog 16 #[.agg #[.slice A0 n0 c0, .slice A1 n1 c1, .slice A2 n2 c2, .slice A3 n3 c3], .agg #[.slice B0 m0 d0, .slice B1 m1 d1, .slice B2 m2 d2, .slice B3 m3 d3]] w fun e w'=>e= .returned (.bool (decide (x0=y0)&&(decide (x1=y1)&&(decide (x2=y2)&&decide (r=s))))) /\ Below w.heap.size w w':=by
 have qo:=zH (fun w' (hb:Below w.heap.size w w')=>Fx A0 B0 n0 c0 m0 d0 x0 y0 w' (ta hb h0) (ta hb k0))
 have Ef:=zH (fun w' (hb:Below w.heap.size w w')=>Fx A1 B1 n1 c1 m1 d1 x1 y1 w' (ta hb h1) (ta hb k1))
 have Th:=zH (fun w' (hb:Below w.heap.size w w')=>Fx A2 B2 n2 c2 m2 d2 x2 y2 w' (ta hb h2) (ta hb k2))
 have gy:=zH (fun w' (hb:Below w.heap.size w w')=>tS A3 B3 n3 c3 m3 d3 r s w' (Gb hb h3) (Gb hb k3))
 obtain ⟨ka,kb,da,Nb⟩:=Ue w 56 56 #[.slice A0 n0 c0, .slice A1 n1 c1, .slice A2 n2 c2, .slice A3 n3 c3] #[.slice B0 m0 d0, .slice B1 m1 d1, .slice B2 m2 d2, .slice B3 m3 d3];clear h0 h1 h2 h3 k0 k1 k2 k3;obtain ⟨ans,ha⟩:=zEX ((decide (x0=y0)&&(decide (x1=y1)&&(decide (x2=y2)&&decide (r=s)))));rw [<- ha];generalize decide (x0=y0)=b0 at *;generalize decide (x1=y1)=b1 at *;generalize decide (x2=y2)=b2 at *;generalize decide (r=s)=b3 at *;have HA:=zH ha;clear ha;go_enter Tryz.func16,Tryz.ntmps16
 go_upto_region 1 with fail
 generalize (w.alloc _).alloc _=w3 at ka kb da Nb |-;clear Nb;have ca:=ka.cell;have cb:=kb.cell;have pA:=zH (qo.out _ da);cases b0
 ·have HF:=zH (show ans=false by rw [HA.out];rfl)
  go_wp2_with fail
  refine pA.out.mono ?_;rintro e v ⟨rfl,hb⟩;go_wp2;go_ret
  exact ⟨by rw [HF.out];rfl,oa da hb⟩
 go_wp2_with fail
 refine pA.out.mono ?_;rintro e v0 ⟨rfl,hb⟩;replace ka:=ia ka hb;replace kb:=ia kb hb;replace da:=oa da hb;clear ca cb hb pA qo;have ca:=ka.cell;have cb:=kb.cell;have qA:=zH (Ef.out _ da);cases b1
 ·have HF:=zH (show ans=false by rw [HA.out];rfl)
  go_wp2_with fail
  refine qA.out.mono ?_;rintro e v ⟨rfl,hb⟩;go_wp2;go_ret
  exact ⟨by rw [HF.out];rfl,oa da hb⟩
 go_wp2_with fail
 refine qA.out.mono ?_;rintro e v1 ⟨rfl,hb⟩;replace ka:=ia ka hb;replace kb:=ia kb hb;replace da:=oa da hb;clear ca cb hb qA Ef;have ca:=ka.cell;have cb:=kb.cell;have rA:=zH (Th.out _ da);cases b2
 ·have HF:=zH (show ans=false by rw [HA.out];rfl)
  go_wp2_with fail
  refine rA.out.mono ?_;rintro e v ⟨rfl,hb⟩;go_wp2;go_ret
  exact ⟨by rw [HF.out];rfl,oa da hb⟩
 go_wp2_with fail
 refine rA.out.mono ?_;rintro e v2 ⟨rfl,hb⟩;replace ka:=ia ka hb;replace kb:=ia kb hb;replace da:=oa da hb;clear ca cb hb rA Th;have ca:=ka.cell;have cb:=kb.cell;have FE:=zH (gy.out _ da);have HF:=zH (show ans=b3 by rw [HA.out];rfl)
 go_wp2_with fail
 refine FE.out.mono ?_;rintro e v3 ⟨rfl,hb⟩;go_wp2;go_ret
 exact ⟨by rw [HF.out];simp,oa da hb⟩
theorem xS (L:Ja) (pu rho al be:Nat) (vars:Int) (A B P D0 D1 D2 D3 D4:Option Addr) (R c m d np cp n0 n1 n2 n3 n4 k0 k1 k2 k3 k4:Nat) (rows:List Cb) (ws:List Nat) (r:List (List Nat)) (co li qu:List Nat) (pos:List Int) (w:World)
  (hL:Db L) (hF:xl L pu vars rows) (hr:RSl 3 te w [.slice A R c] rows) (hV:mn vars rows) (tj:rows.length <= 16384) (hw:RWd w [.slice B m d] ws) (Jm:1+pu <= ws.length)
  (h0:Sb w [.slice D0 n0 k0] r) (h1:RWd w [.slice D1 n1 k1] co) (h2:RWd w [.slice D2 n2 k2] li) (h3:RWd w [.slice D3 n3 k3] qu)
  (Ta:Kg L (Ia L rows ws pu) r) (Us:co.length=L.k) (Vf:li.length=L.k+L.block-2) (Vs:qu.length=L.block+2*L.queries-1) (hpos:qi w [.slice P np cp] pos) (Bf:se L.n L.queries pos=true) :
  Calls Tryz.prog 17 #[.agg (Ya L),pc L.p (pu:Int) vars (.slice A R c), .slice B m d, .agg #[.slice D0 n0 k0, .slice D1 n1 k1, .slice D2 n2 k2, .slice D3 n3 k3, .slice D4 n4 k4], .agg #[.int .u64 al, .int .u64 rho, .int .u64 be], .slice P np cp] w fun e w'=>∃ v0 v1 v2 v3,e= .returned (.agg #[v0,v1,v2,v3]) /\
   Jc w.heap.size none w' v0 (Pd L (Ia L rows ws pu) r co al) /\ Jc w.heap.size none w' v1 (Nc L (Tc L pu rho rows) (Ia L rows ws pu) r li) /\ Jc w.heap.size none w' v2 (pd L (Ia L rows ws pu) r qu be) /\ RRx w.heap.size w' v3 (Ie L (Ia L rows ws pu) r co li qu pos) /\ Below w.heap.size w w':=by
 have hp:=Va hL.p;have Sg:=hL.q2;have Ka:=hL.b2;have tg:=hL.k;have yn:L.a+L.b+L.b+L.b <= 400000:=by have:=hL.a;have:=hL.b;omega
 have Ud:=Ta.ml;have HM:=zH (fun w' (hb:Below w.heap.size w w')=>KZ L pu vars A B R c m d rows ws w' hL (Kc Gc _ _ _ _ hb hr) (ta hb hw) Jm tj)
 have HC:=zH (fun AM nM cM w' (hb:Below w.heap.size w w') (hm:Sb w' [.slice AM nM cM] (Ia L rows ws pu))=>sZ L D0 D1 D2 D3 D4 AM n0 n1 n2 n3 n4 nM k0 k1 k2 k3 k4 cM (Ia L rows ws pu) r co li qu w' hL hm (Gb hb h0) (ta hb h1) (ta hb h2) (ta hb h3) Ta.rl.symm Ta.mr (fun x hx=>by have:=Ta.rr x hx;omega) (by omega) (by omega) (by omega))
 have HA:=zH (fun AM nM cM w' (hb:Below w.heap.size w w') (hm:Sb w' [.slice AM nM cM] (Ia L rows ws pu))=>pZ L pu rho al be vars A AM D0 D1 D2 D3 D4 R c nM cM n0 n1 n2 n3 n4 k0 k1 k2 k3 k4 rows (Ia L rows ws pu) r co li qu w' hL hF (Kc Gc _ _ _ _ hb hr) hV hm (Gb hb h0) (ta hb h1) (ta hb h2) (ta hb h3) Ta Us Vf Vs)
 have Mo:=WY hL (co:=co) (li:=li) Ta.rl.symm Ta.mr Ta.rr Vs;have Jh:(Ge L (Ia L rows ws pu) r co li qu).length=(Ia L rows ws pu).length+3:=by simp [Ge,dp]
 have hce:=oV hL (Ge L (Ia L rows ws pu) r co li qu) Jh;rw [Mo,<- hce] at HC;obtain ⟨M,hM⟩:=zEX (Ia L rows ws pu);rw [<- hM] at HM HC HA Ud |-;have bn:=zH (show ∀ x∈Pd L M r co al,x<18446744073709551616 from NH fun i=>by rw [PE];exact Nat.lt_trans (Nat.mod_lt _ (by omega)) hp.2)
 have Ei:=zH (show ∀ x∈Nc L (Tc L pu rho rows) M r li,x<18446744073709551616 from NH fun i=>by rw [QE];exact Nat.lt_trans (Nat.mod_lt _ (by omega)) hp.2)
 have HX3:=zH (show ∀ x∈pd L M r qu be,x<18446744073709551616 from NH fun i=>by rw [RE];exact Nat.lt_trans (Nat.mod_lt _ (by omega)) hp.2)
 have Sx:=zH (fun i (hi:i<pos.length)=>GO L M r co li qu pos hi)
 have Cp:=zH (fun i (hi:i<pos.length)=>Fz Bf hi)
 have hpl2:=Jr Bf;obtain ⟨CC,tw⟩:=zEX ((List.range L.n).map fun i=>(List.range (M.length+3)).map (Bg L (Ge L M r co li qu) i))
 have Yn:=zH (show CC.length=L.n by rw [tw];simp)
 have Yt:=zH (show ∀ z (hz:z<CC.length),CC[z]=Hp L M r co li qu (z:Int) from fun z hz=>by subst tw;simp [Hp])
 rw [<- tw] at HC;have HPI:=zH hpos;have Kl:pos.length=np:=by
  obtain ⟨A',n',c',he,r1,-⟩:=hpos;simp at he
  obtain ⟨-,rfl,-⟩:=he;exact r1
 have hCT:Hid (Ie L M r co li qu (pos.take pos.length)=Ie L M r co li qu pos):=zH (by rw [List.take_length])
 have hC0:Ie L M r co li qu (pos.take 0)=[]:=rfl;have gnp:(np:Int) <= 64:=by omega
 have hLn:=hL.n2;have gLn:(L.n:Int) <= 1024:=by omega
 obtain ⟨CA,uu⟩:∃ CA:Nat -> List (List Nat),CA=fun i=>Ie L M r co li qu (pos.take i):=⟨_,rfl⟩
 have HCA:=zH uu;have Rx:=zH (show CA 0=[] by rw [uu];exact hC0)
 have mJ:=zH (show ∀ i,i<np -> ∀ z (hz:z<CC.length),pos.getD i 0=(z:Int) -> CA i++[CC[z]]=CA (i+1) from fun i hi z hz he=>by
  rw [uu,Yt.out z hz,<- he];exact Sx.out i (by omega))
 have xG:=zH (show CA np=Ie L M r co li qu pos by rw [uu,<- Kl];exact hCT.out)
 rw [<- xG.out];subst Kl;obtain ⟨N1,Fh⟩:=zEX (Pd L M r co al);obtain ⟨N2,ve⟩:=zEX (Nc L (Tc L pu rho rows) M r li);obtain ⟨N3,rk⟩:=zEX (pd L M r qu be);rw [<- Fh] at bn HA |-;rw [<- ve] at Ei HA |-;rw [<- rk] at HX3 HA |-;clear hM Ta Us Vf Vs hpos Bf tw hce Mo Jh hL hF hr hV hw Jm h0 h1 h2 h3 hp Sg Ka tg yn Ud Sx Yt hCT hC0 hLn uu tj hpl2 Fh ve rk;unfold Ya pc at *;obtain ⟨kl,kt,kc,kx,ka,da,-⟩:=zD w 39 25 42 32 56 #[.int .u64 L.p, .int .i64 L.block, .int .i64 L.queries, .int .i64 L.k, .int .i64 L.n, .int .i64 L.secret, .int .i64 L.rows, .int .i64 L.a, .int .i64 L.b, .int .i64 L.b, .int .i64 L.b] #[.int .u64 L.p, .int .i64 pu, .int .i64 vars, .slice A R c] #[.slice D0 n0 k0, .slice D1 n1 k1, .slice D2 n2 k2, .slice D3 n3 k3, .slice D4 n4 k4] #[.int .u64 al, .int .u64 rho, .int .u64 be] #[.slice none 0 0, .slice none 0 0, .slice none 0 0, .slice none 0 0];go_enter Tryz.func17,Tryz.ntmps17
 go_upto_region 1 with fail
 generalize ((((w.alloc _).alloc _).alloc _).alloc _).alloc _=w1 at kl kt kc kx ka da |-;have cl:=kl.cell;have ct:=kt.cell;go_wp2_with fail
 refine (HM.out _ da).mono ?_;rintro e w2 ⟨v,rfl,hm,ea⟩;obtain ⟨AM,nM,cM,rfl⟩:=RSl.slc hm;replace kl:=ia kl ea;replace kt:=ia kt ea;replace kc:=ia kc ea;replace kx:=ia kx ea;replace ka:=ia ka ea;replace da:=oa da ea;clear ea cl ct HM;have cl:=kl.cell;have cc:=kc.cell;go_wp2_with fail
 refine (HC.out _ _ _ _ da hm).mono ?_;rintro e w3 ⟨nC,v,csC,rfl,hoC,az,ea⟩;have Dw:=qE az hoC zR zR;obtain ⟨AC,cC,rfl,-⟩:=Ob hoC;have hNB:=ea.size;obtain ⟨NB,AB⟩:=zEX (w2.heap.size);have haB:w.heap.size+4<NB:=by rw [AB];exact ka.lt
 rw [<- AB] at Dw hNB;clear hoC az AB;replace kl:=ia kl ea;replace kt:=ia kt ea;replace kc:=ia kc ea;replace kx:=ia kx ea;replace ka:=ia ka ea;replace da:=oa da ea;replace hm:=Gb ea hm;clear ea cl cc HC;have cl:=kl.cell;have ct:=kt.cell;have cc:=kc.cell;have cx:=kx.cell;go_wp2_with fail
 refine (HA.out _ _ _ _ da hm).mono ?_;rintro e w4 ⟨v1,v2,v3,rfl,o1,o2,o3,ea⟩;have Jn:=kl.lt;have hsa:=ka.lt;have yt:=Below.refl w3.heap.size w3;replace kl:=ia kl ea;replace ka:=ia ka ea;replace da:=oa da ea;replace yt:=oa yt ea;clear ea cl ct cc cx HA hm kt kc kx Jn;obtain ⟨E0,d0,rfl,-⟩:=Ob o1;obtain ⟨E1,d1,rfl,-⟩:=Ob o2;obtain ⟨E2,d2,rfl,-⟩:=Ob o3;go_upto_region 4 with fail
 have kb:=Blk.new w4 56 #[.slice E0 N1.length d0, .slice E1 N2.length d1, .slice E2 N3.length d2, .slice none 0 0];have ma:=(Below.refl w4.heap.size w4).alloc zR (.cells #[.slice E0 N1.length d0, .slice E1 N2.length d1, .slice E2 N3.length d2, .slice none 0 0] 56);have dj:w3.heap.size <= w4.heap.size:=yt.size;have hga:w.heap.size+4<w4.heap.size:=ka.lt;have jo:=zH (fun b hb=>(o1.lt b hb).2)
 have Lv:=zH (fun b hb=>(o2.lt b hb).2)
 have Mv:=zH (fun b hb=>(o3.lt b hb).2)
 replace ka:=ia ka ma;replace da:=oa da ma;replace yt:=oa yt ma;replace o1:=Oa o1 ma zR;replace o2:=Oa o2 ma zR;replace o3:=Oa o3 ma zR;clear ma kl;generalize w4.alloc _=w5 at kb ka da yt o1 o2 o3 |-;obtain ⟨gb,hgbe⟩:=zEX (w4.heap.size);rw [<- hgbe] at kb dj hga jo Lv Mv |-;clear hgbe;obtain ⟨N,hN⟩:=zEX (w5.heap.size);have Dm:gb<N:=by rw [hN];exact kb.lt
 have Mk:N <= w5.heap.size:=by omega
 clear hN;have Vf:=(Ve Dw.here);have hnC:nC=CC.length:=Vf.1.symm;subst hnC;go_wp2_with fail
 go_loopw [16] (fun y wr=>∃ (i:Nat) (v:Value) (cs:List Value),i <= pos.length /\ y= .int .i64 i /\ Blk wr gb 56 #[.slice E0 N1.length d0, .slice E1 N2.length d1, .slice E2 N3.length d2,v] /\ Blk wr (w.heap.size+4) 56 #[.slice none 0 0, .slice none 0 0, .slice none 0 0, .slice none 0 0] /\ wr.ownsRow N 28 1 v i cs /\ tD NB w3 cs (CA i) /\ qj gb N w5 wr /\ N <= wr.heap.size) (fun y _=>pos.length-(intOf y).toNat)
 case atStart=>exact ⟨0,_,[],Nat.zero_le _,rfl,kb,ka,⟨rfl, .inl ⟨rfl,rfl⟩⟩,by rw [Rx.out];exact mR _ _,(xb _ _).refl _,Mk⟩
 case round =>
  clear kb ka;obtain ⟨i,v,cs,hi,rfl,kb,ka,ra,Qw,Ua,qg⟩:=hrel;have Qa:Below w.heap.size w wr:=da.trans ⟨Ua.1,Ua.2.1,Ua.2.2.1,Ua.2.2.2.1,fun b hb=>Ua.2.2.2.2 b (by omega) (by omega)⟩
  have uc:Below w3.heap.size w3 wr:=yt.trans ⟨Ua.1,Ua.2.1,Ua.2.2.1,Ua.2.2.2.1,fun b hb=>Ua.2.2.2.2 b (by omega) (by omega)⟩
  by_cases za:i<pos.length
  ·have g1:(0:Int) <= (i:Int):=by omega
   have g2:(i:Int)<(pos.length:Int):=by omega
   obtain ⟨Ar,nr,cr,her,hlr,-,-,Mi⟩:=HPI.out;simp at her
   obtain ⟨rfl,rfl,rfl⟩:=her;obtain ⟨b,q,rfl,oF,Ki,-,-⟩:=Jt Mi za;have hc:=(Qa.cell (p:=⟨b,q+i,none⟩) oF).trans Ki;have Wb:b<N:=by omega
   have Hh:b≠N:=by omega
   have Ii:b<wr.heap.size:=by omega
   have hgb1:gb≠N:=by omega
   obtain ⟨Tg,fe,-⟩:=Cp.out i za;obtain ⟨z,hz⟩:∃ z:Nat,pos.getD i 0=(z:Int):=⟨_,(Int.toNat_of_nonneg Tg).symm⟩;have hzC:z<CC.length:=by rw [Yn.out];omega
   have Xc:=zH (mJ.out i za z hzC hz);rw [hz] at hc;obtain ⟨bC,qC,A1,Et,c1,rfl,-,Wy,Gj,FF⟩:=DI Dw hzC;have tt:Jc NB none w3 (.slice A1 Et c1) CC[z]:=fun u hu=>FF u fun b b1 b2=>hu b b1 b2 (fun e=>by cases e)
   have hcC':=(uc.cell (p:=⟨bC,qC+z,none⟩) Wy).trans Gj;have hbC':=Nat.lt_of_lt_of_le Wy uc.size;have hbC1:bC<N:=by omega
   have hbC2:bC≠N:=by omega
   have g3:(0:Int) <= (z:Int):=by omega
   have g4:(z:Int)<(CC.length:Int):=by omega
   have HRW:=zH tt;have Qg:=zH za;obtain ⟨Ax,cx,jq,-⟩:=Ob ra;subst jq;have cb:=kb.cell;have lb:=kb.lt;clear hz Tg fe Mi tt FF Gj Wy Ki oF;go_upto_region 7 with fail
   refine Qt (qj N N) [9,10,12] [12] [0,1,2,3,4,5,6,7,8,9,10,11,12] (by kernel_rfl) (by kernel_rfl) ?_
   refine Tt (xb N N) ?_;intro Wc Na ja;have ya:=Cc Na;have Dc:N <= Wc.heap.size:=by have:=ya.size;omega
   replace kb:=ia kb ya;replace ka:=ia ka ya;replace ra:=Oa ra ya zR;replace Ua:=(xb gb N).trans _ _ _ Ua (ue ya qg);clear Na ya;refine Ah ?_;refine Rh (xb N N) rfl rfl rfl ?_;go_simp;have ma:=(Below.refl Wc.heap.size Wc).alloc zR (.cells #[.slice A1 Et c1] 28);have Qe:=Lf Wc (.slice A1 Et c1) 28;refine ⟨fun _=>ue ma Dc,?_⟩
   replace kb:=ia kb ma;replace ka:=ia ka ma;replace ra:=Oa ra ma zR;replace Ua:=(xb gb N).trans _ _ _ Ua (ue ma Dc);have de:=Nat.le_trans Dc ma.size
   try simp only [Act.put,zLa,zLb,zLc]
   generalize Wc.alloc _=w7 at kb ka ra Ua Qe de |-;generalize Wc.heap.size=g6 at Qe |-;clear ma Dc ja cb;have ja:=(xb N N).refl w7;refine Ah ?_;refine Rh (xb N N) rfl rfl rfl ?_;refine Tn _ _ rfl Cj rfl ra rfl Qe (by intro u hu;simp at hu;subst hu;rfl) (by omega) de ?_
   intro v' wn db Ma Lb;have Rb:∀ q,(Value.slice Ax i cx).ownBlock=some q -> N <= q:=fun q e=>(ra.lt q e).1
   refine ⟨fun _=>Ao Ma de Rb,?_⟩
   replace kb:=kb.grown Ma (fun e=>by first | (have:=Rb _ e;omega) | (have:=Rb _ e.symm;omega))
   replace ka:=ka.grown Ma (fun e=>by first | (have:=Rb _ e;omega) | (have:=Rb _ e.symm;omega))
   replace Ua:=(xb gb N).trans _ _ _ Ua (Ao Ma de Rb);have BF:=kR Qw HRW.out;rw [Xc.out] at BF;obtain ⟨Aw,cw,rfl,-⟩:=Ob db;have af:=Nat.le_trans de Ma.size;clear ra Ma Lb Rb de Qe ja Qw;have ja:=(xb N N).refl wn;have cb:=kb.cell;have fb:=kb.frozen;have lb:=kb.lt
   try simp only [Act.put,zLa,zLb,zLc]
   refine Ah ?_;refine Rh (xb N N) rfl rfl rfl ?_;go_simp;refine ⟨fun h=>Bool.noConfusion h,?_⟩
   have Ba:=Me (w:=wn) gb 3 (.slice Aw (i+1) cw);replace kb:=kb.set_ 3 (.slice Aw (i+1) cw);simp only [List.setIfInBounds_toArray,List.set_cons_zero,List.set_cons_succ] at kb;replace ka:=ka.grown Ba (fun e=>by have:=Option.some.inj e;omega)
   have sc:=Hc db Ba Dm;replace Ua:=(xb gb N).trans _ _ _ Ua (mB Ba af);replace af:=Nat.le_trans af Ba.size;clear Ba cb fb ja db;generalize wn.setCell _ _=wz at kb ka sc Ua af |-;have ja:=(xb N N).refl wz;refine Ah ?_;refine Rt ?_;go_wp2
   go_roundw
   case rel=>exact ⟨i+1, .slice Aw (i+1) cw,_,Qg.out,by go_num,kb,ka,sc,BF,Ua,af⟩
   case measure=>have:=Qg.out;simp [intOf];omega
  ·obtain rfl:i=pos.length:=by omega
   have Pm:=fE (u:=wr) o1 fun b hb=>Ua.2.2.2.2 b (by have:=jo.out b hb;omega) (by have:=jo.out b hb;omega)
   have Az:=fE (u:=wr) o2 fun b hb=>Ua.2.2.2.2 b (by have:=Lv.out b hb;omega) (by have:=Lv.out b hb;omega)
   have Hr:=fE (u:=wr) o3 fun b hb=>Ua.2.2.2.2 b (by have:=Mv.out b hb;omega) (by have:=Mv.out b hb;omega)
   obtain ⟨Ax,cx,rfl,-⟩:=Ob ra;have au:=zH (show w3.heap.size <= N /\ NB <= w3.heap.size /\ w.heap.size+4<NB from ⟨by omega,hNB,haB⟩)
   have Ba:=u5 (w:=wr) (g:=w.heap.size+4) (.slice E0 N1.length d0) (.slice E1 N2.length d1) (.slice E2 N3.length d2) (.slice Ax pos.length cx);have HKa:=zH (p5 ka (.slice E0 N1.length d0) (.slice E1 N2.length d1) (.slice E2 N3.length d2) (.slice Ax pos.length cx));have ic:=zH (Pb Qa Ba);have jl:=zH (Hc Pm Ba (by omega))
   have dy:=zH (Hc Az Ba (by omega))
   have HP3:=zH (Hc Hr Ba (by omega))
   have HPr:=zH (lR Qw (Nat.le_trans uc.size Ba.size) (fun b b1 b2=>(Ba.block b (Nat.lt_of_lt_of_le b2 uc.size) (fun e=>by have:=Option.some.inj e;omega)).trans (uc.block b b2)) (Hc ra Ba (by omega)) (by omega) hNB)
   have cb:=kb.cell;have lb:=kb.lt;have ca:=ka.cell;have fa:=ka.frozen;have la:=ka.lt;clear Ba Pm Az Hr ra Qw uc Ua;go_wp2_with fail
   generalize (((wr.setCell _ _).setCell _ _).setCell _ _).setCell _ _=wf at ic jl dy HP3 HPr HKa |-;have cf:=HKa.out.cell;exact bodyPost_ret (v:=.agg #[.slice E0 N1.length d0, .slice E1 N2.length d1, .slice E2 N3.length d2, .slice Ax pos.length cx]) (by simp [results,Tryz.results17,go_sem,cf]) rfl ⟨_,_,_,_,rfl,Gx jl.out bn.out (by have:=au.out;omega),Gx dy.out Ei.out (by have:=au.out;omega),Gx HP3.out HX3.out (by have:=au.out;omega),HPr.out.mono (by have:=au.out;omega),ic.out⟩
theorem zg {B:Nat} {w w':World} {v:Value} {l:List Nat} (h:Jc B none w v l) (hb:Below w.heap.size w w'):Jc B none w' v l:=rp h hb.size fun b _ h2=>hb.block b h2
theorem Ek {B g:Nat} {w w':World} {v:Value} {l:List Nat} (h:Jc B none w v l) (hg:w.grownBy w' (some g)) (hB:g<B):Jc B none w' v l:=rp h hg.size fun b h1 h2=>hg.block b h2 fun e=>by have:=Option.some.inj e;omega
theorem Rm {B:Nat} {w:World} {v:Value} {l:List Nat} (h:Jc B none w v l):∃ A n c,v= .slice A n c:=Yu (ff h)
theorem dW (L:Ja) (m:List (List Nat)) (pos:List Int) (cols:List (List Nat)) (i:Nat):(List.range i).map (Bl L m pos cols)++[Bl L m pos cols i]=(List.range (i+1)).map (Bl L m pos cols):=by simp [List.range_succ]
theorem qZ (L:Ja) (pu rho al be:Nat) (vars:Int) (A B P S0 S1 S2 S3:Option Addr) (R c m d np cp n0 n1 n2 n3 k0 k1 k2 k3:Nat) (rows:List Cb) (vs sa sb sq:List Nat) (cols:List (List Nat)) (pos:List Int) (w:World)
  (hL:Db L) (hF:xl L pu vars rows) (hr:RSl 3 te w [.slice A R c] rows) (hV:mn vars rows) (tj:rows.length <= 16384) (hw:RWd w [.slice B m d] vs) (Jm:1+pu <= vs.length)
  (hpos:qi w [.slice P np cp] pos) (Bf:se L.n L.queries pos=true)
  (h0:RWd w [.slice S0 n0 k0] sa) (h1:RWd w [.slice S1 n1 k1] sb) (h2:RWd w [.slice S2 n2 k2] sq) (h3:Sb w [.slice S3 n3 k3] cols)
  (l0:sa.length <= 2000) (l1:sb.length <= 2000) (l2:sq.length <= 2000) (l3:cols.length=pos.length) (l4:∀ x∈cols,x.length=L.a+L.b+L.b+L.b+3 /\ ∀ y∈x,y<L.p) :
  Calls Tryz.prog 114 #[.agg (Ya L),pc L.p (pu:Int) vars (.slice A R c), .slice B m d, .agg #[.int .u64 al, .int .u64 rho, .int .u64 be], .slice P np cp, .agg #[.slice S0 n0 k0, .slice S1 n1 k1, .slice S2 n2 k2, .slice S3 n3 k3]] w fun e w'=>∃ (A0 A1 A2 A3:Option Addr) (m0 m1 m2 m3 d0 d1 d2 d3:Nat),e= .returned (.agg #[.slice A0 m0 d0, .slice A1 m1 d1, .slice A2 m2 d2, .slice A3 m3 d3, .slice none 0 0]) /\ Below w.heap.size w w':=by
 have hp:=Va hL.p;have Ga:=hL.b1;have Ka:=hL.b2;have Xf:=hL.q1;have Sg:=hL.q2;have tg:=hL.k;have yn:L.a+L.b+L.b+L.b <= 400000:=by have:=hL.a;have:=hL.b;omega
 obtain ⟨M,vu⟩:=zEX (Ia L rows vs pu);have Qs:M.length=L.a+L.b+L.b+L.b:=by rw [vu];exact Vk _ _ _ _
 have Co:∀ x∈M,x.length=L.block:=fun x hx=>by rw [vu] at hx;exact qx hx
 have Jh:=Jr Bf;have iA:=zH (fun w' (hb:Below w.heap.size w w')=>jS L pu vars A B R c m d rows vs w' hL (Kc Gc _ _ _ _ hb hr) (ta hb hw) Jm tj)
 rw [<- vu] at iA;obtain ⟨PL,vw⟩:=zEX (pos.length);obtain ⟨Kl,ZK⟩:pos.length=np /\ RdL w 1 Wv P pos:=by
  obtain ⟨A',n',c',he,r1,r2,r3,r4⟩:=id hpos;simp at he
  obtain ⟨rfl,rfl,rfl⟩:=he;exact ⟨r1,r4⟩
 have hnP:np=PL:=by omega
 subst hnP;have HMk:Hid (∀ (A1 C:Option Addr) (n1 c1 k e r:Nat),r<M.length -> ∀ w':World,Below w.heap.size w w' -> RWd w' [.slice A1 n1 c1] (M.getD r []) -> RWd w' [.slice C k e] (rn cols np r) ->
   Calls Tryz.prog 198 #[.agg (Ya L), .slice A1 n1 c1, .slice P np cp, .slice C k e] w' fun e' dh=>∃ v,e'= .returned (.tuple #[v, .int .i64 0]) /\ dh.ownsRow w'.heap.size 22 1 v (Bl L M pos cols r).length (Fa (Bl L M pos cols r)) /\ Below w'.heap.size w' dh):=zH (by
  intro A1 C n1 c1 k e r hr w' hb hm hv;refine (JZ L A1 P C n1 c1 np cp k e (M.getD r []) (rn cols np r) pos w' hL hm (by
   rw [(Ra hm).1,List.getD_eq_getElem?_getD,List.getElem?_eq_getElem hr];exact Co _ (List.getElem_mem hr)) (pf _ _ _ _ hb hpos) hv).mono ?_
  rintro e' dh ⟨If,⟨h,-⟩ | ⟨-,v,h1,h2⟩⟩
  ·have:=iK (r:=r) (L:=L) (by omega) Bf (cols:=cols) (fun x hx=>(l4 x hx).2)
   rw [<- vw] at this;rw [this] at h;cases h
  ·refine ⟨v,h1,?_,If⟩
   unfold Bl;rw [<- vw];exact h2)
 have py:=zH (show ∀ r,∀ x∈Bl L M pos cols r,x<18446744073709551616 from fun r=>NH fun i=>Nat.lt_trans (gK (by omega) i) hp.2)
 have HXN:=zH (show ∀ r,(Bl L M pos cols r).length=L.queries from fun r=>iH Jh)
 have HXS:=zH (fun i=>dW L M pos cols i)
 have HXE:=zH (show (List.range M.length).map (Bl L M pos cols)=Je L M pos cols from rfl)
 have BG:Kg L M (Je L M pos cols):=PD Bf Qs Co;have Kq:=zH (fun (AM D0:Option Addr) nM cM nD cD w' (hm:Sb w' [.slice AM nM cM] M) (hr:Sb w' [.slice D0 nD cD] (Je L M pos cols))=>sS L D0 none none none none AM nD 0 0 0 0 nM cD 0 0 0 0 cM M (Je L M pos cols) w' hL hm hr BG.rl.symm Co (fun x hx=>by have:=BG.rr x hx;omega) (by omega))
 have HRl:=zH (show ∀ x∈Cd L M (Je L M pos cols),x.length=L.k from fG hL BG)
 have oA:=zH (show (Cd L M (Je L M pos cols)).length=M.length from CI _ _ _)
 have HCode:=zH (fun A n c w (hr:Sb w [.slice A n c] (Cd L M (Je L M pos cols)))=>ZR L A n c al _ w hL hr (fun r h=>by have:=HRl.out r h;omega))
 have HQuad:=zH (fun A n c w (hr:Sb w [.slice A n c] (Cd L M (Je L M pos cols)))=>nS L A n c be _ w hL hr (fun r h=>by have:=HRl.out r h;omega) (by have:=(Ve hr).1;have:=oA.out;omega))
 have HWt:=zH (fun w' (hb:Below w.heap.size w w')=>DS L pu rho vars A R c rows w' hL hF (Kc Gc _ _ _ _ hb hr) hV)
 have HLin:=zH (fun A B n c m d w (hr:Sb w [.slice A n c] (Cd L M (Je L M pos cols))) (hs:Sb w [.slice B m d] (Ig L.p (Tc L pu rho rows)))=>iS L A B n c m d _ _ w hL hr hs (by
  have e1:=(Ve hr).1;have e2:=(Ve hs).1;have e3:=oA.out;have e4:(Ig L.p (Tc L pu rho rows)).length=L.a+L.b+L.b+L.b:=by rw [Ig,List.length_map,List.length_range,zy]
  omega) (fun r h=>by have:=HRl.out r h;omega) (fun r h=>by
  obtain ⟨i,hi,rfl⟩:=List.mem_map.1 h;rw [Px,List.length_map,List.length_range,Bm fw (List.mem_range.1 hi)];omega))
 have HSub:=zH (fun A B n c m d a b w ha hb hn hm=>ZZ L.p A B n c m d a b w hL.p ha hb hn hm)
 have xJ:=zH (fun A n c m l w hl hn hm=>nI A n c m l w hl hn hm)
 have HZe:=zH (fun w=>sI L w hL)
 have Ux:=zH (fun A B n c m d a w ha hn hb=>xZ L A B n c m d a w hL ha hn hb)
 have HLc:(Yi L.p (Cd L M (Je L M pos cols)) al M.length).length <= L.k:=VE (fun x hx=>Nat.le_of_eq (HRl.out x hx)) _
 have hwl2:∀ x∈Ig L.p (Tc L pu rho rows),x.length <= L.block:=fun x hx=>by
  obtain ⟨i,hi,rfl⟩:=List.mem_map.1 hx;rw [Px,List.length_map,List.length_range,Bm fw (List.mem_range.1 hi)];exact zR
 have HLl:(Oi L.p (Cd L M (Je L M pos cols)) (Ig L.p (Tc L pu rho rows)) M.length).length <= 2000:=by
  have:=RF (p:=L.p) (fun x hx=>Nat.le_of_eq (HRl.out x hx)) hwl2 M.length
  omega
 have HLq:(bh L.p L.a L.b (Cd L M (Je L M pos cols)) be L.b).length <= 2000:=by
  have:=YF (p:=L.p) (a:=L.a) (b:=L.b) (be:=be) (fun x hx=>Nat.le_of_eq (HRl.out x hx)) L.b
  omega
 have Hk:=zH (fun (a b:List Nat)=>(show (yj L.p a b).length <= max a.length b.length from YM L.p a b))
 have Xm:=zH h3;have Fv:=zH l4;have mo:=zH hp.2;have Xi:=zH (show 0<L.p by omega)
 have hL3:=zH (show cols.length=np by omega)
 have HM:=zH (And.intro Qs yn);have qo:=zH (fun w' (hb:Below w.heap.size w w')=>ta hb h0)
 have Ef:=zH (fun w' (hb:Below w.heap.size w w')=>ta hb h1)
 have Th:=zH (fun w' (hb:Below w.heap.size w w')=>ta hb h2)
 have HN:=zH (show sa.length <= 2000 /\ sb.length <= 2000 /\ sq.length <= 2000 /\ L.k <= 400 /\ L.block <= 256 /\ L.queries <= 64 /\ 1 <= L.k /\ 2 <= L.block /\ n0 <= 2000 /\ n1 <= 2000 /\ n2 <= 2000 from ⟨l0,l1,l2,by omega,by omega,by omega,by omega,by omega,by have:=(Ra h0).1;omega,by have:=(Ra h1).1;omega,by have:=(Ra h2).1;omega⟩)
 have gnp:(np:Int) <= 64:=by omega
 obtain ⟨m1,ud⟩:=zEX (L.k+L.block);obtain ⟨m2,Qc⟩:=zEX (m1-1);obtain ⟨q2,hq2'⟩:∃ q2,q2=2*L.queries:=⟨_,rfl⟩;obtain ⟨s2,xi⟩:=zEX (L.block+q2);obtain ⟨m3,jf⟩:=zEX (s2-1);have j1:(L.k:Int)+(L.block:Int)=(m1:Int):=by omega
 have j2:=Yb m1;have j3:(m1:Int)-1=(m2:Int):=by omega
 have j4:=Yb m2;have j5:(2:Int)*(L.queries:Int)=(q2:Int):=by omega
 have j6:=Yb q2;have j7:(L.block:Int)+(q2:Int)=(s2:Int):=by omega
 have j8:=Yb s2;have j9:(s2:Int)-1=(m3:Int):=by omega
 have j10:=Yb m3;have ao:=zH (show 2 <= m2 /\ m2 <= 1000 /\ m3 <= 1000 from ⟨by omega,by omega,by omega⟩)
 obtain ⟨T,hT⟩:=zEX (M.length);have HTM:=zH hT;have gT:(T:Int) <= 400000:=by omega
 generalize Yi L.p (Cd L M (Je L M pos cols)) al=CD at *;generalize Oi L.p (Cd L M (Je L M pos cols)) (Ig L.p (Tc L pu rho rows))=LD at *;generalize bh L.p L.a L.b (Cd L M (Je L M pos cols)) be L.b=QD at *;have HCD:=zH (And.intro HLc (And.intro HLl HLq));clear HLc HLl HLq hwl2 BG vu Qs Co yn Jh hpos Bf h0 h1 h2 h3 l0 l1 l2 l3 l4 hL hF hr hV tj hw Jm hp Ga Ka Xf Sg tg Kl ZK vw ud Qc jf hq2' xi hT;unfold Ya pc at *;obtain ⟨kl,kt,kx,kv,ka,da,-⟩:=zD w 39 25 32 56 42 #[.int .u64 L.p, .int .i64 L.block, .int .i64 L.queries, .int .i64 L.k, .int .i64 L.n, .int .i64 L.secret, .int .i64 L.rows, .int .i64 L.a, .int .i64 L.b, .int .i64 L.b, .int .i64 L.b] #[.int .u64 L.p, .int .i64 pu, .int .i64 vars, .slice A R c] #[.int .u64 al, .int .u64 rho, .int .u64 be] #[.slice S0 n0 k0, .slice S1 n1 k1, .slice S2 n2 k2, .slice S3 n3 k3] #[.slice none 0 0, .slice none 0 0, .slice none 0 0, .slice none 0 0, .slice none 0 0];go_enter Tryz.func114,Tryz.ntmps114
 go_upto_region 1 with fail
 generalize ((((w.alloc _).alloc _).alloc _).alloc _).alloc _=w1 at kl kt kx kv ka da |-;have cl:=kl.cell;have ct:=kt.cell;go_wp2_with fail
 refine (iA.out _ da).mono ?_;rintro e w2 ⟨nM,v,csM,rfl,hoM,hgM,ea⟩;have hM:=qE hgM hoM zR zR;obtain ⟨AM,cM,rfl,-⟩:=Ob hoM;have hnM:nM=T:=by rw [HTM.out,(Ve hM.here).1]
 subst hnM;have hNB:=ea.size;obtain ⟨NB,AB⟩:=zEX (w1.heap.size);rw [<- AB] at hM hNB;have haN:w.heap.size+4<NB:=by rw [AB];exact ka.lt
 replace kl:=ia kl ea;replace kt:=ia kt ea;replace kx:=ia kx ea;replace kv:=ia kv ea;replace ka:=ia ka ea;replace da:=oa da ea;clear ea cl ct hoM hgM iA AB;go_upto_region 3 with fail
 have kg:=Blk.new w2 42 #[.slice none 0 0, .slice none 0 0, .slice none 0 0, .slice none 0 0, .slice none 0 0];have ma:=(Below.refl w2.heap.size w2).alloc zR (.cells #[.slice none 0 0, .slice none 0 0, .slice none 0 0, .slice none 0 0, .slice none 0 0] 42);have Kn:=ma;replace kl:=ia kl ma;replace kt:=ia kt ma;replace kx:=ia kx ma;replace kv:=ia kv ma;replace ka:=ia ka ma;replace da:=oa da ma;clear ma;generalize w2.alloc _=w3 at kg kl kt kx kv ka da Kn |-;obtain ⟨g,Rp⟩:=zEX (w2.heap.size);rw [<- Rp] at kg hNB |-;have Ok:w2.heap.size <= g:=by omega
 obtain ⟨N,hN⟩:=zEX (w3.heap.size);have Dm:g<N:=by rw [hN];exact kg.lt
 have rk:N <= w3.heap.size:=by omega
 have hls:w.heap.size+4<g:=by omega
 clear hN Rp;go_wp2_with fail
 go_loopw [15] (fun y wr=>∃ (i:Nat) (v:Value) (cs:List Value),i <= nM /\ y= .int .i64 i /\ Blk wr g 42 #[v, .slice none 0 0, .slice none 0 0, .slice none 0 0, .slice none 0 0] /\ wr.ownsRow N 28 1 v i cs /\ Rf N wr v cs ((List.range i).map (Bl L M pos cols)) /\ qj g N w3 wr /\ N <= wr.heap.size) (fun y _=>nM-(intOf y).toNat)
 case atStart=>exact ⟨0,_,[],Nat.zero_le _,rfl,kg,⟨rfl, .inl ⟨rfl,rfl⟩⟩,Ns _ _ _,(xb _ _).refl _,rk⟩
 case round =>
  clear kg;obtain ⟨i,v,cs,hi,rfl,kg,Tw,Da,Ua,qg⟩:=hrel;have Qa:Below w.heap.size w wr:=da.trans ⟨Ua.1,Ua.2.1,Ua.2.2.1,Ua.2.2.2.1,fun b hb=>Ua.2.2.2.2 b (by omega) (by omega)⟩
  have OF:Below w2.heap.size w2 wr:=Kn.trans ⟨Ua.1,Ua.2.1,Ua.2.2.1,Ua.2.2.2.1,fun b hb=>Ua.2.2.2.2 b (by omega) (by omega)⟩
  have Lc:=uo kl Ua (by omega) (by omega)
  have Og:=uo kv Ua (by omega) (by omega)
  by_cases za:i<nM
  ·have g1:(0:Int) <= (i:Int):=by omega
   have g2:(i:Int)<(nM:Int):=by omega
   have Qg:=zH za;have hiM:i<M.length:=by rw [<- HTM.out];exact za
   obtain ⟨V,hV⟩:∃ V:Nat -> Nat,V=fun k=>(cols.getD k []).getD i 0:=⟨_,rfl⟩
   have Yt:=zH (show ∀ k,k<np -> ∃ hk:k<cols.length,i<cols[k].length /\ cols[k].getD i 0=V k from fun k hk=>by
    have Vf:=hL3.out;have Ih:k<cols.length:=by omega
    refine ⟨Ih,?_,?_⟩
    ·have:=(Fv.out _ (List.getElem_mem Ih)).1
     have:=HM.out.1;omega
    ·rw [hV]
     show _=(cols.getD k []).getD i 0
     rw [List.getD_eq_getElem?_getD (l:=cols),List.getElem?_eq_getElem Ih]
     rfl)
   have Xr:=zH (show ∀ k,∀ x∈(List.range k).map V,x<18446744073709551616 from fun k x hx=>by
    obtain ⟨j,-,rfl⟩:=List.mem_map.1 hx;rw [hV];show (cols.getD j []).getD i 0<_
    refine Nat.lt_trans (m:=L.p) ?_ mo.out;have mc:0<L.p:=Xi.out;by_cases hj:j<cols.length
    ·rw [List.getD_eq_getElem?_getD (l:=cols),List.getElem?_eq_getElem hj]
     exact Wg mc (Fv.out _ (List.getElem_mem hj)).2 _
    ·rw [List.getD_eq_getElem?_getD (l:=cols),List.getElem?_eq_none (by omega)]
     simpa using mc)
   have HVE:=zH (show (List.range np).map V=rn cols np i by rw [hV];rfl)
   have HVS:=zH (fun k=>It V k)
   clear hV;obtain ⟨wo,Ln⟩:=zEX (wr);subst Ln;go_wp2_with fail
   go_loopw [16,17] (fun x y wr=>∃ k:Nat,k <= np /\ y= .int .i64 k /\ wr.ownsRow wo.heap.size 22 1 x k (Fa ((List.range k).map V)) /\ Below wo.heap.size wo wr) (fun _ y _=>np-(intOf y).toNat)
   case atStart=>exact ⟨0,Nat.zero_le _,rfl,⟨rfl, .inl ⟨rfl,rfl⟩⟩,Below.refl _ _⟩
   case round =>
    obtain ⟨k,hk,rfl,ra,hb⟩:=hrel;by_cases jz:k<np
    ·have g3:(0:Int) <= (k:Int):=by omega
     have g4:(k:Int)<(np:Int):=by omega
     obtain ⟨Ld,Zp,Ws⟩:=Yt.out k jz;have Zh:=(ia Og hb).cell 3;have lv2:w.heap.size+1+1+1<wr.heap.size:=(ia Og hb).lt;have Cn:=Ve (Gb (Qa.trans (hb.mono Qa.size)) Xm.out);obtain ⟨bC,qC,Ac,nc,cc,eC,Wy,Gj,tt⟩:=vh Cn.2.2.2 Ld;subst eC;obtain ⟨Iu,-,-,-,La⟩:=Ra tt;have Pk:Rd wr 1 Ac cols[k].length (Fa cols[k]):=by rw [<- Iu];exact La
     obtain ⟨bD,qD,eD,hbD,hcD⟩:=Vd Pk Zp;subst eD;rw [Ws] at hcD;have g5:(k:Int)<(n3:Int):=by have:=Cn.1;omega
     have g6:(i:Int)<(nc:Int):=by omega
     have HSk:=zH (HVS.out k);obtain ⟨x,hx⟩:=zEX (V k);rw [<- hx] at hcD HSk;have HKN:=zH jz;clear Ws Zp Iu La Pk tt Cn Ld hx jz;go_wp2_with (at_builtin;refine Mf rfl _ _ rfl xf rfl (ra.alloc _) rfl (Lf _ _ _) (mg [x]) (by omega) (by simp;have:=hb.size;omega) ?_)
     intro v' wn db Ma Lb;have ma:=(Below.refl wr.heap.size wr).alloc zR (.cells #[.int .u64 x] 22);have hB:=Ae (ra.alloc _) Ma (by simp;have:=hb.size;omega)
     replace hb:=(Uh hb ma hb.size).trans hB;replace ra:wn.ownsRow wo.heap.size 22 1 v' (k+1) (Fa ((List.range (k+1)).map V)):=Qi (b:=[x]) db HSk.out;clear db Ma Lb ma hB;clear Zh lv2 Gj hcD;go_wp2
     go_roundw
     case rel=>exact ⟨k+1,HKN.out,by go_num,ra,hb⟩
     case measure=>have:=HKN.out;simp [intOf];omega
    ·obtain rfl:k=np:=by omega
     obtain ⟨Av,cv,rfl,-⟩:=Ob ra;have Lj:=qf ra (Xr.out _);rw [HVE.out] at Lj;have Wa:=hb;have sH:=oa Qa hb;have DH:=OF.trans (hb.mono OF.size);obtain ⟨b1,q1,A1,Et,c1,rfl,oe,Hh,hcM,GF⟩:=DI hM hiM;have jt:=GF wr (fun b _ h2=>DH.block b h2)
     have hcM':=(DH.cell (p:=⟨b1,q1+i,none⟩) Hh).trans hcM;have hbl1':=Nat.lt_of_lt_of_le Hh DH.size;have HMki:=zH (fun C k e w' hb (hm:RWd w' [.slice A1 Et c1] M[i]) hv=>HMk.out A1 C Et c1 k e i hiM w' hb (by rw [List.getD_eq_getElem?_getD,List.getElem?_eq_getElem hiM];exact hm) hv)
     have klo:=ia Lc hb;have cl:=klo.cell;have ll:=klo.lt;obtain ⟨mi,hmi⟩:=zEX (M[i]'hiM);rw [<- hmi] at jt HMki;clear ra hcM Hh GF hb oe hmi hiM;go_upto_region 11 with fail
     refine Rc (Ib) [7] [0,1,2,3,4,5,6,7,8,9,10,11,12] (by kernel_rfl) (by kernel_rfl) ?_
     refine vd (xa) ?_;intro Wc Na ja;have ya:=Cc Na;replace jt:=ta ya jt;replace Lj:=ta ya Lj;replace sH:=oa sH ya;replace Wa:=oa Wa ya;have hWs:=ya.size;clear Na ya;refine pb ?_;refine Mb (xa) rfl rfl rfl (fun _=>by go_simp <;> rfl) ((HMki.out _ _ _ _ sH jt Lj).mono ?_)
     rintro e w7 ⟨vm,rfl,hom,ea⟩;refine ⟨_,rfl,ea,?_⟩;replace ja:=(xa).trans _ _ _ ja (ea);simp only [Act.put,zLa,zLb,zLc];rw [HXN.out i] at hom;have hWo:wo.heap.size <= Wc.heap.size:=Wa.size;replace Wa:=oa Wa ea;obtain ⟨Am,cm,rfl,-⟩:=Ob hom;have hx:=Xl (N:=N) (gb:=v.ownBlock) hom (py.out i) (by omega) (fun q e=>by have:=(Tw.lt q e).2;omega)
     clear ea jt Lj hom cl ll hcM' hbl1' klo;refine pb ?_;refine Fc ?_;clear ja;replace kg:=ia kg Wa;replace Da:=Uc Da Wa;replace Ua:=(xb g N).trans _ _ _ Ua (ue Wa qg);have de:N <= w7.heap.size:=Nat.le_trans qg Wa.size;replace Tw:=Oa Tw Wa zR;have cg:=kg.cell;have lg:=kg.lt;clear Wa sH DH Qa OF Lc Og hWs hWo;go_wp2_with (at_builtin;refine Mf rfl _ _ rfl Cj rfl (Tw.alloc _) rfl (Lf _ _ _) (by intro u hu;simp at hu;subst hu;rfl) (by omega) (by simp;omega) ?_)
     intro v' wn db Ma Lb;have ma:=(Below.refl w7.heap.size w7).alloc zR (.cells #[.slice Am L.queries cm] 28);have yi:∀ q,v.ownBlock=some q -> N <= q:=fun q e=>(Tw.lt q e).1
     replace kg:=ia kg ma;replace Da:=Uc Da ma;replace hx:=Mh hx ma.size (fun b _ h2 _=>ma.block b h2)
     replace Ua:=(xb g N).trans _ _ _ Ua (ue ma de);have Of:=Nat.le_trans de ma.size;have ee:=Tq Da hx Ma (by simpa using Lb)
     rw [HXS.out i] at ee;replace kg:=kg.grown Ma (fun e=>by first | (have:=yi _ e;omega) | (have:=yi _ e.symm;omega))
     replace Ua:=(xb g N).trans _ _ _ Ua (Ao Ma Of yi);have af:=Nat.le_trans Of Ma.size;obtain ⟨Aw,cw,rfl,-⟩:=Ob db;have cg:=kg.cell;have fg:=kg.frozen;have lg:=kg.lt;clear ma Ma Lb Da hx Tw yi de Of;go_wp2_with fail
     have Ba:=Me (w:=wn) g 0 (.slice Aw (i+1) cw);have dx:=kg.set_ 0 (.slice Aw (i+1) cw);simp only [List.setIfInBounds_toArray,List.set_cons_zero] at dx;have sc:=Hc db Ba Dm;have hgn2:=Kp ee Ba Dm;have hfx2:=(xb g N).trans _ _ _ Ua (mB Ba af);have hNs:=Nat.le_trans af Ba.size;clear Ba db ee Ua af kg cg fg lg
     go_roundw
     case rel=>exact ⟨i+1,_,_,Qg.out,by go_num,dx,sc,hgn2,hfx2,hNs⟩
     case measure=>have:=Qg.out;simp [intOf];omega
  ·obtain rfl:i=nM:=by omega
   have Vw:=qw Da Tw;rw [show (List.range i).map (Bl L M pos cols)=Je L M pos cols by rw [<- HXE.out,HTM.out]] at Vw
   have hMr2:=hM.2 wr (fun b _ h2=>OF.block b h2)
   obtain ⟨Ax,cx,rfl,-⟩:=Ob Tw;have Ad:=uo kt Ua (by omega) (by omega)
   have uh:=uo kx Ua (by omega) (by omega)
   have Vc:=uo ka Ua (by omega) (by omega)
   clear Tw Da Ua kl kt kx kv ka da Kn OF HMk hM;have cl:=Lc.cell;have cg:=kg.cell;go_wp2_with fail
   refine (Kq.out _ _ _ _ _ _ _ hMr2 Vw).mono ?_;rintro e w4 ⟨v5,rfl,hR,ea⟩;change Sb w4 [v5] (Cd L M (Je L M pos cols)) at hR
   obtain ⟨A5,n5,c5,rfl⟩:=RSl.slc hR;have hn5:n5=M.length:=by rw [<- (Ve hR).1,oA.out]
   replace Lc:=ia Lc ea;replace Ad:=ia Ad ea;replace uh:=ia uh ea;replace Og:=ia Og ea;replace Vc:=ia Vc ea;replace kg:=ia kg ea;replace Qa:=oa Qa ea;clear ea cl cg hMr2 Vw Kq;have HN5:=zH hn5;clear hn5;generalize Cd L M (Je L M pos cols)=RD at *;have HBC:=zH (show (CD n5).length <= 2000 /\ (LD n5).length <= 2000 /\ QD.length <= 2000 from by rw [HN5.out];have:=HCD.out;have:=HN.out;omega)
   have cl:=Lc.cell;have ll:=Lc.lt;have cv:=Og.cell;have lv:=Og.lt;have cx:=uh.cell;have lx:=uh.lt;have ct:=Ad.cell;have lt:=Ad.lt;go_upto_region 14 with fail
   refine Rc (Ib) [9,10] [0,1,2,3,4,5,6,7,8,9,10,11] (by kernel_rfl) (by kernel_rfl) ?_
   refine vd (xa) ?_;intro Wc Na ja;have ya:=Cc Na;replace Lc:=ia Lc ya;replace Ad:=ia Ad ya;replace uh:=ia uh ya;replace Og:=ia Og ya;replace Vc:=ia Vc ya;replace kg:=ia kg ya;replace Qa:=oa Qa ya;replace hR:=Gb ya hR;clear Na ya;refine pb ?_;refine Mb (xa) rfl rfl rfl (fun _=>by go_simp <;> rfl) ((HCode.out _ _ _ _ hR).mono ?_)
   rintro e wA ⟨vA,rfl,hA,ea⟩;refine ⟨_,rfl,ea,?_⟩;replace ja:=(xa).trans _ _ _ ja (ea);simp only [Act.put,zLa,zLb,zLc];replace Lc:=ia Lc ea;replace Ad:=ia Ad ea;replace uh:=ia uh ea;replace Og:=ia Og ea;replace Vc:=ia Vc ea;replace kg:=ia kg ea;replace Qa:=oa Qa ea;replace hR:=Gb ea hR;clear ea;obtain ⟨AA,nA,cA,rfl⟩:=Yu hA;refine pb ?_;refine Mb (xa) rfl rfl rfl (fun _=>by go_simp <;> rfl) ((HSub.out _ _ _ _ _ _ _ _ _ (qo.out _ Qa) hA (by have:=HN.out;omega) (by have:=(Ra hA).1;have:=HBC.out;omega)).mono ?_)
   rintro e wB ⟨vB,rfl,h21,ea⟩;refine ⟨_,rfl,ea,?_⟩;replace ja:=(xa).trans _ _ _ ja (ea);simp only [Act.put,zLa,zLb,zLc];have hg21:g<wA.heap.size:=kg.lt;replace Lc:=ia Lc ea;replace Ad:=ia Ad ea;replace uh:=ia uh ea;replace Og:=ia Og ea;replace Vc:=ia Vc ea;replace kg:=ia kg ea;replace Qa:=oa Qa ea;replace hR:=Gb ea hR;obtain ⟨A21,n21,c21,rfl⟩:=Rm h21;have hn21:n21 <= 2000:=by have:=(Ra (ff h21)).1;have:=Hk.out sa (CD n5);have:=HBC.out;have:=HN.out;omega
   generalize wA.heap.size=B21 at h21 hg21;clear ea hA cl ll cv lv cx lx ct lt;refine pb ?_;refine Fc ?_;clear ja;have cl:=Lc.cell;have ll:=Lc.lt;have cv:=Og.cell;have lv:=Og.lt;have cx:=uh.cell;have lx:=uh.lt;have ct:=Ad.cell;have lt:=Ad.lt;go_upto_region 15 with fail
   refine Rc (Ib) [11,12,13] [0,1,2,3,4,5,6,7,8,9,10,11,12,13,14] (by kernel_rfl) (by kernel_rfl) ?_
   refine vd (xa) ?_;intro Wc Na ja;have ya:=Cc Na;replace h21:=zg h21 ya;replace Lc:=ia Lc ya;replace Ad:=ia Ad ya;replace uh:=ia uh ya;replace Og:=ia Og ya;replace Vc:=ia Vc ya;replace kg:=ia kg ya;replace Qa:=oa Qa ya;replace hR:=Gb ya hR;clear Na ya;refine pb ?_;refine Mb (xa) rfl rfl rfl (fun _=>by go_simp <;> rfl) ((HWt.out _ Qa).mono ?_)
   rintro e wC ⟨vC,rfl,hC,ea⟩;refine ⟨_,rfl,ea,?_⟩;replace ja:=(xa).trans _ _ _ ja (ea);simp only [Act.put,zLa,zLb,zLc];replace h21:=zg h21 ea;replace Lc:=ia Lc ea;replace Ad:=ia Ad ea;replace uh:=ia uh ea;replace Og:=ia Og ea;replace Vc:=ia Vc ea;replace kg:=ia kg ea;replace Qa:=oa Qa ea;replace hR:=Gb ea hR;clear ea;obtain ⟨AC,nC,cC,rfl⟩:=RSl.slc hC;refine pb ?_;refine Mb (xa) rfl rfl rfl (fun _=>by go_simp <;> rfl) ((HLin.out _ _ _ _ _ _ _ hR hC).mono ?_)
   rintro e wD ⟨vD,rfl,hD,ea⟩;refine ⟨_,rfl,ea,?_⟩;replace ja:=(xa).trans _ _ _ ja (ea);simp only [Act.put,zLa,zLb,zLc];replace h21:=zg h21 ea;replace Lc:=ia Lc ea;replace Ad:=ia Ad ea;replace uh:=ia uh ea;replace Og:=ia Og ea;replace Vc:=ia Vc ea;replace kg:=ia kg ea;replace Qa:=oa Qa ea;replace hR:=Gb ea hR;clear ea hC;obtain ⟨AD,nD,cD,rfl⟩:=Yu hD;refine pb ?_;refine Mb (xa) rfl rfl rfl (fun _=>by go_simp <;> rfl) ((HSub.out _ _ _ _ _ _ _ _ _ (Ef.out _ Qa) hD (by have:=HN.out;omega) (by have:=(Ra hD).1;have:=HBC.out;omega)).mono ?_)
   rintro e wE ⟨vE,rfl,h22,ea⟩;refine ⟨_,rfl,ea,?_⟩;replace ja:=(xa).trans _ _ _ ja (ea);simp only [Act.put,zLa,zLb,zLc];have LK:g<wD.heap.size:=kg.lt;replace h21:=zg h21 ea;replace Lc:=ia Lc ea;replace Ad:=ia Ad ea;replace uh:=ia uh ea;replace Og:=ia Og ea;replace Vc:=ia Vc ea;replace kg:=ia kg ea;replace Qa:=oa Qa ea;replace hR:=Gb ea hR;obtain ⟨A22,n22,c22,rfl⟩:=Rm h22;have hn22:n22 <= 2000:=by have:=(Ra (ff h22)).1;have:=Hk.out sb (LD n5);have:=HBC.out;have:=HN.out;omega
   generalize wD.heap.size=B22 at h22 LK;clear ea hD cl ll cv lv cx lx ct lt;refine pb ?_;refine Fc ?_;clear ja;have cl:=Lc.cell;have ll:=Lc.lt;have cv:=Og.cell;have lv:=Og.lt;have cx:=uh.cell;have lx:=uh.lt;go_upto_region 16 with fail
   refine Rc (Ib) [9,10] [0,1,2,3,4,5,6,7,8,9,10,11] (by kernel_rfl) (by kernel_rfl) ?_
   refine vd (xa) ?_;intro Wc Na ja;have ya:=Cc Na;replace h21:=zg h21 ya;replace h22:=zg h22 ya;replace Lc:=ia Lc ya;replace Ad:=ia Ad ya;replace uh:=ia uh ya;replace Og:=ia Og ya;replace Vc:=ia Vc ya;replace kg:=ia kg ya;replace Qa:=oa Qa ya;replace hR:=Gb ya hR;clear Na ya;refine pb ?_;refine Mb (xa) rfl rfl rfl (fun _=>by go_simp <;> rfl) ((HQuad.out _ _ _ _ hR).mono ?_)
   rintro e wF ⟨vF,rfl,hF,ea⟩;refine ⟨_,rfl,ea,?_⟩;replace ja:=(xa).trans _ _ _ ja (ea);simp only [Act.put,zLa,zLb,zLc];replace h21:=zg h21 ea;replace h22:=zg h22 ea;replace Lc:=ia Lc ea;replace Ad:=ia Ad ea;replace uh:=ia uh ea;replace Og:=ia Og ea;replace Vc:=ia Vc ea;replace kg:=ia kg ea;replace Qa:=oa Qa ea;clear ea hR;obtain ⟨AF,nF,cF,rfl⟩:=Yu hF;refine pb ?_;refine Mb (xa) rfl rfl rfl (fun _=>by go_simp <;> rfl) ((HSub.out _ _ _ _ _ _ _ _ _ (Th.out _ Qa) hF (by have:=HN.out;omega) (by have:=(Ra hF).1;have:=HBC.out;omega)).mono ?_)
   rintro e wG ⟨vG,rfl,h23,ea⟩;refine ⟨_,rfl,ea,?_⟩;replace ja:=(xa).trans _ _ _ ja (ea);simp only [Act.put,zLa,zLb,zLc];have uH:g<wF.heap.size:=kg.lt;replace h21:=zg h21 ea;replace h22:=zg h22 ea;replace Lc:=ia Lc ea;replace Vc:=ia Vc ea;replace kg:=ia kg ea;replace Qa:=oa Qa ea;obtain ⟨A23,n23,c23,rfl⟩:=Rm h23;have hn23:n23 <= 2000:=by have:=(Ra (ff h23)).1;have:=Hk.out sq QD;have:=HBC.out;have:=HN.out;omega
   generalize wF.heap.size=B23 at h23 uH;clear ea hF cl ll cv lv cx lx Og uh Ad;refine pb ?_;refine Fc ?_;clear ja;have HG:=zH (show w.heap.size+4<g from hls)
   have cl:=Lc.cell;have ll:=Lc.lt;go_wp2_with fail
   refine (xJ.out _ _ _ _ _ _ (ff h21) (by omega) (by have:=HN.out;omega)).mono ?_
   rintro e wH ⟨vH,rfl,oH,ea⟩;obtain ⟨AH,cH,rfl,-⟩:=Ob oH;replace h22:=zg h22 ea;replace h23:=zg h23 ea;replace Lc:=ia Lc ea;replace Vc:=ia Vc ea;replace kg:=ia kg ea;replace Qa:=oa Qa ea;generalize (Te (yj L.p sa (CD n5)) L.k).length=nH at *;clear ea oH h21 cl ll hg21;have cg:=kg.cell;have fg:=kg.frozen;have lg:=kg.lt;go_upto_region 18 with fail
   have Ba:=Me (w:=wH) g 1 (.slice AH nH cH);replace kg:=kg.set_ 1 (.slice AH nH cH);simp only [List.setIfInBounds_toArray,List.set_cons_zero,List.set_cons_succ] at kg;replace h22:=Ek h22 Ba LK;replace h23:=Ek h23 Ba uH;replace Lc:=xc Lc Ba;replace Vc:=xc Vc Ba;replace Qa:=Pb Qa Ba;clear Ba cg fg lg;generalize wH.setCell _ _=wI at kg Lc Vc h22 h23 Qa |-;have cl:=Lc.cell;have ll:=Lc.lt;go_wp2_with fail
   refine (xJ.out _ _ _ _ _ _ (ff h22) (by omega) (by have:=ao.out;omega)).mono ?_
   rintro e wJ ⟨vJ,rfl,oJ,ea⟩;obtain ⟨nJ,hnJ⟩:=zEX ((Te (yj L.p sb (LD n5)) m2).length);have hnJ2:m2 <= nJ:=by rw [hnJ,Uu];omega
   rw [<- hnJ] at oJ;obtain ⟨AJ,cJ,rfl,hcJ,-⟩:=Ob oJ;obtain ⟨gJ,cJ',eJ,-,-⟩:=oJ.form (by have:=ao.out;omega)
   simp only [Value.slice.injEq] at eJ;obtain ⟨rfl,-,rfl⟩:=eJ;replace h23:=zg h23 ea;replace Lc:=ia Lc ea;replace Vc:=ia Vc ea;replace kg:=ia kg ea;replace Qa:=oa Qa ea;have s1:(1:Int) <= (nJ:Int):=by have:=ao.out;omega
   have s2:¬(cJ=1):=by have:=ao.out;omega
   have s3:(nJ:Int) <= (cJ:Int):=by omega
   clear ea oJ h22 cl ll LK hnJ hcJ;have cg:=kg.cell;have fg:=kg.frozen;have lg:=kg.lt;go_upto_region 19 with fail
   have Ba:=Me (w:=wJ) g 2 (.slice (some ⟨gJ,1,none⟩) (nJ-1) (cJ-1));replace kg:=kg.set_ 2 (.slice (some ⟨gJ,1,none⟩) (nJ-1) (cJ-1));simp only [List.setIfInBounds_toArray,List.set_cons_zero,List.set_cons_succ] at kg;replace h23:=Ek h23 Ba uH;replace Lc:=xc Lc Ba;replace Vc:=xc Vc Ba;replace Qa:=Pb Qa Ba;clear Ba cg fg lg s1 s2 s3;generalize wJ.setCell _ _=wK at kg Lc Vc h23 Qa |-;have hX:=ff h23;have cl:=Lc.cell;have ll:=Lc.lt;refine Rc (Ib) [4,5] [0,1,2,3,4,5,6,7,8,9,10] (by kernel_rfl) (by kernel_rfl) ?_
   refine vd (xa) ?_;intro Wc Na ja;have ya:=Cc Na;replace Lc:=ia Lc ya;replace Vc:=ia Vc ya;replace kg:=ia kg ya;replace Qa:=oa Qa ya;replace hX:=ta ya hX;clear Na ya h23 uH;refine pb ?_;refine Mb (xa) rfl rfl rfl (fun _=>by go_simp <;> rfl) ((HZe.out _).mono ?_)
   rintro e wL ⟨vL,rfl,hZ,ea⟩;refine ⟨_,rfl,ea,?_⟩;replace ja:=(xa).trans _ _ _ ja (ea);simp only [Act.put,zLa,zLb,zLc];replace Lc:=ia Lc ea;replace Vc:=ia Vc ea;replace kg:=ia kg ea;replace Qa:=oa Qa ea;replace hX:=ta ea hX;clear ea;obtain ⟨AL,nL,cL,rfl⟩:=Yu hZ;refine pb ?_;refine Mb (xa) rfl rfl rfl (fun _=>by go_simp <;> rfl) ((Ux.out _ _ _ _ _ _ _ _ hX (by omega) hZ).mono ?_)
   rintro e wM ⟨AQ,nQ,cQ,lQ,AQ2,nQ2,cQ2,rfl,hQ,hnQ,ea⟩;refine ⟨_,rfl,ea,?_⟩;replace ja:=(xa).trans _ _ _ ja (ea);simp only [Act.put,zLa,zLb,zLc];replace Lc:=ia Lc ea;replace Vc:=ia Vc ea;replace kg:=ia kg ea;replace Qa:=oa Qa ea;clear ea hX hZ cl ll;refine pb ?_;refine Fc ?_;clear ja;have cl:=Lc.cell;have ll:=Lc.lt;go_wp2_with fail
   refine (xJ.out _ _ _ _ _ _ hQ (by omega) (by have:=ao.out;omega)).mono ?_
   rintro e wN ⟨vN,rfl,oN,ea⟩;obtain ⟨AN,cN,rfl,-⟩:=Ob oN;replace Vc:=ia Vc ea;replace kg:=ia kg ea;replace Qa:=oa Qa ea;generalize (Te lQ m3).length=nN at *;clear ea oN hQ cl ll Lc;have cg:=kg.cell;have fg:=kg.frozen;have lg:=kg.lt;go_upto_region 21 with fail
   have Ba:=Me (w:=wN) g 3 (.slice AN nN cN);replace kg:=kg.set_ 3 (.slice AN nN cN);simp only [List.setIfInBounds_toArray,List.set_cons_zero,List.set_cons_succ] at kg;replace Vc:=xc Vc Ba;replace Qa:=Pb Qa Ba;clear Ba cg fg lg;generalize wN.setCell _ _=wO at kg Vc Qa |-;have cg:=kg.cell;have lg:=kg.lt;have ca:=Vc.cell;have fa:=Vc.frozen;have la:=Vc.lt;have Ba:=zh (w:=wO) (g:=w.heap.size+4) (.slice Ax i cx) (.slice AH nH cH) (.slice (some ⟨gJ,1,none⟩) (nJ-1) (cJ-1)) (.slice AN nN cN) (.slice none 0 0);have ic:=zH (Pb Qa Ba);have xd:=zH (yh Vc (.slice Ax i cx) (.slice AH nH cH) (.slice (some ⟨gJ,1,none⟩) (nJ-1) (cJ-1)) (.slice AN nN cN) (.slice none 0 0));clear Ba Qa;go_wp2_with fail
   generalize ((((wO.setCell _ _).setCell _ _).setCell _ _).setCell _ _).setCell _ _=wf at ic xd |-;have cf:=xd.out.cell;exact bodyPost_ret (v:=.agg #[.slice Ax i cx, .slice AH nH cH, .slice (some ⟨gJ,1,none⟩) (nJ-1) (cJ-1), .slice AN nN cN, .slice none 0 0]) (by simp [results,Tryz.results114,go_sem,cf]) rfl ⟨_,_,_,_,_,_,_,_,_,_,_,_,rfl,ic.out⟩
def Fs (L:Ja) (pos:List Int) (al rh be:Nat):Bool:=se L.n L.queries pos&&(decide (al<L.p)&&(decide (rh<L.p)&&decide (be<L.p)))
def ti (L:Ja) (pu:Nat) (vars:Int) (rows:List Cb) (ws vs:List Nat) (pos:List Int) (al rh be:Nat):Int :=
 if Fs L pos al rh be=false then 1 else if Dd L.p vars ws=false then 1 else if Dd L.p vars vs=false then 1 else if Sj L.p rows ws=false then 9 else if Sj L.p rows vs=false then 9 else if decide (ws.take (1+pu)=vs.take (1+pu))=false then 1 else 0
theorem SQ {x:NewIn} {e:Ending} {L:Ja} (h:ry x e) (hF:tl L x):e= .returned (.tuple #[.agg (Ya L), .int .i64 0]):=by
 obtain ⟨lcs,er,rfl,⟨h1,-,h3⟩ | ⟨rfl,L',-,hF',rfl⟩⟩:=h
 ·rw [hF.err] at h3
  exact absurd h3 h1
 ·rw [hF'.eq,<- hF.eq]
theorem tZ (L:Ja) (al rh be:Nat) (A:Option Addr) (n c:Nat) (pos:List Int) (w:World) (hl:qi w [.slice A n c] pos) :
  Calls Tryz.prog 113 #[.agg (Ya L), .agg #[.int .u64 al, .int .u64 rh, .int .u64 be], .slice A n c] w fun e w'=>e= .returned (.int .i64 (if Fs L pos al rh be=false then 1 else 0)) /\ Below w.heap.size w w':=by
 have HP:=zH (fun w' (hb:Below w.heap.size w w')=>mS L A n c pos w' (pf _ _ _ _ hb hl))
 obtain ⟨kl,kc,da,-⟩:=Ue w 39 32 (Ya L) #[.int .u64 al, .int .u64 rh, .int .u64 be];unfold Fs;obtain ⟨b0,h0⟩:=zEX (se L.n L.queries pos);obtain ⟨b1,h1⟩:=zEX (decide (al<L.p));obtain ⟨b2,h2⟩:=zEX (decide (rh<L.p));obtain ⟨b3,h3⟩:=zEX (decide (be<L.p));rw [<- h0] at HP;rw [<- h0,<- h1,<- h2,<- h3];have e1:decide ((L.p:Int) <= (al:Int))=!b1:=by rw [h1,<- decide_not];exact Bool.eq_iff_iff.2 (by simp)
 have e2:decide ((L.p:Int) <= (rh:Int))=!b2:=by rw [h2,<- decide_not];exact Bool.eq_iff_iff.2 (by simp)
 have e3:decide ((L.p:Int) <= (be:Int))=!b3:=by rw [h3,<- decide_not];exact Bool.eq_iff_iff.2 (by simp)
 have e1n:decide (L.p <= al)=!b1:=by rw [h1,<- decide_not];exact Bool.eq_iff_iff.2 (by simp)
 have e2n:decide (L.p <= rh)=!b2:=by rw [h2,<- decide_not];exact Bool.eq_iff_iff.2 (by simp)
 have e3n:decide (L.p <= be)=!b3:=by rw [h3,<- decide_not];exact Bool.eq_iff_iff.2 (by simp)
 clear h0 h1 h2 h3 hl;unfold Ya at *;go_enter Tryz.func113,Tryz.ntmps113
 go_upto_region 1 with fail
 generalize (w.alloc _).alloc _=w1 at kl kc da |-;have cl:=kl.cell;cases b0
 ·have HPp:=zH (HP.out _ da)
  go_wp2_with fail
  refine HPp.out.mono ?_;rintro e w2 ⟨rfl,ea⟩;go_wp2;go_ret
  exact ⟨rfl,oa da ea⟩
 go_wp2_with fail
 refine (HP.out _ da).mono ?_;rintro e w2 ⟨rfl,ea⟩;replace kl:=ia kl ea;replace kc:=ia kc ea;replace da:=oa da ea;clear cl ea;have cl:=kl.cell;have cc:=kc.cell;cases b1
 ·simp only [Bool.not_false] at e1 e1n
  go_wp2;go_ret
  exact ⟨rfl,da⟩
 simp only [Bool.not_true] at e1 e1n;cases b2
 ·simp only [Bool.not_false] at e2 e2n
  go_wp2;go_ret
  exact ⟨rfl,da⟩
 simp only [Bool.not_true] at e2 e2n;cases b3
 ·simp only [Bool.not_false] at e3 e3n
  go_wp2;go_ret
  exact ⟨rfl,da⟩
 simp only [Bool.not_true] at e3 e3n;go_wp2;go_ret
 exact ⟨rfl,da⟩
theorem AZ (L:Ja) (pu rho al be:Nat) (vars bl bw qs:Int) (A B B2 P D0 D1 D2 D3 D4:Option Addr) (R c m d m2 d2 np cp n0 n1 n2 n3 n4 k0 k1 k2 k3 k4:Nat) (rows:List Cb) (ws vs:List Nat) (r:List (List Nat)) (co li qu sa:List Nat) (pos:List Int) (w:World)
  (hL:Db L) (gg:tl L ⟨L.p,(pu:Int),vars,rows.length,bl,bw,qs⟩) (ht:dd L.p (pu:Int) vars rows=true) (hr:RSl 3 te w [.slice A R c] rows) (hw:RWd w [.slice B m d] ws) (hv:RWd w [.slice B2 m2 d2] vs) (hpos:qi w [.slice P np cp] pos)
  (h0:Sb w [.slice D0 n0 k0] r) (h1:RWd w [.slice D1 n1 k1] co) (h2:RWd w [.slice D2 n2 k2] li) (h3:RWd w [.slice D3 n3 k3] qu) (h4:RWd w [.slice D4 n4 k4] sa) (Xb:Ze L r co li qu sa=true) :
  Calls Tryz.prog 43 #[pc L.p (pu:Int) vars (.slice A R c), .agg #[.int .i64 bl, .int .i64 bw, .int .i64 qs], .slice B m d, .agg #[.slice D0 n0 k0, .slice D1 n1 k1, .slice D2 n2 k2, .slice D3 n3 k3, .slice D4 n4 k4], .slice B2 m2 d2, .agg #[.int .u64 al, .int .u64 rho, .int .u64 be], .slice P np cp] w fun e w'=>∃ (A0 A1 A2 A3 A4:Option Addr) (m0 m1 m2 m3 m4 d0 d1 d2 d3 d4:Nat),e= .returned (.tuple #[.agg #[.slice A0 m0 d0, .slice A1 m1 d1, .slice A2 m2 d2, .slice A3 m3 d3, .slice A4 m4 d4], .int .i64 (ti L pu vars rows ws vs pos al rho be)]) /\ Below w.heap.size w w':=by
 have hp:=Va hL.p;obtain ⟨f1,f2,f3,f4,f5⟩:=Pq Xb;have Sg:=hL.q2;have Ka:=hL.b2;have tg:=hL.k;have EE:=zH (fun w' (hb:Below w.heap.size w w')=>(yM L.p (pu:Int) vars A R c rows bl bw qs w' (Kc Gc _ _ _ _ hb hr) ht).mono (fun e dh h=>(show e= .returned (.tuple #[.agg (Ya L), .int .i64 0]) /\ Below w'.heap.size w' dh from ⟨SQ h.1 gg,h.2⟩)))
 have Yj:=zH (fun w' (hb:Below w.heap.size w w')=>by
  have:=DM L D0 D1 D2 D3 D4 n0 k0 n1 k1 n2 k2 n3 k3 n4 k4 r co li qu sa w' hL (Gb hb h0) (ta hb h1) (ta hb h2) (ta hb h3) (ta hb h4);rw [Xb] at this;exact this)
 have Tv:=zH (fun w' (hb:Below w.heap.size w w')=>(Ra (ta hb h4)).2.2.2.2)
 have HN4:=zH (show n4 <= 5000000 /\ sa.length=n4 from by
  have e1:=(Ra h4).1;have e2:=Xb;unfold Ze td at e2;simp only [Bool.and_eq_true,decide_eq_true_eq] at e2;have e3:=e2.2.2.2.2.2.1;have e4:=hL.n2;omega)
 have zp:=zH (fun w' (hb:Below w.heap.size w w')=>tZ L al rho be P np cp pos w' (pf _ _ _ _ hb hpos))
 have rj:=zH (fun w' (hb:Below w.heap.size w w')=>lE L.p (pu:Int) vars (.slice A R c) B m d ws w' (ta hb hw) hp.2)
 have Ev:=zH (fun w' (hb:Below w.heap.size w w')=>lE L.p (pu:Int) vars (.slice A R c) B2 m2 d2 vs w' (ta hb hv) hp.2)
 have Ym:=zH (fun (ha:Dd L.p vars ws=true) w' (hb:Below w.heap.size w w')=>zM L.p (pu:Int) vars A B R c m d rows ws w' (Kc Gc _ _ _ _ hb hr) (ta hb hw) ht ha)
 have ql:=zH (fun (ha:Dd L.p vars vs=true) w' (hb:Below w.heap.size w w')=>zM L.p (pu:Int) vars A B2 R c m2 d2 rows vs w' (Kc Gc _ _ _ _ hb hr) (ta hb hv) ht ha)
 have ax:(pu:Int)<vars:=by
  have ht:=ht;simp only [dd,Bool.and_eq_true,Bool.not_eq_true',decide_eq_false_iff_not] at ht;omega
 have mm:=zH (fun (ha:Dd L.p vars ws=true)=>(show 1+pu <= m /\ 1+pu <= ws.length from by have h5:=(Nq ha ax).1;have h6:=(Ra hw).1;omega))
 have jm:=zH (fun (ha:Dd L.p vars vs=true)=>(show 1+pu <= m2 /\ 1+pu <= vs.length from by have h5:=(Nq ha ax).1;have h6:=(Ra hv).1;omega))
 have tj:rows.length <= 16384:=by
  have ht:=ht;simp only [dd,Bool.and_eq_true,Bool.not_eq_true',decide_eq_false_iff_not] at ht;omega
 have Oy:=PI ht gg;have CB:=UI ht;have HSe:=zH (fun (ha:1+pu <= ws.length) (Bf:se L.n L.queries pos=true) w' (hb:Below w.heap.size w w')=>xS L pu rho al be vars A B P D0 D1 D2 D3 D4 R c m d np cp n0 n1 n2 n3 n4 k0 k1 k2 k3 k4 rows ws r co li qu pos w' hL Oy (Kc Gc _ _ _ _ hb hr) CB tj (ta hb hw) ha (Gb hb h0) (ta hb h1) (ta hb h2) (ta hb h3) ⟨Vk _ _ _ _,by rw [f1,Vk],fun _ hx=>qx hx,fun x hx=>(f2 x hx).1⟩ f3.1 f4.1 f5.1 (pf _ _ _ _ hb hpos) Bf)
 have Qz:Rq L (Pd L (Ia L rows ws pu) r co al) (Nc L (Tc L pu rho rows) (Ia L rows ws pu) r li) (pd L (Ia L rows ws pu) r qu be)=true:=xD hL ⟨Vk _ _ _ _,by rw [f1,Vk],fun _ hx=>qx hx,fun x hx=>(f2 x hx).1⟩ fw (by rw [zy,Vk]) f3 f4 f5.1 al be
 unfold Rq at Qz;simp only [Bool.and_eq_true,decide_eq_true_eq] at Qz;have Sr:=zH (fun (ha:1+pu <= vs.length) (Bf:se L.n L.queries pos=true) S0 S1 S2 S3 m0 m1 m3 m4 e0 e1 e3 e4 w' (hb:Below w.heap.size w w') g0 g1 g2 g3=>qZ L pu rho al be vars A B2 P S0 S1 S2 S3 R c m2 d2 np cp m0 m1 m3 m4 e0 e1 e3 e4 rows vs _ _ _ _ pos w' hL Oy (Kc Gc _ _ _ _ hb hr) CB tj (ta hb hv) ha (pf _ _ _ _ hb hpos) Bf (show RWd w' [.slice S0 m0 e0] (Pd L (Ia L rows ws pu) r co al) from g0) (show RWd w' [.slice S1 m1 e1] (Nc L (Tc L pu rho rows) (Ia L rows ws pu) r li) from g1) (show RWd w' [.slice S2 m3 e3] (pd L (Ia L rows ws pu) r qu be) from g2) (show Sb w' [.slice S3 m4 e4] (Ie L (Ia L rows ws pu) r co li qu pos) from g3) (by omega) (by omega) (by omega) (by simp [Ie]) (fun x hx=>by have:=VJ hL Bf x hx;rw [Vk] at this;exact this))
 have HSm:=zH (fun (h1:1+pu <= m) (h2:1+pu <= m2) w' (hb:Below w.heap.size w w')=>Fx B B2 (1+pu) d (1+pu) d2 (ws.take (1+pu)) (vs.take (1+pu)) w' (gG (ta hb hw) h1) (gG (ta hb hv) h2))
 have Tz:=zH (show m <= d /\ m2 <= d2 /\ d <= maxLen /\ d2 <= maxLen from ⟨(Ra hw).2.1,(Ra hv).2.1,(Ra hw).2.2.1,(Ra hv).2.2.1⟩)
 have Tx:=zH (show Fs L pos al rho be=true -> se L.n L.queries pos=true from fun h=>by unfold Fs at h;rw [Bool.and_eq_true] at h;exact h.1)
 obtain ⟨E,hE⟩:=zEX (ti L pu vars rows ws vs pos al rho be);rw [<- hE];unfold ti at hE;have HE:=zH hE;have bL:(pu:Int) <= 100000:=by
  have ht:=ht;simp only [dd,Bool.and_eq_true,Bool.not_eq_true',decide_eq_false_iff_not] at ht;omega
 obtain ⟨bs,Ji⟩:=zEX (decide (ws.take (1+pu)=vs.take (1+pu)));rw [<- Ji] at HE HSm;obtain ⟨p1,jc⟩:=zEX (1+pu);have j1:(1:Int)+(pu:Int)=(p1:Int):=by omega
 have j2:=Yb p1;rw [<- jc] at HSm mm jm HSe Sr;clear hE h0 h1 h2 h3 h4 Xb hr hw hv hpos gg ht hL hp f1 f2 f3 f4 f5 Sg Ka tg ax tj Oy CB Qz Ji jc bL;unfold Ya pc Er at *;obtain ⟨kt,kx,kc,ky,ka,da,-⟩:=zD w 25 27 42 32 42 #[.int .u64 L.p, .int .i64 pu, .int .i64 vars, .slice A R c] #[.int .i64 bl, .int .i64 bw, .int .i64 qs] #[.slice D0 n0 k0, .slice D1 n1 k1, .slice D2 n2 k2, .slice D3 n3 k3, .slice D4 n4 k4] #[.int .u64 al, .int .u64 rho, .int .u64 be] #[.slice none 0 0, .slice none 0 0, .slice none 0 0, .slice none 0 0, .slice none 0 0];unfold pc at *;go_enter Tryz.func43,Tryz.ntmps43
 go_upto_region 1 with fail
 generalize ((((w.alloc _).alloc _).alloc _).alloc _).alloc _=w1 at kt kx kc ky ka da |-;have ct:=kt.cell;have cx:=kx.cell;go_wp2_with fail
 refine (EE.out _ da).mono ?_;rintro e w2 ⟨rfl,ea⟩;replace kt:=ia kt ea;replace kc:=ia kc ea;replace ky:=ia ky ea;replace ka:=ia ka ea;replace da:=oa da ea;clear ea ct cx kx EE;go_upto_region 4 with fail
 have Jl:w.heap.size+4<w2.heap.size:=ka.lt;have kl:=Blk.new w2 39 #[.int .u64 L.p, .int .i64 L.block, .int .i64 L.queries, .int .i64 L.k, .int .i64 L.n, .int .i64 L.secret, .int .i64 L.rows, .int .i64 L.a, .int .i64 L.b, .int .i64 L.b, .int .i64 L.b];have ma:=(Below.refl w2.heap.size w2).alloc zR (.cells #[.int .u64 L.p, .int .i64 L.block, .int .i64 L.queries, .int .i64 L.k, .int .i64 L.n, .int .i64 L.secret, .int .i64 L.rows, .int .i64 L.a, .int .i64 L.b, .int .i64 L.b, .int .i64 L.b] 39);replace kt:=ia kt ma;replace kc:=ia kc ma;replace ky:=ia ky ma;replace ka:=ia ka ma;replace da:=oa da ma;clear ma;generalize w2.alloc _=w3 at kl kt kc ky ka da |-;generalize w2.heap.size=gl at kl Jl |-;have cl:=kl.cell;have cc:=kc.cell;go_wp2_with fail
 refine (Yj.out _ da).mono ?_;rintro e w4 ⟨rfl,ea⟩;replace kl:=ia kl ea;replace kt:=ia kt ea;replace kc:=ia kc ea;replace ky:=ia ky ea;replace ka:=ia ka ea;replace da:=oa da ea;clear ea cl cc Yj;have cl:=kl.cell;have cy:=ky.cell;obtain ⟨bc,JB⟩:=zEX (Fs L pos al rho be);rw [<- JB] at zp HE Tx;clear JB;cases bc
 ·have Ye:=zH (zp.out _ da)
  have yc:=zH (show E=1 by rw [HE.out];rfl)
  clear HE;go_wp2_with fail
  refine Ye.out.mono ?_;rintro e w5 ⟨rfl,ea⟩;simp only [if_true];replace ka:=ia ka ea;replace da:=oa da ea;clear ea cl cy;have ca:=ka.cell;have fa:=ka.frozen;have la:=ka.lt;go_wp2_with fail
  have Ba:=zh (w:=w5) (g:=w.heap.size+4) (.slice none 0 0) (.slice none 0 0) (.slice none 0 0) (.slice none 0 0) (.slice none 0 0);have ic:=zH (Pb da Ba);have xd:=zH (yh ka (.slice none 0 0) (.slice none 0 0) (.slice none 0 0) (.slice none 0 0) (.slice none 0 0));clear Ba;generalize ((((w5.setCell _ _).setCell _ _).setCell _ _).setCell _ _).setCell _ _=wf at ic xd |-;have cf:=xd.out.cell;exact bodyPost_ret (v:=.tuple #[.agg #[.slice none 0 0, .slice none 0 0, .slice none 0 0, .slice none 0 0, .slice none 0 0], .int .i64 1]) (by simp [results,Tryz.results43,go_sem,cf]) rfl ⟨_,_,_,_,_,_,_,_,_,_,_,_,_,_,_,by rw [yc.out],ic.out⟩
 go_wp2_with fail
 refine (zp.out _ da).mono ?_;rintro e w5 ⟨rfl,ea⟩;simp only [Bool.true_eq_false,if_false];replace kl:=ia kl ea;replace kt:=ia kt ea;replace kc:=ia kc ea;replace ky:=ia ky ea;replace ka:=ia ka ea;replace da:=oa da ea;clear ea cl cy zp;have Bf:=zH (Tx.out (by first | rfl | trivial))
 have ct:=kt.cell;obtain ⟨bw',uc⟩:∃ b,b=Dd L.p vars ws:=⟨_,rfl⟩;rw [<- uc] at rj HE Ym mm;clear uc;cases bw'
 ·have Ye:=zH (rj.out _ da)
  have yc:=zH (show E=1 by rw [HE.out];rfl)
  clear HE;go_wp2_with fail
  refine Ye.out.mono ?_;rintro e w6 ⟨rfl,ea⟩;replace ka:=ia ka ea;replace da:=oa da ea;clear ea ct;have ca:=ka.cell;have fa:=ka.frozen;have la:=ka.lt;go_wp2_with fail
  have Ba:=zh (w:=w6) (g:=w.heap.size+4) (.slice none 0 0) (.slice none 0 0) (.slice none 0 0) (.slice none 0 0) (.slice none 0 0);have ic:=zH (Pb da Ba);have xd:=zH (yh ka (.slice none 0 0) (.slice none 0 0) (.slice none 0 0) (.slice none 0 0) (.slice none 0 0));clear Ba;generalize ((((w6.setCell _ _).setCell _ _).setCell _ _).setCell _ _).setCell _ _=wf at ic xd |-;have cf:=xd.out.cell;exact bodyPost_ret (v:=.tuple #[.agg #[.slice none 0 0, .slice none 0 0, .slice none 0 0, .slice none 0 0, .slice none 0 0], .int .i64 1]) (by simp [results,Tryz.results43,go_sem,cf]) rfl ⟨_,_,_,_,_,_,_,_,_,_,_,_,_,_,_,by rw [yc.out],ic.out⟩
 go_wp2_with fail
 refine (rj.out _ da).mono ?_;rintro e w6 ⟨rfl,ea⟩;replace kl:=ia kl ea;replace kt:=ia kt ea;replace kc:=ia kc ea;replace ky:=ia ky ea;replace ka:=ia ka ea;replace da:=oa da ea;clear ea ct rj;have ct:=kt.cell;obtain ⟨bv,Fl⟩:=zEX (Dd L.p vars vs);rw [<- Fl] at Ev HE ql jm;clear Fl;cases bv
 ·have Ye:=zH (Ev.out _ da)
  have yc:=zH (show E=1 by rw [HE.out];rfl)
  clear HE;go_wp2_with fail
  refine Ye.out.mono ?_;rintro e w7 ⟨rfl,ea⟩;replace ka:=ia ka ea;replace da:=oa da ea;clear ea ct;have ca:=ka.cell;have fa:=ka.frozen;have la:=ka.lt;go_wp2_with fail
  have Ba:=zh (w:=w7) (g:=w.heap.size+4) (.slice none 0 0) (.slice none 0 0) (.slice none 0 0) (.slice none 0 0) (.slice none 0 0);have ic:=zH (Pb da Ba);have xd:=zH (yh ka (.slice none 0 0) (.slice none 0 0) (.slice none 0 0) (.slice none 0 0) (.slice none 0 0));clear Ba;generalize ((((w7.setCell _ _).setCell _ _).setCell _ _).setCell _ _).setCell _ _=wf at ic xd |-;have cf:=xd.out.cell;exact bodyPost_ret (v:=.tuple #[.agg #[.slice none 0 0, .slice none 0 0, .slice none 0 0, .slice none 0 0, .slice none 0 0], .int .i64 1]) (by simp [results,Tryz.results43,go_sem,cf]) rfl ⟨_,_,_,_,_,_,_,_,_,_,_,_,_,_,_,by rw [yc.out],ic.out⟩
 go_wp2_with fail
 refine (Ev.out _ da).mono ?_;rintro e w7 ⟨rfl,ea⟩;replace kl:=ia kl ea;replace kt:=ia kt ea;replace kc:=ia kc ea;replace ky:=ia ky ea;replace ka:=ia ka ea;replace da:=oa da ea;clear ea ct Ev;replace Ym:=zH (Ym.out (by first | rfl | trivial))
 replace ql:=zH (ql.out (by first | rfl | trivial))
 have ct:=kt.cell;obtain ⟨bsw,tF⟩:=zEX (Sj L.p rows ws);rw [<- tF] at Ym HE;clear tF;cases bsw
 ·have Ye:=zH (Ym.out _ da)
  have yc:=zH (show E=9 by rw [HE.out];rfl)
  clear HE;go_wp2_with fail
  refine Ye.out.mono ?_;rintro e w8 ⟨rfl,ea⟩;replace ka:=ia ka ea;replace da:=oa da ea;clear ea ct;have ca:=ka.cell;have fa:=ka.frozen;have la:=ka.lt;go_wp2_with fail
  have Ba:=zh (w:=w8) (g:=w.heap.size+4) (.slice none 0 0) (.slice none 0 0) (.slice none 0 0) (.slice none 0 0) (.slice none 0 0);have ic:=zH (Pb da Ba);have xd:=zH (yh ka (.slice none 0 0) (.slice none 0 0) (.slice none 0 0) (.slice none 0 0) (.slice none 0 0));clear Ba;generalize ((((w8.setCell _ _).setCell _ _).setCell _ _).setCell _ _).setCell _ _=wf at ic xd |-;have cf:=xd.out.cell;exact bodyPost_ret (v:=.tuple #[.agg #[.slice none 0 0, .slice none 0 0, .slice none 0 0, .slice none 0 0, .slice none 0 0], .int .i64 9]) (by simp [results,Tryz.results43,go_sem,cf]) rfl ⟨_,_,_,_,_,_,_,_,_,_,_,_,_,_,_,by rw [yc.out],ic.out⟩
 go_wp2_with fail
 refine (Ym.out _ da).mono ?_;rintro e w8 ⟨rfl,ea⟩;replace kl:=ia kl ea;replace kt:=ia kt ea;replace kc:=ia kc ea;replace ky:=ia ky ea;replace ka:=ia ka ea;replace da:=oa da ea;clear ea ct Ym;have ct:=kt.cell;obtain ⟨bsv,sF⟩:=zEX (Sj L.p rows vs);rw [<- sF] at ql HE;clear sF;cases bsv
 ·have Ye:=zH (ql.out _ da)
  have yc:=zH (show E=9 by rw [HE.out];rfl)
  clear HE;go_wp2_with fail
  refine Ye.out.mono ?_;rintro e w9 ⟨rfl,ea⟩;replace ka:=ia ka ea;replace da:=oa da ea;clear ea ct;have ca:=ka.cell;have fa:=ka.frozen;have la:=ka.lt;go_wp2_with fail
  have Ba:=zh (w:=w9) (g:=w.heap.size+4) (.slice none 0 0) (.slice none 0 0) (.slice none 0 0) (.slice none 0 0) (.slice none 0 0);have ic:=zH (Pb da Ba);have xd:=zH (yh ka (.slice none 0 0) (.slice none 0 0) (.slice none 0 0) (.slice none 0 0) (.slice none 0 0));clear Ba;generalize ((((w9.setCell _ _).setCell _ _).setCell _ _).setCell _ _).setCell _ _=wf at ic xd |-;have cf:=xd.out.cell;exact bodyPost_ret (v:=.tuple #[.agg #[.slice none 0 0, .slice none 0 0, .slice none 0 0, .slice none 0 0, .slice none 0 0], .int .i64 9]) (by simp [results,Tryz.results43,go_sem,cf]) rfl ⟨_,_,_,_,_,_,_,_,_,_,_,_,_,_,_,by rw [yc.out],ic.out⟩
 go_wp2_with fail
 refine (ql.out _ da).mono ?_;rintro e w9 ⟨rfl,ea⟩;replace kl:=ia kl ea;replace kt:=ia kt ea;replace kc:=ia kc ea;replace ky:=ia ky ea;replace ka:=ia ka ea;replace da:=oa da ea;clear ea ct ql;have ct:=kt.cell;have lt:=kt.lt;have z1:(p1:Int) <= (m:Int):=by have:=(mm.out (by first | rfl | trivial)).1;omega
 have z2:(p1:Int) <= (m2:Int):=by have:=(jm.out (by first | rfl | trivial)).1;omega
 have z3:(p1:Int) <= (d:Int):=by have:=Tz.out.1;omega
 have z4:(p1:Int) <= (d2:Int):=by have:=Tz.out.2.1;omega
 have z5:(0:Int) <= (p1:Int):=by omega
 have Xn:=zH (HSm.out (mm.out (by first | rfl | trivial)).1 (jm.out (by first | rfl | trivial)).1)
 go_upto_region 8 with fail
 refine Rc (Ib) [10] [0,1,2,3,4,5,6,7,8,9,10,11] (by kernel_rfl) (by kernel_rfl) ?_
 refine vd (xa) ?_;intro Wc Na ja;have ya:=Cc Na;replace kl:=ia kl ya;replace kt:=ia kt ya;replace kc:=ia kc ya;replace ky:=ia ky ya;replace ka:=ia ka ya;replace da:=oa da ya;clear Na ya;refine pb ?_;refine Mb (xa) rfl rfl rfl (fun _=>by go_simp <;> rfl) ((Xn.out _ da).mono ?_)
 rintro e wA ⟨rfl,ea⟩;refine ⟨_,rfl,ea,?_⟩;replace ja:=(xa).trans _ _ _ ja (ea);simp only [Act.put,zLa,zLb,zLc];replace kl:=ia kl ea;replace kt:=ia kt ea;replace kc:=ia kc ea;replace ky:=ia ky ea;replace ka:=ia ka ea;replace da:=oa da ea;clear ea ct lt Xn;refine pb ?_;refine Fc ?_;clear ja;cases bs
 ·have yc:=zH (show E=1 by rw [HE.out];rfl)
  clear HE;have ca:=ka.cell;have fa:=ka.frozen;have la:=ka.lt;go_wp2_with fail
  have Ba:=zh (w:=wA) (g:=w.heap.size+4) (.slice none 0 0) (.slice none 0 0) (.slice none 0 0) (.slice none 0 0) (.slice none 0 0);have ic:=zH (Pb da Ba);have xd:=zH (yh ka (.slice none 0 0) (.slice none 0 0) (.slice none 0 0) (.slice none 0 0) (.slice none 0 0));clear Ba;generalize ((((wA.setCell _ _).setCell _ _).setCell _ _).setCell _ _).setCell _ _=wf at ic xd |-;have cf:=xd.out.cell;exact bodyPost_ret (v:=.tuple #[.agg #[.slice none 0 0, .slice none 0 0, .slice none 0 0, .slice none 0 0, .slice none 0 0], .int .i64 1]) (by simp [results,Tryz.results43,go_sem,cf]) rfl ⟨_,_,_,_,_,_,_,_,_,_,_,_,_,_,_,by rw [yc.out],ic.out⟩
 have yc:=zH (show E=0 by rw [HE.out];rfl)
 clear HE;replace HSe:=zH (HSe.out (mm.out (by first | rfl | trivial)).2 Bf.out)
 replace Sr:=zH (Sr.out (jm.out (by first | rfl | trivial)).2 Bf.out)
 clear mm jm Bf Tx Tz z1 z2 z3 z4 z5 j1 j2;have cl:=kl.cell;have ll:=kl.lt;have ct:=kt.cell;have lt:=kt.lt;have cc:=kc.cell;have lc:=kc.lt;have cy:=ky.cell;have ly:=ky.lt;go_upto_region 10 with fail
 refine U6 (wA.heap.size) [11,12,14] [0,1,2,3,4,5,6,7,8,9,10,11,12] 13 [14] 42 #[.slice none 0 0, .slice none 0 0, .slice none 0 0, .slice none 0 0, .slice none 0 0] (by kernel_rfl) rfl ⟨rfl,fun a w=>by go_simp <;> rfl⟩ (by kernel_rfl) ?_
 refine Y6 ?_;intro Wc Na ja;have Pa:wA.heap.size <= Wc.heap.size:=by rw [Na.out];first | exact zR | omega
 have ya:=Cc Na;refine MN ?_;refine sU (f:=?_) (vals:=?_) rfl rfl rfl Pa ?_ (fun wF mf=>?_)
 rotate_left 3
 replace ya:=oa ya mf;replace ja:=(zb wA.heap.size).trans _ _ _ ja (yf mf Pa);replace Pa:=Nat.le_trans Pa mf.size;refine (HSe.out _ (oa da ya)).mono ?_
 rotate_left
 ·intro w_;go_simp <;> rfl
 rintro e wB ⟨v0,v1,v2,v3,rfl,s0,s1,s2,s3,ea⟩;clear mf;refine ⟨_,rfl,ea,?_⟩;replace ya:=oa ya ea;replace ja:=(zb wA.heap.size).trans _ _ _ ja (yf ea Pa);replace Pa:=Nat.le_trans Pa ea.size;simp only [Act.put,zLa,zLb,zLc];clear ea;obtain ⟨S0,m0',e0',rfl⟩:=Rm s0;obtain ⟨S1,m1',e1',rfl⟩:=Rm s1;obtain ⟨S2,zr,e2',rfl⟩:=Rm s2;obtain ⟨S3,m3',e3',rfl⟩:=RSl.slc s3.here;refine MN ?_;refine sU (f:=?_) (vals:=?_) rfl rfl rfl Pa ?_ (fun wF mf=>?_)
 rotate_left 3
 replace ya:=oa ya mf;replace ja:=(zb wA.heap.size).trans _ _ _ ja (yf mf Pa);replace Pa:=Nat.le_trans Pa mf.size;refine (Sr.out _ _ _ _ _ _ _ _ _ _ _ _ _ (oa da ya) (ff (zg s0 mf)) (ff (zg s1 mf)) (ff (zg s2 mf)) (Gb mf s3.here)).mono ?_
 rotate_left
 ·intro w_;go_simp <;> rfl
 rintro e wC ⟨A0,A1,A2,A3,a0,a1,a2,a3,x0,x1,x2,x3,rfl,ea⟩;clear mf;refine ⟨_,rfl,ea,?_⟩;replace ya:=oa ya ea;replace ja:=(zb wA.heap.size).trans _ _ _ ja (yf ea Pa);replace Pa:=Nat.le_trans Pa ea.size;simp only [Act.put,zLa,zLb,zLc];clear ea s0 s1 s2 s3;refine MN ?_;refine V6 Pa (fun oj wE gE Nd Nl kE hgE=>?_)
 obtain rfl:=Option.some.inj Nd;clear Nd;replace ya:=oa ya Nl;replace ja:=(zb wA.heap.size).trans _ _ _ ja (yf Nl Pa);replace Pa:=Nat.le_trans Pa Nl.size;clear Nl;simp only [Act.put,zLa,zLb,zLc];obtain ⟨cE,rE⟩:=kE.cells';refine Nf ?_;refine Ug (zb wA.heap.size) rfl rfl rfl ?_;go_simp;have hg:=zh (w:=wE) (g:=gE) (.slice A0 a0 x0) (.slice A1 a1 x1) (.slice A2 a2 x2) (.slice A3 a3 x3) (.slice none 0 0);have kB:=yh kE (.slice A0 a0 x0) (.slice A1 a1 x1) (.slice A2 a2 x2) (.slice A3 a3 x3) (.slice none 0 0);refine ⟨Ff hg Pa hgE,?_⟩;replace ya:=ya.trans (Ff hg Pa hgE);clear hg cE rE ja kE
 try simp only [Act.put,zLa,zLb,zLc]
 generalize ((((wE.setCell _ _).setCell _ _).setCell _ _).setCell _ _).setCell _ _=wg at *;have ja:=(zb wA.heap.size).refl wg;refine Nf ?_;refine Fc ?_;clear ja cl ll ct lt cc lc cy ly;have HGE:=zH (show w.heap.size+4<gE from by have:=ka.lt;omega)
 replace kc:=ia kc ya;replace ka:=ia ka ya;replace da:=oa da ya;clear ya kl kt ky HSe Sr HSm Pa hgE;have cc:=kc.cell;have lc:=kc.lt;have hrd4:=Tv.out _ da;have ma:=(Below.refl wg.heap.size wg).alloc zR (.cells #[] 22);rw [<- HN4.out.2] at kc cc;have Rv:=zH (show Rd wg 1 D4 sa.length (Fa sa) from by rw [HN4.out.2];exact hrd4)
 clear hrd4;go_wp2_with (at_builtin;refine Mf rfl _ _ rfl xf rfl (Wk wg 22 zR) rfl (Rv.out.alloc _) (mg sa) (by have:=HN4.out;omega) (by simp) ?_)
 intro v' wn ra Ma Lb;have hB:=Ae (Wk wg 22 zR) Ma (by simp)
 replace hB:=ma.trans hB;replace ra:wn.ownsRow wg.heap.size 22 1 v' sa.length (Fa sa):=by simpa using ra
 obtain ⟨A4,x4,rfl,-⟩:=Ob ra;replace kB:=ia kB hB;replace ka:=ia ka hB;replace da:=oa da hB;clear hB ma Ma Lb cc lc kc ra;have cB:=kB.cell;have fB:=kB.frozen;have lB:=kB.lt;go_upto_region 12 with fail
 have Ba:=Me (w:=wn) gE 4 (.slice A4 sa.length x4);replace kB:=kB.set_ 4 (.slice A4 sa.length x4);simp only [List.setIfInBounds_toArray,List.set_cons_zero,List.set_cons_succ] at kB;have hGE:=HGE.out;replace ka:=xc ka Ba;replace da:=Pb da Ba;clear Ba cB fB lB;generalize wn.setCell _ _=wh at kB ka da |-;have cB:=kB.cell;have lB:=kB.lt;have ca:=ka.cell;have fa:=ka.frozen;have la:=ka.lt;go_wp2_with fail
 have Ba:=zh (w:=wh) (g:=w.heap.size+4) (.slice A0 a0 x0) (.slice A1 a1 x1) (.slice A2 a2 x2) (.slice A3 a3 x3) (.slice A4 sa.length x4);have ic:=zH (Pb da Ba);have xd:=zH (yh ka (.slice A0 a0 x0) (.slice A1 a1 x1) (.slice A2 a2 x2) (.slice A3 a3 x3) (.slice A4 sa.length x4));clear Ba;generalize ((((wh.setCell _ _).setCell _ _).setCell _ _).setCell _ _).setCell _ _=wf at ic xd |-;have cf:=xd.out.cell;exact bodyPost_ret (v:=.tuple #[.agg #[.slice A0 a0 x0, .slice A1 a1 x1, .slice A2 a2 x2, .slice A3 a3 x3, .slice A4 sa.length x4], .int .i64 0]) (by simp [results,Tryz.results43,go_sem,cf]) rfl ⟨_,_,_,_,_,_,_,_,_,_,_,_,_,_,_,by rw [yc.out],ic.out⟩
end Go.Proofs.YtgeofabpinfcmaaGreat
