/- A part of the proof. No condition. -/
import Derived.Test.YtgeofabpinfcmaaGreatProg
import Derived.Test.YtgeofabpinfcmaaGreatEZ22
import Derived.Test.YtgeofabpinfcmaaGreatEZ26
import Derived.Test.YtgeofabpinfcmaaGreatEZ10
import Derived.Test.YtgeofabpinfcmaaGreatEZ19
import Derived.Test.YtgeofabpinfcmaaGreatEZ15
import Derived.Test.YtgeofabpinfcmaaGreatEZ23
import Derived.Test.YtgeofabpinfcmaaGreatEZ24
import Derived.Test.YtgeofabpinfcmaaGreatEZ30
import Derived.Test.YtgeofabpinfcmaaGreatEZ27
import Derived.Test.YtgeofabpinfcmaaGreatEZ17
import Derived.Test.YtgeofabpinfcmaaGreatEZ2

set_option maxRecDepth 100000
set_option maxHeartbeats 8000000
set_option linter.unusedVariables false
set_option linter.unusedSimpArgs false
namespace Go.Proofs.YtgeofabpinfcmaaGreat
theorem Cg.self {p:Nat}:Cg p (p:Int) 0:=⟨1,by omega⟩
end Go.Proofs.YtgeofabpinfcmaaGreat
namespace Go.Proofs.YtgeofabpinfcmaaGreat
open Go.RowKit
theorem SL {w w':World} {base:Nat} {e:TypeId} {size:Nat} {v:Value} {n:Nat} {xs:List Value} {u:Option Nat} (h:w.ownsRow base e size v n xs) (hg:w.grownBy w' u) (Bb:∀ q,v.ownBlock=some q -> u=some q -> False):w'.ownsRow base e size v n xs:=by
 have za:=h.lt;obtain ⟨h1,h2⟩:=h;refine ⟨h1,?_⟩;rcases h2 with h2 | ⟨g,cap,cur,hv,dj,hh,r⟩
 ·exact Or.inl h2
 ·exact Or.inr ⟨g,cap,cur,hv,dj,by rw [hg.block g (Array.getElem?_eq_some_iff.1 hh).1 (fun e=>Bb g (by rw [hv];rfl) e.symm)];exact hh,r⟩
theorem TG {w:World} {base:Nat} {e:TypeId} {size:Nat} {x x' y:Value} {n:Nat} {ys:List Value} (hy:w.ownsRow base e size y n ys) (Mp:∀ q,x.ownBlock=some q -> y.ownBlock=some q -> False) (hb:x'.ownBlock=x.ownBlock \/ x'.ownBlock=some w.heap.size):∀ q,x'.ownBlock=some q -> y.ownBlock=some q -> False:=fun q h1 h2=>by
 rcases hb with e | e
 ·exact Mp q (e ▸ h1) h2
 ·have:=(hy.lt q h2).2
  rw [e] at h1;have:=Option.some.inj h1;omega
theorem JZ (L:Ja) (A B C:Option Addr) (n c m d k e:Nat) (msg vals:List Nat) (pos:List Int) (w:World) (hL:Db L) (hm:RWd w [.slice A n c] msg) (hn:n=L.block) (hpos:qi w [.slice B m d] pos) (hv:RWd w [.slice C k e] vals) :
  Calls Tryz.prog 198 #[.agg (Ya L), .slice A n c, .slice B m d, .slice C k e] w fun e' w'=>Below w.heap.size w w' /\ ((Cr L pos vals=false /\ e'= .returned (.tuple #[.slice none 0 0, .int .i64 1])) \/ (Cr L pos vals=true /\ ∃ v,e'= .returned (.tuple #[v, .int .i64 0]) /\ w'.ownsRow w.heap.size 22 1 v (kj L msg pos vals).length (Fa (kj L msg pos vals)))):=by
 have HP:=zH (fun w hl=>mS L B m d pos w hl)
 have HN:=zH (fun w hl=>dE C k e L.queries L.p vals w hl)
 have HI:=zH (fun w hl=>xM L.p 1 L.block A c msg w hL.p hl)
 have Iq:=zH (fun w=>lS L w hL)
 have HE:=zH (fun A n c x l w hl=>vM L.p A n c x l w hL.p hl)
 have HS:=zH (fun a b w=>BM L.p a b w hL.p)
 have HW:=zH (fun a e w he=>oI L.p a e w hL.p he)
 have HV:=zH (fun a w=>aG L.p a w hL.p)
 have HM:=zH (fun a b w=>Rn L.p a b w hL.p)
 have HL:=zH (fun A B m c n d xs ys w hx hy hlen hm=>FZ L.p A B m c n d xs ys w hL.p hx hy hlen hm)
 have HD:=zH (fun A n c m l w hl hn hm=>nI A n c m l w hl hn hm)
 have da:Below w.heap.size w (w.alloc (.cells #[.int .u64 L.p, .int .i64 L.block, .int .i64 L.queries, .int .i64 L.k, .int .i64 L.n, .int .i64 L.secret, .int .i64 L.rows, .int .i64 L.a, .int .i64 L.b, .int .i64 L.b, .int .i64 L.b] 39)):=(Below.refl _ _).alloc zR _;have kl:=Blk.new w 39 #[.int .u64 L.p, .int .i64 L.block, .int .i64 L.queries, .int .i64 L.k, .int .i64 L.n, .int .i64 L.secret, .int .i64 L.rows, .int .i64 L.a, .int .i64 L.b, .int .i64 L.b, .int .i64 L.b];have ki:=zH (show Cr L pos vals=(se L.n L.queries pos&&td vals L.queries L.p) from rfl)
 have ni:=zH (show se L.n L.queries pos=true -> pos.length=L.queries from Jr)
 have xB:=zH hL;obtain ⟨po,Bf⟩:=zEX (se L.n L.queries pos);obtain ⟨eo,Bu⟩:=zEX (td vals L.queries L.p);have jl:Hid (∀ w:World,qi w [.slice B m d] pos -> Calls Tryz.prog 197 #[.agg (Ya L), .slice B m d] w fun e w'=>e= .returned (.bool po) /\ Below w.heap.size w w'):=zH (fun w hl=>by rw [Bf];exact HP.out w hl)
 have Jg:Hid (∀ w:World,RWd w [.slice C k e] vals -> Calls Tryz.prog 49 #[.slice C k e, .int .i64 L.queries, .int .u64 L.p] w fun e w'=>e= .returned (.bool eo) /\ Below w.heap.size w w'):=zH (fun w hl=>by rw [Bu];exact HN.out w hl)
 rw [ki.out,<- Bf,<- Bu];subst hn;cases po with
 | false =>
  unfold Ya;go_enter Tryz.func198,Tryz.ntmps198
  go_upto_region 1 with fail
  generalize w.alloc _=w1 at kl da |-;replace hm:=ta da hm;have Oo:=pf _ _ _ _ da hpos;have cl:=kl.cell;have ll:=kl.lt;clear hm hpos hv HP HN HI Iq HE HS HW HV HM HL HD ki ni xB Jg Bf Bu;go_wp2_with fail
  refine (jl.out _ Oo).mono ?_;rintro e' w2 ⟨rfl,ea⟩;replace kl:=ia kl ea;replace da:=oa da ea;clear ea;go_wp2
  go_ret2
  exact ⟨da, .inl ⟨rfl,rfl⟩⟩
 | true =>
  have Ud:=ni.out Bf.symm;cases eo with
  | false =>
   unfold Ya;go_enter Tryz.func198,Tryz.ntmps198
   go_upto_region 1 with fail
   generalize w.alloc _=w1 at kl da |-;replace hv:=ta da hv;have Oo:=pf _ _ _ _ da hpos;have cl:=kl.cell;have ll:=kl.lt;clear hm hpos HP HN HI Iq HE HS HW HV HM HL HD ki ni xB Bf Bu Ud;go_wp2_with fail
   refine (jl.out _ Oo).mono ?_;rintro e' w2 ⟨rfl,ea⟩;replace kl:=ia kl ea;replace da:=oa da ea;replace hv:=ta ea hv;clear ea;have cl:=kl.cell;go_wp2_with fail
   refine (Jg.out _ hv).mono ?_;rintro e' w3 ⟨rfl,ea⟩;replace kl:=ia kl ea;replace da:=oa da ea;clear ea;go_wp2
   go_ret2
   exact ⟨da, .inl ⟨rfl,rfl⟩⟩
  | true =>
   have Di:Hid (∀ w:World,RWd w [.slice A L.block c] msg -> Calls Tryz.prog 204 #[.int .u64 L.p, .slice A L.block c, .int .u64 1] w fun e w'=>∃ v,e= .returned (.tuple #[v, .int .i64 0]) /\ RWd w' [v] (Br L msg) /\ Below w.heap.size w w'):=zH (fun w hl=>by
    have jc:=(Va xB.out.p).1;refine (HI.out w hl (Uk xB.out).1 (by rw [Nat.mod_eq_of_lt (by omega)];omega)).mono ?_
    rintro e w' ⟨v,he,ra,hb⟩;obtain ⟨A2,JA,rfl,-⟩:=Ob ra;refine ⟨_,he,qf ra fun y hy=>?_,hb⟩
    obtain ⟨i,-,rfl⟩:=List.mem_map.1 hy;have:=lL (p:=L.p) (by omega) msg 1 i
    have:=(Va xB.out.p).2;omega)
   unfold Ya;go_enter Tryz.func198,Tryz.ntmps198
   go_upto_region 1 with fail
   generalize w.alloc _=w1 at kl da |-;replace hv:=ta da hv;replace hm:=ta da hm;have Oo:=pf _ _ _ _ da hpos;have cl:=kl.cell;have ll:=kl.lt;have cu:=zH Bf;have HEO:=zH Bu;clear hpos HP HN HI ki ni Bf Bu;go_wp2_with fail
   refine (jl.out _ Oo).mono ?_;rintro e' w2 ⟨rfl,ea⟩;replace Oo:=pf _ _ _ _ ea Oo;replace kl:=ia kl ea;replace da:=oa da ea;replace hv:=ta ea hv;replace hm:=ta ea hm;clear ea;have cl:=kl.cell;go_wp2_with fail
   refine (Jg.out _ hv).mono ?_;rintro e' w3 ⟨rfl,ea⟩;replace Oo:=pf _ _ _ _ ea Oo;replace kl:=ia kl ea;replace da:=oa da ea;replace hv:=ta ea hv;replace hm:=ta ea hm;clear ea;have cl:=kl.cell;go_wp2_with fail
   refine (Di.out _ hm).mono ?_;rintro e' w4 ⟨va,rfl,ha,ea⟩;replace Oo:=pf _ _ _ _ ea Oo;replace kl:=ia kl ea;replace da:=oa da ea;replace hv:=ta ea hv;clear ea hm;have cl:=kl.cell;go_wp2_with fail
   refine (Iq.out _).mono ?_;rintro e' w5 ⟨v1,v2,rfl,-,tr,ea⟩;replace Oo:=pf _ _ _ _ ea Oo;replace kl:=ia kl ea;replace da:=oa da ea;replace hv:=ta ea hv;replace ha:=ta ea ha;clear ea;obtain ⟨fx,Ua⟩:=zEX (sf L pos);obtain ⟨fy,Gw⟩:=zEX (KC L msg pos vals);have sJ:=zH (show ∀ i,fx i=Vb L.p (tb L.p).1 L.n (pos.getD i 0).toNat from fun i=>by rw [Ua];rfl)
   obtain ⟨M,hM⟩:=zEX (Br L msg);rw [<- hM] at ha;obtain ⟨A4,c4,rfl⟩:=Le ha;obtain ⟨D,hD⟩:=zEX ((List.range L.n).map (Vb L.p (tb L.p).1 L.n));rw [<- hD] at tr;obtain ⟨A5,c5,rfl⟩:=Le tr;have hd1:=xB.out;have Kb:=Va hd1.p;have HDL:=zH (show D.length=L.n by rw [hD,List.length_map,List.length_range])
   have HDG:=zH (show ∀ z,z<L.n -> D.getD z 0=Vb L.p (tb L.p).1 L.n z from fun z hz=>by rw [hD,Qf,if_pos hz])
   have HFV:=zH (show ∀ i,(vals.getD i 0+oc L.p (Bc L.p M (fx i)))%L.p*((((fx i)^L.block%L.p+oc L.p 1)%L.p)^(L.p-2)%L.p)%L.p=fy i from fun i=>by rw [Ua,Gw,hM];rfl)
   have HFXL:=zH (show ∀ i,fx i<18446744073709551616 from fun i=>by rw [Ua];have:=TO (p:=L.p) (s:=(tb L.p).1) (n:=L.n) (by omega) (pos.getD i 0).toNat;exact Nat.lt_trans this Kb.2)
   have HFYL:=zH (show ∀ i,fy i<18446744073709551616 from fun i=>by rw [Gw];exact Nat.lt_trans (Nat.mod_lt _ (by omega)) Kb.2)
   have Cp:=zH (fun i hi=>Fz (N:=L.n) (Q:=L.queries) (l:=pos) cu.out.symm (i:=i) hi)
   have oy:=zH (show vals.length=pos.length from by have h:=HEO.out.symm;unfold td at h;rw [Bool.and_eq_true] at h;rw [Ud];exact of_decide_eq_true h.1)
   have HMR:=zH (show Te (Mm L.p ((List.range pos.length).map fx) ((List.range pos.length).map fy)) L.queries=kj L msg pos vals from by rw [Ua,Gw];rfl)
   have Xt:=zH (show L.block<18446744073709551616 by have:=hd1.b2;omega)
   have e1:IntKind.u64.wrap (L.block:Int)=(L.block:Int):=by rw [IntKind.wrap_u64];have:=hd1.b2;omega
   have Sg:=hd1.q2;clear hD hM Ua Gw cu HEO hd1 Kb xB Iq Jg jl Di;obtain ⟨Ml,hvc,xt,-,ph⟩:=Ra hv;obtain ⟨-,hqc,hqx,-,hqr⟩:=Ra tr;obtain ⟨A',n',c',he,Eg,Td,Li,La⟩:=Oo;simp at he
   obtain ⟨rfl,rfl,rfl⟩:=he;go_wp2_with fail
   go_loopw [14,15,16] (fun xv yv y wr=>∃ i:Nat,i <= pos.length /\ y= .int .i64 i /\ wr.ownsRow w5.heap.size 22 1 xv i (Fa ((List.range i).map fx)) /\ wr.ownsRow w5.heap.size 22 1 yv i (Fa ((List.range i).map fy)) /\ Hid (∀ q,xv.ownBlock=some q -> yv.ownBlock=some q -> False) /\ Below w5.heap.size w5 wr) (fun _ _ y _=>pos.length-(intOf y).toNat)
   case atStart=>exact ⟨0,Nat.zero_le _,rfl,(Wk w5 22 zR).alloc _,by have:=Wk (base:=w5.heap.size) (w5.alloc (.cells #[] 22)) 22 (by simp);simpa [Fa] using this,zH (fun q h1 h2=>by simp [Value.ownBlock] at h1 h2;omega),((Below.refl _ _).alloc zR _).alloc (by simp) _⟩
   case round =>
    obtain ⟨i,hi,rfl,vg,Zg,Mp,hb⟩:=hrel;by_cases za:i<pos.length
    ·have q1:(i:Int)<(pos.length:Int):=by omega
     have q2:(0:Int) <= (i:Int):=by omega
     obtain ⟨b,q,rfl,Wb,hc,-,-⟩:=Jt La za;obtain ⟨Tg,fe,-⟩:=Cp.out i za;obtain ⟨z,hz⟩:∃ z:Nat,pos.getD i 0=(z:Int):=⟨_,(Int.toNat_of_nonneg Tg).symm⟩;rw [hz] at hc fe;have hzn:z<L.n:=by omega
     have hzd:z<D.length:=by rw [HDL.out];exact hzn
     obtain ⟨b2,Ht,rfl,Ii,Xg⟩:=Vd hqr hzd;obtain ⟨b3,q3',rfl,pF,Hl⟩:=Vd (l:=vals) (by rw [<- Ml];exact ph) (j:=i) (by rw [oy.out];exact za)
     have hxe:D.getD z 0=fx i:=by rw [HDG.out z hzn,sJ.out i,hz];rfl
     have Zr:=zH (HFV.out i);have HXSn:=zH (It fx i);have HYSn:=zH (It fy i);obtain ⟨x,hx⟩:=zEX (fx i);obtain ⟨y,hy⟩:=zEX (fy i);rw [hxe,<- hx] at Xg;rw [<- hx] at HXSn;rw [<- hy] at HYSn;rw [<- hx,<- hy] at Zr;obtain ⟨v,sC⟩:∃ v,v=vals.getD i 0:=⟨_,rfl⟩;rw [<- sC] at Hl Zr;obtain ⟨t,ht⟩:=zEX (x^L.block%L.p);obtain ⟨zz,Rk⟩:=zEX ((t+oc L.p 1)%L.p);obtain ⟨ev,Xq⟩:=zEX (Bc L.p M x);obtain ⟨s,hs⟩:=zEX ((v+oc L.p ev)%L.p);obtain ⟨zi,Bt⟩:=zEX (zz^(L.p-2)%L.p);rw [<- ht,<- Rk,<- Xq,<- hs,<- Bt] at Zr;have om:=zH (fun w=>by have:=HW.out x L.block w Xt.out;rw [<- ht] at this;exact this)
     have Ef:=zH (fun w=>by have:=HS.out t 1 w;rw [<- Rk] at this;exact this)
     have yc:=zH (fun A n c w hl=>by have:=HE.out A n c x M w hl;rw [<- Xq] at this;exact this)
     have Th:=zH (fun w=>by have:=HS.out v ev w;rw [<- hs] at this;exact this)
     have Vv:=zH (fun w=>by have:=HV.out zz w;rw [<- Bt] at this;exact this)
     have yd:=zH (fun w=>by have:=HM.out s zi w;rw [Zr.out] at this;exact this)
     have c1:=(hb.cell (p:=⟨b,q+i,none⟩) Wb).trans hc;have c2:=(hb.cell (p:=⟨b2,Ht+z,none⟩) Ii).trans Xg;have u1:(0:Int) <= (z:Int):=by omega
     have u2:(z:Int)<(D.length:Int):=by omega
     have Fe:=ia kl hb;have cl:=Fe.cell;have ll:=Fe.lt;clear hx hy sC ht Rk Xq hs Bt Zr hxe Tg fe hzn hzd hz;go_upto_region 11 with fail
     refine Rc (Ib) [8,9] [0,1,2,3,4,5,6,7,8,9,10] (by kernel_rfl) (by kernel_rfl) ?_
     refine vd (xa) ?_;intro Wc Na ja;have ya:=Cc Na;replace vg:=Oa vg ya zR;replace Zg:=Oa Zg ya zR;replace hb:=oa hb ya;refine pb ?_;refine Mb (xa) rfl rfl rfl (fun _=>by go_simp <;> rfl) ((om.out _).mono ?_)
     rintro e w7 ⟨rfl,ea⟩;refine ⟨_,rfl,ea,?_⟩;replace ja:=(xa).trans _ _ _ ja (ea);simp only [Act.put,zLa,zLb,zLc];replace vg:=Oa vg ea zR;replace Zg:=Oa Zg ea zR;replace hb:=oa hb ea;refine pb ?_;refine Mb (xa) rfl rfl rfl (fun _=>by go_simp <;> rfl) ((Ef.out _).mono ?_)
     rintro e w8 ⟨rfl,Zd⟩;refine ⟨_,rfl,Zd,?_⟩;replace ja:=(xa).trans _ _ _ ja (Zd);simp only [Act.put,zLa,zLb,zLc];replace vg:=Oa vg Zd zR;replace Zg:=Oa Zg Zd zR;replace hb:=oa hb Zd;refine pb ?_;refine Fc ?_;clear ya ea Zd ja Na c1 c2 Fe cl ll;go_wp2_with (at_builtin;refine Mf rfl _ _ rfl xf rfl (vg.alloc _) rfl (Lf _ _ _) (mg [x]) (by omega) (by simp;have:=hb.size;omega) ?_)
     intro xv' wn hox' Ma Lb;have ma:=(Below.refl w8.heap.size w8).alloc zR (.cells #[.int .u64 x] 22);have YK:=Oa Zg ma zR;have hB:=Ae (vg.alloc _) Ma (by simp;have:=hb.size;omega)
     replace Zg:=SL YK Ma (fun q h1 h2=>Mp.out q h2 h1)
     replace Mp:=zH (TG YK Mp.out (by rcases Lb with h | h;exact .inl h;exact .inr (by rw [h];simp)))
     replace hb:=(Uh hb ma hb.size).trans hB;replace vg:wn.ownsRow w5.heap.size 22 1 xv' (i+1) (Fa ((List.range (i+1)).map fx)):=Qi (b:=[x]) hox' HXSn.out;clear hox' Ma Lb ma hB YK;have Fe:=ia kl hb;have cl:=Fe.cell;have ll:=Fe.lt;have c3:=(hb.cell (p:=⟨b3,q3'+i,none⟩) pF).trans Hl;have l3:=Nat.lt_of_lt_of_le pF hb.size;have u3:(i:Int)<(vals.length:Int):=by rw [oy.out];exact q1
     have ll5:=kl.lt;go_upto_region 13 with fail
     refine Rc (Yf w5.heap.size) [13,14,18,19,20,21] [0,1,2,3,4,5,6,7,8,9,10,11,12,15,16,17,13,14,18,19,20,21,22] (by kernel_rfl) (by kernel_rfl) ?_
     refine vd (zb w5.heap.size) ?_;intro Wc Na ja;have ya:=Cc Na;replace vg:=Oa vg ya zR;replace Zg:=Oa Zg ya zR;replace hb:=oa hb ya;have Qy:=ta hb ha;refine Nf ?_;refine Mb (zb w5.heap.size) rfl rfl rfl (fun _=>by go_simp <;> rfl) ((yc.out _ _ _ _ Qy).mono ?_)
     rintro e w9 ⟨rfl,ea⟩;refine ⟨_,rfl,ea.mono hb.size,?_⟩;replace ja:=(zb w5.heap.size).trans _ _ _ ja (ea.mono hb.size);simp only [Act.put,zLa,zLb,zLc];replace vg:=Oa vg ea zR;replace Zg:=Oa Zg ea zR;replace hb:=oa hb ea;refine Nf ?_;refine Mb (zb w5.heap.size) rfl rfl rfl (fun _=>by go_simp <;> rfl) ((Th.out _).mono ?_)
     rintro e Sm ⟨rfl,Zd⟩;refine ⟨_,rfl,Zd.mono hb.size,?_⟩;replace ja:=(zb w5.heap.size).trans _ _ _ ja (Zd.mono hb.size);simp only [Act.put,zLa,zLb,zLc];replace vg:=Oa vg Zd zR;replace Zg:=Oa Zg Zd zR;replace hb:=oa hb Zd;refine Nf ?_;refine Mb (zb w5.heap.size) rfl rfl rfl (fun _=>by go_simp <;> rfl) ((Vv.out _).mono ?_)
     rintro e Lx ⟨rfl,Fj⟩;refine ⟨_,rfl,Fj.mono hb.size,?_⟩;replace ja:=(zb w5.heap.size).trans _ _ _ ja (Fj.mono hb.size);simp only [Act.put,zLa,zLb,zLc];replace vg:=Oa vg Fj zR;replace Zg:=Oa Zg Fj zR;replace hb:=oa hb Fj;refine Nf ?_;refine Mb (zb w5.heap.size) rfl rfl rfl (fun _=>by go_simp <;> rfl) ((yd.out _).mono ?_)
     rintro e Mr ⟨rfl,yu⟩;refine ⟨_,rfl,yu.mono hb.size,?_⟩;replace ja:=(zb w5.heap.size).trans _ _ _ ja (yu.mono hb.size);simp only [Act.put,zLa,zLb,zLc];replace vg:=Oa vg yu zR;replace Zg:=Oa Zg yu zR;replace hb:=oa hb yu;refine Nf ?_;refine Ug (zb w5.heap.size) rfl rfl rfl ?_;go_simp;have ma:=(Below.refl Mr.heap.size Mr).alloc zR (.cells #[.int .u64 y] 22);have Qe:=Lf Mr (.int .u64 y) 22;refine ⟨ma.mono hb.size,?_⟩;replace vg:=Oa vg ma zR;replace Zg:=Oa Zg ma zR;replace hb:=oa hb ma
     try simp only [Act.put,zLa,zLb,zLc]
     generalize Mr.alloc _=w13 at vg Zg Qe hb |-;generalize Mr.heap.size=g6 at Qe |-;clear ma ja ya ea Zd Fj yu Na c3 l3 cl ll Fe Qy;have ja:=(zb w5.heap.size).refl w13;refine Nf ?_;refine Ug (zb w5.heap.size) rfl rfl rfl ?_;refine Tn _ _ rfl xf rfl Zg rfl Qe (mg [y]) (by omega) hb.size ?_
     intro yv' wz XK Ma Lb;refine ⟨Ae Zg Ma hb.size,?_⟩;have hox1:=SL vg Ma (fun q h1 h2=>Mp.out q h1 h2)
     have hap1:=TG vg (fun q h1 h2=>Mp.out q h2 h1) Lb
     replace hb:=hb.trans (Ae Zg Ma hb.size);replace XK:wz.ownsRow w5.heap.size 22 1 yv' (i+1) (Fa ((List.range (i+1)).map fy)):=Qi (b:=[y]) XK HYSn.out;clear Ma Lb Qe ja vg Zg;have ja:=(zb w5.heap.size).refl wz
     try simp only [Act.put,zLa,zLb,zLc]
     refine Nf ?_;refine Fc ?_;clear ja;go_wp2
     go_roundw
     case rel=>exact ⟨i+1,by omega,by go_num,hox1,XK,zH (fun q h1 h2=>hap1 q h2 h1),hb⟩
     case measure=>simp [intOf];omega
    ·obtain rfl:i=pos.length:=by omega
     have q1:¬((pos.length:Int)<(pos.length:Int)):=by omega
     have Fe:=ia kl hb;have cl:=Fe.cell;have ll:=Fe.lt;obtain ⟨Ax,cx,rfl,-⟩:=Ob vg;obtain ⟨Ay,cy,rfl,-⟩:=Ob Zg;have hx:=qf vg (fun y hy=>by obtain ⟨i,-,rfl⟩:=List.mem_map.1 hy;exact HFXL.out i)
     have hy:=qf Zg (fun y hy=>by obtain ⟨i,-,rfl⟩:=List.mem_map.1 hy;exact HFYL.out i)
     have hlag:=FC L.p ((List.range pos.length).map fx) ((List.range pos.length).map fy) _ zR;rw [List.length_map,List.length_range] at hlag;have fA:=zH (show (Mm L.p ((List.range pos.length).map fx) ((List.range pos.length).map fy)).length <= 1000 by unfold Mm;rw [List.length_map,List.length_range];omega)
     replace hb:=oa da hb;clear vg Zg hlag Mp;generalize (List.range pos.length).map fx=XS at *;generalize (List.range pos.length).map fy=YS at *;go_upto_region 14 with fail
     refine Rc (Ib) [4,7] [0,1,2,3,5,6,4,7,8,9] (by kernel_rfl) (by kernel_rfl) ?_
     refine vd (xa) ?_;intro Wc Na ja;have ya:=Cc Na;replace hx:=ta ya hx;replace hy:=ta ya hy;replace hb:=oa hb ya;refine pb ?_;refine Mb (xa) rfl rfl rfl (fun _=>by go_simp <;> rfl) ((HL.out _ _ _ _ _ _ _ _ _ hx hy rfl (by omega)).mono ?_)
     rintro e w7 ⟨v7,rfl,h7,ea⟩;refine ⟨_,rfl,ea,?_⟩;replace ja:=(xa).trans _ _ _ ja (ea);simp only [Act.put,zLa,zLb,zLc];replace hb:=oa hb ea;obtain ⟨A7,c7,rfl⟩:=Le h7;have HSW:=zH hb.size;refine pb ?_;refine Mb (xa) rfl rfl rfl (fun _=>by go_simp <;> rfl) ((HD.out _ _ _ _ _ _ h7 (by have:=fA.out;omega) (by omega)).mono ?_)
     rintro e w8 ⟨v8,rfl,h8,Zd⟩;refine ⟨_,rfl,Zd,?_⟩;replace ja:=(xa).trans _ _ _ ja (Zd);simp only [Act.put,zLa,zLb,zLc];replace hb:=oa hb Zd;rw [HMR.out] at h8;refine pb ?_;refine Fc ?_;clear ja ya ea Zd Na;go_wp2
     go_ret2
     exact ⟨hb,_,rfl,Pf h8 HSW.out⟩
theorem yT (p:Nat) (A B:Option Addr) (len c n d:Nat) (l:List (Int × Nat)) (ws:List Nat) (w:World) (hl:RLin w [.slice A len c] l) (hw:RWd w [.slice B n d] ws) (hp:ab p=true) :
  Calls Tryz.prog 145 #[.int .u64 p, .slice A len c, .slice B n d] w fun e w'=>e= .returned (.int .u64 (Yc p l ws:Nat)) /\ Below w.heap.size w w':=by
 obtain ⟨A',n',c',he,hlen,Td,xe,La⟩:=hl;simp at he
 obtain ⟨rfl,rfl,rfl⟩:=he;subst hlen;obtain ⟨B',m',d',he,Up,VB,ig,ir⟩:=hw;simp at he
 obtain ⟨rfl,rfl,rfl⟩:=he;have hm:ws.length=n:=by have:=ig.len1;rwa [Ou] at this
 subst hm;have g0:(l.length:Int) <= 9223372036854775807:=by
  simp [maxLen] at xe
  omega
 have HM:=zH (fun a b w=>sn p a b w hp)
 have HA:=zH (fun a b w=>Ls p a b w hp)
 unfold fv at *;have kf:=Blk.new w 223 #[.int .u64 p];have da:Below w.heap.size w (w.alloc (.cells #[.int .u64 p] 223)):=(Below.refl _ _).alloc zR _;go_enter Tryz.func145,Tryz.ntmps145
 go_upto_region 2 with fail
 generalize w.alloc _=w0 at kf da |-;go_wp2_with fail
 go_loopw [8,15] (fun s i wr=>∃ j:Nat,j <= l.length /\ i= .int .i64 j /\ s= .int .u64 (Yc p (l.take j) ws:Nat) /\ Blk wr w.heap.size 223 #[.int .u64 p] /\ Below w.heap.size w wr)
  (fun _ i _=>l.length-(intOf i).toNat)
 case atStart=>exact ⟨0,Nat.zero_le _,rfl,rfl,kf,da⟩
 case round =>
  clear kf da;obtain ⟨j,hj,rfl,rfl,kf,hb⟩:=hrel;by_cases za:j<l.length
  ·have HS:=zH (yL p l ws j za)
   revert HS
   generalize Yc p (l.take j) ws=s;intro HS;obtain ⟨b,q,rfl⟩:=La.base (by omega) (by omega)
   have Pk:=La.below BC hb;obtain ⟨c1,c2⟩:=RLin.at_ Pk za;have Wb:=World.block_lt_of_cell? _ _ c1;have HL:=zH za;have g1:(0:Int) <= (j:Int):=by omega
   have g2:(j:Int)<(l.length:Int):=by omega
   have HW:=zH (fun (k:Nat) (hk:k<ws.length)=>(uI (ig.below hb) (by omega)).imp fun b' h=>h.imp fun q' h=>(⟨h.1,h.2.1,(h.2.2 k hk).trans (FA hk)⟩:_ /\ _ /\ _=some (Value.int .u64 (ws[k]:Int))))
   revert c1 c2 HS
   generalize hx:(l.getD j (0,0))=t;obtain ⟨x,y⟩:=t;clear hx;simp only;intro HS c1 c2;clear La Pk ig;have ma:=(Below.refl wr.heap.size wr).alloc zR (.cells #[.int .i64 x, .int .u64 y] 186);by_cases z1:x<0
   ·have d1:decide (0 <= x)=false:=decide_eq_false (by omega)
    have HE:=zH (show Yc p (l.take (j+1)) ws=s by rw [HS.out,yr,if_neg (by simp;omega)])
    replace kf:=ia kf ma;replace hb:=oa hb ma;clear ma;go_wp2_with fail
    go_roundw
    case rel=>exact ⟨j+1,by omega,by go_num,by rw [HE.out],kf,hb⟩
    case measure=>simp [intOf];omega
   ·obtain ⟨k,rfl⟩:=Int.eq_ofNat_of_zero_le (show 0 <= x by omega)
    by_cases z2:k<ws.length
    ·have d1:decide ((0:Int) <= (k:Int))=true:=decide_eq_true (by omega)
     have d2:decide ((k:Int)<(ws.length:Int))=true:=decide_eq_true (by omega)
     obtain ⟨b',q',rfl,Nk,c3⟩:=HW.out k z2;have HE:=zH (show Yc p (l.take (j+1)) ws=(s+y*ws[k]%p)%p by rw [HS.out,yr,if_pos (by simp;omega)];show (s+y*ws.getD ((k:Int)).toNat 0%p)%p=_;rw [Int.toNat_natCast,List.getD_eq_getElem?_getD,List.getElem?_eq_getElem z2,Option.getD_some])
     clear HW HS;revert c3 HE
     generalize ws[k]=v;have yd:=zH (fun w=>HM.out y v w)
     revert yd
     generalize y*v%p=m;intro yd c3 HE;have Xd:=zH (fun w=>HA.out s m w)
     have i1:(0:Int) <= (k:Int):=by omega
     have i2:(k:Int)<(ws.length:Int):=by omega
     have kt:=Blk.new wr 186 #[.int .i64 k, .int .u64 y];have c4:=(Below.cell ma (p:=⟨b',q'+k,none⟩) Nk).trans c3;replace kf:=ia kf ma;replace hb:=oa hb ma;go_upto_region 7 with fail
     generalize wr.alloc _=w1 at kt kf hb c4 ma |-;have ct:=kt.cell;have cf:=kf.cell;have lt:=kt.lt;have lf:=kf.lt;have lb:b'<w1.heap.size:=Nat.lt_of_lt_of_le Nk ma.size;clear c1 c2 c3 ma Wb Nk;refine Rc (Ib) [10,11] [0,1,2,3,4,5,6,7,8,9,10,11,12] (by kernel_rfl) (by kernel_rfl) ?_
     refine vd (xa) ?_;intro Wc Na ja;have HB:=zH (show Below w.heap.size w Wc by rw [Na.out];exact hb.drew)
     have KF:=zH (show Blk Wc _ _ _ by rw [Na.out];exact kf.drew)
     clear Na;refine pb ?_;refine Mb (xa) rfl rfl rfl (fun _=>by go_simp <;> rfl) ((yd.out _).mono ?_)
     rintro e w2 ⟨rfl,Ka⟩;refine ⟨_,rfl,Ka,?_⟩;replace ja:=(xa).trans _ _ _ ja (Ka);simp only [Act.put,zLa,zLb,zLc];refine pb ?_;refine Mb (xa) rfl rfl rfl (fun _=>by go_simp <;> rfl) ((Xd.out _).mono ?_)
     rintro e w3 ⟨rfl,ib⟩;refine ⟨_,rfl,ib,?_⟩;replace ja:=(xa).trans _ _ _ ja (ib);simp only [Act.put,zLa,zLb,zLc];have xu:=oa Ka ib;have Du:=oa HB.out xu;have kfin:=KF.out.below xu KF.out.lt;refine pb ?_;refine Fc ?_;clear ct cf lt lf lb c4 ja kt kf hb Ka ib xu;go_wp2
     go_roundw
     case rel=>exact ⟨j+1,by omega,by go_num,by rw [HE.out];rfl,kfin,Du⟩
     case measure=>simp [intOf];omega
    ·have d1:decide ((0:Int) <= (k:Int))=true:=decide_eq_true (by omega)
     have d2:decide ((k:Int)<(ws.length:Int))=false:=decide_eq_false (by omega)
     have HE:=zH (show Yc p (l.take (j+1)) ws=s by rw [HS.out,yr,if_neg (by simp;omega)])
     replace kf:=ia kf ma;replace hb:=oa hb ma;clear ma;go_wp2_with fail
     go_roundw
     case rel=>exact ⟨j+1,by omega,by go_num,by rw [HE.out],kf,hb⟩
     case measure=>simp [intOf];omega
  ·have e:j=l.length:=by omega
   subst e;go_wp2;go_ret
   exact ⟨by rw [List.take_length];rfl,hb⟩
theorem MY (p:Nat) (pub vars:Int) (A B:Option Addr) (n c m d:Nat) (rows:List Cb) (ws:List Nat) (w:World) (hr:RSl 3 te w [.slice A n c] rows) (hw:RWd w [.slice B m d] ws) (hp:ab p=true) :
  Calls Tryz.prog 143 #[pc p pub vars (.slice A n c), .slice B m d] w fun e w'=>(∃ n:Int,e= .returned (.int .i64 n) /\ decide (n<0)=Sj p rows ws) /\ Below w.heap.size w w':=by
 have HV:=zH (fun A1 n1 c1 l w' (hb:Below w.heap.size w w') (hl:RLin w' [.slice A1 n1 c1] l)=>yT p A1 B n1 c1 m d l ws w' hl (ta hb hw) hp)
 have HM:=zH (fun a b w=>sn p a b w hp)
 obtain ⟨A',n',c',he,hlen,Td,xe,La⟩:=hr;simp at he
 obtain ⟨rfl,rfl,rfl⟩:=he;subst hlen;unfold pc fv at *;have gm:(rows.length:Int) <= 9223372036854775807:=by
  simp [maxLen] at xe
  omega
 obtain ⟨kt,kf,da,-⟩:=Ue w 25 223 #[.int .u64 p, .int .i64 pub, .int .i64 vars, .slice A rows.length c] #[.int .u64 p];clear hw;go_enter Tryz.func143,Tryz.ntmps143
 go_upto_region 2 with fail
 generalize (w.alloc _).alloc _=w0 at kt kf da |-;have ct:=kt.cell;go_wp2_with fail
 clear ct;go_loopw [14] (fun i wr=>∃ j:Nat,j <= rows.length /\ i= .int .i64 j /\ Blk wr w.heap.size 25 #[.int .u64 p, .int .i64 pub, .int .i64 vars, .slice A rows.length c] /\ Blk wr (w.heap.size+1) 223 #[.int .u64 p] /\ Below w.heap.size w wr /\ Hid (∀ k (hk:k<rows.length),k<j -> Kt p rows[k] ws=true))
  (fun i _=>rows.length-(intOf i).toNat)
 case atStart=>exact ⟨0,Nat.zero_le _,rfl,kt,kf,da,fun k _ hk=>by omega⟩
 case round =>
  clear kt kf da;obtain ⟨j,hj,rfl,kt,kf,da,Dq⟩:=hrel;by_cases za:j<rows.length
  ·have Qg:=zH za
   obtain ⟨b,q,rfl⟩:=La.base (by omega) (by omega)
   obtain ⟨cs,-,hc,x,y,z,rfl,Oc,Ee,fe⟩:=(La.below Gc da).get za;have h0:wr.cell? ⟨b,q+j*3,none⟩=some x:=hc 0 (by omega)
   have h1:wr.cell? ⟨b,q+j*3+1,none⟩=some y:=hc 1 (by omega)
   have h2:wr.cell? ⟨b,q+j*3+2,none⟩=some z:=hc 2 (by omega)
   have i1:(0:Int) <= (j:Int):=by omega
   have i2:(j:Int)<(rows.length:Int):=by omega
   have Wb:=World.block_lt_of_cell? _ _ h0;simp only at Wb;obtain ⟨A1,n1,c1,rfl⟩:=RSl.slc Oc;obtain ⟨A2,n2,c2,rfl⟩:=RSl.slc Ee;obtain ⟨A3,n3,c3,rfl⟩:=RSl.slc fe;have Ye:=zH (fun w' (hb:Below wr.heap.size wr w')=>HV.out A1 n1 c1 rows[j].a w' (oa da hb) (jg _ _ _ _ hb Oc))
   have Xn:=zH (fun w' (hb:Below wr.heap.size wr w')=>HV.out A2 n2 c2 rows[j].b w' (oa da hb) (jg _ _ _ _ hb Ee))
   have Sz:=zH (fun w' (hb:Below wr.heap.size wr w')=>HV.out A3 n3 c3 rows[j].c w' (oa da hb) (jg _ _ _ _ hb fe))
   have ma:=(Below.refl wr.heap.size wr).alloc zR (.cells #[.slice A1 n1 c1, .slice A2 n2 c2, .slice A3 n3 c3] 189);have kr:=Blk.new wr 189 #[.slice A1 n1 c1, .slice A2 n2 c2, .slice A3 n3 c3];obtain ⟨v1,Ng⟩:=zEX (Yc p rows[j].a ws*Yc p rows[j].b ws%p);obtain ⟨v2,Zh⟩:=zEX (Yc p rows[j].c ws);obtain ⟨ro,hro⟩:=zEX (Kt p rows[j] ws);have d1:((v1:Int) != (v2:Int))=!ro:=by rw [hro];unfold Kt;rw [<- Ng,<- Zh];exact Bool.eq_iff_iff.2 (by simp;omega)
   have yd:=zH (fun w=>by have:=HM.out (Yc p rows[j].a ws) (Yc p rows[j].b ws) w;rw [<- Ng] at this;exact this)
   rw [<- Zh] at Sz;have HRO:=zH hro;obtain ⟨x1,hx1'⟩:∃ v,v=Yc p rows[j].a ws:=⟨_,rfl⟩;obtain ⟨x2,hx2'⟩:∃ v,v=Yc p rows[j].b ws:=⟨_,rfl⟩;rw [<- hx1'] at Ye yd;rw [<- hx2'] at Xn yd;clear hc Oc Ee fe Ng Zh hro hx1' hx2' za;go_upto_region 5 with fail
   replace kt:=ia kt ma;replace kf:=ia kf ma;replace da:=oa da ma;generalize wr.alloc _=w1 at kr kt kf da ma |-;have ct:=kt.cell;have cf:=kf.cell;have cr:=kr.cell;have lt:=kt.lt;have lf:=kf.lt;have lr:=kr.lt;have HAL1:=zH ma;clear ma h0 h1 h2;refine Rc (Ib) [6,12,13,19] [0,1,2,3,4,5,7,8,9,10,11,14,15,16,17,18,6,12,13,19,20] (by kernel_rfl) (by kernel_rfl) ?_
   refine vd (xa) ?_;intro Wc Na ja;have om:=zH (show Below wr.heap.size wr Wc by rw [Na.out];exact HAL1.out.drew)
   have HB:=zH (show Below w.heap.size w Wc by rw [Na.out];exact da.drew)
   have KT:=zH (show Blk Wc _ _ _ by rw [Na.out];exact kt.drew)
   have KF:=zH (show Blk Wc _ _ _ by rw [Na.out];exact kf.drew)
   clear Na;refine pb ?_;refine Mb (xa) rfl rfl rfl (fun _=>by go_simp <;> rfl) ((Ye.out _ om.out).mono ?_)
   rintro e w2 ⟨rfl,Ka⟩;refine ⟨_,rfl,Ka,?_⟩;replace ja:=(xa).trans _ _ _ ja (Ka);simp only [Act.put,zLa,zLb,zLc];replace om:=zH (oa om.out Ka);have Ei:=zH Ka;clear Ka;refine pb ?_;refine Mb (xa) rfl rfl rfl (fun _=>by go_simp <;> rfl) ((Xn.out _ om.out).mono ?_)
   rintro e w3 ⟨rfl,Ka⟩;refine ⟨_,rfl,Ka,?_⟩;replace ja:=(xa).trans _ _ _ ja (Ka);simp only [Act.put,zLa,zLb,zLc];replace om:=zH (oa om.out Ka);replace Ei:=zH (oa Ei.out Ka);clear Ka;refine pb ?_;refine Mb (xa) rfl rfl rfl (fun _=>by go_simp <;> rfl) ((yd.out _).mono ?_)
   rintro e w4 ⟨rfl,Ka⟩;refine ⟨_,rfl,Ka,?_⟩;replace ja:=(xa).trans _ _ _ ja (Ka);simp only [Act.put,zLa,zLb,zLc];replace om:=zH (oa om.out Ka);replace Ei:=zH (oa Ei.out Ka);clear Ka;refine pb ?_;refine Mb (xa) rfl rfl rfl (fun _=>by go_simp <;> rfl) ((Sz.out _ om.out).mono ?_)
   rintro e w5 ⟨rfl,Ka⟩;refine ⟨_,rfl,Ka,?_⟩;replace ja:=(xa).trans _ _ _ ja (Ka);simp only [Act.put,zLa,zLb,zLc];replace Ei:=zH (oa Ei.out Ka);clear Ka;have Du:=oa HB.out Ei.out;have ktf:=KT.out.below Ei.out KT.out.lt;have kff:=KF.out.below Ei.out KF.out.lt;refine pb ?_;refine Fc ?_;clear ct cf cr lt lf lr kt kf da kr ja Ye Xn Sz yd;cases ro
   ·simp only [Bool.not_false] at d1
    go_wp2;go_ret
    exact ⟨⟨_,rfl,(decide_eq_false (by omega)).trans (WS Qg.out HRO.out.symm).symm⟩,Du⟩
   ·simp only [Bool.not_true] at d1
    go_wp2
    go_roundw
    case rel =>
     refine ⟨j+1,Qg.out,by go_num,ktf,kff,Du,fun k hk hkj=>?_⟩
     by_cases e:k<j
     ·exact Dq.out k hk e
     ·obtain rfl:k=j:=by omega
      exact HRO.out.symm
    case measure=>have:=Qg.out;simp [intOf];omega
  ·have HS:=zH (VS fun k hk=>Dq.out k hk (by omega))
   go_wp2;go_ret
   exact ⟨⟨_,rfl,(decide_eq_true (by omega)).trans HS.out.symm⟩,da⟩
theorem BN (p s:Nat) (r:List Nat) (m:Nat) (hp:0<p):td (Gd p s r m) m p=true:=by
 unfold td Gd;rw [Bool.and_eq_true];refine ⟨by simp,List.all_eq_true.2 fun x hx=>?_⟩
 obtain ⟨k,-,rfl⟩:=List.mem_map.1 hx;exact decide_eq_true (Nat.mod_lt _ hp)
theorem MA (L:Ja) (s:Nat) (hp:0<L.p):Ze L (Dk L s (L.a+L.b+L.b+L.b)) (Gd L.p s [1] L.k) (Gd L.p s [2] (L.k+L.block-2)) (Gd L.p s [3] (L.block+2*L.queries-1)) (Gd Kd s [4] L.n)=true:=by
 unfold Ze;simp only [BN _ _ _ _ hp,BN Kd _ _ _ (show 0<Kd by decide)]
 have:(Dk L s (L.a+L.b+L.b+L.b)).all (fun l=>td l L.queries L.p)=true:=List.all_eq_true.2 fun l hl=>by
  obtain ⟨k,-,rfl⟩:=List.mem_map.1 hl;exact BN _ _ _ _ hp
 simp [Dk] at this |-
 exact this
theorem CN {n:Int} (h:(Lit.int .u64 n).wf=true):∃ m:Nat,n=(m:Int) /\ m<18446744073709551616:=by
 have hx:0 <= n /\ n <= 18446744073709551615:=by simpa [Lit.wf,IntKind.min,IntKind.max,IntKind.signed,IntKind.bits] using h
 obtain ⟨m,rfl⟩:=Int.eq_ofNat_of_zero_le hx.1;exact ⟨m,rfl,by omega⟩
theorem WY {L:Ja} (hL:Db L) {m r:List (List Nat)} {co li qu:List Nat} (hlen:m.length=r.length) (hm:∀ x∈m,x.length=L.block) (hr:∀ x∈r,x.length=L.queries) (hq:qu.length=L.block+2*L.queries-1):jE L m r co li qu=Ge L m r co li qu:=by
 unfold jE Ge;rw [Dx hL hq];have e:(List.range m.length).map (Vl L m r)=dp L m r m.length:=by
  unfold dp;refine List.map_congr_left fun k hk=>?_
  have hk:=List.mem_range.1 hk;have Ih:k<r.length:=by omega
  have e1:m.getD k []=m[k]:=by rw [List.getD_eq_getElem?_getD,List.getElem?_eq_getElem hk];rfl
  have e2:r.getD k []=r[k]:=by rw [List.getD_eq_getElem?_getD,List.getElem?_eq_getElem Ih];rfl
  unfold Vl Cx;rw [e1,e2];exact LS hL (hm _ (List.getElem_mem hk)) (hr _ (List.getElem_mem Ih))
 rw [e]
 rfl
theorem oV {L:Ja} (hL:Db L) (ps:List (List Nat)) {n:Nat} (hn:ps.length=n):(List.range L.n).map (fun i=>(List.range n).map (Bg L ps i))=WE L ps:=by
 unfold WE;rw [hn];refine List.map_congr_left fun i hi=>List.map_congr_left fun j _=>?_
 obtain ⟨h1,h2⟩:=nx hL;exact dF hL.p h1 h2 _ (List.mem_range.1 hi)
theorem zY (p:Nat) (pub vars:Int) (T:Value) (A:Option Addr) (n c:Nat) (l:List Nat) (w:World) (hl:RWd w [.slice A n c] l) (hv:0<vars) :
  Calls Tryz.prog 142 #[pc p pub vars T, .slice A n c] w fun e w'=>e= .returned (.bool (Dd p vars l)) /\ Below w.heap.size w w':=by
 obtain ⟨rfl,Td,xe,za,La⟩:=Ra hl;have gm:=Kf Td xe;clear hl Td xe;unfold pc;have kt:=Blk.new w 25 #[.int .u64 p, .int .i64 pub, .int .i64 vars,T];have da:Below w.heap.size w (w.alloc (.cells #[.int .u64 p, .int .i64 pub, .int .i64 vars,T] 25)):=(Below.refl _ _).alloc zR _;by_cases z1:(l.length:Int)=vars
 rotate_left
 ·have d1:((l.length:Int) != vars)=true:=by rw [bne_iff_ne];exact z1
  have E:=zH (show Dd p vars l=false by simp [Dd,z1])
  rw [E.out];clear z1 La za;go_enter Tryz.func142,Tryz.ntmps142
  go_wp2_with fail
  go_ret
  exact ⟨rfl,da⟩
 have d1:((l.length:Int) != vars)=false:=by rw [z1];simp
 have z2:0<l.length:=by omega
 obtain ⟨b,q,rfl,Wb,hc⟩:=Vd (La.below da) z2;have Ki:(w.alloc (.cells #[.int .u64 p, .int .i64 pub, .int .i64 vars,T] 25)).cell? ⟨b,q,none⟩=some (.int .u64 ((l.getD 0 0:Nat):Int)):=hc;have g1:(0:Int)<(l.length:Int):=by omega
 by_cases z3:l.getD 0 0=1
 rotate_left
 ·have d3:(((l.getD 0 0:Nat):Int) != 1)=true:=by rw [bne_iff_ne];omega
  have E:=zH (show Dd p vars l=false by unfold Dd;rw [d3];simp)
  rw [E.out];clear hc z3 La za E;revert Ki d3
  generalize l.getD 0 0=y;intro Ki d3;go_enter Tryz.func142,Tryz.ntmps142
  go_wp2_with fail
  go_ret
  exact ⟨rfl,da⟩
 rw [z3] at Ki;have E:=zH (show Dd p vars l=l.all fun x=>decide (x<p) by
  unfold Dd;rw [d1,z3,show ((l.length:Int) == 0)=false by rw [beq_eq_false_iff_ne];omega]
  simp)
 have Qg:=zH za;have Z1:=zH z1;clear hc z3 za z1;go_enter Tryz.func142,Tryz.ntmps142
 go_wp2_with fail
 generalize w.alloc _=w0 at kt da Ki Wb |-;clear Ki Wb;go_loopw [20] (fun i wr=>∃ j:Nat,j <= l.length /\ i= .int .i64 j /\ Blk wr w.heap.size 25 #[.int .u64 p, .int .i64 pub, .int .i64 vars,T] /\ Below w.heap.size w wr /\ Hid (∀ k<j,l.getD k 0<p))
  (fun i _=>l.length-(intOf i).toNat)
 case atStart=>exact ⟨0,Nat.zero_le _,rfl,kt,da,fun k hk=>by omega⟩
 case round =>
  clear kt da;obtain ⟨j,hj,rfl,kt,da,HB⟩:=hrel;have ct:=kt.cell;by_cases Il:j<l.length
  ·obtain ⟨b',q',he,Nk,hc⟩:=Vd (La.below da) Il
   injection he with he
   injection he with he1 he2
   subst he1 he2;have g2:(0:Int) <= (j:Int):=by omega
   have g3:(j:Int)<(l.length:Int):=by omega
   have HL:=zH Il;obtain ⟨y,hy⟩:=zEX (l.getD j 0);rw [<- hy] at hc;have HY:=zH hy;clear hy Il;by_cases z4:p <= y
   ·have d4:decide ((p:Int) <= (y:Int))=true:=decide_eq_true (by omega)
    have HA:Hid ((l.all fun x=>decide (x<p))=false):=zH (by
     refine List.all_eq_false.2 ⟨l[j]'HL.out,List.getElem_mem HL.out,?_⟩;have h1:=HY.out;simp [List.getD_eq_getElem?_getD,HL.out] at h1
     simp [<- h1]
     omega)
    have d4n:=decide_eq_true z4;go_wp2_with fail
    go_ret
    exact ⟨by rw [E.out,HA.out];rfl,da⟩
   ·have d4:decide ((p:Int) <= (y:Int))=false:=decide_eq_false (by omega)
    have HZ:=zH z4;have d4n:=decide_eq_false z4;go_wp2_with fail
    go_roundw
    case rel =>
     refine ⟨j+1,HL.out,by go_num,kt,da,fun k hk=>?_⟩
     rcases Nat.lt_or_ge k j with h5 | h5
     ·exact HB.out k h5
     ·have e:k=j:=by omega
      subst e;have h1:=HY.out;have h2:=HZ.out;omega
    case measure=>have:=HL.out;simp [intOf];omega
  ·have HA:Hid ((l.all fun x=>decide (x<p))=true):=zH (by
    refine List.all_eq_true.2 ?_;intro x hx;obtain ⟨k,hk,rfl⟩:=List.getElem_of_mem hx;have:=HB.out k (by omega)
    simpa [List.getD_eq_getElem?_getD,hk] using this)
   go_wp2;go_ret
   exact ⟨by rw [E.out,HA.out];rfl,da⟩
theorem wR (p:Nat) (pub vars:Int) (A B:Option Addr) (n c m d:Nat) (rows:List Cb) (ws:List Nat) (w:World) (hr:RSl 3 te w [.slice A n c] rows) (hw:RWd w [.slice B m d] ws) :
  Calls Tryz.prog 64 #[pc p pub vars (.slice A n c), .slice B m d] w fun e w'=>e= .returned (.bool (dd p pub vars rows&&Dd p vars ws&&Sj p rows ws)) /\ Below w.heap.size w w':=by
 have HV:=zH (fun w' (hb:Below w.heap.size w w')=>VL p pub vars A n c rows w' (Kc Gc _ _ _ _ hb hr))
 obtain ⟨bt,hbt⟩:=zEX (dd p pub vars rows);obtain ⟨ba,El⟩:=zEX (Dd p vars ws);obtain ⟨bs,Ji⟩:=zEX (Sj p rows ws);have HA:=zH (fun (h:bt=true) w' (hb:Below w.heap.size w w')=>by
  have:=zY p pub vars (.slice A n c) B m d ws w' (ta hb hw) (by
   rw [hbt] at h;simp only [dd,Bool.and_eq_true,Bool.not_eq_true',decide_eq_false_iff_not] at h;omega)
  rw [<- El] at this;exact this)
 have HU:=zH (fun (h:bt=true) w' (hb:Below w.heap.size w w')=>by
  have:=MY p pub vars A B n c m d rows ws w' (Kc Gc _ _ _ _ hb hr) (ta hb hw) (xE (by rw [hbt] at h;exact h))
  rw [<- Ji] at this;exact this)
 rw [<- hbt] at HV;rw [<- hbt,<- El,<- Ji];clear hbt El Ji hr hw;unfold pc at *;have kt:=Blk.new w 25 #[.int .u64 p, .int .i64 pub, .int .i64 vars, .slice A n c];have da:Below w.heap.size w (w.alloc (.cells #[.int .u64 p, .int .i64 pub, .int .i64 vars, .slice A n c] 25)):=(Below.refl _ _).alloc zR _;go_enter Tryz.func64,Tryz.ntmps64
 go_wp2_with fail
 generalize w.alloc _=w0 at kt da |-;refine (HV.out _ da).mono ?_;rintro e w1 ⟨rfl,Ga⟩;replace kt:=ia kt Ga;replace da:=oa da Ga;clear Ga;have ct:=kt.cell;cases bt
 ·go_wp2
  go_ret
  exact ⟨rfl,da⟩
 go_wp2_with fail
 refine (HA.out (by first | trivial | rfl) _ da).mono ?_
 rintro e w2 ⟨rfl,Ka⟩;replace kt:=ia kt Ka;replace da:=oa da Ka;clear Ka ct;have ct:=kt.cell;cases ba
 ·go_wp2
  go_ret
  exact ⟨rfl,da⟩
 go_wp2_with fail
 refine (HU.out (by first | trivial | rfl) _ da).mono ?_
 rintro e w3 ⟨⟨x,rfl,hx⟩,ib⟩;go_wp2;go_ret
 exact ⟨by simp,oa da ib⟩
theorem aW (A:Option Addr) (n c:Nat) (l:List Nat) (m:Int) (p:Nat) (w:World) (hl:RWd w [.slice A n c] l) :
  Calls Tryz.prog 193 #[.slice A n c, .int .i64 m, .int .u64 p] w fun e w'=>e= .returned (.bool (Wu l m p)) /\ w=w':=by
 obtain ⟨rfl,Td,xe,-,La⟩:=Ra hl;have gm:=Kf Td xe;clear hl Td xe;by_cases z1:(l.length:Int)=m
 rotate_left
 ·have d1:((l.length:Int) != m)=true:=by rw [bne_iff_ne];exact z1
  have E:=zH (show Wu l m p=false by unfold Wu;rw [show ((l.length:Int) == m)=false by rw [beq_eq_false_iff_ne];exact z1,Bool.and_false])
  rw [E.out];clear z1 La;go_enter Tryz.func193,Tryz.ntmps193
  go_wp2_with fail
  go_ret
  exact ⟨rfl,rfl⟩
 have d1:((l.length:Int) != m)=false:=by rw [z1];simp
 have E:=zH (show Wu l m p=l.all fun x=>decide (x<p) by unfold Wu;rw [show ((l.length:Int) == m)=true by rw [z1];simp,Bool.and_true])
 rw [E.out];clear z1 E;go_enter Tryz.func193,Tryz.ntmps193
 go_wp2_with fail
 go_loopw [15] (fun i wr=>∃ j:Nat,j <= l.length /\ i= .int .i64 j /\ w=wr /\ Hid (∀ k<j,l.getD k 0<p))
  (fun i _=>l.length-(intOf i).toNat)
 case atStart=>exact ⟨0,Nat.zero_le _,rfl,rfl,fun k hk=>by omega⟩
 case round =>
  obtain ⟨j,hj,rfl,rfl,HB⟩:=hrel;by_cases Il:j<l.length
  ·obtain ⟨b',q',he,Nk,hc⟩:=Vd La Il
   subst he;have g2:(0:Int) <= (j:Int):=by omega
   have g3:(j:Int)<(l.length:Int):=by omega
   have HL:=zH Il;obtain ⟨y,hy⟩:=zEX (l.getD j 0);rw [<- hy] at hc;have HY:=zH hy;clear hy Il;by_cases z4:p <= y
   ·have d4:decide ((p:Int) <= (y:Int))=true:=decide_eq_true (by omega)
    have HA:Hid ((l.all fun x=>decide (x<p))=false):=zH (by
     refine List.all_eq_false.2 ⟨l[j]'HL.out,List.getElem_mem HL.out,?_⟩;have h1:=HY.out;simp [List.getD_eq_getElem?_getD,HL.out] at h1
     simp [<- h1]
     omega)
    have d4n:=decide_eq_true z4;go_wp2_with fail
    go_ret
    exact ⟨by rw [HA.out];rfl,rfl⟩
   ·have d4:decide ((p:Int) <= (y:Int))=false:=decide_eq_false (by omega)
    have HZ:=zH z4;have d4n:=decide_eq_false z4;go_wp2_with fail
    go_roundw
    case rel =>
     refine ⟨j+1,HL.out,by go_num,by first | rfl | trivial,fun k hk=>?_⟩
     rcases Nat.lt_or_ge k j with h5 | h5
     ·exact HB.out k h5
     ·have e:k=j:=by omega
      subst e;have h1:=HY.out;have h2:=HZ.out;omega
    case measure=>have:=HL.out;simp [intOf];omega
  ·have HA:Hid ((l.all fun x=>decide (x<p))=true):=zH (by
    refine List.all_eq_true.2 ?_;intro x hx;obtain ⟨k,hk,rfl⟩:=List.getElem_of_mem hx;have:=HB.out k (by omega)
    simpa [List.getD_eq_getElem?_getD,hk] using this)
   go_wp2;go_ret
   exact ⟨by rw [HA.out];rfl,rfl⟩
theorem lP (p:Nat) (pub vars:Int) (T:Value) (A:Option Addr) (n c:Nat) (l:List Nat) (w:World) (hl:RWd w [.slice A n c] l) (hv:0<vars) :
  Calls Tryz.prog 109 #[pc p pub vars T, .slice A n c] w fun e w'=>e= .returned (.bool (Dd p vars l)) /\ Below w.heap.size w w':=by
 have HRe:=zH (fun w' (hb:Below w.heap.size w w')=>aW A n c l vars p w' (ta hb hl))
 obtain ⟨rfl,Td,xe,-,La⟩:=Ra hl;have gm:=Kf Td xe;have hasg:Dd p vars l=(Wu l vars p&&decide (l.getD 0 0=1)):=by
  unfold Dd Wu;by_cases h1:(l.length:Int)=vars
  ·rw [show ((l.length:Int) != vars)=false by rw [h1];simp,show ((l.length:Int) == 0)=false by rw [beq_eq_false_iff_ne];omega,show ((l.length:Int) == vars)=true by rw [h1];simp,show (((l.getD 0 0:Nat):Int) != 1)=!decide (l.getD 0 0=1) from Bool.eq_iff_iff.2 (by simp;omega)]
   simp [Bool.and_comm]
  ·rw [show ((l.length:Int) != vars)=true by rw [bne_iff_ne];exact h1,show ((l.length:Int) == vars)=false by rw [beq_eq_false_iff_ne];exact h1]
   simp
 rw [hasg];have HLV:=zH (show Wu l vars p=true -> (l.length:Int)=vars from fun h=>by
  unfold Wu at h;simp only [Bool.and_eq_true,beq_iff_eq] at h;exact h.2)
 obtain ⟨rb,hrb⟩:=zEX (Wu l vars p);rw [<- hrb] at HRe HLV |-;obtain ⟨y,hy⟩:=zEX (l.getD 0 0);rw [<- hy];obtain ⟨yb,hyb⟩:=zEX (decide (y=1));rw [<- hyb];have HY:=zH hy;have HYB:=zH hyb;clear hasg hl Td xe hrb hy hyb;unfold pc;have kt:=Blk.new w 25 #[.int .u64 p, .int .i64 pub, .int .i64 vars,T];have da:Below w.heap.size w (w.alloc (.cells #[.int .u64 p, .int .i64 pub, .int .i64 vars,T] 25)):=(Below.refl _ _).alloc zR _;go_enter Tryz.func109,Tryz.ntmps109
 go_wp2_with fail
 generalize w.alloc _=w0 at kt da |-;refine (HRe.out _ da).mono ?_;rintro e _ ⟨rfl,rfl⟩;cases rb
 ·go_wp2
  go_ret
  exact ⟨rfl,da⟩
 have z2:0<l.length:=by have:=HLV.out rfl;omega
 obtain ⟨b,q,rfl,Wb,hc⟩:=Vd (La.below da) z2;rw [Nat.add_zero] at hc;have g1:(0:Int)<(l.length:Int):=by omega
 rw [<- HY.out] at hc;have d3:((y:Int) == 1)=yb:=by rw [HYB.out];exact Bool.eq_iff_iff.2 (by simp;omega)
 clear z2 La HLV HY HYB;go_wp2;go_ret
 exact ⟨by simp,da⟩
theorem UW (L:Ja) (al rh be:Nat) (w:World) :
  Calls Tryz.prog 108 #[.agg (Ya L), .agg #[.int .u64 al, .int .u64 rh, .int .u64 be]] w fun e w'=>e= .returned (.bool (decide (al<L.p)&&decide (rh<L.p)&&decide (be<L.p))) /\ Below w.heap.size w w':=by
 obtain ⟨kl,kc,da,-⟩:=Ue w 49 90 (Ya L) #[.int .u64 al, .int .u64 rh, .int .u64 be];obtain ⟨b1,h1⟩:=zEX (decide (al<L.p));obtain ⟨b2,h2⟩:=zEX (decide (rh<L.p));obtain ⟨b3,h3⟩:=zEX (decide (be<L.p));have e1:decide ((al:Int)<(L.p:Int))=b1:=by rw [h1];exact Bool.eq_iff_iff.2 (by simp)
 have e2:decide ((rh:Int)<(L.p:Int))=b2:=by rw [h2];exact Bool.eq_iff_iff.2 (by simp)
 have e3:decide ((be:Int)<(L.p:Int))=b3:=by rw [h3];exact Bool.eq_iff_iff.2 (by simp)
 have e1n:=h1.symm;have e2n:=h2.symm;have e3n:=h3.symm;rw [<- h1,<- h2,<- h3];clear h1 h2 h3;unfold Ya at *;go_enter Tryz.func108,Tryz.ntmps108
 go_upto_region 1 with fail
 generalize (w.alloc _).alloc _=w1 at kl kc da |-;have cl:=kl.cell;have cc:=kc.cell;cases b1
 ·go_wp2
  go_ret
  exact ⟨rfl,da⟩
 cases b2
 ·go_wp2
  go_ret
  exact ⟨rfl,da⟩
 go_wp2;go_ret
 exact ⟨by simp,da⟩
theorem VW (L:Ja) (A:Option Addr) (n c:Nat) (l:List Int) (w:World) (hl:qi w [.slice A n c] l) :
  Calls Tryz.prog 107 #[.agg (Ya L), .slice A n c] w fun e w'=>e= .returned (.bool (se L.n L.queries l)) /\ Below w.heap.size w w':=by
 obtain ⟨A',n',c',he,Eg,Td,Li,La⟩:=hl;simp at he
 obtain ⟨rfl,rfl,rfl⟩:=he;subst Eg;have gm:=Kf Td Li;have HOB:=zH (fun i hi h=>dM (N:=L.n) (Q:=L.queries) (l:=l) (i:=i) hi h)
 have HOG:=zH (fun h=>fM (N:=L.n) (Q:=L.queries) (l:=l) h)
 obtain ⟨ans,Ss⟩:=zEX (se L.n L.queries l);have HQ:Hid (l.length≠L.queries -> ans=false):=zH (fun h=>by
  rw [Ss];unfold se;rw [decide_eq_false h,Bool.and_false])
 rw [<- Ss] at HOB HOG |-;have da:Below w.heap.size w (w.alloc (.cells #[.int .u64 L.p, .int .i64 L.block, .int .i64 L.queries, .int .i64 L.k, .int .i64 L.n, .int .i64 L.secret, .int .i64 L.rows, .int .i64 L.a, .int .i64 L.b, .int .i64 L.b, .int .i64 L.b] 49)):=(Below.refl _ _).alloc zR _;have kl:=Blk.new w 49 #[.int .u64 L.p, .int .i64 L.block, .int .i64 L.queries, .int .i64 L.k, .int .i64 L.n, .int .i64 L.secret, .int .i64 L.rows, .int .i64 L.a, .int .i64 L.b, .int .i64 L.b, .int .i64 L.b];clear Ss Li;by_cases hq:l.length=L.queries
 rotate_left
 ·have d0:((l.length:Int) != (L.queries:Int))=true:=by rw [bne_iff_ne];omega
  have HE:=zH (HQ.out hq);clear hq;unfold Ya;go_enter Tryz.func107,Tryz.ntmps107
  go_upto_region 1 with fail
  generalize w.alloc _=w1 at kl da |-;have cl:=kl.cell;go_wp2_with fail
  go_ret
  exact ⟨by rw [HE.out];rfl,da⟩
 have d0:((l.length:Int) != (L.queries:Int))=false:=by rw [hq];simp
 have HQ2:=zH (show (∀ k,k<l.length -> nj L.n l k=false) -> ans=true from fun h=>by rw [HOG.out h,decide_eq_true hq])
 clear hq HQ HOG;unfold Ya;go_enter Tryz.func107,Tryz.ntmps107
 go_upto_region 1 with fail
 generalize w.alloc _=w1 at kl da |-;have cl:=kl.cell;go_wp2_with fail
 clear cl d0;go_loopw [14] (fun y wr=>∃ i:Nat,i <= l.length /\ y= .int .i64 i /\ Hid (∀ k,k<i -> nj L.n l k=false) /\ Blk wr w.heap.size 49 #[.int .u64 L.p, .int .i64 L.block, .int .i64 L.queries, .int .i64 L.k, .int .i64 L.n, .int .i64 L.secret, .int .i64 L.rows, .int .i64 L.a, .int .i64 L.b, .int .i64 L.b, .int .i64 L.b] /\ Below w.heap.size w wr) (fun y _=>l.length-(intOf y).toNat)
 case atStart=>exact ⟨0,Nat.zero_le _,rfl,zH (fun k hk=>absurd hk (Nat.not_lt_zero _)),kl,da⟩
 case round =>
  clear kl da;obtain ⟨i,hi,rfl,HP,kl,hb⟩:=hrel;have cl:=kl.cell;have ll:=kl.lt;by_cases za:i<l.length
  ·have q1:(i:Int)<(l.length:Int):=by omega
   have q2:(0:Int) <= (i:Int):=by omega
   obtain ⟨b,q,rfl,Wb,hc,Oc,ye⟩:=Jt (La.below zC hb) za;have Rz:=zH (HOB.out i za);have Xc:=zH (show nj L.n l i=false -> ∀ k,k<i+1 -> nj L.n l k=false from fun h k hk=>by
    by_cases e:k=i
    ·subst e;exact h
    ·exact HP.out k (by omega))
   obtain ⟨x,hx⟩:=zEX (l.getD i 0);have Ch:=zH (show nj L.n l i=(decide (x<0)||decide ((L.n:Int) <= x)||(decide (0<i)&&decide (x <= l.getD (i-1) 0))) by rw [hx];rfl)
   rw [<- hx] at hc Oc ye;clear hx;by_cases z1:x<0
   ·have d1:decide (x<0)=true:=decide_eq_true z1
    have HB:=zH (Rz.out (by rw [Ch.out,d1];rfl))
    go_wp2;go_ret
    exact ⟨by rw [HB.out];rfl,hb⟩
   have d1:decide (x<0)=false:=decide_eq_false z1;by_cases z2:(L.n:Int) <= x
   ·have d2:decide ((L.n:Int) <= x)=true:=decide_eq_true z2
    have HB:=zH (Rz.out (by rw [Ch.out,d1,d2];rfl))
    go_wp2;go_ret
    exact ⟨by rw [HB.out];rfl,hb⟩
   have d2:decide ((L.n:Int) <= x)=false:=decide_eq_false z2;rcases Nat.eq_zero_or_pos i with h0 | h0
   ·subst h0
    have HG:=zH (Xc.out (by rw [Ch.out,d1,d2];rfl))
    rw [Nat.add_zero] at hc;go_wp2
    go_roundw
    case rel=>exact ⟨0+1,by omega,by go_num,HG.out,kl,hb⟩
    case measure=>simp [intOf];omega
   obtain ⟨j,hj⟩:=zEX (i-1);have q3:(0:Int)<(i:Int):=by omega
   have q4:(i:Int)-1=(j:Int):=by omega
   have q5:=Yb j;have q6:(j:Int)<(l.length:Int):=by omega
   have q7:(0:Int) <= (j:Int):=by omega
   have d3:decide ((0:Int)<(i:Int))=true:=decide_eq_true q3;obtain ⟨b',q',e',Nk,Gl,Ee,Km⟩:=Jt (La.below zC hb) (i:=j) (by omega)
   injection e' with e'
   injection e' with e1 e2
   subst e1 e2;obtain ⟨y,hy⟩:=zEX (l.getD j 0);have HPC:=zH (show nj L.n l i=decide (x <= y) by rw [Ch.out,d1,d2,decide_eq_true h0,hy,hj];simp)
   rw [<- hy] at Gl Ee Km;clear hy hj Ch;by_cases z3:x <= y
   ·have d4:decide (x <= y)=true:=decide_eq_true z3
    have HB:=zH (Rz.out (by rw [HPC.out,d4]))
    go_wp2;go_ret
    exact ⟨by rw [HB.out];rfl,hb⟩
   have d4:decide (x <= y)=false:=decide_eq_false z3;have HG:=zH (Xc.out (by rw [HPC.out,d4]))
   go_wp2
   go_roundw
   case rel=>exact ⟨i+1,by omega,by go_num,HG.out,kl,hb⟩
   case measure=>simp [intOf];omega
  ·obtain rfl:i=l.length:=by omega
   have q1:¬((l.length:Int)<(l.length:Int)):=by omega
   have HE:=zH (HQ2.out fun k hk=>HP.out k hk)
   go_wp2;go_ret
   exact ⟨by rw [HE.out];rfl,hb⟩
theorem ri_rd {w:World} {A:Option Addr} {l:List Int} (h:RdL w 1 Wv A l):Rd w 1 A l.length (iu l):=by
 refine ⟨by simp [iu],fun hl=>?_⟩
 obtain ⟨b,q,rfl,-⟩:=Jt h hl;refine ⟨⟨b,q,none⟩,rfl,fun j u hj=>?_⟩
 have Il:j<l.length:=by
  have:=(List.getElem?_eq_some_iff.1 hj).1
  simpa [iu] using this
 obtain ⟨b',q',e,-,hc,-⟩:=Jt h Il
 injection e with e
 injection e with e1 e2
 subst e1 e2;simp [iu,Il] at hj
 subst hj;rw [List.getD_eq_getElem?_getD,List.getElem?_eq_getElem Il] at hc;rw [show (⟨b,q,none⟩:Addr).add j=⟨b,q+j,none⟩ from Ep _ _ _]
 exact hc
theorem rd_ri {w:World} {A:Option Addr} {l:List Int} (h:Rd w 1 A l.length (iu l)) (hl:∀ x∈l,-9223372036854775808 <= x /\ x <= 9223372036854775807):RdL w 1 Wv A l:=fun i hi=>by
 obtain ⟨ad,rfl,hc⟩:=h.2 (by omega)
 have h1:=hc i (.int .i64 l[i]) (by simp [iu,hi])
 refine ⟨ad,[.int .i64 l[i]],rfl,rfl,fun j hj=>?_,rfl,hl _ (List.getElem_mem _)⟩
 obtain rfl:j=0:=by omega
 rw [Nat.mul_one,Nat.add_zero];exact h1
theorem U0 {w:World} {A:Option Addr} {l:List Int} (h:RdL w 1 Wv A l):∀ x∈l,-9223372036854775808 <= x /\ x <= 9223372036854775807:=fun x hx=>by
 obtain ⟨i,hi,rfl⟩:=List.getElem_of_mem hx;obtain ⟨a,cs,-,-,-,-,h1⟩:=h i hi;exact h1
theorem pR {w:World} {base:Nat} {e:TypeId} {A:Option Addr} {c n:Nat} {l:List Int} (h:w.ownsRow base e 1 (.slice A n c) n (iu l)) (hl:∀ x∈l,-9223372036854775808 <= x /\ x <= 9223372036854775807):qi w [.slice A n c] l:=by
 obtain ⟨A',c',he,h1,h2,h3,-⟩:=Ob h;simp at he
 obtain ⟨rfl,rfl⟩:=he;have hn:l.length=n:=by have:=h3.1;simpa [iu] using this
 subst hn;exact ⟨A,l.length,c,rfl,rfl,h1,h2,rd_ri h3 hl⟩
theorem bX:(Tryz.prog.info? 3).map (fun i=>(i.zero,i.size,i.bytes))=some (some (.int .i64 0),1,8):=by kernel_rfl
theorem el_i:Pz Tryz.prog 33 3 1 8 (.int .i64 0):=by
 obtain ⟨i0,hi,Tg,fe,sh⟩:=info_parts bX;exact ⟨Tryz.underlying33,⟨i0,hi,Tg,fe,sh⟩,rfl,by omega⟩
theorem CZ (L:Ja) (s:Nat) (w:World) (hL:Db L) (hs:s<18446744073709551616) :
  Calls Tryz.prog 19 #[.agg (Ya L), .int .u64 s] w fun e w'=>∃ v0 v1 v2 v3 v4 n cs,e= .returned (.agg #[v0,v1,v2,v3,v4]) /\ w'.ownsRow w.heap.size 28 1 v0 n cs /\ Rf w.heap.size w' v0 cs (Dk L s (L.a+L.b+L.b+L.b)) /\ w'.ownsRow w.heap.size 22 1 v1 L.k (Fa (Gd L.p s [1] L.k)) /\ w'.ownsRow w.heap.size 22 1 v2 (L.k+L.block-2) (Fa (Gd L.p s [2] (L.k+L.block-2))) /\ w'.ownsRow w.heap.size 22 1 v3 (L.block+2*L.queries-1) (Fa (Gd L.p s [3] (L.block+2*L.queries-1))) /\ w'.ownsRow w.heap.size 22 1 v4 L.n (Fa (Gd Kd s [4] L.n)) /\ Below w.heap.size w w':=by
 have Ed:=Va hL.p;have HT:=zH (fun w=>CM L.p L.block L.queries L.k L.n L.secret L.rows L.a L.b L.b L.b w hL.a hL.b hL.b hL.b)
 have HS:=zH (fun r m g w kg hr hlen hm=>EI L.p s r m g w (by omega) Ed.2 kg hr hlen hm)
 have Tv:=zH (fun r m g w kg hr hlen hm=>EI Kd s r m g w (by decide) (by decide) kg hr hlen hm)
 have yn:L.a+L.b+L.b+L.b <= 400000:=by have:=hL.a;have:=hL.b;omega
 have Sg:=hL.q2;generalize L.a+L.b+L.b+L.b=T at *;obtain ⟨x,hx⟩:=zEX (s%Kd);have e1:(s:Int)%18446744069414584321=(x:Int):=by rw [hx];unfold Kd;omega
 have e2:(s:Int).tmod 18446744069414584321=(x:Int):=by rw [Int.tmod_eq_emod_of_nonneg (by omega)];exact e1
 rw [<- hx] at HS Tv;clear hx;unfold Ya at *;go_enter Tryz.func19,Tryz.ntmps19
 go_upto_region 3 with fail
 obtain ⟨kl,kz,kc,da,Nb⟩:=Oq w 39 42 42 #[.int .u64 L.p, .int .i64 L.block, .int .i64 L.queries, .int .i64 L.k, .int .i64 L.n, .int .i64 L.secret, .int .i64 L.rows, .int .i64 L.a, .int .i64 L.b, .int .i64 L.b, .int .i64 L.b] #[.slice none 0 0, .slice none 0 0, .slice none 0 0, .slice none 0 0, .slice none 0 0] #[.slice none 0 0, .slice none 0 0, .slice none 0 0, .slice none 0 0, .slice none 0 0];generalize ((w.alloc _).alloc _).alloc _=w3 at kl kz kc da Nb |-;obtain ⟨N,hN⟩:=zEX (w3.heap.size);rw [<- hN] at Nb;have Pa:N <= w3.heap.size:=by omega
 have ve:w.heap.size+2<N:=by omega
 clear hN Nb;go_wp2_with fail
 go_loopw [7] (fun y wr=>∃ (i:Nat) (v:Value) (cs:List Value),i <= T /\ y= .int .i64 i /\ Blk wr w.heap.size 39 #[.int .u64 L.p, .int .i64 L.block, .int .i64 L.queries, .int .i64 L.k, .int .i64 L.n, .int .i64 L.secret, .int .i64 L.rows, .int .i64 L.a, .int .i64 L.b, .int .i64 L.b, .int .i64 L.b] /\ Blk wr (w.heap.size+1) 42 #[.slice none 0 0, .slice none 0 0, .slice none 0 0, .slice none 0 0, .slice none 0 0] /\ Blk wr (w.heap.size+1+1) 42 #[v, .slice none 0 0, .slice none 0 0, .slice none 0 0, .slice none 0 0] /\ wr.ownsRow N 28 1 v i cs /\ Rf N wr v cs (Dk L s i) /\ Below w.heap.size w wr /\ N <= wr.heap.size) (fun y _=>T-(intOf y).toNat)
 case atStart=>exact ⟨0, .slice none 0 0,[],Nat.zero_le _,rfl,kl,kz,kc,⟨rfl, .inl ⟨rfl,rfl⟩⟩,Ns _ _ _,da,Pa⟩
 case round =>
  clear kl kz kc da Pa;obtain ⟨i,v,cs,hi,rfl,kl,kz,kc,ra,Da,da,Pa⟩:=hrel;have cl:=kl.cell;have ll:=kl.lt;by_cases za:i<T
  ·have g1:(0:Int) <= (i:Int):=by omega
   have g2:(i:Int)<(T:Int):=by omega
   have ew:IntKind.u64.wrap (i:Int)=(i:Int):=by rw [IntKind.wrap_u64];omega
   have HR:=zH (QS L s i);go_wp2_with fail
   refine (HT.out _).mono ?_;rintro e w4 ⟨rfl,Fb⟩;replace kl:=ia kl Fb;replace kz:=ia kz Fb;replace kc:=ia kc Fb;replace ra:=Oa ra Fb zR;replace Da:=Uc Da Fb;have My:N <= w4.heap.size:=by have:=Fb.size;omega
   replace da:=oa da Fb;clear cl ll Fb Pa;have cl:=kl.cell;have cc:=kc.cell;have x1:w.heap.size<N:=by omega
   have x2:w.heap.size+1+1<N:=by omega
   have x3:w.heap.size≠N:=by omega
   have x4:w.heap.size+1+1≠N:=by omega
   go_upto_region 6 with fail
   refine Qt (qj N N) [9,10,11,12,14] [14] [0,1,2,3,4,5,6,7,8,9,10,11,12,13,14] (by kernel_rfl) (by kernel_rfl) ?_
   refine Tt (xb N N) ?_;intro Wc Na ja;have ya:=Cc Na;replace kl:=ia kl ya;replace kz:=ia kz ya;replace kc:=ia kc ya;replace ra:=Oa ra ya zR;replace Da:=Uc Da ya;have Dc:N <= Wc.heap.size:=by have:=ya.size;omega
   replace da:=oa da ya;clear Na ya;refine Ah ?_;refine Rh (xb N N) rfl rfl rfl ?_;go_simp;refine ⟨fun _=>ue ((Below.refl _ _).alloc zR _) Dc,?_⟩
   have ma:=(Below.refl Wc.heap.size Wc).alloc zR (.cells #[.int .u64 x, .int .u64 0, .int .u64 i] 22);have kA:=Blk.new Wc 22 #[.int .u64 x, .int .u64 0, .int .u64 i];replace kl:=ia kl ma;replace kz:=ia kz ma;replace kc:=ia kc ma;replace ra:=Oa ra ma zR;replace Da:=Uc Da ma;have Gh:N <= (Wc.alloc (.cells #[.int .u64 x, .int .u64 0, .int .u64 i] 22)).heap.size:=by have:=ma.size;omega
   replace da:=oa da ma
   try simp only [Act.put,zLa,zLb,zLc]
   generalize Wc.alloc _=w6 at kl kz kc ra Da da kA Gh |-;generalize Wc.heap.size=gA at kA |-;clear ma Dc ja cl cc;have ja:=(xb N N).refl w6;have kA':Blk w6 gA 22 (Fa (x :: [0,i])).toArray:=by simpa [Fa] using kA
   have HC:=zH (HS.out [0,i] L.queries gA w6 kA' (by intro y hy;simp at hy;omega) (by simp) (by omega))
   clear kA kA';refine fh (xb N N) rfl rfl rfl (fun _=>by go_simp <;> rfl) ((HC.out).mono ?_)
   rintro e w7 ⟨va,rfl,uj,Wa⟩;refine ⟨_,rfl,fun _=>ue Wa Gh,?_⟩
   replace ja:=(xb N N).trans _ _ _ ja (ue Wa Gh);simp only [Act.put,zLa,zLb,zLc];obtain ⟨Av,cv,rfl,-⟩:=Ob uj;have xt:=uj;replace kl:=ia kl Wa;replace kz:=ia kz Wa;replace kc:=ia kc Wa;have df:∀ q,v.ownBlock=some q -> q<w6.heap.size:=fun q e=>(ra.lt q e).2
   replace ra:=Oa ra Wa zR;replace Da:=Uc Da Wa;have At:=Xl (N:=N) (gb:=v.ownBlock) xt (zv _ _ _ _ (by omega) Ed.2) Gh df
   have de:N <= w7.heap.size:=by have:=Wa.size;omega
   replace da:=oa da Wa;clear uj xt df Wa Gh ja HC;have ja:=(xb N N).refl w7;refine Rh (xb N N) rfl rfl rfl ?_;go_simp;refine ⟨fun _=>ue ((Below.refl _ _).alloc zR _) de,?_⟩
   have ma:=(Below.refl w7.heap.size w7).alloc zR (.cells #[.slice Av L.queries cv] 28);have La:=Lf w7 (.slice Av L.queries cv) 28;replace kl:=ia kl ma;replace kz:=ia kz ma;replace kc:=ia kc ma;replace ra:=Oa ra ma zR;replace Da:=Uc Da ma;replace At:=Mh At ma.size (fun b _ h2 _=>ma.block b h2)
   have Of:N <= (w7.alloc (.cells #[.slice Av L.queries cv] 28)).heap.size:=by have:=ma.size;omega
   replace da:=oa da ma
   try simp only [Act.put,zLa,zLb,zLc]
   generalize w7.alloc _=w8 at kl kz kc ra Da At da La Of |-;generalize w7.heap.size=g7 at La |-;clear ma de ja;have ja:=(xb N N).refl w8;have cc:=kc.cell;refine Ah ?_;refine Rh (xb N N) rfl rfl rfl ?_;refine Tn _ _ rfl Cj rfl ra rfl La (by intro u hu;simp at hu;subst hu;rfl) (by omega) Of ?_
   intro v' wn db Ma Lb;have Rb:∀ q,v.ownBlock=some q -> N <= q:=fun q e=>(ra.lt q e).1
   refine ⟨fun _=>Ao Ma Of Rb,?_⟩
   have ee:=Tq Da At Ma Lb;rw [HR.out] at ee;replace kl:=kl.grown Ma (fun e=>by first | (have:=Rb _ e;omega) | (have:=Rb _ e.symm;omega))
   replace kz:=kz.grown Ma (fun e=>by first | (have:=Rb _ e;omega) | (have:=Rb _ e.symm;omega))
   replace kc:=kc.grown Ma (fun e=>by first | (have:=Rb _ e;omega) | (have:=Rb _ e.symm;omega))
   replace da:=da.trans ((Ae ra Ma Of).mono (by omega))
   have af:N <= wn.heap.size:=by have:=Ma.size;omega
   obtain ⟨Aw,cw,rfl,-⟩:=Ob db;clear ra Da At Ma Lb Rb Of La cc ja;have ja:=(xb N N).refl wn;have cc:=kc.cell;have fc:=kc.frozen
   try simp only [Act.put,zLa,zLb,zLc]
   refine Ah ?_;refine Rh (xb N N) rfl rfl rfl ?_;go_simp;refine ⟨fun h=>Bool.noConfusion h,?_⟩
   have Ba:wn.grownBy (wn.setCell ⟨w.heap.size+1+1,0,none⟩ (.slice Aw (i+1) cw)) (some (w.heap.size+1+1)):=mh (p:=⟨w.heap.size+1+1,0,none⟩) (Hf wn _) (.inl rfl) _;replace kc:=kc.set_ 0 (.slice Aw (i+1) cw);simp at kc
   replace kl:=kl.grown Ba (fun e=>by have:=Option.some.inj e;omega)
   replace kz:=kz.grown Ba (fun e=>by have:=Option.some.inj e;omega)
   have sc:=Hc db Ba (by omega)
   replace ee:=Kp ee Ba (by omega)
   replace da:=Pb da Ba;have hNz:=Nat.le_trans af Ba.size;clear db Ba cc fc af ja;generalize wn.setCell _ _=wz at kl kz kc sc ee da hNz |-;have ja:=(xb N N).refl wz;refine Ah ?_;refine Rt ?_;go_wp2
   go_roundw
   case rel=>exact ⟨i+1, .slice Aw (i+1) cw,_,by omega,by go_num,kl,kz,kc,sc,ee,da,hNz⟩
   case measure=>simp [intOf];omega
  ·obtain rfl:i=T:=by omega
   clear ll;have ll:=kl.lt;have g2:¬((i:Int)<(i:Int)):=by omega
   go_wp2_with fail
   refine (HT.out _).mono ?_;rintro e w4 ⟨rfl,Fb⟩;replace kl:=ia kl Fb;replace kz:=ia kz Fb;replace kc:=ia kc Fb;replace ra:=Oa ra Fb zR;replace Da:=Uc Da Fb;replace da:=oa da Fb;replace Pa:=Nat.le_trans Pa Fb.size;clear cl ll Fb;have q1:=hL.b1;have q2:=hL.b2;have q3:=hL.q1;have q5:=hL.k;have q6:=hL.n2;have w1:IntKind.i64.wrap ((L.k:Int)+(L.block:Int))=(L.k:Int)+(L.block:Int):=Df _ (by omega) (by omega)
   obtain ⟨m2,Qc⟩:=zEX (L.k+L.block-2);obtain ⟨m3,jf⟩:=zEX (L.block+2*L.queries-1);have w2:IntKind.i64.wrap ((L.k:Int)+(L.block:Int)-2)=(m2:Int):=by rw [Df _ (by omega) (by omega)];omega
   have w5:IntKind.i64.wrap (2*(L.queries:Int))=2*(L.queries:Int):=Df _ (by omega) (by omega)
   have w6:IntKind.i64.wrap ((L.block:Int)+2*(L.queries:Int))=(L.block:Int)+2*(L.queries:Int):=Df _ (by omega) (by omega)
   have w7:IntKind.i64.wrap ((L.block:Int)+2*(L.queries:Int)-1)=(m3:Int):=by rw [Df _ (by omega) (by omega)];omega
   have u1:L.k <= 65536:=by omega
   have u2:m2 <= 65536:=by omega
   have u3:m3 <= 65536:=by omega
   have u4:L.n <= 65536:=by omega
   have nm:=zH Qc;have HM3:=zH jf;clear Qc jf q1 q2 q3 q5 q6 za hi;have cl:=kl.cell;go_wp2_with fail
   have ma:=(Below.refl w4.heap.size w4).alloc zR (.cells #[.int .u64 x, .int .u64 1] 22);have kA:=Blk.new w4 22 #[.int .u64 x, .int .u64 1];replace kl:=ia kl ma;replace kz:=ia kz ma;replace kc:=ia kc ma;replace Da:=Uc Da ma;replace ra:=Oa ra ma zR;replace da:=oa da ma;replace Pa:=Nat.le_trans Pa ma.size;clear cl ma;generalize w4.alloc _=a1 at kl kz kc Da ra  da Pa kA |-;generalize w4.heap.size=gA1 at kA |-;have HC:=zH (HS.out [1] L.k gA1 a1 (by simpa [Fa] using kA) (by intro y hy;simp at hy;omega) (by simp) u1)
   clear kA
   skip
   refine HC.out.mono ?_;rintro e b1 ⟨v1,rfl,hv,hb⟩;have o1:=Pf hv Pa;replace kl:=ia kl hb;replace kz:=ia kz hb;replace kc:=ia kc hb;replace Da:=Uc Da hb;replace ra:=Oa ra hb zR;replace da:=oa da hb;replace Pa:=Nat.le_trans Pa hb.size;clear hv hb HC;obtain ⟨A1,c1,rfl,-⟩:=Ob o1;have cc:=kc.cell;have fc:=kc.frozen;go_upto_region 8 with fail
   have Ba:b1.grownBy (b1.setCell ⟨w.heap.size+1+1,1,none⟩ (.slice A1 L.k c1)) (some (w.heap.size+1+1)):=mh (p:=⟨w.heap.size+1+1,1,none⟩) (Hf b1 _) (.inl rfl) _;replace kc:=kc.set_ 1 (.slice A1 L.k c1);simp at kc
   replace kl:=kl.grown Ba (fun e=>by have:=Option.some.inj e;omega)
   replace kz:=kz.grown Ba (fun e=>by have:=Option.some.inj e;omega)
   replace Da:=Kp Da Ba (by omega)
   replace ra:=Hc ra Ba (by omega)
   replace o1:=Hc o1 Ba (by omega)
   replace da:=Pb da Ba;replace Pa:=Nat.le_trans Pa Ba.size;clear Ba cc fc;generalize b1.setCell _ _=d1 at kl kz kc Da ra o1 da Pa |-;have cl:=kl.cell;go_wp2_with fail
   have ma:=(Below.refl d1.heap.size d1).alloc zR (.cells #[.int .u64 x, .int .u64 2] 22);have kA:=Blk.new d1 22 #[.int .u64 x, .int .u64 2];replace kl:=ia kl ma;replace kz:=ia kz ma;replace kc:=ia kc ma;replace Da:=Uc Da ma;replace ra:=Oa ra ma zR;replace o1:=Oa o1 ma zR;replace da:=oa da ma;replace Pa:=Nat.le_trans Pa ma.size;clear cl ma;generalize d1.alloc _=a2 at kl kz kc Da ra o1 da Pa kA |-;generalize d1.heap.size=gA2 at kA |-;have HC:=zH (HS.out [2] m2 gA2 a2 (by simpa [Fa] using kA) (by intro y hy;simp at hy;omega) (by simp) u2)
   clear kA
   skip
   refine HC.out.mono ?_;rintro e b2 ⟨v2,rfl,hv,hb⟩;have o2:=Pf hv Pa;replace kl:=ia kl hb;replace kz:=ia kz hb;replace kc:=ia kc hb;replace Da:=Uc Da hb;replace ra:=Oa ra hb zR;replace o1:=Oa o1 hb zR;replace da:=oa da hb;replace Pa:=Nat.le_trans Pa hb.size;clear hv hb HC;obtain ⟨A2,c2,rfl,-⟩:=Ob o2;have cc:=kc.cell;have fc:=kc.frozen;go_upto_region 9 with fail
   have Ba:b2.grownBy (b2.setCell ⟨w.heap.size+1+1,2,none⟩ (.slice A2 m2 c2)) (some (w.heap.size+1+1)):=mh (p:=⟨w.heap.size+1+1,2,none⟩) (Hf b2 _) (.inl rfl) _;replace kc:=kc.set_ 2 (.slice A2 m2 c2);simp at kc
   replace kl:=kl.grown Ba (fun e=>by have:=Option.some.inj e;omega)
   replace kz:=kz.grown Ba (fun e=>by have:=Option.some.inj e;omega)
   replace Da:=Kp Da Ba (by omega)
   replace ra:=Hc ra Ba (by omega)
   replace o1:=Hc o1 Ba (by omega)
   replace o2:=Hc o2 Ba (by omega)
   replace da:=Pb da Ba;replace Pa:=Nat.le_trans Pa Ba.size;clear Ba cc fc;generalize b2.setCell _ _=d2 at kl kz kc Da ra o1 o2 da Pa |-;have cl:=kl.cell;go_wp2_with fail
   have ma:=(Below.refl d2.heap.size d2).alloc zR (.cells #[.int .u64 x, .int .u64 3] 22);have kA:=Blk.new d2 22 #[.int .u64 x, .int .u64 3];replace kl:=ia kl ma;replace kz:=ia kz ma;replace kc:=ia kc ma;replace Da:=Uc Da ma;replace ra:=Oa ra ma zR;replace o1:=Oa o1 ma zR;replace o2:=Oa o2 ma zR;replace da:=oa da ma;replace Pa:=Nat.le_trans Pa ma.size;clear cl ma;generalize d2.alloc _=a3 at kl kz kc Da ra o1 o2 da Pa kA |-;generalize d2.heap.size=gA3 at kA |-;have HC:=zH (HS.out [3] m3 gA3 a3 (by simpa [Fa] using kA) (by intro y hy;simp at hy;omega) (by simp) u3)
   clear kA
   skip
   refine HC.out.mono ?_;rintro e b3 ⟨v3,rfl,hv,hb⟩;have o3:=Pf hv Pa;replace kl:=ia kl hb;replace kz:=ia kz hb;replace kc:=ia kc hb;replace Da:=Uc Da hb;replace ra:=Oa ra hb zR;replace o1:=Oa o1 hb zR;replace o2:=Oa o2 hb zR;replace da:=oa da hb;replace Pa:=Nat.le_trans Pa hb.size;clear hv hb HC;obtain ⟨A3,c3,rfl,-⟩:=Ob o3;have cc:=kc.cell;have fc:=kc.frozen;go_upto_region 10 with fail
   have Ba:b3.grownBy (b3.setCell ⟨w.heap.size+1+1,3,none⟩ (.slice A3 m3 c3)) (some (w.heap.size+1+1)):=mh (p:=⟨w.heap.size+1+1,3,none⟩) (Hf b3 _) (.inl rfl) _;replace kc:=kc.set_ 3 (.slice A3 m3 c3);simp at kc
   replace kl:=kl.grown Ba (fun e=>by have:=Option.some.inj e;omega)
   replace kz:=kz.grown Ba (fun e=>by have:=Option.some.inj e;omega)
   replace Da:=Kp Da Ba (by omega)
   replace ra:=Hc ra Ba (by omega)
   replace o1:=Hc o1 Ba (by omega)
   replace o2:=Hc o2 Ba (by omega)
   replace o3:=Hc o3 Ba (by omega)
   replace da:=Pb da Ba;replace Pa:=Nat.le_trans Pa Ba.size;clear Ba cc fc;generalize b3.setCell _ _=d3 at kl kz kc Da ra o1 o2 o3 da Pa |-;have cl:=kl.cell;go_wp2_with fail
   have ma:=(Below.refl d3.heap.size d3).alloc zR (.cells #[.int .u64 x, .int .u64 4] 22);have kA:=Blk.new d3 22 #[.int .u64 x, .int .u64 4];replace kl:=ia kl ma;replace kz:=ia kz ma;replace kc:=ia kc ma;replace Da:=Uc Da ma;replace ra:=Oa ra ma zR;replace o1:=Oa o1 ma zR;replace o2:=Oa o2 ma zR;replace o3:=Oa o3 ma zR;replace da:=oa da ma;replace Pa:=Nat.le_trans Pa ma.size;clear cl ma;generalize d3.alloc _=a4 at kl kz kc Da ra o1 o2 o3 da Pa kA |-;generalize d3.heap.size=gA4 at kA |-;have HC:=zH (Tv.out [4] L.n gA4 a4 (by simpa [Fa] using kA) (by intro y hy;simp at hy;omega) (by simp) u4)
   clear kA;unfold Kd at HC;refine HC.out.mono ?_;rintro e b4 ⟨v4,rfl,hv,hb⟩;have o4:=Pf hv Pa;replace kl:=ia kl hb;replace kz:=ia kz hb;replace kc:=ia kc hb;replace Da:=Uc Da hb;replace ra:=Oa ra hb zR;replace o1:=Oa o1 hb zR;replace o2:=Oa o2 hb zR;replace o3:=Oa o3 hb zR;replace da:=oa da hb;replace Pa:=Nat.le_trans Pa hb.size;clear hv hb HC;obtain ⟨A4,c4,rfl,-⟩:=Ob o4;have cc:=kc.cell;have fc:=kc.frozen;go_upto_region 11 with fail
   have Ba:b4.grownBy (b4.setCell ⟨w.heap.size+1+1,4,none⟩ (.slice A4 L.n c4)) (some (w.heap.size+1+1)):=mh (p:=⟨w.heap.size+1+1,4,none⟩) (Hf b4 _) (.inl rfl) _;replace kc:=kc.set_ 4 (.slice A4 L.n c4);simp at kc
   replace kl:=kl.grown Ba (fun e=>by have:=Option.some.inj e;omega)
   replace kz:=kz.grown Ba (fun e=>by have:=Option.some.inj e;omega)
   replace Da:=Kp Da Ba (by omega)
   replace ra:=Hc ra Ba (by omega)
   replace o1:=Hc o1 Ba (by omega)
   replace o2:=Hc o2 Ba (by omega)
   replace o3:=Hc o3 Ba (by omega)
   replace o4:=Hc o4 Ba (by omega)
   replace da:=Pb da Ba;replace Pa:=Nat.le_trans Pa Ba.size;clear Ba cc fc;generalize b4.setCell _ _=d4 at kl kz kc Da ra o1 o2 o3 o4 da Pa |-;obtain ⟨Av,cv,rfl,-⟩:=Ob ra;have cc:=kc.cell;have fc:=kc.frozen;have zc:=kz.cell;have zf:=kz.frozen;go_wp2_with fail
   have Ba:=zh (w:=d4) (g:=w.heap.size+1) (.slice Av i cv) (.slice A1 L.k c1) (.slice A2 m2 c2) (.slice A3 m3 c3) (.slice A4 L.n c4);replace kz:=yh kz (.slice Av i cv) (.slice A1 L.k c1) (.slice A2 m2 c2) (.slice A3 m3 c3) (.slice A4 L.n c4);replace Da:=Kp Da Ba (by omega)
   replace ra:=Hc ra Ba (by omega)
   replace o1:=Hc o1 Ba (by omega)
   replace o2:=Hc o2 Ba (by omega)
   replace o3:=Hc o3 Ba (by omega)
   replace o4:=Hc o4 Ba (by omega)
   replace da:=Pb da Ba;clear kl kc cc fc zc zf Ba Pa;generalize ((((d4.setCell _ _).setCell _ _).setCell _ _).setCell _ _).setCell _ _=d5 at kz Da ra o1 o2 o3 o4 da |-;have zc:=kz.cell;refine bodyPost_ret (v:=.agg #[.slice Av i cv, .slice A1 L.k c1, .slice A2 m2 c2, .slice A3 m3 c3, .slice A4 L.n c4]) (by simp [results,Tryz.results19,go_sem,zc]) rfl ?_
   obtain rfl:=nm.out;obtain rfl:=HM3.out;have mc:0<L.p:=by omega
   exact ⟨_,_,_,_,_,_,_,rfl,Pf ra (by omega),yK Da (by omega),Pf o1 (by omega),Pf o2 (by omega),Pf o3 (by omega),Pf o4 (by omega),da⟩
end Go.Proofs.YtgeofabpinfcmaaGreat
namespace Go.Proofs.YtgeofabpinfcmaaGreat
theorem GH {P:Program} {f:FuncId} {fn:Func} {s:ChangeSpec} {c:OpenClaim}
  (k1:(c.wf (OpenSpec.ofChange s))=true)
  (k2:(laidOutB P)=true)
  (k3:(mapsRowed P)=true)
  (k4:(fn.params.all (P.readableRec ·))=true)
  (k5:(namedTie P c.named s.vars)=true)
  (k6:((c.stops == []))=true)
  (k7:((P.stops == []))=true)
  (k8:((c.knobs == []))=true)
  (k9:((P.stopKnobs == []))=true)
  (uC:((c.inPlace == P.inPlace f))=true)
  (k11:((c.unfollowed == P.unfollowed f))=true)
  (k12:((c.recurses == P.recurses f))=true)
  (k13:((c.named == P.varsNamed f))=true)
  (k14:((c.maps == (fn.params.toList++s.plain.varTypes P).any (P.mapsRec ·)))=true)
  (k15:((c.ifaces == (fn.params.toList++s.plain.varTypes P).any (P.ifacesRec ·)))=true)
  (k16:((c.mapsOut == P.mapsAmong fn.resultTypes.toList))=true)
  (k17:((c.loops == (fn.params.toList++s.plain.varTypes P).any (P.loopsFrom ·)))=true)
  (xC:((c.wideKeys == (fn.params.toList++s.plain.varTypes P++fn.resultTypes.toList).any (P.wideKeysFrom ·)))=true)
  (k19:(s.vars.all (P.varReadable ·))=true)
  (k20:(fn.resultTypes.all (fun t=>P.readableRec t&&decide (t<P.types.size)))=true)
  (k21:((c.ifacesOut == fn.resultTypes.toList.any (P.ifacesRec ·)))=true)
  (k22:((c.loopsOut == fn.resultTypes.toList.any (P.loopsFrom ·)))=true)
  (k23:((c.plainKeys == P.plainKeys))=true)
  (k24:(c.shortTexts.isNone)=true)
  (k25:(P.stopsHeard)=true)
  (k26:(P.mayEnter)=true)
  (k27:((c.lifted == P.liftsFinal))=true)
  (k28:((P.make == some c.make))=true)
  (k29:((c.kinds == (if c.domain.isEmpty then [] else fn.params.toList.map fun t=>match P.underlying t with | some (.int k)=>some k | _=>none)))=true)
  (k30:((c.pinned == c.pinnedBy))=true)
  (k31:((c.veiled == (fn.params.toList++s.plain.varTypes P++fn.resultTypes.toList).any (P.veiledRec ·)))=true)
  (k32:(c.veiledFits P fn.params.toList (fn.params.toList++s.plain.varTypes P++fn.resultTypes.toList))=true)
  : joinedFacts P f fn s c=true:=by
 unfold joinedFacts;simp only [Bool.and_eq_true];exact ⟨⟨⟨⟨⟨⟨⟨⟨⟨⟨⟨⟨⟨⟨⟨⟨⟨⟨⟨⟨⟨⟨⟨⟨⟨⟨⟨⟨⟨⟨⟨k1,k2⟩,k3⟩,k4⟩,k5⟩,k6⟩,k7⟩,k8⟩,k9⟩,uC⟩,k11⟩,k12⟩,k13⟩,k14⟩,k15⟩,k16⟩,k17⟩,xC⟩,k19⟩,k20⟩,k21⟩,k22⟩,k23⟩,k24⟩,k25⟩,k26⟩,k27⟩,k28⟩,k29⟩,k30⟩,k31⟩,k32⟩
end Go.Proofs.YtgeofabpinfcmaaGreat
