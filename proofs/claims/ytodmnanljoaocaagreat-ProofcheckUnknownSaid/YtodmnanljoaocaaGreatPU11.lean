/- A part of the proof. No condition. -/
import Derived.Test.YtodmnanljoaocaaGreatPU8
import Derived.Test.YtodmnanljoaocaaGreatPU9
import Derived.Test.YtodmnanljoaocaaGreatPU10
import Derived.Shelf.Sort.Plain
import Derived.Sort.OwnSortedInts
import Derived.ChangeAlike
import Derived.Deep.RegionWith
import Derived.RegionTactic

set_option maxRecDepth 100000
set_option maxHeartbeats 8000000
set_option linter.unusedVariables false
set_option linter.unusedSimpArgs false
namespace Go.Proofs.YtodmnanljoaocaaGreat
open Go.RowKit Go.Maps
open Tryz
open Go renaming World->vv, Value->vw, Addr->vx, TypeId->vy, Calls->vA
open Go.Value renaming int->vd, slice->ve, agg->vf
open Go.IntKind renaming u64->vq, i64->vt
open Go.Ending renaming returned->vn
open Go.RowKit renaming Below->vz
open Go.World renaming setCell->vE
open Go.Act renaming put->vF
open Option renaming none->vB, some->vD
theorem E8 (n:Nat) (w:vv) :
  vA prog 103 #[vd vt n] w fun e w'=>e=vn (.bool (Cv n)) /\ w=w':=by
 by_cases h1:1 <= n
 ·by_cases h2:n <= 1024
  ·have HN:=zH (I6 ⟨n,zO⟩ h1)
   have ha:=sY ⟨n,zO⟩ h1;simp only at ha;obtain ⟨a,JJ⟩:=zEX (n &&& (n-1));rw [<- JJ] at ha;have HA:=zH JJ;have d1:decide ((1:Int)<=n)=true:=Qb zO;have d2:decide ((n:Int)<=1024)=true:=Qb zO;have e1:vt.wrap ((n:Int)-1)=(n:Int)-1:=by rw [pj];omega
   have d3:((a:Int) == 0)=decide (a=0):=by by_cases h:a=0 <;> simp [h]
   obtain ⟨r,hr⟩:=zEX (Cv n);have HR:=zH (show decide (a=0)=r by rw [hr,HA.out];exact HN.out.symm)
   rw [<- hr];rw [HR.out] at d3;clear hr HN JJ h1 h2;go_enter func103,ntmps103
   go_wp2_with fail
   go_ret
   exact ⟨rfl,rfl⟩
  ·rw [zIw zO]
   have d1:decide ((1:Int)<=n)=true:=Qb zO;have d2:decide ((n:Int)<=1024)=false:=Ib zO;clear h1 h2;go_enter func103,ntmps103
   go_wp2_with fail
   go_ret
   exact ⟨rfl,rfl⟩
 ·obtain rfl:n=0:=by omega
  rw [G6];clear h1;go_enter func103,ntmps103
  go_wp2_with fail
  go_ret
  exact ⟨rfl,rfl⟩
theorem G8 {w:vv} {A:Option vx} {n c d:Nat} {ls:List (List Nat)} (h:Ye w [ve A n c] ls) (ht:aJ d ls) :
  vA prog 107 #[ve A n c] w fun e w'=>e=vn (.bool true) /\ vz w.1.size w w':=by
 obtain ⟨rfl,yd,Rf,-⟩:=Ki h;have hlen:=ht.len;have HR:=zH h;have HT:=zH ht;have ZU:=ht.d10;obtain ⟨b,q,A1,n1,c1,eA,Zb,tE,Fg,Uf⟩:=LF h (show 0<ls.length by omega)
 obtain ⟨b',q',A2,n2,c2,Sm,-,ZG,Tf,Vi⟩:=LF h (show d<ls.length by omega)
 rw [eA] at Sm
 injection Sm with Sm
 injection Sm with e3 e4
 subst e3 e4;rw [ht.at_ 0 (Rb _),Nat.sub_zero] at Fg;rw [ht.at_ d zR,Nat.sub_self,Nat.pow_zero] at Tf;rw [ot] at tE;have Fu:=zH (fun w=>by have:=E8 n1 w;rw [Fg,D6 ZU,<- Fg] at this;exact this)
 obtain ⟨nn,Dk⟩:=zEX (ls.length);rw [<- Dk] at hlen yd HR |-;have Bn:=zH Dk;have HN:=zH hlen;have hn11:nn <= 11:=by omega
 have e1:vt.wrap ((nn:Int)-1)=(d:Int):=by rw [pj];omega
 have g0:(0:Int)<nn:=by omega
 have g1:(d:Int)<nn:=by omega
 have g2:(0:Int)<=d:=by omega
 have g3:((nn:Int) == 0)=false:=by rw [Je];omega
 subst eA;subst Tf;clear h ht Uf Vi Dk hlen yd Rf Fg;go_enter func107,ntmps107
 go_wp2_with fail
 refine (Fu.out w).mono ?_;rintro e _ ⟨rfl,rfl⟩;go_wp2_with fail
 clear tE ZG Fu e1 g0 g1 g2 g3;go_loopw [3] (fun y wr=>∃ i:Nat,1 <= i /\ i <= nn /\ y=vd vt i /\ vz w.1.size w wr) (fun y _=>nn-(intOf y).toNat)
 case atStart=>exact ⟨1,zR,by have:=HN.out;omega,rfl,Bb _ _⟩
 case round =>
  obtain ⟨i,Yr,hi,rfl,hb⟩:=hrel;by_cases ta:i<nn
  ·have qv:=Bn.out
   have dK:=HN.out;obtain ⟨b2,q2,A3,n3,c3,eA,Vn,iM,Kt,ss⟩:=LF (Fm hb HR.out) (show i<ls.length by omega)
   obtain ⟨b4,q4,A4,n4,c4,eA4,-,U0,Hw,hr4⟩:=LF (Fm hb HR.out) (show i-1<ls.length by omega)
   injection eA with eA
   injection eA with e3 e4
   subst e3 e4
   injection eA4 with eA4
   injection eA4 with e3 e4
   subst e3 e4;rw [HT.out.at_ i zO] at Kt;rw [HT.out.at_ (i-1) zO] at Hw;obtain ⟨j,hj⟩:=zEX (i-1);have h24:2*n3=n4:=by rw [Kt,Hw,show d-(i-1)=d-i+1 by omega,qj,Jj]
   have hn4l:n4 <= 1024:=by rw [Hw];exact Cb (QB zO (show d-(i-1) <= 10 by omega)) zD
   rw [<- hj] at U0;have e2:vt.wrap ((i:Int)-1)=(j:Int):=by rw [pj];omega
   have e5:vt.wrap (2*(n3:Int))=(n4:Int):=by rw [pj];omega
   have g1:(0:Int)<=i:=by omega
   have g2:(i:Int)<nn:=by omega
   have g3:(0:Int)<=j:=by omega
   have g4:(j:Int)<nn:=by omega
   have Pc:=zH (And.intro Yr ta);have HB:=zH hb;clear ss hr4 Kt Hw hj h24 hn4l ta qv dK hb hi Yr;go_wp2_with fail
   refine Yc (yc) [] [0,1,2,3,4,5,6,7,8,9,10,11,12] zK zK ?_;refine Td (ya) ?_;intro Wc Ca da;have oc:=zH (show vz w.1.size w Wc by rw [Ca.out];exact HB.out.drew)
   clear Ca HB;refine dc ?_;refine Ec ?_;clear da iM U0;go_wp2
   go_roundw
   case rel=>exact ⟨i+1,zO,Pc.out.2,by go_num,oc.out⟩
   case measure=>have:=Pc.out.2;simp [intOf];omega
  ·obtain rfl:i=nn:=by omega
   go_wp2;go_ret
   exact ⟨rfl,hb⟩
theorem zGB {w:vv} {A:Option vx} {n c d:Nat} {ls:List (List Nat)} (h:Ye w [ve A n c] ls) (ht:aJ d ls) :
  vA prog 43 #[ve A n c] w fun e w'=>e=vn (vd vq (aI ls:Int)) /\ vz w.1.size w w':=by
 obtain ⟨rfl,yd,Rf,-⟩:=Ki h;have hlen:=ht.len;have HW:=zH (fun w1 (hb:vz w.1.size w w1)=>G8 (Fm hb h) ht)
 obtain ⟨b,q,A1,n1,c1,eA,Zb,tE,Fg,Uf⟩:=LF h (show d<ls.length by omega)
 obtain ⟨b1,q1,eA1,Vm,ZG⟩:=Ve (by have:=(Mb Uf).2.2.2.2;rw [Fg] at this;exact this) (zAC ht zR)
 rw [ot,<- zGX ht] at ZG;have sH:0<n1:=by rw [Fg];exact zAC ht zR
 obtain ⟨nn,Dk⟩:=zEX (ls.length);rw [<- Dk] at hlen HW yd |-;generalize aI ls=rt at *;have hn11:nn <= 11:=by have:=ht.d10;omega
 have e1:vt.wrap ((nn:Int)-1)=(d:Int):=by rw [pj];omega
 have g0:(0:Int)<n1:=by omega
 have g1:(d:Int)<nn:=by omega
 have g2:(0:Int)<=d:=by omega
 subst eA eA1;clear h ht Uf Dk hlen Fg sH yd Rf;go_enter func43,ntmps43
 go_wp2_with fail
 refine (HW.out _ (Bb _ _)).mono ?_;rintro _ w2 ⟨rfl,hb⟩;have hcA:=(hb.cell (p:=⟨b,q+d,vB⟩) Zb).trans tE;have hcB:=(hb.cell (p:=⟨b1,q1,vB⟩) Vm).trans ZG;clear tE ZG;go_wp2;go_ret
 exact ⟨rfl,hb⟩
theorem zGu {w:vv} {A:Option vx} {n c d i:Nat} {ls:List (List Nat)} (h:Ye w [ve A n c] ls) (ht:aJ d ls) (hi:i<2^d) (ta:∀ k j,(ls.getD k []).getD j 0<18446744073709551616) :
  vA prog 47 #[ve A n c,vd vt i] w fun e w'=>∃ v,e=vn v /\ w'.ownsRow w.1.size 22 1 v d (Qa (Ay ls i)) /\ vz w.1.size w w':=by
 obtain ⟨rfl,yd,Rf,-⟩:=Ki h;have hlen:=ht.len;have HW:=zH (fun w1 (hb:vz w.1.size w w1)=>G8 (Fm hb h) ht)
 have HR:=zH h;have HT:=zH ht;obtain ⟨b,q,A1,n1,c1,eA,Zb,tE,Fg,Uf⟩:=LF h (show 0<ls.length by omega)
 rw [ht.at_ 0 (Rb _),Nat.sub_zero] at Fg;rw [ot] at tE;have ZU:=ht.d10;have HP:=zH (show Ay ls i=(List.range d).map fun k=>(ls.getD k []).getD ((i / 2^k) ^^^ 1) 0 by rw [EW,hlen];rfl)
 obtain ⟨f,hf⟩:∃ f:Nat -> Nat,f=fun k=>(ls.getD k []).getD ((i / 2^k) ^^^ 1) 0:=⟨_,rfl⟩
 rw [<- hf] at HP;have HF:=zH (fun k=>show f k=(ls.getD k []).getD ((i / 2^k) ^^^ 1) 0 by rw [hf])
 obtain ⟨nn,Dk⟩:=zEX (ls.length);rw [<- Dk] at hlen HW yd HR |-;obtain ⟨pl,Og⟩:=zEX (Ay ls i);rw [<- Og] at HP |-;have hn11:nn <= 11:=by omega
 have hi10:i<1024:=Be hi (Cb (QB zO ZU) zD);have e1:vt.wrap ((nn:Int)-1)=(d:Int):=by rw [pj];omega
 have g0:(0:Int)<nn:=by omega
 have g1:(d:Int)<=c:=by omega
 have g2:(0:Int)<=d:=by omega
 have g3:¬((i:Int)<0):=by omega
 have g3':decide ((i:Int)<0)=false:=Ib g3;have g4:decide ((n1:Int)<=i)=false:=Ib zO;have g4n:decide (n1 <= i)=false:=Ib zO;have g4p:¬(n1 <= i):=by omega
 subst eA;have HN:=zH hlen;have HI:=zH hi;have Bn:=zH Dk;have MP:=zH ta;clear h ht Uf Dk hlen yd Rf hf Og Fg hi ta;go_enter func47,ntmps47
 go_wp2_with fail
 refine (HW.out _ (Bb _ _)).mono ?_;rintro _ w2 ⟨rfl,hb⟩;have hcA:=(hb.cell (p:=⟨b,q,vB⟩) Zb).trans tE;clear tE HW;go_wp2_with fail
 have kh:w2.ownsRow w.1.size 22 1 (ve vB 0 0) 0 (Qa ((List.range 0).map f)):=⟨rfl, .inl ⟨rfl,rfl⟩⟩;go_loopw [1,5,6] (fun iv pv y wr=>∃ k:Nat,k <= d /\ y=vd vt k /\ iv=vd vt ((i / 2^k:Nat):Int) /\ wr.ownsRow w.1.size 22 1 pv k (Qa ((List.range k).map f)) /\ vz w.1.size w wr) (fun _ _ y _=>d-(intOf y).toNat)
 case atStart=>exact ⟨0,Rb _,rfl,zS,kh,hb⟩
 case round =>
  clear kh hb hcA;obtain ⟨k,hk,rfl,rfl,oa,hb⟩:=hrel;by_cases ta:k<d
  ·obtain ⟨b2,q2,A2,n2,c2,eA,Vn,jv,Tf,Vi⟩:=LF (Fm hb HR.out) (show k<ls.length by have:=Bn.out;have:=HN.out;omega)
   rw [HT.out.at_ k zO] at Tf
   injection eA with eA
   injection eA with e3 e4
   subst e3 e4;have hj:i / 2^k<2^(d-k):=by
    rw [Nat.div_lt_iff_lt_mul (Nat.pow_pos zO),<- Nat.pow_add,show d-k+k=d by omega]
    exact HI.out
   have hx:(i / 2^k) ^^^ 1<n2:=by rw [Tf];exact Nat.xor_lt_two_pow hj (Nat.one_lt_two_pow zO)
   have hlr:=(Mb Vi).2.2.2.2;rw [(Mb Vi).1] at hlr jv hx;obtain ⟨b3,q3,nJ,hbl3,iM⟩:=Ve hlr hx;rw [<- HF.out k] at iM;have Uk:f k<18446744073709551616:=by rw [HF.out];exact MP.out k _
   obtain ⟨k1,Jh⟩:=zEX (k+1);have Bk:i / 2^k1=i / 2^k / 2:=by rw [Jh,qj,Nat.div_div_eq_div_mul]
   have Vl:=zH Jh;have ew:vt.wrap ((k:Int)+1)=(k1:Int):=by rw [pj];omega
   have gk1:(k1:Int)<nn:=by have:=HN.out;omega
   have gk0:(k:Int)<nn:=by omega
   have dA:i / 2^k<1024:=Az (Mx _ _) hi10;have hxo:=zIs ⟨i / 2^k,dA⟩;simp only at hxo;obtain ⟨j,Zn⟩:=zEX (i / 2^k);rw [<- Zn] at hxo iM hx Bk dA |-;obtain ⟨jx,hjx⟩:=zEX (j ^^^ 1);rw [<- hjx] at hxo iM hx;obtain ⟨n3,Kt⟩:=zEX ((ls.getD k []).length);rw [<- Kt] at jv hx;obtain ⟨z,hz⟩:=zEX (f k);rw [<- hz] at iM Uk;have Fq:=zH (show (List.range k).map f++[z]=(List.range k1).map f by rw [hz,Jh];exact JC f k)
   have g5:(0:Int)<=jx:=by omega
   have g6:(jx:Int)<n3:=by omega
   have g7:(0:Int)<=k:=by omega
   have g8:(k:Int)<d:=by omega
   have g9:(j:Int).tdiv 2=((j / 2:Nat):Int):=by rw [Int.tdiv_eq_ediv_of_nonneg zO];omega
   obtain ⟨j2,Sj⟩:=zEX (j / 2);rw [<- Sj] at g9 Bk;have hj2l:j2 <= 1024:=by omega
   have HDV:=zH Bk;have Pc:=zH ta;subst nJ;clear hlr Vi Tf hj Zn hjx Kt hz Sj Bk ta hx Jh;go_upto_region 7 with fail
   go_wp2_with (at_builtin;refine fe rfl _ _ rfl Ag rfl (oa.alloc _) rfl (mh _ _ _) (Gf [z]) zO (by simp;have:=hb.size;omega) ?_)
   intro v' wn Va Ja tb;have ja:=zA wr (.cells #[vd vq z] 22);have hB:=Ee (oa.alloc _) Ja (by simp;have:=hb.size;omega)
   replace hb:=(Pk hb ja hb.size).trans hB;replace oa:wn.ownsRow w.1.size 22 1 v' (k+1) (Qa ((List.range k1).map f)):=Ii (b:=[z]) Va Fq.out;clear Va Ja tb ja hB;rw [<- Vl.out] at oa;go_wp2
   go_roundw
   case rel=>exact ⟨k1,by have:=Pc.out;have:=Vl.out;omega,by first | rfl | go_num,by first | (rw [HDV.out];done) | (rw [HDV.out];go_num),oa,hb⟩
   case measure=>have:=Pc.out;have:=Vl.out;simp [intOf];omega
  ·have e:k=d:=by omega
   subst e;have ew:vt.wrap ((k:Int)+1)=(nn:Int):=by rw [pj];have:=HN.out;omega
   clear ta hk;obtain ⟨Av,cv,rfl,-⟩:=mc oa;have uB:=zH (show Qa pl=Qa ((List.range k).map f) by rw [HP.out])
   rw [<- uB.out] at oa;have xt:=zH oa;clear oa;go_wp2;go_ret
   exact ⟨_,rfl,xt.out,hb⟩
section
open Go.Shelf
def ren189:Go.Shelf.Ren:=⟨fun | 125=>261 | 128=>278 | 129=>277 | 189=>242 | 215=>299 | 216=>286 | 257=>270 | 294=>280 | 295=>281 | 296=>282 | 297=>283 | 298=>284 | 299=>285 | 300=>287 | 301=>288 | 328=>294 | 329=>295 | 330=>296 | 331=>297 | 332=>298 | 343=>300 | n=>n,fun | 0=>0 | 3=>3 | 4=>4 | 5=>5 | 9=>9 | 28=>103 | 46=>336 | 51=>348 | 53=>22 | 131=>171 | 182=>350 | 183=>351 | 218=>357 | 222=>360 | 228=>362 | 229=>363 | n=>n,fun n=>n⟩
theorem zDP:Go.Proofs.Lays.n189 prog ren189:={ mixed:=by kernel_rfl,f125:=by kernel_rfl,f128:=by kernel_rfl,f129:=by kernel_rfl,f189:=by kernel_rfl,f215:=by kernel_rfl,f216:=by kernel_rfl,f257:=by kernel_rfl,f294:=by kernel_rfl,f295:=by kernel_rfl,f296:=by kernel_rfl,f297:=by kernel_rfl,f298:=by kernel_rfl,f299:=by kernel_rfl,f300:=by kernel_rfl,f301:=by kernel_rfl,f328:=by kernel_rfl,f329:=by kernel_rfl,f330:=by kernel_rfl,f331:=by kernel_rfl,f332:=by kernel_rfl,f343:=by kernel_rfl,t0:=by kernel_rfl,a0:=fun _=>zK,z0:=fun _=>zK,v0:=fun _=>zK,t3:=by kernel_rfl,a3:=fun _=>zK,z3:=fun _=>zK,v3:=fun _=>zK,t4:=by kernel_rfl,a4:=fun _=>zK,z4:=fun _=>zK,v4:=fun _=>zK,t5:=by kernel_rfl,a5:=fun _=>zK,z5:=fun _=>zK,v5:=fun _=>zK,t9:=by kernel_rfl,a9:=fun _=>zK,z9:=fun _=>zK,v9:=fun _=>zK,t28:=by kernel_rfl,a28:=fun _=>zK,z28:=fun _=>zK,v28:=fun _=>zK,t46:=by kernel_rfl,a46:=fun _=>zK,z46:=fun _=>zK,v46:=fun _=>zK,t51:=by kernel_rfl,a51:=fun _=>zK,z51:=fun _=>zK,v51:=fun _=>zK,t53:=by kernel_rfl,a53:=fun _=>zK,z53:=fun _=>zK,v53:=fun _=>zK,t131:=by kernel_rfl,a131:=fun _=>zK,z131:=fun _=>zK,v131:=fun _=>zK,t182:=by kernel_rfl,a182:=fun _=>zK,z182:=fun _=>zK,v182:=fun _=>zK,t183:=by kernel_rfl,a183:=fun _=>zK,z183:=fun _=>zK,v183:=fun _=>zK,t218:=by kernel_rfl,a218:=fun _=>zK,z218:=fun _=>zK,v218:=fun _=>zK,t222:=by kernel_rfl,a222:=fun _=>zK,z222:=fun _=>zK,v222:=fun _=>zK,t228:=by kernel_rfl,a228:=fun _=>zK,z228:=fun _=>zK,v228:=fun _=>zK,t229:=by kernel_rfl,a229:=fun _=>zK,z229:=fun _=>zK,v229:=fun _=>by kernel_rfl }
end
section
open Go.Shelf
def Qi (n:Nat) (f:Nat -> Nat):Array vw:=((List.range n).map fun k=>vd vt (f k:Int)).toArray
theorem aO {n k:Nat} (f:Nat -> Nat) (h:k<n):(Qi n f)[k]?=vD (vd vt (f k:Int)):=by simp [Qi,h]
theorem BQ {n:Nat} {f g:Nat -> Nat} (h:∀ i,i<n -> f i=g i):Qi n f=Qi n g:=by
 unfold Qi
 congr 1
 exact NB fun i hi=>by rw [h i (Lm.1 hi)]
theorem vU {n:Nat} (f:Nat -> Nat) (k v:Nat):(Qi n f).setIfInBounds k (vd vt v)=Qi n (ui f k v):=by
 apply Array.ext
 ·simp [Qi]
 ·intro i h1 h2
  simp [Qi] at h1 h2
  rw [Array.getElem_setIfInBounds (by simpa [Qi] using h1)]
  simp only [Qi,ui];split
  ·subst_vars;simp
  ·rename_i Ua
   simp [show ¬i=k from fun e=>Ua e.symm]
def Zf (l:List Nat):List Int:=l.map fun n:Nat=>(n:Int)
theorem zCD {n:Nat} {l:List Nat} (h:l.length=n):Qi n (fun k=>l.getD k 0)=(xf (Zf l)).toArray:=by
 subst h;unfold Qi xf Zf
 congr 1
 rw [List.map_map];refine List.ext_getElem zS fun i h1 h2=>?_
 simp at h1
 simp [Gc,h1]
theorem zDv:(prog.info? 3).map (fun i=>(i.zero,i.size,i.bytes))=vD (vD (vd vt 0),1,8):=by kernel_rfl
theorem VN:Lr prog 103 3 1 8 (vd vt 0):=by
 obtain ⟨i0,hi,Wj,Zd,Gg⟩:=info_parts zDv;exact ⟨underlying103,⟨i0,hi,Wj,Zd,Gg⟩,rfl,zO⟩
theorem zD5 (n:Nat):madeCells (vd vt 0).cells (n*1)=Qi n fun _=>0:=by
 apply Array.toList_inj.1
 rw [show (vd vt 0).cells=#[vd vt 0] from rfl,toList_madeCells_one]
 exact List.ext_getElem (by simp [Qi]) fun i h1 h2=>by simp [Qi]
theorem zEc (n:Nat) (hn:n <= 1000000) (w:vv) :
  (Instr.makeSlice 103 (vd vt n) (vd vt n)).run prog w= .ok (ve (vD ⟨w.1.size,0,vB⟩) n n) (w.alloc (.cells (Qi n fun _=>0) 3)):=by
 have:=lW (P:=prog) VN n zO zO w;rw [zD5] at this;exact this
theorem zBO (ad:vx) (n c:Nat) (l:List Int) (w:vv) (hr:Rd w 1 (vD ad) n (xf l)) (hn:n <= 60000) :
  vA prog 241 #[ve (vD ad) n c] w fun e w'=>∃ g d,e=vn (ve (vD ⟨g,0,vB⟩) n d) /\ w.1.size <= g /\ w'.ownsRow w.1.size 3 1 (ve (vD ⟨g,0,vB⟩) n d) n (xf l) /\ vz w.1.size w w':=by
 have oV:=fun (w:vv) (a:Option vx) (n c:Nat)=>Lib.run_eql_slice_nil (P:=prog) w 103 3 a n c 0 0 underlying103
 have gl:(n:Int) <= 60000:=by omega
 have ja:=zA w (.cells #[] 3);go_enter func241,ntmps241
 go_wp2_with (at_builtin;refine fe rfl _ _ rfl VN rfl (ju w 3 zR) rfl (hr.alloc _) (tW l) zO zS ?_)
 intro v' wn Va Ja tb;have hB:=Ee (ju w 3 zR) Ja zS;have SG:=ja.trans hB;rcases Va.2 with ⟨rfl,h0⟩ | ⟨g,cap,cur,rfl,Vo,-⟩
 ·rcases tb with h | h <;> simp [Value.ownBlock] at h
 ·go_wp2
  go_ret
  exact ⟨g,cap,rfl,Vo,Va,SG⟩
theorem zHv {w:vv} {base g n d:Nat} {l:List Int} (ho:w.ownsRow base 3 1 (ve (vD ⟨g,0,vB⟩) n d) n (xf l)) (hn:n <= 60000) :
  vA prog 242 #[ve (vD ⟨g,0,vB⟩) n d] w fun e w'=>e=vn (.tuple #[]) /\ w'.ownsRow base 3 1 (ve (vD ⟨g,0,vB⟩) n d) n (xf (l.mergeSort fun x y=>decide (x <= y))) /\ w.grownBy w' (vD g):=by
 have hlen:l.length=n:=by have:=ho.1;rw [Q4] at this;omega
 subst hlen;rcases ho.2 with ⟨h0,-⟩ | ⟨g',cap,cur,hv,Vo,hh,h1,h2,h3,h4⟩
 ·cases h0
 ·injection hv with e1 e2 e3
  injection e1 with e1
  injection e1 with e1
  subst e1 e3;have hH:=holds_of_blockI hh (by rw [Nat.mul_one] at h4;exact h4)
  refine (Any.slices_Sort_int zDP g 0 d l w hH (Ky.1 hh).1 zO).mono ?_;rintro e w' ⟨he,nn,os,rfl⟩;exact ⟨he,ownsRow_sortedI (List.length_mergeSort l) Vo hh h1 h2 h3,grownBy_sortedI _⟩
theorem zHw (l:List Nat):(Zf l).mergeSort (fun x y=>decide (x <= y))=Zf (l.mergeSort fun x y=>decide (x <= y)):=by
 unfold Zf;exact (List.map_mergeSort (fun a _ b _=>zS)).symm
end
def ze {α:Type} (f:Nat -> α) (k:Nat) (v:α):Nat -> α:=fun j=>if j=k then v else f j
theorem ax {α:Type} (f:Nat -> α) (k:Nat) (v:α):ze f k v k=v:=Gb rfl
theorem Rl {α:Type} (f:Nat -> α) {k:Nat} (v:α) {j:Nat} (h:j≠k):ze f k v j=f j:=mb h
structure OwnF (N:Nat) (w:vv) (M:Nat) (ty:Nat -> vy) (xs:Nat -> vw) (n:Nat -> Nat) (vs:Nat -> List vw):Prop where
 own:∀ j,j<M -> w.ownsRow N (ty j) 1 (xs j) (n j) (vs j)
 apart:∀ j i,j<M -> i<M -> j≠i -> ∀ q,(xs j).ownBlock=vD q -> (xs i).ownBlock=vD q -> False
section
variable {N M:Nat} {w w':vv} {ty:Nat -> vy} {xs:Nat -> vw} {n:Nat -> Nat} {vs:Nat -> List vw}
theorem OwnF.below (h:OwnF N w M ty xs n vs) (hb:vz w.1.size w w'):OwnF N w' M ty xs n vs :=
 ⟨fun j hj=>yb (h.own j hj) hb zR,h.apart⟩
theorem OwnF.stay (h:OwnF N w M ty xs n vs) {B:Nat} (hg:w.grownBy w' (vD B)) (hB:B<N):OwnF N w' M ty xs n vs :=
 ⟨fun j hj=>Zi (h.own j hj) hg hB,h.apart⟩
theorem OwnF.app (h:OwnF N w M ty xs n vs) {k:Nat} (hk:k<M) {x:vw} {m:Nat} {l:List vw} (ho:w'.ownsRow N (ty k) 1 x m l) (hg:w.grownBy w' (xs k).ownBlock) (hb:x.ownBlock=(xs k).ownBlock \/ x.ownBlock=vD w.1.size):OwnF N w' M ty (ze xs k x) (ze n k m) (ze vs k l):=by
 refine ⟨fun j hj=>?_,fun j i hj hi Ua q h1 h2=>?_⟩
 ·by_cases e:j=k
  ·subst e;simp only [ax];exact ho
  ·simp only [Rl _ _ e]
   exact zEU (h.own j hj) hg fun q h1 h2=>h.apart j k hj hk e q h1 h2
 ·by_cases e:j=k
  ·subst e
   have e2:i≠j:=fun e2=>Ua e2.symm
   rw [ax] at h1;rw [Rl _ _ e2] at h2;exact uY (h.own i hi) (h.apart j i hj hi Ua) hb q h1 h2
  ·rw [Rl _ _ e] at h1
   by_cases e2:i=k
   ·subst e2
    rw [ax] at h2;exact uY (h.own j hj) (h.apart i j hi hj (fun e=>Ua e.symm)) hb q h2 h1
   ·rw [Rl _ _ e2] at h2
    exact h.apart j i hj hi Ua q h1 h2
theorem OwnF.new (h:OwnF N w M ty xs n vs) (hb:vz w.1.size w w') {x:vw} {m:Nat} {l:List vw} (ho:w'.ownsRow w.1.size (ty M) 1 x m l) (hN:N <= w.1.size):OwnF N w' (M+1) ty (ze xs M x) (ze n M m) (ze vs M l):=by
 refine ⟨fun j hj=>?_,fun j i hj hi Ua q h1 h2=>?_⟩
 ·by_cases e:j=M
  ·subst e;simp only [ax];exact Bh ho hN
  ·simp only [Rl _ _ e]
   exact yb (h.own j zO) hb zR
 ·by_cases e:j=M
  ·subst e
   have e2:i≠j:=fun e2=>Ua e2.symm
   rw [ax] at h1;rw [Rl _ _ e2] at h2;have a:=(ho.lt q h1).1;have b:=((h.own i zO).lt q h2).2;omega
  ·rw [Rl _ _ e] at h1
   by_cases e2:i=M
   ·subst e2
    rw [ax] at h2;have a:=(ho.lt q h2).1;have b:=((h.own j zO).lt q h1).2;omega
   ·rw [Rl _ _ e2] at h2
    exact h.apart j i zO zO Ua q h1 h2
end
def tyF:Nat -> vy
 | 0=>28
 | 1=>22
 | 2=>28
 | _=>22
theorem iY {K:Nat -> Prop} {g N:Nat} {w u:vv} (h:Gp g N w u) (hK:∀ b,K b -> b<N /\ b≠g):Od K w u:=⟨h.1,h.2.1,h.2.2.1,h.2.2.2.1,fun b hb _=>h.2.2.2.2 b (hK b hb).1 (hK b hb).2⟩
theorem rW {l:List Nat} {i:Nat} (h:i<l.length):(xf (Zf l))[i]?=vD (vd vt ((l.getD i 0:Nat):Int)):=by
 rw [Gc,Dc h];simp [xf,Zf,h]
theorem zAs {α:Type} (f:Nat -> α) {l:List Nat} {i:Nat} (h:i<l.length):(l.take i).map f++[f (l.getD i 0)]=(l.take (i+1)).map f:=by
 rw [ID h,List.map_append,Gc,Dc h]
 rfl
theorem n7 {w:vv} {base n c:Nat} {e:vy} {A:Option vx} {xs:List vw} (h:w.ownsRow base e 1 (ve A n c) n xs):Rd w 1 A n xs:=by
 obtain ⟨A',c',he,-,-,hr,-⟩:=mc h
 injection he with e1 e2 e3
 subst e1;exact hr
theorem zEW {N n:Nat} {w:vv} {gb:Option Nat} {e:vy} {x:vw} {l:List Nat} (h:w.ownsRow N e 1 x n (Qa l)) (hl:∀ y∈l,y<18446744073709551616) (Ua:∀ q,x.ownBlock=vD q -> gb=vD q -> False):Bi N gb w x l:=by
 intro u hu;have ho:=Ge (u:=u) h fun b hb=>hu b (h.lt b hb).1 (h.lt b hb).2 fun e=>Ua b hb e.symm
 obtain ⟨A,c,rfl,-⟩:=mc ho;exact Yf ho hl
def vN (B:Nat) (w0:vv) (cs:List vw) (l:List (List Nat)):Prop:=cs.length=l.length /\ ∀ (i:Nat) (h1:i<cs.length) (h2:i<l.length),Bi B vB w0 cs[i] l[i]
theorem zED (B:Nat) (w0:vv):vN B w0 [] []:=⟨rfl,fun i h=>by simp at h⟩
theorem zEB {B:Nat} {w0:vv} {cs:List vw} {l:List (List Nat)} {x:vw} {y:List Nat} (h:vN B w0 cs l) (hx:Bi B vB w0 x y):vN B w0 (cs++[x]) (l++[y]):=by
 obtain ⟨h1,h2⟩:=h;refine ⟨by simp [h1],fun i h3 h4=>?_⟩
 by_cases hi:i<cs.length
 ·rw [yz hi,yz zO]
  exact h2 i hi zO
 ·have e:i=cs.length:=by simp at h3;omega
  subst e;simp only [FD zR,Nat.sub_self,Xg];rw [FD zO];simp only [h1,Nat.sub_self,Xg];exact hx
theorem zEC {B:Nat} {w0 w:vv} {base n:Nat} {e:vy} {v:vw} {cs:List vw} {l:List (List Nat)} (h:vN B w0 cs l) (hs:w0.1.size <= w.1.size) (hw:∀ b,B <= b -> b<w0.1.size -> w.1[b]?=w0.1[b]?) (ho:w.ownsRow base e 1 v n cs) (yk:w0.1.size <= base) (hB:B <= w0.1.size):RRx B w v l:=by
 refine aP (N:=B) ⟨h.1,fun i h1 h2 u hu=>?_⟩ ho zR zO
 refine h.2 i h1 h2 u fun b b1 b2 _=>(hu b b1 zO fun e2=>?_).trans (hw b b1 b2)
 have:=(ho.lt b e2.symm).1;omega
structure InvP (pos:List Nat) (cols:List (List Nat)) (sa:List Nat) (pf:Nat -> List Nat) (dd B:Nat) (w7:vv) (i:Nat) (xs:Nat -> vw) (nn:Nat -> Nat) (vs:Nat -> List vw):Prop where
 n0:nn 0=i
 n1:nn 1=i
 n2:nn 2=i
 s:vs 1=Qa ((pos.take i).map fun k=>sa.getD k 0)
 c:vN B w7 (vs 0) ((pos.take i).map fun k=>cols.getD k [])
 p:vs 2=(List.range i).map fun k=>xs (k+3)
 r:∀ k,k<i -> nn (k+3)=dd /\ vs (k+3)=Qa (pf (pos.getD k 0))
theorem InvP.step {pos:List Nat} {cols:List (List Nat)} {sa:List Nat} {pf:Nat -> List Nat} {dd B:Nat} {w7:vv} {i:Nat} {xs:Nat -> vw} {nn:Nat -> Nat} {vs:Nat -> List vw} (h:InvP pos cols sa pf dd B w7 i xs nn vs) (hi:i<pos.length) {z sz:Nat} (hz:z=pos.getD i 0) {a b c p ec:vw} (hc:Bi B vB w7 ec (cols.getD z [])) (hs:sz=sa.getD z 0) :
  InvP pos cols sa pf dd B w7 (i+1) (ze (ze (ze (ze xs 0 a) 1 b) (i+3) p) 2 c) (ze (ze (ze (ze nn 0 (nn 0+1)) 1 (nn 1+1)) (i+3) dd) 2 (nn 2+1)) (ze (ze (ze (ze vs 0 (vs 0++[ec])) 1 (vs 1++[vd vq sz])) (i+3) (Qa (pf z))) 2 (vs 2++[p])):=by
 have f3:∀ {α:Type} (f:Nat -> α) (x0 x1 x2 x3:α),ze (ze (ze (ze f 0 x0) 1 x1) (i+3) x3) 2 x2 0=x0 /\ ze (ze (ze (ze f 0 x0) 1 x1) (i+3) x3) 2 x2 1=x1 /\ ze (ze (ze (ze f 0 x0) 1 x1) (i+3) x3) 2 x2 2=x2 /\ ze (ze (ze (ze f 0 x0) 1 x1) (i+3) x3) 2 x2 (i+3)=x3 /\ ∀ k,k<i -> ze (ze (ze (ze f 0 x0) 1 x1) (i+3) x3) 2 x2 (k+3)=f (k+3):=fun f x0 x1 x2 x3=>by
  refine ⟨?_,?_,?_,?_,fun k hk=>?_⟩
  ·rw [Rl _ _ zO,Rl _ _ zO,Rl _ _ zO,ax]
  ·rw [Rl _ _ zO,Rl _ _ zO,ax]
  ·rw [ax]
  ·rw [Rl _ _ zO,ax]
  ·rw [Rl _ _ zO,Rl _ _ zO,Rl _ _ zO,Rl _ _ zO]
 have fn:=f3 nn (nn 0+1) (nn 1+1) (nn 2+1) dd;have fv:=f3 vs (vs 0++[ec]) (vs 1++[vd vq sz]) (vs 2++[p]) (Qa (pf z));have fx:=f3 xs a b c p;refine ⟨?_,?_,?_,?_,?_,?_,fun k hk=>?_⟩
 ·rw [fn.1,h.n0]
 ·rw [fn.2.1,h.n1]
 ·rw [fn.2.2.1,h.n2]
 ·rw [fv.2.1,h.s,<- zAs _ hi,<- hz,<- hs]
  simp [Qa]
 ·rw [fv.1,<- zAs _ hi,<- hz]
  exact zEB h.c hc
 ·rw [fv.2.2.1,h.p,OB,List.map_append]
  congr 1
  ·exact NB fun k hk=>(fx.2.2.2.2 k (Lm.1 hk)).symm
  ·simp only [List.map_cons,List.map_nil]
   rw [fx.2.2.2.1]
 ·by_cases e:k=i
  ·subst e
   rw [fn.2.2.2.1,fv.2.2.2.1,hz];exact ⟨rfl,rfl⟩
  ·rw [fn.2.2.2.2 k zO,fv.2.2.2.2 k zO]
   exact h.r k zO
theorem zFy {N i dd:Nat} {u:vv} {xs:Nat -> vw} {nn:Nat -> Nat} {vs:Nat -> List vw} {pos:List Nat} {pf:Nat -> List Nat} (Qd:OwnF N u (i+3) tyF xs nn vs) (hp:vs 2=(List.range i).map fun k=>xs (k+3)) (hr:∀ k,k<i -> nn (k+3)=dd /\ vs (k+3)=Qa (pf (pos.getD k 0))) (hl:pos.length=i) (ta:∀ z,∀ y∈pf z,y<18446744073709551616):Ye u [xs 2] (pos.map pf):=by
 refine vJ (N:=N) (w:=u) (cs:=vs 2) ⟨by rw [hp];simp [hl],fun k h1 h2=>?_⟩ (Qd.own 2 zO)
 have hk:k<i:=by rw [hp] at h1;simpa using h1
 have e1:(vs 2)[k]=xs (k+3):=by
  have:(vs 2)[k]?=vD (xs (k+3)):=by rw [hp];simp [hk]
  rw [Dc h1] at this;exact Pb this
 have e2:(pos.map pf)[k]=pf (pos.getD k 0):=by
  rw [List.getElem_map,Gc,Dc zO]
  rfl
 rw [e1,e2];have ho:=Qd.own (k+3) zO;rw [(hr k hk).1,(hr k hk).2] at ho;exact zEW ho (ta _) fun q h1 h2=>Qd.apart (k+3) 2 zO zO zO q h1 h2
def Nn (n:Nat) (f:Nat -> Bool):Array vw:=((List.range n).map fun k=>Value.bool (f k)).toArray
theorem TZ {n k:Nat} (f:Nat -> Bool) (h:k<n):(Nn n f)[k]?=vD (.bool (f k)):=by simp [Nn,h]
theorem UZ {n:Nat} {f g:Nat -> Bool} (h:∀ i,i<n -> f i=g i):Nn n f=Nn n g:=by
 unfold Nn
 congr 1
 exact NB fun i hi=>by rw [h i (Lm.1 hi)]
theorem zCC {n:Nat} (f:Nat -> Bool) (k:Nat) (v:Bool):(Nn n f).setIfInBounds k (.bool v)=Nn n (fun i=>if i=k then v else f i):=by
 apply Array.ext
 ·simp [Nn]
 ·intro i h1 h2
  simp [Nn] at h1 h2
  rw [Array.getElem_setIfInBounds (by simpa [Nn] using h1)]
  simp only [Nn];split
  ·subst_vars;simp
  ·rename_i Ua
   simp [show ¬i=k from fun e=>Ua e.symm]
theorem zDt:(prog.info? 4).map (fun i=>(i.zero,i.size,i.bytes))=vD (vD (.bool false),1,1):=by kernel_rfl
theorem zCh:Lr prog 211 4 1 1 (.bool false):=by
 obtain ⟨i0,hi,Wj,Zd,Gg⟩:=info_parts zDt;exact ⟨underlying211,⟨i0,hi,Wj,Zd,Gg⟩,rfl,zO⟩
theorem zD4 (n:Nat):madeCells (Value.bool false).cells (n*1)=Nn n fun _=>false:=by
 apply Array.toList_inj.1
 rw [show (Value.bool false).cells=#[.bool false] from rfl,toList_madeCells_one]
 exact List.ext_getElem (by simp [Nn]) fun i h1 h2=>by simp [Nn]
theorem zEb (n:Nat) (hn:n <= 1000000) (w:vv) :
  (Instr.makeSlice 211 (vd vt n) (vd vt n)).run prog w= .ok (ve (vD ⟨w.1.size,0,vB⟩) n n) (w.alloc (.cells (Nn n fun _=>false) 4)):=by
 have:=lW (P:=prog) zCh n zO zO w;rw [zD4] at this;exact this
theorem zHD {n i j:Nat} {l:List Nat} (hl:l.length=n) (hi:i<n) (hj:j<n):Qi n (ui (ui (fun k=>l.getD k 0) i (l.getD j 0)) j (l.getD i 0))=Qi n (fun k=>(ru l i j).getD k 0):=BQ fun k hk=>by
 unfold ui ru;simp only [Gc];rw [List.getElem?_set,List.getElem?_set];by_cases h1:k=j
 ·subst h1
  simp [hl,hk]
 ·have Uu:¬j=k:=fun e=>h1 e.symm
  by_cases h2:k=i
  ·subst h2
   simp [h1,Uu,hl,hk]
  ·have h2':¬i=k:=fun e=>h2 e.symm
   simp [h1,Uu,h2,h2']
theorem zGM {w:vv} {g n:Nat} {t:vy} {xs:List vw} (k:Blk w g t xs.toArray) (h:xs.length=n):Rd w 1 (vD ⟨g,0,vB⟩) n xs:=by
 refine ⟨zO,fun _=>⟨_,rfl,fun j u hj=>?_⟩⟩
 have hk:=k.cell j;rw [im,hj] at hk;by_cases h0:j=0
 ·subst h0;exact hk
 ·simp only [Addr.add,h0,if_false];simpa using hk
theorem zBL {O:Oa} (h:qx O) (s c i:Nat):Oq O s c i<Ob:=kC (mQ h _ _) _ _
theorem zFO {w:vv} {g:Nat} {O:Oa} {F:Nat -> Prop} (h:OrcAt w g O F) (st ct n count:Nat) (hn:n <= 1024) (hcn:count <= n) (Kf:st<18446744073709551616) (Rz:ct<1000000) (hO:je O 900000) :
  vA prog 174 #[.pointer (vD ⟨g,0,vB⟩),vf #[vd vq st,vd vq ct],vd vt n,vd vt count] w fun e w'=>∃ gr d F',e=vn (.tuple #[ve (vD ⟨gr,0,vB⟩) count d,vf #[vd vq st,vd vq ((ct+count:Nat):Int)]]) /\
   OrcAt w' g (kd O 19 (Up st ct count)) F' /\ Moved F F' w w' /\ w'.ownsRow w.1.size 3 1 (ve (vD ⟨gr,0,vB⟩) count d) count (xf (Zf (EC O st ct n count))) /\ ¬F' gr:=by
 obtain ⟨kx,kr,ba,db⟩:=ig w 154 154 #[vd vq st,vd vq ct] #[vd vq 0,vd vq 0];have H:=zH h;have HO:=zH hO;have zi:=zH Kf;have HCT:=zH Rz;have d1:¬((count:Int)<0):=by omega
 have d1':decide ((count:Int)<0)=false:=Ib d1;have d2:¬((n:Int)<count):=by omega
 have d2':decide ((n:Int)<count)=false:=Ib d2;have d2n:¬(n<count):=by omega
 have d2n':decide (n<count)=false:=Ib d2n;have d3:¬((1024:Int)<n):=by omega
 have d3':decide ((1024:Int)<n)=false:=Ib d3;have d3n':decide (1024<n)=false:=Ib zO;have Tj:=fun w=>zEc n zO w
 obtain ⟨zc,hzc⟩:=zEX (Qi n fun _=>0)
 rw [<- hzc] at Tj;have HZC:=zH hzc;have nF:∀ b,w.1.size <= b -> ¬F b:=fun b hb hf=>by have:=H.out.lt b hf;omega
 clear h hO Kf Rz hzc db;go_enter func174,ntmps174
 go_upto_region 3 with fail
 generalize (w.alloc _).alloc _=w1 at kx kr ba |-;go_wp2_with fail
 have ja:=zA w1 (.cells zc 3);have kl:=Blk.new w1 3 zc;have lxr:w.1.size+1<w1.1.size:=kr.lt;replace kx:=ma kx ja;replace kr:=ma kr ja;replace ba:=pa ba ja;generalize w1.alloc _=w2 at kl kx kr ba |-;generalize w1.1.size=gl at kl lxr |-;obtain ⟨gx,Wo⟩:=zEX (w.1.size);obtain ⟨gr,Ra⟩:=zEX (w.1.size+1);rw [<- Ra] at kr lxr |-;rw [<- Wo] at kx |-;have xl:=zH Wo;have Uy:=zH Ra;have hxr:gx≠gr:=by omega
 have uK:gx≠gl:=by omega
 have af:gr≠gl:=by omega
 have h2:=H.out.below ba;have m2:Moved F F w w2:=xe ba;have HX:=zH (show w.1.size <= gx /\ w.1.size <= gr /\ w.1.size <= gl by omega)
 rw [HZC.out,show Qi n (fun _=>0)=Qi n (fun k=>if k<0 then k else 0) from BQ fun i _=>by rw [mb zO]] at kl
 clear ja Tj Wo Ra ba;go_loopw [32] (fun y wr=>∃ i:Nat,i <= n /\ y=vd vt i /\ OrcAt wr g O F /\ Moved F F w wr /\ Blk wr gx 154 #[vd vq st,vd vq ct] /\ Blk wr gr 154 #[vd vq 0,vd vq 0] /\ Blk wr gl 3 (Qi n fun k=>if k<i then k else 0)) (fun y _=>n-(intOf y).toNat)
 case atStart=>exact ⟨0,Rb _,rfl,h2,m2,kx,kr,kl⟩
 case round =>
  clear h2 m2 kx kr kl;obtain ⟨i,hi,rfl,h1,m1,kx,kr,kl⟩:=hrel;by_cases ta:i<n
  ·have g1:(0:Int)<=i:=by omega
   have g2:(i:Int)<n:=by omega
   have tw:wr.cell? ⟨gl,i,vB⟩=vD (vd vt 0):=(kl.cell i).trans ((aO _ ta).trans zS);have Uk:=kl.frozen;have Pc:=zH ta;have H1:=zH h1;have M1:=zH m1;have KX:=zH kx;have KR:=zH kr;have KL:=zH kl;clear ta h1 m1 kx kr kl;go_wp2
   go_roundw
   case rel =>
    refine ⟨i+1,by have:=Pc.out;omega,by go_num,H1.out.set (nF gl HX.out.2.2) _,Hk M1.out HX.out.2.2 _ _,KX.out.far (p:=⟨gl,i,vB⟩) uK _,KR.out.far (p:=⟨gl,i,vB⟩) af _,?_⟩
    have:=KL.out.set_ i (vd vt i);rw [vU] at this;rw [show Qi n (fun k=>if k<i+1 then k else 0)=Qi n (ui (fun k=>if k<i then k else 0) i i) from BQ fun k _=>by
     unfold ui;by_cases e1:k=i
     ·subst e1;rw [Gb rfl,Gb zO]
     ·rw [mb e1]
      by_cases e2:k<i
      ·simp [e2,show k<i+1 by omega]
      ·simp [e2,show ¬k<i+1 by omega]]
    exact this
   case measure=>have:=Pc.out;simp [intOf];omega
  ·have e1:n=i:=by omega
   subst e1;clear ta hi;have Yp:Qi n (fun k=>if k<n then k else 0)=Qi n (fun k=>(He (Oq O st ct) n 0).getD k 0):=BQ fun k hk=>by simp [He,Gc,hk]
   rw [Yp] at kl;have hO0:kd O 19 (Up st ct 0)=O:=rfl;have xx:=zH (fun i=>zv (Oq O st ct) n i)
   have HCA:=zH (fun i=>zBL (O:=O) H.out.ok.ans st ct i)
   have nF3:=zH (show ¬F gx /\ ¬F gr /\ ¬F gl from ⟨nF gx HX.out.1,nF gr HX.out.2.1,nF gl HX.out.2.2⟩)
   go_wp2_with fail
   go_loopw [41] (fun y wr=>∃ (i:Nat) (F1:Nat -> Prop),i <= count /\ y=vd vt i /\ OrcAt wr g (kd O 19 (Up st ct i)) F1 /\ Moved F F1 w wr /\ Blk wr gx 154 #[vd vq st,vd vq ((ct+i:Nat):Int)] /\ Blk wr gr 154 #[vd vq 0,vd vq 0] /\
    Blk wr gl 3 (Qi n fun k=>(He (Oq O st ct) n i).getD k 0) /\ ¬F1 gx /\ ¬F1 gr /\ ¬F1 gl) (fun y _=>count-(intOf y).toNat)
   case atStart=>exact ⟨0,F,Rb _,rfl,h1,m1,kx,kr,kl,nF3.out⟩
   case round =>
    clear h1 m1 kx kr kl;obtain ⟨i,F1,hi,rfl,h1,m1,kx,kr,kl,n1,n2,n3⟩:=hrel;by_cases ta:i<count
    ·have g1:(0:Int)<=i:=by omega
     have g2:(i:Int)<count:=by omega
     have LE1:=zH (ti (yW (lab:=19) (Up st ct i) HO.out) (show 900000+(Up st ct i).length <= 1000000 by rw [U4];omega))
     have CH:=zH (zAn h1 st (ct+i) Ob zD zD zi.out (zQ HCT.out) LE1.out);obtain ⟨cv,Sz⟩:=zEX (Oq O st ct i);have hcv2:Pe (kd O 19 (Up st ct i)) 19 [st,ct+i]%Ob=cv:=by rw [Sz];exact Om (HCA.out i)
     have To:cv<Ob:=by rw [Sz];exact HCA.out i
     rw [hcv2,<- MY] at CH;obtain ⟨c1,yd⟩:=zEX (ct+i);rw [<- yd] at CH kx;have Bu:=zH yd;have HCV:=zH Sz;have HCQ:=zH To;have Ef:=kx.cell;obtain ⟨m,hm⟩:=zEX (n-i);have hm0:0<m:=by omega
     obtain ⟨r,hr⟩:=zEX (cv%m);have oA:r<m:=by rw [hr];exact Ic _ hm0
     obtain ⟨j,hj⟩:=zEX (i+r);have EE:j<n:=by omega
     have e1:vt.wrap ((n:Int)-i)=(m:Int):=by rw [pj];omega
     have e2:vq.wrap (m:Int)=m:=by rw [Vg];omega
     have e3:(cv:Int).tmod (m:Int)=r:=by rw [Ex zO,hr];exact (Int.natCast_emod cv m).symm
     have e4:vt.wrap (r:Int)=r:=by rw [pj];omega
     have e5:vt.wrap ((i:Int)+r)=(j:Int):=by rw [pj];omega
     have e0:¬(m=0):=by omega
     have e0':((m:Int) == 0)=false:=by rw [Je];omega
     have MI:=zH (show He (Oq O st ct) n (i+1)=ru (He (Oq O st ct) n i) i j by rw [He,<- Sz,<- hm,<- hr,<- hj])
     have g3:(0:Int)<=j:=by omega
     have g4:(j:Int)<n:=by omega
     have g5:(i:Int)<n:=by omega
     have Pc:=zH ta;have HJN:=zH EE;have KX:=zH kx;have KR:=zH kr;have KL:=zH kl;have M1:=zH m1;have Xd:i<n:=by omega
     have Pv:=zH Xd;clear yd Sz To hcv2 hm hr hj oA hm0 EE ta kr kl m1 h1 Xd;unfold Ob at CH;go_wp2_with fail
     refine CH.out.mono ?_;rintro _ w3 ⟨rfl,F2,h3,m3⟩;have FK:=KX.out.moved m3 n1;have Cm:=KR.out.moved m3 n2;have NH:=KL.out.moved m3 n3;have n1':=qi m3 KX.out.lt n1;have n2':=qi m3 KR.out.lt n2;have bu:=qi m3 KL.out.lt n3;have hs:=nP (gr:=gx) (x:=vd vq st) (y:=vd vq ((c1+1:Nat):Int)) (M1.out.trans m3) HX.out.1 h3 n1' FK;have Xj:=(Cm.far (p:=⟨gx,0,vB⟩) (fun e=>hxr e.symm) (vd vq st)).far (p:=⟨gx,1,vB⟩) (fun e=>hxr e.symm) (vd vq ((c1+1:Nat):Int))
     have qy:=(NH.far (p:=⟨gx,0,vB⟩) (fun e=>uK e.symm) (vd vq st)).far (p:=⟨gx,1,vB⟩) (fun e=>uK e.symm) (vd vq ((c1+1:Nat):Int))
     have hf3:=FK.frozen;have uj:=FK.cell;clear h3 m3 Cm NH CH Ef;obtain ⟨c2,Rf⟩:=zEX (c1+1);rw [<- Rf] at hs Xj qy |-;have iB:=zH Rf;clear Rf;go_upto_region 14 with fail
     obtain ⟨s1,s2,s3⟩:=hs;generalize (w3.setCell _ _).setCell _ _=w4 at s1 s2 s3 Xj qy |-;clear hf3 uj FK;obtain ⟨L,hL⟩:=zEX (He (Oq O st ct) n i);rw [<- hL] at qy MI;have Dq:=zH (show L.length=n by rw [hL];exact xx.out i)
     have uE:w4.cell? ⟨gl,i,vB⟩=vD (vd vt ((L.getD i 0:Nat):Int)):=(qy.cell i).trans (aO _ Pv.out);have sw:w4.cell? ⟨gl,j,vB⟩=vD (vd vt ((L.getD j 0:Nat):Int)):=(qy.cell j).trans (aO _ HJN.out);have hgl4:=qy.lt;have yG:=zH (zHD Dq.out Pv.out HJN.out);have S1:=zH s1;have S2:=zH s2;have S3:=zH s3;have ji:=zH Xj;have rz:=zH qy;obtain ⟨xi,uv⟩:=zEX (L.getD i 0);obtain ⟨xj,hxj⟩:=zEX (L.getD j 0);rw [<- uv] at uE yG;rw [<- hxj] at sw yG;clear s1 s2 s3 Xj qy hL uv hxj;go_wp2_with fail
     refine SS (yc) [13,15] [13] [2,3,8,9,10] [0,1,2,3,4,5,6,7,8,9,10,11,12,13,14,15] zK zK ?_;refine zA7 (ya) ?_;intro Wc Ca da;have T1:=zH (show OrcAt Wc g (kd O 19 (Up st ct (i+1))) F2 by rw [Ca.out];exact S1.out.drew)
     have T2:=zH (show Moved F F2 w Wc by rw [Ca.out];exact uF S2.out)
     have T3:=zH (S3.out.drew);have T4:=zH (ji.out.drew);have T5:=zH (rz.out.drew);rw [<- Ca.out] at T3 T4 T5;clear Ca;refine qI ?_;refine pI (ya) rfl rfl rfl ?_;have hfw:=T5.out.frozen;have WU:Wc.cell? ⟨gl,i,vB⟩=_:=(T5.out.cell i).trans (aO _ Pv.out);clear uE sw da;go_simp;refine ⟨fun h=>Bool.noConfusion h,?_⟩
     have k5:=T5.out.set_ i (vd vt xj);rw [vU] at k5;have o5:=T1.out.set (x:=gl) (i:=i) bu (vd vt xj);have m5:=Hk T2.out HX.out.2.2 i (vd vt xj);have x5:=T3.out.far (p:=⟨gl,i,vB⟩) uK (vd vt xj);have r5:=T4.out.far (p:=⟨gl,i,vB⟩) af (vd vt xj)
     refine zPU ?_
     generalize Wc.setCell _ _=w6 at k5 o5 m5 x5 r5 |-;clear hfw WU T1 T2 T3 T4 T5;have da:=ya.refl w6;have hf6:=k5.frozen;have mC:w6.cell? ⟨gl,j,vB⟩=_:=(k5.cell j).trans (aO _ HJN.out);refine qI ?_;refine pI (ya) rfl rfl rfl ?_;go_simp;refine ⟨fun h=>Bool.noConfusion h,?_⟩
     have k6:=k5.set_ j (vd vt xi);rw [vU,yG.out,<- MI.out] at k6;have o6:=o5.set (x:=gl) (i:=j) bu (vd vt xi);have m6:=Hk m5 HX.out.2.2 j (vd vt xi);have x6:=x5.far (p:=⟨gl,j,vB⟩) uK (vd vt xi);have r6:=r5.far (p:=⟨gl,j,vB⟩) af (vd vt xi)
     refine zPU ?_
     generalize w6.setCell _ _=w7 at k6 o6 m6 x6 r6 |-;refine TS ?_;clear k5 o5 m5 x5 r5 hf6 mC da;go_wp2
     go_roundw
     case rel=>exact ⟨i+1,F2,by have:=Pc.out;omega,by go_num,o6,m6,by rw [show ct+(i+1)=c2 by rw [iB.out,Bu.out];omega];exact x6,r6,k6,n1',n2',bu⟩
     case measure=>have:=Pc.out;simp [intOf];omega
    ·have e1:count=i:=by omega
     subst e1;obtain ⟨cc,QJ⟩:=zEX (ct+count);rw [<- QJ] at kx;have HCC:=zH QJ;clear QJ;have gF:Blk wr gl 3 (xf (Zf (He (Oq O st ct) n count))).toArray:=by rw [<- zCD (xx.out count)];exact kl
     have Ka:=zGM gF (show (xf (Zf (He (Oq O st ct) n count))).length=n by rw [Q4];unfold Zf;rw [dw];exact xx.out count)
     have ni:=Ka.take hcn;rw [Nat.mul_one,show (xf (Zf (He (Oq O st ct) n count))).take count=xf (Zf ((He (Oq O st ct) n count).take count)) by simp [xf,Zf,List.map_take]] at ni
     have hcut:∀ w,(Instr.slice 103 (ve (vD ⟨gl,0,vB⟩) n n) vB (vD (vd vt count)) vB).run prog w= .ok (ve (vD ⟨gl,0,vB⟩) count n) w:=fun w=>zG9 VN _ n n count hcn
     have CL:=zH (zBO ⟨gl,0,vB⟩ count n _ wr ni zO);have HPR:=zH (show EC O st ct n count=((He (Oq O st ct) n count).take count).mergeSort fun x y=>decide (x <= y) from rfl)
     have hgc:(0:Int)<=count:=by omega
     have Xh:(count:Int)<=n:=by omega
     have H1:=zH h1;have M1:=zH m1;have KX:=zH kx;have KR:=zH kr;clear kl gF Ka ni h1 m1 kx kr ta hi;go_wp2_with fail
     refine CL.out.mono ?_;rintro _ w3 ⟨g2,d,rfl,Xz,oa,Ta⟩;have SO:=zH (zHv oa zO);have hg2l:=(oa.lt g2 rfl).2;clear oa;go_wp2_with fail
     refine SO.out.mono ?_;rintro _ w4 ⟨rfl,oa,Xn⟩;have Zc:gx<wr.1.size:=KX.out.lt;have Uf:gr<wr.1.size:=KR.out.lt;have Tw:=(KX.out.below Ta Zc).grown Xn (fun e=>by have:=Pb e;omega)
     have Xj:=(KR.out.below Ta Uf).grown Xn (fun e=>by have:=Pb e;omega)
     have m4:=zEf (M1.out.trans (xe (F:=F1) Ta)) Xn (fun b hb=>by rw [<- Pb hb];have:=M1.out.size;omega)
     have h4:=(H1.out.below Ta).keep Xn.size fun b hb=>Xn.block b (by have:=H1.out.lt b hb;have:=Ta.size;omega) (fun e=>by have:=Pb e;have:=H1.out.lt b hb;omega)
     have nG2:¬F1 g2:=fun e=>by have:=H1.out.lt _ e;omega
     rw [zHw,<- HPR.out] at oa;have Ef:=Tw.cell;have hlx:=Tw.lt;have tB:=zH oa;have H4:=zH h4;have M4:=zH m4;have hwr:w.1.size <= wr.1.size:=M1.out.size;clear oa h4 m4 Xn Ta CL SO hcut;go_wp2_with fail
     refine Yc (Kj gr) [3] [0,1,2,3] zK zK ?_;refine Td (Gd gr) ?_;intro Wc Ca da;have k5:Blk Wc gr 154 #[vd vq 0,vd vq 0]:=by rw [Ca.out];exact Xj.drew
     have h5:=nP (x:=vd vq st) (y:=vd vq cc) (show Moved F F1 w Wc by rw [Ca.out];exact uF M4.out) HX.out.2.1 (show OrcAt Wc g (kd O 19 (Up st ct count)) F1 by rw [Ca.out];exact H4.out.drew) n2 k5
     have BT:=zH (show Wc.ownsRow wr.1.size 3 1 (ve (vD ⟨g2,0,vB⟩) count d) count (xf (Zf (EC O st ct n count))) by rw [Ca.out];exact Ge tB.out fun _ _=>rfl)
     have hf5:=k5.frozen;have hc5:=k5.cell;clear Ca;refine Lk ?_;refine Bd (Gd gr) rfl rfl rfl ?_;go_simp;refine ⟨LQ Wc gr 0 1 (vd vq st) (vd vq cc),?_⟩;obtain ⟨s1,s2,s3⟩:=h5;have OWN6:=zH (Bh (Ge (u:=(Wc.setCell ⟨gr,0,vB⟩ (vd vq st)).setCell ⟨gr,1,vB⟩ (vd vq cc)) BT.out fun b hb=>(Tg _ ⟨gr,1,vB⟩ _ b (fun e=>by have:=(BT.out.lt b hb).1;simp at e;omega)).trans (Tg Wc ⟨gr,0,vB⟩ _ b (fun e=>by have:=(BT.out.lt b hb).1;simp at e;omega))) hwr)
     refine zPU ?_
     generalize (Wc.setCell _ _).setCell _ _=w6 at s1 s2 s3 OWN6 |-;refine Ec ?_;have c0:=s3.cell 0;have c2:=s3.cell 1;have Fj:=zH (And.intro s1 (And.intro s2 (And.intro OWN6.out nG2)));go_wp2;refine Tc (v:=.tuple #[ve (vD ⟨g2,0,vB⟩) count d,vf #[vd vq st,vd vq cc]]) (by simp [results,results174,go_sem,c0,c2]) rfl ?_
     obtain ⟨d1,d2,d3,d4⟩:=Fj.out;exact ⟨g2,d,F1,by rw [HCC.out],d1,d2,d3,d4⟩
theorem zCQ {w:vv} {cs:List vw} (hl:cs.length=11) (h:Fits prog w 63 cs):∃ (p:Nat) (pub vars:Int) (A B:Option vx) (n c m d:Nat) (rows:List Ya) (ws:List Nat) (bl bw qs:Int) (ke de:Nat) (real:Bool),
  cs=[vd vq p,vd vt pub,vd vt vars,ve A n c,vd vt bl,vd vt bw,vd vt qs,ve B m d,vd vq ke, .bool real,vd vq de] /\ XS w p pub vars A B n c m d rows ws /\ ke<18446744073709551616 /\ de<18446744073709551616:=by
 match cs,hl with
 | [x0,x1,x2,x3,x4,x5,x6,x7,x8,x9,bD],_ =>
  obtain ⟨p,pub,vars,A,B,n,c,m,d,rows,ws,bl,bw,qs,hc,Xd⟩:=zCP rfl (Pj (i:=0) underlying63 rfl rfl zBC h);obtain ⟨a,ha,ja⟩:=XL Qx (Pj (i:=1) underlying63 rfl rfl Tx h);obtain ⟨b,hb⟩:=zCN underlying4 (Pj (i:=2) underlying63 rfl rfl zBA h);obtain ⟨e,he,Sf⟩:=XL Qx (Pj (i:=3) underlying63 rfl rfl Tx h);simp [GY] at hc ha hb he
  obtain ⟨rfl,rfl,rfl,rfl,rfl,rfl,rfl,rfl⟩:=hc;subst ha hb he;exact ⟨p,pub,vars,A,B,n,c,m,d,rows,ws,bl,bw,qs,a,e,b,rfl,Xd,ja,Sf⟩
theorem zEG {w:vv} {Zg:Array vw} (f0:Fits prog w 63 (vf Zg).cells.toList):∃ (p:Nat) (pub vars:Int) (A B:Option vx) (n c m d:Nat) (rows:List Ya) (ws:List Nat) (bl bw qs:Int) (ke de:Nat) (real:Bool),
  Zg=#[vd vq p,vd vt pub,vd vt vars,ve A n c,vd vt bl,vd vt bw,vd vt qs,ve B m d,vd vq ke, .bool real,vd vq de] /\ XS w p pub vars A B n c m d rows ws /\ ke<18446744073709551616 /\ de<18446744073709551616:=by
 have e0:(vf Zg).cells=Zg:=rfl;rw [e0] at f0;have l0:=(zU underlying63 f0).1;rw [zBD] at l0;obtain ⟨p,pub,vars,A,B,n,c,m,d,rows,ws,bl,bw,qs,ke,de,real,hc,Xd,h1,h2⟩:=zCQ l0 f0;exact ⟨p,pub,vars,A,B,n,c,m,d,rows,ws,bl,bw,qs,ke,de,real,Array.toList_inj.1 hc,Xd,h1,h2⟩
theorem zEH {w:vv} {pc:Array vw} (f1:Fits prog w 47 (vf pc).cells.toList):∃ (P:Yg) (S:PS),pc=Hf P S /\ Pm w P S:=by
 have e1:(vf pc).cells=pc:=rfl;rw [e1] at f1;have l1:=(zU underlying47 f1).1;rw [zBF] at l1;obtain ⟨P,S,hp,hpin⟩:=zCR l1 f1;exact ⟨P,S,Array.toList_inj.1 hp,hpin⟩
theorem zEI {w:vv} {A:Option vx} {n c:Nat} (f:Fits prog w 28 (ve A n c).cells.toList):∃ l,RWd w [ve A n c] l :=
 sJ Bz Qx Tx f
theorem zFi (p:Nat) (pub vars:Int) (A:Option vx) (n c:Nat) (rows:List Ya) (bl bw qs:Int) (w:vv) (hr:RSl 3 Ue w [ve A n c] rows) (ht:Ad p pub vars rows=false) :
  vA prog 65 (pq p pub vars A n c bl bw qs) w fun e w'=>e=vn (.tuple #[vf Xf,vd vt 1]) /\ vz w.1.size w w':=by
 have HV:=zH (fun w' (hb:vz w.1.size w w')=>TR p pub vars A n c rows w' (jg Qg _ _ _ _ hb hr))
 rw [ht] at HV;clear hr ht;unfold pq Kc Xf at *;obtain ⟨kt,kx,kz,ba,-⟩:=Tp w 25 27 121 #[vd vq p,vd vt pub,vd vt vars,ve A n c] #[vd vt bl,vd vt bw,vd vt qs] #[vd vq 0,vd vt 0,vd vt 0,vd vt 0,vd vt 0,vd vt 0,vd vt 0,vd vt 0,vd vt 0,vd vt 0,vd vt 0];go_enter func65,ntmps65
 go_wp2_with fail
 generalize ((w.alloc _).alloc _).alloc _=w0 at kt kx kz ba |-;refine (HV.out _ ba).mono ?_;rintro e w1 ⟨rfl,La⟩;replace kz:=ma kz La;replace ba:=pa ba La;clear La kt kx;have cz:=kz.cell;have fz:=kz.frozen;go_wp2_with fail
 obtain ⟨wf,Nd,kW,hW⟩:=Ey kz ba;rw [Nd];clear Nd cz fz kz ba;have c4:=kW.cell;exact Tc (v:=.tuple #[vf #[vd vq 0,vd vt 0,vd vt 0,vd vt 0,vd vt 0,vd vt 0,vd vt 0,vd vt 0,vd vt 0,vd vt 0,vd vt 0],vd vt 1]) (by simp [results,results65,go_sem,c4]) rfl ⟨rfl,hW⟩
theorem zGr (p:Nat) (pub vars:Int) (A:Option vx) (n c:Nat) (rows:List Ya) (bl bw qs:Int) (w:vv) (hr:RSl 3 Ue w [ve A n c] rows) (hp:p<18446744073709551616) (ht:Ad p pub vars rows=false) :
  vA prog 38 (pq p pub vars A n c bl bw qs) w fun e w'=>e=vn (.tuple #[vf Xf,vd vt 1]) /\ vz w.1.size w w':=by
 have HV:=zH (fun w' (hb:vz w.1.size w w')=>pS p pub vars A n c rows w' (jg Qg _ _ _ _ hb hr) hp)
 rw [ht] at HV;clear hr ht hp;unfold pq Kc Xf at *;obtain ⟨kt,kx,kz,ba,-⟩:=Tp w 25 27 38 #[vd vq p,vd vt pub,vd vt vars,ve A n c] #[vd vt bl,vd vt bw,vd vt qs] #[vd vq 0,vd vt 0,vd vt 0,vd vt 0,vd vt 0,vd vt 0,vd vt 0,vd vt 0,vd vt 0,vd vt 0,vd vt 0];go_enter func38,ntmps38
 go_wp2_with fail
 generalize ((w.alloc _).alloc _).alloc _=w0 at kt kx kz ba |-;refine (HV.out _ ba).mono ?_;rintro e w1 ⟨rfl,La⟩;replace kz:=ma kz La;replace ba:=pa ba La;clear La kt kx;have cz:=kz.cell;have fz:=kz.frozen;go_wp2_with fail
 obtain ⟨wf,Nd,kW,hW⟩:=Ey kz ba;rw [Nd];clear Nd cz fz kz ba;have c4:=kW.cell;exact Tc (v:=.tuple #[vf #[vd vq 0,vd vt 0,vd vt 0,vd vt 0,vd vt 0,vd vt 0,vd vt 0,vd vt 0,vd vt 0,vd vt 0,vd vt 0],vd vt 1]) (by simp [results,results38,go_sem,c4]) rfl ⟨rfl,hW⟩
def mo (p:Nat) (pub vars:Int) (rows:List Ya) (bl bw qs:Int):Int:=if Ad p pub vars rows then Uw ⟨p,pub,vars,rows.length,bl,bw,qs⟩ else 1
def UP (p:Nat) (pub vars:Int) (rows:List Ya) (bl bw qs:Int) (e:Ending):Prop:=∃ lcs:Array vw,e=vn (.tuple #[vf lcs,vd vt (mo p pub vars rows bl bw qs)]) /\
 ((mo p pub vars rows bl bw qs≠0 /\ lcs=Xf) \/ (mo p pub vars rows bl bw qs=0 /\ Ad p pub vars rows=true /\ ∃ L,ed L /\ aw L ⟨p,pub,vars,rows.length,bl,bw,qs⟩ /\ lcs=Eb L))
theorem W5 {p:Nat} {pub vars:Int} {rows:List Ya} {bl bw qs:Int} {e:Ending} (ht:Ad p pub vars rows=true) (h:XI ⟨p,pub,vars,rows.length,bl,bw,qs⟩ e):UP p pub vars rows bl bw qs e:=by
 have hE:mo p pub vars rows bl bw qs=Uw ⟨p,pub,vars,rows.length,bl,bw,qs⟩:=by unfold mo;rw [Gb ht]
 obtain ⟨lcs,er,he,h | h⟩:=h
 ·obtain ⟨h1,h2,h3⟩:=h
  exact ⟨lcs,by rw [hE,<- h3];exact he, .inl ⟨by rw [hE,<- h3];exact h1,h2⟩⟩
 ·obtain ⟨h1,L,h2,h3,h4⟩:=h
  have h5:=h3.err;exact ⟨lcs,by rw [hE,h5,<- h1];exact he, .inr ⟨by rw [hE,h5],ht,L,h2,h3,h4⟩⟩
theorem V5 {p:Nat} {pub vars:Int} {rows:List Ya} {bl bw qs:Int} {e:Ending} (ht:Ad p pub vars rows=false) (h:e=vn (.tuple #[vf Xf,vd vt 1])):UP p pub vars rows bl bw qs e:=by
 have hE:mo p pub vars rows bl bw qs=1:=by unfold mo;rw [ht];rfl
 exact ⟨Xf,by rw [hE];exact h, .inl ⟨by rw [hE];decide,rfl⟩⟩
theorem zFe (p:Nat) (pub vars:Int) (A:Option vx) (n c:Nat) (rows:List Ya) (bl bw qs:Int) (w:vv) (hr:RSl 3 Ue w [ve A n c] rows) :
  vA prog 65 (pq p pub vars A n c bl bw qs) w fun e w'=>UP p pub vars rows bl bw qs e /\ vz w.1.size w w':=by
 cases ht:Ad p pub vars rows
 ·exact (zFi p pub vars A n c rows bl bw qs w hr ht).mono fun _ _ h=>⟨V5 ht h.1,h.2⟩
 ·exact (zFf p pub vars A n c rows bl bw qs w hr ht).mono fun _ _ h=>⟨W5 ht h.1,h.2⟩
theorem P8 (p:Nat) (pub vars:Int) (A:Option vx) (n c:Nat) (rows:List Ya) (bl bw qs:Int) (w:vv) (hr:RSl 3 Ue w [ve A n c] rows) (hp:p<18446744073709551616) :
  vA prog 38 (pq p pub vars A n c bl bw qs) w fun e w'=>UP p pub vars rows bl bw qs e /\ vz w.1.size w w':=by
 cases ht:Ad p pub vars rows
 ·exact (zGr p pub vars A n c rows bl bw qs w hr hp ht).mono fun _ _ h=>⟨V5 ht h.1,h.2⟩
 ·exact (zGo p pub vars A n c rows bl bw qs w hr ht).mono fun _ _ h=>⟨W5 ht h.1,h.2⟩
theorem CX (p s:Nat) (r:List Nat) (m:Nat) (hp:0<p):Hz (wi p s r m) m p=true:=by
 unfold Hz wi;rw [Pd];refine ⟨zS,Wg.2 fun x hx=>?_⟩
 obtain ⟨k,-,rfl⟩:=Ie.1 hx;exact Qb (Ic _ hp)
theorem XY (L:Xa) (s:Nat) (hp:0<L.p):iJ L (Cy L s (L.a+L.b+L.b+L.b)) (wi L.p s [1] L.k) (wi L.p s [2] (L.k+L.block-2)) (wi L.p s [3] (L.block+2*L.queries-1)) (wi Ob s [4] L.n)=true:=by
 unfold iJ;simp only [CX _ _ _ _ hp,CX Ob _ _ _ (show 0<Ob by decide)]
 have:(Cy L s (L.a+L.b+L.b+L.b)).all (fun l=>Hz l L.queries L.p)=true:=Wg.2 fun l hl=>by
  obtain ⟨k,-,rfl⟩:=Ie.1 hl;exact CX _ _ _ _ hp
 simp [Cy] at this |-
 exact this
def Sr (p:Nat) (pub vars:Int) (rows:List Ya) (bl bw qs:Int) (l:List Nat):Int :=
 if mo p pub vars rows bl bw qs≠0 then mo p pub vars rows bl bw qs else if (l.length:Int)=pub /\ l.all (fun x=>decide (x<p))=true then 0 else 1
structure sI (p:Nat) (pub vars:Int) (rows:List Ya) (bl bw qs:Int) (l:List Nat) (L:Xa):Prop where
 tab:Ad p pub vars rows=true
 len:(l.length:Int)=pub
 lt:l.all (fun x=>decide (x<p))=true
 ok:ed L
 lfor:aw L ⟨p,pub,vars,rows.length,bl,bw,qs⟩
def zBa (p:Nat) (pub vars:Int) (rows:List Ya) (bl bw qs:Int) (l:List Nat) (e:Ending):Prop :=
 ∃ y0 y1 y2 y3 y4 y5 y6 y7 y8 y9 xu:Int,e=vn (.tuple #[vf #[vd vq y0,vd vt y1,vd vt y2,vd vt y3,vd vt y4,vd vt y5,vd vt y6,vd vt y7,vd vt y8,vd vt y9,vd vt xu],vd vt (Sr p pub vars rows bl bw qs l)]) /\
  (Sr p pub vars rows bl bw qs l=0 -> ∃ L,sI p pub vars rows bl bw qs l L /\ #[vd vq y0,vd vt y1,vd vt y2,vd vt y3,vd vt y4,vd vt y5,vd vt y6,vd vt y7,vd vt y8,vd vt y9,vd vt xu]=Eb L)
theorem IZ {p:Nat} {pub vars:Int} {rows:List Ya} {bl bw qs:Int} {l:List Nat} (h:mo p pub vars rows bl bw qs≠0):Sr p pub vars rows bl bw qs l=mo p pub vars rows bl bw qs:=Gb h
theorem KZ {p:Nat} {pub vars:Int} {rows:List Ya} {bl bw qs:Int} {l:List Nat} (h:mo p pub vars rows bl bw qs=0) (k:¬((l.length:Int)=pub /\ l.all (fun x=>decide (x<p))=true)):Sr p pub vars rows bl bw qs l=1:=by
 unfold Sr;rw [mb zO,mb k]
theorem JZ {p:Nat} {pub vars:Int} {rows:List Ya} {bl bw qs:Int} {l:List Nat} (h:mo p pub vars rows bl bw qs=0) (k:(l.length:Int)=pub /\ l.all (fun x=>decide (x<p))=true):Sr p pub vars rows bl bw qs l=0:=by
 unfold Sr;rw [mb zO,Gb k]
theorem zFc (p:Nat) (pub vars:Int) (A B:Option vx) (n c m d:Nat) (rows:List Ya) (l:List Nat) (bl bw qs:Int) (w:vv) (hr:RSl 3 Ue w [ve A n c] rows) (hl:RWd w [ve B m d] l) :
  vA prog 48 #[Kc p pub vars (ve A n c),vf #[vd vt bl,vd vt bw,vd vt qs],ve B m d] w fun e w'=>zBa p pub vars rows bl bw qs l e /\ vz w.1.size w w':=by
 have HN:=zH (fun w' (hb:vz w.1.size w w')=>zFe p pub vars A n c rows bl bw qs w' (jg Qg _ _ _ _ hb hr))
 have HLd:=zH (fun w' (hb:vz w.1.size w w')=>Sa hb hl)
 obtain ⟨rfl,h1,h2,-,-⟩:=bN hl;have gm:=rF h1 h2;clear hr hl h1 h2;unfold pq Kc at *;obtain ⟨kt,kx,kz,ba,-⟩:=Tp w 25 27 121 #[vd vq p,vd vt pub,vd vt vars,ve A n c] #[vd vt bl,vd vt bw,vd vt qs] #[vd vq 0,vd vt 0,vd vt 0,vd vt 0,vd vt 0,vd vt 0,vd vt 0,vd vt 0,vd vt 0,vd vt 0,vd vt 0];go_enter func48,ntmps48
 go_upto_region 1 with fail
 generalize ((w.alloc _).alloc _).alloc _=w0 at kt kx kz ba |-;have ct:=kt.cell;have cx:=kx.cell;go_wp2_with fail
 refine (HN.out _ ba).mono ?_;rintro e w1 ⟨⟨lcs,rfl,hp⟩,La⟩;replace kt:=ma kt La;replace kx:=ma kx La;replace kz:=ma kz La;replace ba:=pa ba La;clear La ct cx HN kx;obtain ⟨ne,Ua⟩:=zEX (mo p pub vars rows bl bw qs);rw [<- Ua] at hp |-;rcases hp with ⟨hz,rfl⟩ | ⟨hz,htab,L,jb,fH,rfl⟩
 ·have HE:=zH (show Sr p pub vars rows bl bw qs l=ne by rw [IZ (by rw [<- Ua];exact hz),Ua])
  have d1:(ne != (0:Int))=true:=Fh.2 hz;have HZ:=zH hz;have ja:=ba.alloc ba.size (.cells #[vd vq 0,vd vt 0,vd vt 0,vd vt 0,vd vt 0,vd vt 0,vd vt 0,vd vt 0,vd vt 0,vd vt 0,vd vt 0] 121);replace kz:=kz.alloc (.cells #[vd vq 0,vd vt 0,vd vt 0,vd vt 0,vd vt 0,vd vt 0,vd vt 0,vd vt 0,vd vt 0,vd vt 0,vd vt 0] 121);clear hz Ua ba kt HLd gm;unfold Xf;go_upto_region 2 with fail
  generalize w1.alloc _=w2 at kz ja |-;have cz:=kz.cell;have fz:=kz.frozen;go_wp2_with fail
  obtain ⟨wf,Nd,kW,hW⟩:=Ey kz ja;rw [Nd];clear Nd cz fz kz ja;have c4:=kW.cell;exact Tc (v:=.tuple #[vf #[vd vq 0,vd vt 0,vd vt 0,vd vt 0,vd vt 0,vd vt 0,vd vt 0,vd vt 0,vd vt 0,vd vt 0,vd vt 0],vd vt ne]) (by simp [results,results48,go_sem,c4]) rfl ⟨⟨_,_,_,_,_,_,_,_,_,_,_,by rw [HE.out],fun h=>absurd (HE.out.symm.trans h) HZ.out⟩,hW⟩
 ·subst hz
  have HNE:=zH (Ua.symm);have HBAD:=zH (fun k=>KZ (l:=l) (Ua.symm) k)
  have HOK:=zH (fun k=>JZ (l:=l) (Ua.symm) k)
  have HTAB:=zH htab;have HLO:=zH jb;have HLF:=zH fH;have ja:=ba.alloc ba.size (.cells (Eb L) 121);replace kz:=kz.alloc (.cells (Eb L) 121);replace kt:=kt.alloc (.cells (Eb L) 121);have kl:=Blk.new w1 121 (Eb L);clear Ua htab jb fH ba;unfold Eb at *;go_upto_region 2 with fail
  generalize w1.alloc _=w2 at kz kt kl ja |-;generalize w1.1.size=gl at kl |-;have ct:=kt.cell;by_cases hm:(l.length:Int)=pub
  ·have d1:((l.length:Int) != pub)=false:=by rw [fw];exact hm
   have HM:=zH hm;have Ka:=(bN (HLd.out _ ja)).2.2.2.2;have HKZ:=zH kz;have Cq:=zH kl;have Ws:=zH ja;clear hm HLd kz kl ja;go_upto_region 7 with fail
   go_loop [30] (fun i=>∃ j:Nat,j <= l.length /\ i=vd vt j /\ Hid (∀ k<j,l.getD k 0<p)) (fun i=>l.length-(intOf i).toNat)
   case atStart=>exact ⟨0,Rb _,rfl,fun k hk=>zO⟩
   case round =>
    obtain ⟨j,hj,rfl,HB⟩:=hrel;by_cases ta:j<l.length
    ·obtain ⟨b,q,rfl,Zb,hc⟩:=OS Ka ta
     have HL:=zH ta;have g1:(0:Int)<=j:=by omega
     have g2:(j:Int)<l.length:=by omega
     revert hc
     generalize hy:l.getD j 0=y;intro hc;have HY:=zH hy;clear hy Ka;by_cases z:p <= y
     ·have HZ:=zH (oY (p:=p) ta (by rw [HY.out];exact z))
      have HE:=zH (HBAD.out (fun k=>by have:=k.2;rw [HZ.out] at this;cases this))
      have d2:decide ((p:Int)<=y)=true:=Qb zO;have kz:=HKZ.out;have cz:=kz.cell;have fz:=kz.frozen;go_wp2_with fail
      obtain ⟨wf,Nd,kW,hW⟩:=Ey kz Ws.out;rw [Nd];clear Nd cz fz kz;have c4:=kW.cell;exact Tc (v:=.tuple #[vf #[vd vq 0,vd vt 0,vd vt 0,vd vt 0,vd vt 0,vd vt 0,vd vt 0,vd vt 0,vd vt 0,vd vt 0,vd vt 0],vd vt 1]) (by simp [results,results48,go_sem,c4]) rfl ⟨⟨_,_,_,_,_,_,_,_,_,_,_,by rw [HE.out],fun h=>absurd (HE.out.symm.trans h) zD⟩,hW⟩
     ·have HZ:=zH (OZ HB.out (by rw [HY.out];exact z))
      have d2:decide ((p:Int)<=y)=false:=Ib zO;go_wp2
      go_round
      case rel=>exact ⟨j+1,zO,by go_num,HZ.out⟩
      case measure=>simp [intOf];omega
    ·have e:j=l.length:=by omega
     have HA:=zH (pY (l:=l) (p:=p) (fun k hk=>HB.out k zO))
     have HE:=zH (HOK.out ⟨HM.out,HA.out⟩);have kz:=HKZ.out;have cz:=kz.cell;have fz:=kz.frozen;have cl:=Cq.out.cell;clear Ka;go_wp2_with fail
     obtain ⟨wf,Nd,kW,hW⟩:=setL11 kz Ws.out L;rw [Nd];clear Nd cz fz kz cl;have c4:=kW.cell;exact Tc (v:=.tuple #[vf #[vd vq L.p,vd vt L.block,vd vt L.queries,vd vt L.k,vd vt L.n,vd vt L.secret,vd vt L.rows,vd vt L.a,vd vt L.b,vd vt L.b,vd vt L.b],vd vt 0]) (by simp [results,results48,go_sem,c4]) rfl ⟨⟨_,_,_,_,_,_,_,_,_,_,_,by rw [HE.out],fun _=>⟨L,⟨HTAB.out,HM.out,HA.out,HLO.out,HLF.out⟩,rfl⟩⟩,hW⟩
  ·have HE:=zH (HBAD.out (fun k=>hm k.1))
   have d1:((l.length:Int) != pub)=true:=by rw [Fh];exact hm
   have cz:=kz.cell;have fz:=kz.frozen;clear hm HLd kl;go_wp2_with fail
   obtain ⟨wf,Nd,kW,hW⟩:=Ey kz ja;rw [Nd];clear Nd cz fz kz ja;have c4:=kW.cell;exact Tc (v:=.tuple #[vf #[vd vq 0,vd vt 0,vd vt 0,vd vt 0,vd vt 0,vd vt 0,vd vt 0,vd vt 0,vd vt 0,vd vt 0,vd vt 0],vd vt 1]) (by simp [results,results48,go_sem,c4]) rfl ⟨⟨_,_,_,_,_,_,_,_,_,_,_,by rw [HE.out],fun h=>absurd (HE.out.symm.trans h) zD⟩,hW⟩
def RWF (C:vv -> Prop) (cs:List vw) (l:List Nat):Prop:=∀ u,C u -> RWd u cs l
structure Cut (C:vv -> Prop) (A:Option vx) (l h c:Nat) (A':Option vx) (n' c':Nat) (y:List Nat):Prop where
 eq:sliced A l h c 1=ve A' n' c'
 rd:RWF C [ve A' n' c'] y
theorem WR.bytes {w:vv} {g:Nat} {bd:Nat × Nat} {l:List Nat} {f:Bool} (h:WR w g bd l f):∀ x∈l,x<256:=by
 obtain ⟨A,n,c,p,L,hb,hr,hA,hp,hn,rfl,hL⟩:=h;exact fun x hx=>hL x (List.mem_of_mem_drop hx)
theorem WR.lt {w:vv} {g:Nat} {bd:Nat × Nat} {l:List Nat} {f:Bool} (h:WR w g bd l f):g<w.1.size:=by
 obtain ⟨A,n,c,p,L,hb,_⟩:=h;exact hb.lt
theorem WR.drew {w:vv} {g:Nat} {bd:Nat × Nat} {l:List Nat} {f:Bool} (h:WR w g bd l f):WR w.drew g bd l f:=h
theorem WR.drewN {w:vv} {g:Nat} {bd:Nat × Nat} {l:List Nat} {f:Bool} (h:WR w g bd l f) (k:Nat):WR (w.drewN k) g bd l f:=h
theorem WR.grown {w w':vv} {g:Nat} {bd:Nat × Nat} {l:List Nat} {f:Bool} {row:Option Nat} (h:WR w g bd l f) (hg:w.grownBy w' row) (hr:∀ k,row=vD k -> k≠g /\ (bd.2 <= k \/ k<bd.1)):WR w' g bd l f:=by
 obtain ⟨A,n,c,p,L,hb,iq,hA,hp,hn,rfl,hL⟩:=h;refine ⟨A,n,c,p,L,hb.grown hg fun e=>(hr g e.symm).1 rfl,iq.grown hg fun ad e1 e2=>?_,hA,hp,hn,rfl,hL⟩
 have h1:=(hr _ e2.symm).2;have h2:=hA.1 ad e1;omega
theorem WR.below {w w':vv} {g B:Nat} {bd:Nat × Nat} {l:List Nat} {f:Bool} (h:WR w g bd l f) (hb:vz B w w') (hB:w.1.size <= B):WR w' g bd l f :=
 h.grown (row:=vB) ⟨hb.os,hb.tape,hb.output,hb.size,fun k hk _=>hb.block k zO⟩ fun k hk=>by cases hk
theorem WR.free {w:vv} {g:Nat} {bd:Nat × Nat} {l:List Nat} {f:Bool} (h:WR w g bd l f) (i:Nat):w.frozen? ⟨g,i,vB⟩=false:=by
 obtain ⟨A,n,c,p,L,hb,_⟩:=h;exact hb.frozen i
def ER:Yg:=⟨0,[],[],[],[],[],[]⟩
def noPS:PS:=⟨vB,0,0,vB,0,0,vB,0,0,vB,0,0,vB,0,0,vB,0,0⟩
theorem jP (w:vv):RWd w [ve vB 0 0] []:=⟨_,_,_,rfl,zR,by simp [maxLen],Rd.nil _ _ _,fun x hx=>by cases hx⟩
theorem Q9 (w:vv):RSl 1 RWd w [ve vB 0 0] ([]:List (List Nat)):=⟨_,_,_,rfl,rfl,zR,by simp [maxLen],fun i hi=>absurd hi zS⟩
theorem zEw (w:vv):Pm w ER noPS:=⟨zD,jP w,jP w,jP w,Q9 w,jP w,Q9 w⟩
structure Dst (w:vv) (B C4 C6 rt Q:Nat) (vals:Nat -> vw):Prop where
 pr:Blk w B 47 #[vd vq rt,vals 0,vals 1,vals 2,ve (vD ⟨C4,0,vB⟩) Q Q,vals (3+Q),ve (vD ⟨C6,0,vB⟩) Q Q]
 cols:Blk w C4 28 ((List.range Q).map fun i=>vals (3+i)).toArray
 paths:Blk w C6 28 ((List.range Q).map fun i=>vals (4+Q+i)).toArray
def UO (B C4 C6 Q i:Nat):vx:=if i=0 then ⟨B,1,vB⟩ else if i=1 then ⟨B,2,vB⟩ else if i=2 then ⟨B,3,vB⟩ else if i<3+Q then ⟨C4,i-3,vB⟩ else if i=3+Q then ⟨B,5,vB⟩ else ⟨C6,i-4-Q,vB⟩
def yP (vals:Nat -> vw) (i:Nat) (v:vw):Nat -> vw:=fun k=>if k=i then v else vals k
theorem ZM (vals:Nat -> vw) (i:Nat) (v:vw):yP vals i v i=v:=Gb rfl
theorem zHZ (vals:Nat -> vw) (i:Nat) (v:vw) {k:Nat} (h:k≠i):yP vals i v k=vals k:=mb h
theorem p9 {Q k:Nat} (f:Nat -> vw) (h:k<Q):((List.range Q).map f).toArray[k]?=vD (f k):=by simp [h]
theorem Dst.at_ {w:vv} {B C4 C6 rt Q:Nat} {vals:Nat -> vw} (h:Dst w B C4 C6 rt Q vals) {i:Nat} (hi:i<4+2*Q):w.cell? (UO B C4 C6 Q i)=vD (vals i) /\ w.frozen? (UO B C4 C6 Q i)=false:=by
 unfold UO;by_cases h0:i=0
 ·subst h0;exact ⟨by simpa using h.pr.cell 1,h.pr.frozen 1⟩
 rw [mb h0];by_cases h1:i=1
 ·subst h1;exact ⟨by simpa using h.pr.cell 2,h.pr.frozen 2⟩
 rw [mb h1];by_cases h2:i=2
 ·subst h2;exact ⟨by simpa using h.pr.cell 3,h.pr.frozen 3⟩
 rw [mb h2];by_cases h3:i<3+Q
 ·rw [Gb h3]
  refine ⟨?_,h.cols.frozen _⟩;rw [h.cols.cell,p9 _ zO,show 3+(i-3)=i by omega]
 rw [mb h3];by_cases h4:i=3+Q
 ·subst h4;rw [Gb rfl];exact ⟨by simpa using h.pr.cell 5,h.pr.frozen 5⟩
 rw [mb h4];refine ⟨?_,h.paths.frozen _⟩;rw [h.paths.cell,p9 _ zO,show 4+Q+(i-4-Q)=i by omega]
theorem r9 (Q k:Nat) (f g:Nat -> vw) (v:vw) (hk:g k=v) (h:∀ i,i≠k -> g i=f i):((List.range Q).map f).toArray.setIfInBounds k v=((List.range Q).map g).toArray:=by
 apply Array.ext
 ·simp
 ·intro i h1 h2
  simp at h1 h2
  rw [Array.getElem_setIfInBounds (by simpa using h1)]
  split
  ·subst_vars;simp
  ·simp
   exact (h i zO).symm
theorem IC (Q:Nat) (f g:Nat -> vw) (h:∀ i,i<Q -> g i=f i):((List.range Q).map f).toArray=((List.range Q).map g).toArray:=by
 congr 1
 exact NB fun i hi=>(h i (Lm.1 hi)).symm
theorem Dst.set_ {w:vv} {B C4 C6 rt Q:Nat} {vals:Nat -> vw} (h:Dst w B C4 C6 rt Q vals) (n1:B≠C4) (n2:B≠C6) (n3:C4≠C6) {i:Nat} (hi:i<4+2*Q) (v:vw):Dst (w.setCell (UO B C4 C6 Q i) v) B C4 C6 rt Q (yP vals i v):=by
 have u:=fun {k:Nat} (hk:k≠i)=>zHZ vals i v hk
 unfold UO;by_cases h0:i=0
 ·subst h0
  rw [Gb rfl];refine ⟨?_,?_,?_⟩
  ·have:=h.pr.set_ 1 v
   rw [ZM,u (k:=1) zO,u (k:=2) zO,u (k:=3+Q) zO]
   simpa using this
  ·rw [<- IC Q (fun i=>vals (3+i)) _ fun i _=>u zO]
   exact h.cols.far (p:=⟨B,1,vB⟩) (Ne.symm n1) v
  ·rw [<- IC Q (fun i=>vals (4+Q+i)) _ fun i _=>u zO]
   exact h.paths.far (p:=⟨B,1,vB⟩) (Ne.symm n2) v
 rw [mb h0];by_cases h1:i=1
 ·subst h1
  rw [Gb rfl];refine ⟨?_,?_,?_⟩
  ·have:=h.pr.set_ 2 v
   rw [ZM,u (k:=0) zO,u (k:=2) zO,u (k:=3+Q) zO]
   simpa using this
  ·rw [<- IC Q (fun i=>vals (3+i)) _ fun i _=>u zO]
   exact h.cols.far (p:=⟨B,2,vB⟩) (Ne.symm n1) v
  ·rw [<- IC Q (fun i=>vals (4+Q+i)) _ fun i _=>u zO]
   exact h.paths.far (p:=⟨B,2,vB⟩) (Ne.symm n2) v
 rw [mb h1];by_cases h2:i=2
 ·subst h2
  rw [Gb rfl];refine ⟨?_,?_,?_⟩
  ·have:=h.pr.set_ 3 v
   rw [ZM,u (k:=0) zO,u (k:=1) zO,u (k:=3+Q) zO]
   simpa using this
  ·rw [<- IC Q (fun i=>vals (3+i)) _ fun i _=>u zO]
   exact h.cols.far (p:=⟨B,3,vB⟩) (Ne.symm n1) v
  ·rw [<- IC Q (fun i=>vals (4+Q+i)) _ fun i _=>u zO]
   exact h.paths.far (p:=⟨B,3,vB⟩) (Ne.symm n2) v
 rw [mb h2];by_cases h3:i<3+Q
 ·rw [Gb h3]
  refine ⟨?_,?_,?_⟩
  ·rw [u (k:=0) zO,u (k:=1) zO,u (k:=2) zO,u (k:=3+Q) zO]
   exact h.pr.far (p:=⟨C4,i-3,vB⟩) n1 v
  ·rw [<- r9 Q (i-3) (fun i=>vals (3+i)) _ v (by show yP vals i v (3+(i-3))=v;rw [show 3+(i-3)=i by omega,ZM]) fun k hk=>u zO]
   exact h.cols.set_ (i-3) v
  ·rw [<- IC Q (fun i=>vals (4+Q+i)) _ fun k _=>u zO]
   exact h.paths.far (p:=⟨C4,i-3,vB⟩) (Ne.symm n3) v
 rw [mb h3];by_cases h4:i=3+Q
 ·subst h4
  rw [Gb rfl];refine ⟨?_,?_,?_⟩
  ·have:=h.pr.set_ 5 v
   rw [ZM,u (k:=0) zO,u (k:=1) zO,u (k:=2) zO]
   simpa using this
  ·rw [<- IC Q (fun i=>vals (3+i)) _ fun i _=>u zO]
   exact h.cols.far (p:=⟨B,5,vB⟩) (Ne.symm n1) v
  ·rw [<- IC Q (fun i=>vals (4+Q+i)) _ fun i _=>u zO]
   exact h.paths.far (p:=⟨B,5,vB⟩) (Ne.symm n2) v
 rw [mb h4];refine ⟨?_,?_,?_⟩
 ·rw [u (k:=0) zO,u (k:=1) zO,u (k:=2) zO,u (k:=3+Q) zO]
  exact h.pr.far (p:=⟨C6,i-4-Q,vB⟩) n2 v
 ·rw [<- IC Q (fun i=>vals (3+i)) _ fun k _=>u zO]
  exact h.cols.far (p:=⟨C6,i-4-Q,vB⟩) n3 v
 ·rw [<- r9 Q (i-4-Q) (fun i=>vals (4+Q+i)) _ v (by show yP vals i v (4+Q+(i-4-Q))=v;rw [show 4+Q+(i-4-Q)=i by omega,ZM]) fun k hk=>u zO]
  exact h.paths.set_ (i-4-Q) v
theorem Dst.keep {w u:vv} {B C4 C6 rt Q:Nat} {vals:Nat -> vw} (h:Dst w B C4 C6 rt Q vals) (hB:u.1[B]?=w.1[B]?) (h4:u.1[C4]?=w.1[C4]?) (h6:u.1[C6]?=w.1[C6]?):Dst u B C4 C6 rt Q vals :=
 ⟨hB.trans h.pr,h4.trans h.cols,h6.trans h.paths⟩
structure Ex4 (g B C4 C6:Nat) (w w':vv):Prop where
 os:w'.os=w.os
 tape:w'.tape=w.tape
 output:w'.output=w.output
 size:w.1.size <= w'.1.size
 block:∀ b,b<w.1.size -> b≠g -> b≠B -> b≠C4 -> b≠C6 -> w'.1[b]?=w.1[b]?
section
variable {g B C4 C6:Nat} {w w' Dp:vv}
theorem Ex4.refl (w:vv):Ex4 g B C4 C6 w w:=⟨rfl,rfl,rfl,zR,fun _ _ _ _ _ _=>rfl⟩
theorem Ex4.trans (h:Ex4 g B C4 C6 w w') (k:Ex4 g B C4 C6 w' Dp):Ex4 g B C4 C6 w Dp :=
 ⟨k.os.trans h.os,k.tape.trans h.tape,k.output.trans h.output,Cb h.size k.size,fun b h1 h2 h3 h4 h5=>(k.block b (Be h1 h.size) h2 h3 h4 h5).trans (h.block b h1 h2 h3 h4 h5)⟩
theorem Ex4.below {N:Nat} (h:vz N w w') (hN:w.1.size <= N):Ex4 g B C4 C6 w w':=⟨h.os,h.tape,h.output,h.size,fun b h1 _ _ _ _=>h.block b zO⟩
theorem Ex4.grown (h:w.grownBy w' (vD g)):Ex4 g B C4 C6 w w':=⟨h.os,h.tape,h.output,h.size,fun b h1 h2 _ _ _=>h.block b h1 (fun e=>h2 (Pb e))⟩
theorem Ex4.set_ (w:vv) {b o:Nat} (hb:b=B \/ b=C4 \/ b=C6) (v:vw):Ex4 g B C4 C6 w (w.setCell ⟨b,o,vB⟩ v) :=
 ⟨rfl,rfl,rfl,by simp [vE],fun k _ _ h2 h3 h4=>Tg w _ v k (by rintro rfl;rcases hb with h | h | h <;> simp_all)⟩
end
structure Lens (L:Xa) (j:Nat) (P:Yg):Prop where
 code:P.code.length=L.k
 linear:P.linear.length=L.k+L.block-1
 quad:P.quad.length=2*L.k-1
 cols:P.cols.length=L.queries
 col:∀ l∈P.cols,l.length=L.a+L.b+L.b+L.b+3
 salts:P.salts.length=L.queries
 paths:P.paths.length=L.queries
 path:∀ l∈P.paths,l.length=j
section
variable {P:Program} {l:List Oper} {hs:List Nat} {Q:Exit -> Act -> vv -> Prop} {R:vv -> vv -> Prop} {rest:List Nat} {Ea:Array Bool} {a:Act} {w:vv}
theorem zA0 {i j:Nat} {oi oj:Oper} {f:FuncId} {vals:Array vw} (mk:vv -> vw) (al:vv -> vv) (M:Wd R) (K:vw -> vw -> vv -> Prop)
  (jb:((Region.ready .any l.toArray Ea == [i,j]||Region.ready .any l.toArray Ea == [j,i])&&Region.ready .any l.toArray (Ea.setIfInBounds i true) == [j]&&Region.ready .any l.toArray (Ea.setIfInBounds j true) == [i]&&decide (i≠j))=true)
  (hoi:l[i]?=vD oi) (mi:l[j]?=vD oj) (Yu:oi.apart l.toArray oj=true)
  (hwi:Region.wanted oi (yielded l.toArray a.tmps)=true) (hwj:Region.wanted oj (yielded l.toArray a.tmps)=true)
  (hi:∀ w,(execOp a.eval oi).run P w= .ok (.enter f vals) w) (hj:∀ w,(execOp a.eval oj).run P w= .ok (.value (mk w)) (al w))
  (h1:vA P f vals w fun e w1=>∃ v,e=vn v /\ R w w1 /\ R w1 (al w1) /\ K v (mk w1) (al w1))
  (hR:R w (al w)) (h2:vA P f vals (al w) fun e w1=>∃ v,e=vn v /\ R (al w) w1 /\ K v (mk w) w1)
  (h:∀ v u w',R w w' -> K v u w' -> po P l hs Q R rest ((Ea.setIfInBounds i true).setIfInBounds j true) ((a.put oi.dst v).put oj.dst u) w'):po P l hs Q R (i :: j :: rest) Ea a w:=by
 intro hn hoo;simp only [Pd,ZA,Ru,Qk] at jb;obtain ⟨⟨⟨hr,Uf⟩,Vi⟩,hij⟩:=jb;obtain ⟨g1,-,-,-,g5⟩:=MO hoo;obtain ⟨k1,-,-,-,k5⟩:=MO g5;obtain ⟨a1,a2,a3⟩:=Oper.apart_spec Yu;have e:=nw (h:=g1) hoi;have e':=nw (h:=k1) mi;subst e e';have rA:∀ cs b,l[i].op≠.select cs b:=fun cs b=>Nr hn i l[i] cs b (by rw [im];exact hoi)
 have rC:∀ cs b,l[j].op≠.select cs b:=fun cs b=>Nr hn j l[j] cs b (by rw [im];exact mi)
 have A1:WC P l Q R i (rest.length+1) Ea a w:=by
  refine PX g1 hwi (h1.mono ?_) hi;rintro e w1 ⟨v,rfl,hb,Da,hk⟩;refine ⟨v,rfl,hb,zA3 j M Uf ⟨k1,by rw [wanted_put _ _ _ _ (fun d hd=>a1 d hd)];exact hwj,?_⟩⟩
  unfold Oper.wp;rw [execOp_put _ rC _ _ _ (fun d hd=>a1 d hd),hj w1]
  exact ⟨Da,h v _ _ (M.trans _ _ _ hb Da) hk hn k5⟩
 have A2:WC P l Q R j (rest.length+1) Ea a w:=by
  refine ⟨k1,hwj,?_⟩;unfold Oper.wp;rw [hj w];refine ⟨hR,zA3 i M Vi (PX g1 (by rw [wanted_put _ _ _ _ a3];exact hwi) (h2.mono ?_) fun w=>by rw [execOp_put _ rA _ _ _ a3];exact hi w)⟩
  rintro e w1 ⟨v,rfl,hb,hk⟩;refine ⟨v,rfl,hb,?_⟩;have k:=h v _ _ (M.trans _ _ _ hR hb) hk hn k5;rw [Array.setIfInBounds_comm _ _ hij,Act.put_comm a v _ a2] at k;exact k
 rcases hr with hr | hr
 ·exact zA5 i j M hr A1 A2
 ·exact zA5 j i M hr A2 A1
end
theorem zDG {P:Program} {f:FuncId} {fn:Func} {s:ChangeSpec} {c:OpenClaim}
  (k1:(c.wf (OpenSpec.ofChange s))=true)
  (k2:(laidOutB P)=true)
  (k3:(mapsRowed P)=true)
  (k4:(fn.params.all (P.readableRec ·))=true)
  (k5:(namedTie P c.named s.vars)=true)
  (k6:((c.stops == []))=true)
  (k7:((P.stops == []))=true)
  (k8:((c.knobs == []))=true)
  (k9:((P.stopKnobs == []))=true)
  (k10:((c.inPlace == P.inPlace f))=true)
  (k11:((c.unfollowed == P.unfollowed f))=true)
  (cF:((c.recurses == P.recurses f))=true)
  (CA:((c.named == P.varsNamed f))=true)
  (dF:((c.maps == (fn.params.toList++s.plain.varTypes P).any (P.mapsRec ·)))=true)
  (k15:((c.ifaces == (fn.params.toList++s.plain.varTypes P).any (P.ifacesRec ·)))=true)
  (k16:((c.mapsOut == P.mapsAmong fn.resultTypes.toList))=true)
  (k17:((c.loops == (fn.params.toList++s.plain.varTypes P).any (P.loopsFrom ·)))=true)
  (k18:((c.wideKeys == (fn.params.toList++s.plain.varTypes P++fn.resultTypes.toList).any (P.wideKeysFrom ·)))=true)
  (k19:(s.vars.all (P.varReadable ·))=true)
  (k20:(fn.resultTypes.all (fun t=>P.readableRec t&&decide (t<P.types.size)))=true)
  (k21:((c.ifacesOut == fn.resultTypes.toList.any (P.ifacesRec ·)))=true)
  (k22:((c.loopsOut == fn.resultTypes.toList.any (P.loopsFrom ·)))=true)
  (k23:((c.plainKeys == P.plainKeys))=true)
  (k24:(c.shortTexts.isNone)=true)
  (k25:(P.stopsHeard)=true)
  (k26:(P.mayEnter)=true)
  (k27:((c.lifted == P.liftsFinal))=true)
  (k28:((P.make == vD c.make))=true)
  (k29:((c.kinds == (if c.domain.isEmpty then [] else fn.params.toList.map fun t=>match P.underlying t with | some (.int k)=>vD k | _=>vB)))=true)
  (k30:((c.pinned == c.pinnedBy))=true)
  (k31:((c.veiled == (fn.params.toList++s.plain.varTypes P++fn.resultTypes.toList).any (P.veiledRec ·)))=true)
  (k32:(c.veiledFits P fn.params.toList (fn.params.toList++s.plain.varTypes P++fn.resultTypes.toList))=true)
  : joinedFacts P f fn s c=true:=by
 unfold joinedFacts;simp only [Pd];exact ⟨⟨⟨⟨⟨⟨⟨⟨⟨⟨⟨⟨⟨⟨⟨⟨⟨⟨⟨⟨⟨⟨⟨⟨⟨⟨⟨⟨⟨⟨⟨k1,k2⟩,k3⟩,k4⟩,k5⟩,k6⟩,k7⟩,k8⟩,k9⟩,k10⟩,k11⟩,cF⟩,CA⟩,dF⟩,k15⟩,k16⟩,k17⟩,k18⟩,k19⟩,k20⟩,k21⟩,k22⟩,k23⟩,k24⟩,k25⟩,k26⟩,k27⟩,k28⟩,k29⟩,k30⟩,k31⟩,k32⟩
end Go.Proofs.YtodmnanljoaocaaGreat
