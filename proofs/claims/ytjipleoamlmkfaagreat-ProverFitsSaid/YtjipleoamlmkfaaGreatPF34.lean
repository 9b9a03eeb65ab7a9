/- A part of the proof. No condition. -/
import Derived.Shelf.Sort.Plain
import Derived.Test.YtjipleoamlmkfaaGreatProg
import Derived.Test.YtjipleoamlmkfaaGreatPF25
import Derived.Sort.OwnSortedInts
import Derived.Test.YtjipleoamlmkfaaGreatPF28
import Derived.Test.YtjipleoamlmkfaaGreatPF24
import Derived.Test.YtjipleoamlmkfaaGreatPF33
import Derived.Test.YtjipleoamlmkfaaGreatPF23

set_option maxRecDepth 100000
set_option maxHeartbeats 8000000
set_option linter.unusedVariables false
set_option linter.unusedSimpArgs false
namespace Go.Proofs.YtjipleoamlmkfaaGreat
open Go.RowKit Go.Shelf
def TR:Go.Shelf.Ren:=⟨fun | 125=>161 | 128=>209 | 129=>210 | 189=>183 | 215=>251 | 216=>242 | 257=>220 | 294=>236 | 295=>237 | 296=>238 | 297=>239 | 298=>240 | 299=>241 | 300=>243 | 301=>244 | 328=>246 | 329=>247 | 330=>248 | 331=>249 | 332=>250 | 343=>252 | n=>n,fun | 0=>0 | 3=>3 | 4=>4 | 5=>5 | 9=>9 | 28=>50 | 46=>236 | 51=>271 | 53=>22 | 131=>229 | 182=>287 | 183=>288 | 218=>294 | 222=>297 | 228=>299 | 229=>300 | n=>n,fun n=>n⟩
theorem oO:Go.Proofs.Lays.n189 Tryz.prog TR:={ mixed:=by kernel_rfl,f125:=by kernel_rfl,f128:=by kernel_rfl,f129:=by kernel_rfl,f189:=by kernel_rfl,f215:=by kernel_rfl,f216:=by kernel_rfl,f257:=by kernel_rfl,f294:=by kernel_rfl,f295:=by kernel_rfl,f296:=by kernel_rfl,f297:=by kernel_rfl,f298:=by kernel_rfl,f299:=by kernel_rfl,f300:=by kernel_rfl,f301:=by kernel_rfl,f328:=by kernel_rfl,f329:=by kernel_rfl,f330:=by kernel_rfl,f331:=by kernel_rfl,f332:=by kernel_rfl,f343:=by kernel_rfl,t0:=by kernel_rfl,a0:=fun _=>by kernel_rfl,z0:=fun _=>by kernel_rfl,v0:=fun _=>by kernel_rfl,t3:=by kernel_rfl,a3:=fun _=>by kernel_rfl,z3:=fun _=>by kernel_rfl,v3:=fun _=>by kernel_rfl,t4:=by kernel_rfl,a4:=fun _=>by kernel_rfl,z4:=fun _=>by kernel_rfl,v4:=fun _=>by kernel_rfl,t5:=by kernel_rfl,a5:=fun _=>by kernel_rfl,z5:=fun _=>by kernel_rfl,v5:=fun _=>by kernel_rfl,t9:=by kernel_rfl,a9:=fun _=>by kernel_rfl,z9:=fun _=>by kernel_rfl,v9:=fun _=>by kernel_rfl,t28:=by kernel_rfl,a28:=fun _=>by kernel_rfl,z28:=fun _=>by kernel_rfl,v28:=fun _=>by kernel_rfl,t46:=by kernel_rfl,a46:=fun _=>by kernel_rfl,z46:=fun _=>by kernel_rfl,v46:=fun _=>by kernel_rfl,t51:=by kernel_rfl,a51:=fun _=>by kernel_rfl,z51:=fun _=>by kernel_rfl,v51:=fun _=>by kernel_rfl,t53:=by kernel_rfl,a53:=fun _=>by kernel_rfl,z53:=fun _=>by kernel_rfl,v53:=fun _=>by kernel_rfl,t131:=by kernel_rfl,a131:=fun _=>by kernel_rfl,z131:=fun _=>by kernel_rfl,v131:=fun _=>by kernel_rfl,t182:=by kernel_rfl,a182:=fun _=>by kernel_rfl,z182:=fun _=>by kernel_rfl,v182:=fun _=>by kernel_rfl,t183:=by kernel_rfl,a183:=fun _=>by kernel_rfl,z183:=fun _=>by kernel_rfl,v183:=fun _=>by kernel_rfl,t218:=by kernel_rfl,a218:=fun _=>by kernel_rfl,z218:=fun _=>by kernel_rfl,v218:=fun _=>by kernel_rfl,t222:=by kernel_rfl,a222:=fun _=>by kernel_rfl,z222:=fun _=>by kernel_rfl,v222:=fun _=>by kernel_rfl,t228:=by kernel_rfl,a228:=fun _=>by kernel_rfl,z228:=fun _=>by kernel_rfl,v228:=fun _=>by kernel_rfl,t229:=by kernel_rfl,a229:=fun _=>by kernel_rfl,z229:=fun _=>by kernel_rfl,v229:=fun _=>by kernel_rfl }
end Go.Proofs.YtjipleoamlmkfaaGreat
namespace Go.Proofs.YtjipleoamlmkfaaGreat
open Go.RowKit Go.Shelf
def me (n:Nat) (f:Nat -> Nat):Array Value:=((List.range n).map fun k=>Value.int .i64 (f k:Int)).toArray
theorem Ry {n k:Nat} (f:Nat -> Nat) (h:k<n):(me n f)[k]?=some (.int .i64 (f k:Int)):=by simp [me,h]
theorem MA {n:Nat} {f g:Nat -> Nat} (h:∀ i,i<n -> f i=g i):me n f=me n g:=by
 unfold me
 congr 1
 exact List.map_congr_left fun i hi=>by rw [h i (List.mem_range.1 hi)]
theorem pD {n:Nat} (f:Nat -> Nat) (k v:Nat):(me n f).setIfInBounds k (.int .i64 v)=me n (Pe f k v):=by
 apply Array.ext
 ·simp [me]
 ·intro i h1 h2
  simp [me] at h1 h2
  rw [Array.getElem_setIfInBounds (by simpa [me] using h1)]
  simp only [me,Pe];split
  ·subst_vars;simp
  ·rename_i Ka
   simp [show ¬i=k from fun e=>Ka e.symm]
def Hh (l:List Nat):List Int:=l.map fun n:Nat=>(n:Int)
theorem RM {n:Nat} {l:List Nat} (h:l.length=n):me n (fun k=>l.getD k 0)=(sg (Hh l)).toArray:=by
 subst h;unfold me sg Hh
 congr 1
 rw [List.map_map];refine List.ext_getElem (by simp) fun i h1 h2=>?_
 simp at h1
 simp [List.getD_eq_getElem?_getD,h1]
theorem QN:(Tryz.prog.info? 3).map (fun i=>(i.zero,i.size,i.bytes))=some (some (.int .i64 0),1,8):=by kernel_rfl
theorem lD:Gj Tryz.prog 50 3 1 8 (.int .i64 0):=by
 obtain ⟨i0,hi,Ff,Zb,td⟩:=info_parts QN;exact ⟨Tryz.underlying50,⟨i0,hi,Ff,Zb,td⟩,rfl,by omega⟩
theorem GO (n:Nat):madeCells (Value.int .i64 0).cells (n*1)=me n fun _=>0:=by
 apply Array.toList_inj.1
 rw [show (Value.int .i64 0).cells=#[.int .i64 0] from rfl,toList_madeCells_one]
 exact List.ext_getElem (by simp [me]) fun i h1 h2=>by simp [me]
theorem QO (n:Nat) (hn:n <= 1000000) (w:World) :
  (Instr.makeSlice 50 (.int .i64 n) (.int .i64 n)).run Tryz.prog w= .ok (.slice (some ⟨w.heap.size,0,none⟩) n n) (w.alloc (.cells (me n fun _=>0) 3)):=by
 have:=vB (P:=Tryz.prog) lD n (by omega) (by omega) w
 rw [GO] at this;exact this
theorem SL (ad:Addr) (n c:Nat) (l:List Int) (w:World) (hr:Rd w 1 (some ad) n (sg l)) (hn:n <= 60000) :
  Calls Tryz.prog 182 #[.slice (some ad) n c] w fun e w'=>∃ g d,e= .returned (.slice (some ⟨g,0,none⟩) n d) /\ w.heap.size <= g /\ w'.ownsRow w.heap.size 3 1 (.slice (some ⟨g,0,none⟩) n d) n (sg l) /\ Below w.heap.size w w':=by
 have Rt:=fun (w:World) (a:Option Addr) (n c:Nat)=>Lib.run_eql_slice_nil (P:=Tryz.prog) w 50 3 a n c 0 0 Tryz.underlying50
 have gl:(n:Int) <= 60000:=by omega
 have ia:=(Below.refl w.heap.size w).alloc zR (.cells #[] 3);go_enter Tryz.func182,Tryz.ntmps182
 go_wp2_with (at_builtin;refine If rfl _ _ rfl lD rfl (Tx w 3 zR) rfl (hr.alloc _) (yP l) (by omega) (by simp) ?_)
 intro v' wn Ta Ha Ab;have hB:=mh (Tx w 3 zR) Ha (by simp)
 have gg:=ia.trans hB;rcases Ta.2 with ⟨rfl,h0⟩ | ⟨g,cap,cur,rfl,Kg,-⟩
 ·rcases Ab with h | h <;> simp [Value.ownBlock] at h
 ·go_wp2
  go_ret
  exact ⟨g,cap,rfl,Kg,Ta,gg⟩
theorem MS {w:World} {base g n d:Nat} {l:List Int} (ho:w.ownsRow base 3 1 (.slice (some ⟨g,0,none⟩) n d) n (sg l)) (hn:n <= 60000) :
  Calls Tryz.prog 183 #[.slice (some ⟨g,0,none⟩) n d] w fun e w'=>e= .returned (.tuple #[]) /\ w'.ownsRow base 3 1 (.slice (some ⟨g,0,none⟩) n d) n (sg (l.mergeSort fun x y=>decide (x <= y))) /\ w.grownBy w' (some g):=by
 have hlen:l.length=n:=by have:=ho.1;rw [xI] at this;omega
 subst hlen;rcases ho.2 with ⟨h0,-⟩ | ⟨g',cap,cur,hv,Kg,hh,h1,h2,h3,h4⟩
 ·cases h0
 ·injection hv with e1 e2 e3
  injection e1 with e1
  injection e1 with e1
  subst e1 e3;have hH:=holds_of_blockI hh (by rw [Nat.mul_one] at h4;exact h4)
  refine (Any.slices_Sort_int oO g 0 d l w hH (Array.getElem?_eq_some_iff.1 hh).1 (by omega)).mono ?_
  rintro e w' ⟨he,nn,os,rfl⟩;exact ⟨he,ownsRow_sortedI (List.length_mergeSort l) Kg hh h1 h2 h3,grownBy_sortedI _⟩
theorem NS (l:List Nat):(Hh l).mergeSort (fun x y=>decide (x <= y))=Hh (l.mergeSort fun x y=>decide (x <= y)):=by
 unfold Hh;exact (List.map_mergeSort (fun a _ b _=>by simp)).symm
end Go.Proofs.YtjipleoamlmkfaaGreat
namespace Go.Proofs.YtjipleoamlmkfaaGreat
open Go.RowKit Go.Maps
theorem US {n i j:Nat} {l:List Nat} (hl:l.length=n) (hi:i<n) (hj:j<n):me n (Pe (Pe (fun k=>l.getD k 0) i (l.getD j 0)) j (l.getD i 0))=me n (fun k=>(vu l i j).getD k 0):=MA fun k hk=>by
 unfold Pe vu;simp only [List.getD_eq_getElem?_getD];rw [List.getElem?_set,List.getElem?_set];by_cases h1:k=j
 ·subst h1
  simp [hl,hk]
 ·have h1':¬j=k:=fun e=>h1 e.symm
  by_cases h2:k=i
  ·subst h2
   simp [h1,h1',hl,hk]
  ·have h2':¬i=k:=fun e=>h2 e.symm
   simp [h1,h1',h2,h2']
theorem GR {w:World} {g n:Nat} {t:TypeId} {xs:List Value} (k:Blk w g t xs.toArray) (h:xs.length=n):Rd w 1 (some ⟨g,0,none⟩) n xs:=by
 refine ⟨by omega,fun _=>⟨_,rfl,fun j u hj=>?_⟩⟩
 have hk:=k.cell j;rw [List.getElem?_toArray,hj] at hk;by_cases h0:j=0
 ·subst h0;exact hk
 ·simp only [Addr.add,h0,if_false];simpa using hk
theorem QL {O:La} (h:rm O) (s c i:Nat):Mj O s c i<Xa:=Bt (EG h _ _) _ _
theorem MQ {w:World} {g:Nat} {O:La} {F:Nat -> Prop} (h:OrcAt w g O F) (st ct n count:Nat) (hn:n <= 1024) (hcn:count <= n) (Ef:st<18446744073709551616) (Rv:ct<1000000) (hO:Qc O 900000) :
  Calls Tryz.prog 119 #[.pointer (some ⟨g,0,none⟩), .agg #[.int .u64 st, .int .u64 ct], .int .i64 n, .int .i64 count] w fun e w'=>∃ gr d F',e= .returned (.tuple #[.slice (some ⟨gr,0,none⟩) count d, .agg #[.int .u64 st, .int .u64 ((ct+count:Nat):Int)]]) /\
   OrcAt w' g (Nb O 19 (Rh st ct count)) F' /\ Moved F F' w w' /\ w'.ownsRow w.heap.size 3 1 (.slice (some ⟨gr,0,none⟩) count d) count (sg (Hh (Sr O st ct n count))) /\ ¬F' gr:=by
 obtain ⟨kx,kr,aa,Ra⟩:=ah w 96 96 #[.int .u64 st, .int .u64 ct] #[.int .u64 0, .int .u64 0];have H:=zH h;have HO:=zH hO;have Xf:=zH Ef;have HCT:=zH Rv;have d1:¬((count:Int)<0):=by omega
 have d1':decide ((count:Int)<0)=false:=decide_eq_false d1;have d2:¬((n:Int)<(count:Int)):=by omega
 have d2':decide ((n:Int)<(count:Int))=false:=decide_eq_false d2;have d2n:¬(n<count):=by omega
 have d2n':decide (n<count)=false:=decide_eq_false d2n;have d3:¬((1024:Int)<(n:Int)):=by omega
 have d3':decide ((1024:Int)<(n:Int))=false:=decide_eq_false d3;have d3n':decide (1024<n)=false:=decide_eq_false (by omega)
 have qv:=fun w=>QO n (by omega) w
 obtain ⟨zc,Ei⟩:=zEX (me n fun _=>0)
 rw [<- Ei] at qv;have Ps:=zH Ei;have nF:∀ b,w.heap.size <= b -> ¬F b:=fun b hb hf=>by have:=H.out.lt b hf;omega
 clear h hO Ef Rv Ei Ra;go_enter Tryz.func119,Tryz.ntmps119
 go_upto_region 3 with fail
 generalize (w.alloc _).alloc _=w1 at kx kr aa |-;go_wp2_with fail
 have ia:=(Below.refl w1.heap.size w1).alloc zR (.cells zc 3);have kl:=Blk.new w1 3 zc;have lxr:w.heap.size+1<w1.heap.size:=kr.lt;replace kx:=ea kx ia;replace kr:=ea kr ia;replace aa:=ja aa ia;generalize w1.alloc _=w2 at kl kx kr aa |-;generalize w1.heap.size=gl at kl lxr |-;obtain ⟨gx,cA⟩:=zEX (w.heap.size);obtain ⟨gr,Da⟩:=zEX (w.heap.size+1);rw [<- Da] at kr lxr |-;rw [<- cA] at kx |-;have Ku:=zH cA;have HGR:=zH Da;have hxr:gx≠gr:=by omega
 have uw:gx≠gl:=by omega
 have yp:gr≠gl:=by omega
 have h2:=H.out.below aa;have m2:Moved F F w w2:=Ic aa;have HX:=zH (show w.heap.size <= gx /\ w.heap.size <= gr /\ w.heap.size <= gl by omega)
 rw [Ps.out,show me n (fun _=>0)=me n (fun k=>if k<0 then k else 0) from MA fun i _=>by rw [if_neg (by omega)]] at kl
 clear ia qv cA Da aa;go_loopw [32] (fun y wr=>∃ i:Nat,i <= n /\ y= .int .i64 i /\ OrcAt wr g O F /\ Moved F F w wr /\ Blk wr gx 96 #[.int .u64 st, .int .u64 ct] /\ Blk wr gr 96 #[.int .u64 0, .int .u64 0] /\ Blk wr gl 3 (me n fun k=>if k<i then k else 0)) (fun y _=>n-(intOf y).toNat)
 case atStart=>exact ⟨0,Nat.zero_le _,rfl,h2,m2,kx,kr,kl⟩
 case round =>
  clear h2 m2 kx kr kl;obtain ⟨i,hi,rfl,h1,m1,kx,kr,kl⟩:=hrel;by_cases oa:i<n
  ·have g1:(0:Int) <= (i:Int):=by omega
   have g2:(i:Int)<(n:Int):=by omega
   have Tq:wr.cell? ⟨gl,i,none⟩=some (.int .i64 0):=(kl.cell i).trans ((Ry _ oa).trans (by simp))
   have ig:=kl.frozen;have Fb:=zH oa;have H1:=zH h1;have M1:=zH m1;have KX:=zH kx;have KR:=zH kr;have KL:=zH kl;clear oa h1 m1 kx kr kl;go_wp2
   go_roundw
   case rel =>
    refine ⟨i+1,by have:=Fb.out;omega,by go_num,H1.out.set (nF gl HX.out.2.2) _,Ld M1.out HX.out.2.2 _ _,KX.out.far (p:=⟨gl,i,none⟩) uw _,KR.out.far (p:=⟨gl,i,none⟩) yp _,?_⟩
    have:=KL.out.set_ i (.int .i64 i);rw [pD] at this;rw [show me n (fun k=>if k<i+1 then k else 0)=me n (Pe (fun k=>if k<i then k else 0) i i) from MA fun k _=>by
     unfold Pe;by_cases e1:k=i
     ·subst e1;rw [if_pos rfl,if_pos (by omega)]
     ·rw [if_neg e1]
      by_cases e2:k<i
      ·simp [e2,show k<i+1 by omega]
      ·simp [e2,show ¬k<i+1 by omega]]
    exact this
   case measure=>have:=Fb.out;simp [intOf];omega
  ·have e1:n=i:=by omega
   subst e1;clear oa hi;have dn:me n (fun k=>if k<n then k else 0)=me n (fun k=>(Og (Mj O st ct) n 0).getD k 0):=MA fun k hk=>by simp [Og,List.getD_eq_getElem?_getD,hk]
   rw [dn] at kl;have hO0:Nb O 19 (Rh st ct 0)=O:=rfl;have uC:=zH (fun i=>tz (Mj O st ct) n i)
   have HCA:=zH (fun i=>QL (O:=O) H.out.ok.ans st ct i)
   have Mr:=zH (show ¬F gx /\ ¬F gr /\ ¬F gl from ⟨nF gx HX.out.1,nF gr HX.out.2.1,nF gl HX.out.2.2⟩)
   go_wp2_with fail
   go_loopw [41] (fun y wr=>∃ (i:Nat) (F1:Nat -> Prop),i <= count /\ y= .int .i64 i /\ OrcAt wr g (Nb O 19 (Rh st ct i)) F1 /\ Moved F F1 w wr /\ Blk wr gx 96 #[.int .u64 st, .int .u64 ((ct+i:Nat):Int)] /\ Blk wr gr 96 #[.int .u64 0, .int .u64 0] /\
    Blk wr gl 3 (me n fun k=>(Og (Mj O st ct) n i).getD k 0) /\ ¬F1 gx /\ ¬F1 gr /\ ¬F1 gl) (fun y _=>count-(intOf y).toNat)
   case atStart=>exact ⟨0,F,Nat.zero_le _,rfl,h1,m1,kx,kr,kl,Mr.out⟩
   case round =>
    clear h1 m1 kx kr kl;obtain ⟨i,F1,hi,rfl,h1,m1,kx,kr,kl,n1,n2,n3⟩:=hrel;by_cases oa:i<count
    ·have g1:(0:Int) <= (i:Int):=by omega
     have g2:(i:Int)<(count:Int):=by omega
     have LE1:=zH (Ih (Ox (lab:=19) (Rh st ct i) HO.out) (show 900000+(Rh st ct i).length <= 1000000 by rw [zI];omega))
     have CH:=zH (xK h1 st (ct+i) Xa (by decide) (by decide) Xf.out (by have:=HCT.out;omega) LE1.out)
     obtain ⟨cv,QU⟩:=zEX (Mj O st ct i);have hcv2:Kc (Nb O 19 (Rh st ct i)) 19 [st,ct+i]%Xa=cv:=by rw [QU];exact Nat.mod_eq_of_lt (HCA.out i)
     have So:cv<Xa:=by rw [QU];exact HCA.out i
     rw [hcv2,<- RL] at CH;obtain ⟨c1,Nc⟩:=zEX (ct+i);rw [<- Nc] at CH kx;have Bg:=zH Nc;have HCV:=zH QU;have HCQ:=zH So;have kh:=kx.cell;obtain ⟨m,hm⟩:=zEX (n-i);have hm0:0<m:=by omega
     obtain ⟨r,hr⟩:=zEX (cv%m);have xr:r<m:=by rw [hr];exact Nat.mod_lt _ hm0
     obtain ⟨j,hj⟩:=zEX (i+r);have hjn:j<n:=by omega
     have e1:IntKind.i64.wrap ((n:Int)-(i:Int))=(m:Int):=by rw [IntKind.wrap_i64];omega
     have e2:IntKind.u64.wrap (m:Int)=(m:Int):=by rw [IntKind.wrap_u64];omega
     have e3:(cv:Int).tmod (m:Int)=(r:Int):=by rw [Int.tmod_eq_emod_of_nonneg (by omega),hr];exact (Int.natCast_emod cv m).symm
     have e4:IntKind.i64.wrap (r:Int)=(r:Int):=by rw [IntKind.wrap_i64];omega
     have e5:IntKind.i64.wrap ((i:Int)+(r:Int))=(j:Int):=by rw [IntKind.wrap_i64];omega
     have e0:¬(m=0):=by omega
     have e0':((m:Int) == 0)=false:=by rw [beq_eq_false_iff_ne];omega
     have bA:=zH (show Og (Mj O st ct) n (i+1)=vu (Og (Mj O st ct) n i) i j by rw [Og,<- QU,<- hm,<- hr,<- hj])
     have g3:(0:Int) <= (j:Int):=by omega
     have g4:(j:Int)<(n:Int):=by omega
     have g5:(i:Int)<(n:Int):=by omega
     have Fb:=zH oa;have HJN:=zH hjn;have KX:=zH kx;have KR:=zH kr;have KL:=zH kl;have M1:=zH m1;have Pb:i<n:=by omega
     have il:=zH Pb;clear Nc QU So hcv2 hm hr hj xr hm0 hjn oa kr kl m1 h1 Pb;unfold Xa at CH;go_wp2_with fail
     refine CH.out.mono ?_;rintro _ w3 ⟨rfl,F2,h3,m3⟩;have Cw:=KX.out.moved m3 n1;have Mg:=KR.out.moved m3 n2;have sj:=KL.out.moved m3 n3;have n1':=Me m3 KX.out.lt n1;have n2':=Me m3 KR.out.lt n2;have n3':=Me m3 KL.out.lt n3;have hs:=Kz (gr:=gx) (x:=.int .u64 st) (y:=.int .u64 ((c1+1:Nat):Int)) (M1.out.trans m3) HX.out.1 h3 n1' Cw;have Ok:=(Mg.far (p:=⟨gx,0,none⟩) (fun e=>hxr e.symm) (.int .u64 st)).far (p:=⟨gx,1,none⟩) (fun e=>hxr e.symm) (.int .u64 ((c1+1:Nat):Int))
     have Tl:=(sj.far (p:=⟨gx,0,none⟩) (fun e=>uw e.symm) (.int .u64 st)).far (p:=⟨gx,1,none⟩) (fun e=>uw e.symm) (.int .u64 ((c1+1:Nat):Int))
     have Ft:=Cw.frozen;have vi:=Cw.cell;clear h3 m3 Mg sj CH kh;obtain ⟨c2,jf⟩:=zEX (c1+1);rw [<- jf] at hs Ok Tl |-;have ni:=zH jf;clear jf;go_upto_region 14 with fail
     obtain ⟨s1,s2,s3⟩:=hs;generalize (w3.setCell _ _).setCell _ _=w4 at s1 s2 s3 Ok Tl |-;clear Ft vi Cw;obtain ⟨L,hL⟩:=zEX (Og (Mj O st ct) n i);rw [<- hL] at Tl bA;have Qi:=zH (show L.length=n by rw [hL];exact uC.out i)
     have Pv:w4.cell? ⟨gl,i,none⟩=some (.int .i64 ((L.getD i 0:Nat):Int)):=(Tl.cell i).trans (Ry _ il.out);have Et:w4.cell? ⟨gl,j,none⟩=some (.int .i64 ((L.getD j 0:Nat):Int)):=(Tl.cell j).trans (Ry _ HJN.out);have hgl4:=Tl.lt;have HSW:=zH (US Qi.out il.out HJN.out);have S1:=zH s1;have S2:=zH s2;have S3:=zH s3;have KR4:=zH Ok;have xl:=zH Tl;obtain ⟨xi,hxi⟩:=zEX (L.getD i 0);obtain ⟨xj,hxj⟩:=zEX (L.getD j 0);rw [<- hxi] at Pv HSW;rw [<- hxj] at Et HSW;clear s1 s2 s3 Ok Tl hL hxi hxj;go_wp2_with fail
     refine JT (Bb) [13,15] [13] [2,3,8,9,10] [0,1,2,3,4,5,6,7,8,9,10,11,12,13,14,15] (by kernel_rfl) (by kernel_rfl) ?_
     refine RT (pa) ?_;intro Wc Ba da;have T1:=zH (show OrcAt Wc g (Nb O 19 (Rh st ct (i+1))) F2 by rw [Ba.out];exact S1.out.drew)
     have T2:=zH (show Moved F F2 w Wc by rw [Ba.out];exact Ln S2.out)
     have T3:=zH (S3.out.drew);have T4:=zH (KR4.out.drew);have T5:=zH (xl.out.drew);rw [<- Ba.out] at T3 T4 T5;clear Ba;refine CZ ?_;refine VK (pa) rfl rfl rfl ?_;have hfw:=T5.out.frozen;have hci2:Wc.cell? ⟨gl,i,none⟩=_:=(T5.out.cell i).trans (Ry _ il.out);clear Pv Et da;go_simp;refine ⟨fun h=>Bool.noConfusion h,?_⟩
     have k5:=T5.out.set_ i (.int .i64 xj);rw [pD] at k5;have o5:=T1.out.set (x:=gl) (i:=i) n3' (.int .i64 xj);have m5:=Ld T2.out HX.out.2.2 i (.int .i64 xj);have x5:=T3.out.far (p:=⟨gl,i,none⟩) uw (.int .i64 xj);have r5:=T4.out.far (p:=⟨gl,i,none⟩) yp (.int .i64 xj)
     try simp only [Act.put,zLa,zLb,zLc]
     generalize Wc.setCell _ _=w6 at k5 o5 m5 x5 r5 |-;clear hfw hci2 T1 T2 T3 T4 T5;have da:=pa.refl w6;have hf6:=k5.frozen;have hc6:w6.cell? ⟨gl,j,none⟩=_:=(k5.cell j).trans (Ry _ HJN.out);refine CZ ?_;refine VK (pa) rfl rfl rfl ?_;go_simp;refine ⟨fun h=>Bool.noConfusion h,?_⟩
     have k6:=k5.set_ j (.int .i64 xi);rw [pD,HSW.out,<- bA.out] at k6;have o6:=o5.set (x:=gl) (i:=j) n3' (.int .i64 xi);have m6:=Ld m5 HX.out.2.2 j (.int .i64 xi);have x6:=x5.far (p:=⟨gl,j,none⟩) uw (.int .i64 xi);have r6:=r5.far (p:=⟨gl,j,none⟩) yp (.int .i64 xi)
     try simp only [Act.put,zLa,zLb,zLc]
     generalize w6.setCell _ _=w7 at k6 o6 m6 x6 r6 |-;refine MT ?_;clear k5 o5 m5 x5 r5 hf6 hc6 da;go_wp2
     go_roundw
     case rel=>exact ⟨i+1,F2,by have:=Fb.out;omega,by go_num,o6,m6,by rw [show ct+(i+1)=c2 by rw [ni.out,Bg.out];omega];exact x6,r6,k6,n1',n2',n3'⟩
     case measure=>have:=Fb.out;simp [intOf];omega
    ·have e1:count=i:=by omega
     subst e1;obtain ⟨cc,Ro⟩:=zEX (ct+count);rw [<- Ro] at kx;have HCC:=zH Ro;clear Ro;have ak:Blk wr gl 3 (sg (Hh (Og (Mj O st ct) n count))).toArray:=by rw [<- RM (uC.out count)];exact kl
     have za:=GR ak (show (sg (Hh (Og (Mj O st ct) n count))).length=n by rw [xI];unfold Hh;rw [List.length_map];exact uC.out count)
     have pj:=za.take hcn;rw [Nat.mul_one,show (sg (Hh (Og (Mj O st ct) n count))).take count=sg (Hh ((Og (Mj O st ct) n count).take count)) by simp [sg,Hh,List.map_take]] at pj
     have hcut:∀ w,(Instr.slice 50 (.slice (some ⟨gl,0,none⟩) n n) none (some (.int .i64 count)) none).run Tryz.prog w= .ok (.slice (some ⟨gl,0,none⟩) count n) w:=fun w=>iK lD _ n n count hcn
     have CL:=zH (SL ⟨gl,0,none⟩ count n _ wr pj (by omega))
     have HPR:=zH (show Sr O st ct n count=((Og (Mj O st ct) n count).take count).mergeSort fun x y=>decide (x <= y) from rfl)
     have hgc:(0:Int) <= (count:Int):=by omega
     have Vh:(count:Int) <= (n:Int):=by omega
     have H1:=zH h1;have M1:=zH m1;have KX:=zH kx;have KR:=zH kr;clear kl ak za pj h1 m1 kx kr oa hi;go_wp2_with fail
     refine CL.out.mono ?_;rintro _ w3 ⟨g2,d,rfl,Lk,ma,Ga⟩;have SO:=zH (MS ma (by omega))
     have hg2l:=(ma.lt g2 rfl).2;clear ma;go_wp2_with fail
     refine SO.out.mono ?_;rintro _ w4 ⟨rfl,ma,Ci⟩;have Ec:gx<wr.heap.size:=KX.out.lt;have Jd:gr<wr.heap.size:=KR.out.lt;have kx4:=(KX.out.below Ga Ec).grown Ci (fun e=>by have:=Option.some.inj e;omega)
     have Ok:=(KR.out.below Ga Jd).grown Ci (fun e=>by have:=Option.some.inj e;omega)
     have m4:=UI (M1.out.trans (Ic (F:=F1) Ga)) Ci (fun b hb=>by rw [<- Option.some.inj hb];have:=M1.out.size;omega)
     have h4:=(H1.out.below Ga).keep Ci.size fun b hb=>Ci.block b (by have:=H1.out.lt b hb;have:=Ga.size;omega) (fun e=>by have:=Option.some.inj e;have:=H1.out.lt b hb;omega)
     have nG2:¬F1 g2:=fun e=>by have:=H1.out.lt _ e;omega
     rw [NS,<- HPR.out] at ma;have kh:=kx4.cell;have hlx:=kx4.lt;have HOWN:=zH ma;have H4:=zH h4;have M4:=zH m4;have VN:w.heap.size <= wr.heap.size:=M1.out.size;clear ma h4 m4 Ci Ga CL SO hcut;go_wp2_with fail
     refine Pc (tg gr) [3] [0,1,2,3] (by kernel_rfl) (by kernel_rfl) ?_
     refine di (tc gr) ?_;intro Wc Ba da;have k5:Blk Wc gr 96 #[.int .u64 0, .int .u64 0]:=by rw [Ba.out];exact Ok.drew
     have h5:=Kz (x:=.int .u64 st) (y:=.int .u64 cc) (show Moved F F1 w Wc by rw [Ba.out];exact Ln M4.out) HX.out.2.1 (show OrcAt Wc g (Nb O 19 (Rh st ct count)) F1 by rw [Ba.out];exact H4.out.drew) n2 k5
     have NC:=zH (show Wc.ownsRow wr.heap.size 3 1 (.slice (some ⟨g2,0,none⟩) count d) count (sg (Hh (Sr O st ct n count))) by rw [Ba.out];exact zg HOWN.out fun _ _=>rfl)
     have hf5:=k5.frozen;have hc5:=k5.cell;clear Ba;refine Pp ?_;refine de (tc gr) rfl rfl rfl ?_;go_simp;refine ⟨OA Wc gr 0 1 (.int .u64 st) (.int .u64 cc),?_⟩;obtain ⟨s1,s2,s3⟩:=h5;have OWN6:=zH (mg (zg (u:=(Wc.setCell ⟨gr,0,none⟩ (.int .u64 st)).setCell ⟨gr,1,none⟩ (.int .u64 cc)) NC.out fun b hb=>(Below.heap_setCell _ ⟨gr,1,none⟩ _ b (fun e=>by have:=(NC.out.lt b hb).1;simp at e;omega)).trans (Below.heap_setCell Wc ⟨gr,0,none⟩ _ b (fun e=>by have:=(NC.out.lt b hb).1;simp at e;omega))) VN)
     try simp only [Act.put,zLa,zLb,zLc]
     generalize (Wc.setCell _ _).setCell _ _=w6 at s1 s2 s3 OWN6 |-;refine pc ?_;have c0:=s3.cell 0;have c2:=s3.cell 1;have Ni:=zH (And.intro s1 (And.intro s2 (And.intro OWN6.out nG2)));go_wp2;refine bodyPost_ret (v:=.tuple #[.slice (some ⟨g2,0,none⟩) count d, .agg #[.int .u64 st, .int .u64 cc]]) (by simp [results,Tryz.results119,go_sem,c0,c2]) rfl ?_
     obtain ⟨d1,d2,d3,d4⟩:=Ni.out;exact ⟨g2,d,F1,by rw [HCC.out],d1,d2,d3,d4⟩
end Go.Proofs.YtjipleoamlmkfaaGreat
namespace Go.Proofs.YtjipleoamlmkfaaGreat
open Go.RowKit
def Wb {α:Type} (f:Nat -> α) (k:Nat) (v:α):Nat -> α:=fun j=>if j=k then v else f j
theorem Vk {α:Type} (f:Nat -> α) (k:Nat) (v:α):Wb f k v k=v:=if_pos rfl
theorem Tf {α:Type} (f:Nat -> α) {k:Nat} (v:α) {j:Nat} (h:j≠k):Wb f k v j=f j:=if_neg h
structure OwnF (N:Nat) (w:World) (M:Nat) (ty:Nat -> TypeId) (xs:Nat -> Value) (n:Nat -> Nat) (vs:Nat -> List Value):Prop where
 own:∀ j,j<M -> w.ownsRow N (ty j) 1 (xs j) (n j) (vs j)
 apart:∀ j i,j<M -> i<M -> j≠i -> ∀ q,(xs j).ownBlock=some q -> (xs i).ownBlock=some q -> False
section
variable {N M:Nat} {w w':World} {ty:Nat -> TypeId} {xs:Nat -> Value} {n:Nat -> Nat} {vs:Nat -> List Value}
theorem OwnF.below (h:OwnF N w M ty xs n vs) (hb:Below w.heap.size w w'):OwnF N w' M ty xs n vs :=
 ⟨fun j hj=>db (h.own j hj) hb zR,h.apart⟩
theorem OwnF.stay (h:OwnF N w M ty xs n vs) {B:Nat} (hg:w.grownBy w' (some B)) (hB:B<N):OwnF N w' M ty xs n vs :=
 ⟨fun j hj=>Ze (h.own j hj) hg hB,h.apart⟩
theorem OwnF.app (h:OwnF N w M ty xs n vs) {k:Nat} (hk:k<M) {x:Value} {m:Nat} {l:List Value} (ho:w'.ownsRow N (ty k) 1 x m l) (hg:w.grownBy w' (xs k).ownBlock) (hb:x.ownBlock=(xs k).ownBlock \/ x.ownBlock=some w.heap.size):OwnF N w' M ty (Wb xs k x) (Wb n k m) (Wb vs k l):=by
 refine ⟨fun j hj=>?_,fun j i hj hi Ka q h1 h2=>?_⟩
 ·by_cases e:j=k
  ·subst e;simp only [Vk];exact ho
  ·simp only [Tf _ _ e]
   exact tJ (h.own j hj) hg fun q h1 h2=>h.apart j k hj hk e q h1 h2
 ·by_cases e:j=k
  ·subst e
   have e2:i≠j:=fun e2=>Ka e2.symm
   rw [Vk] at h1;rw [Tf _ _ e2] at h2;exact vA (h.own i hi) (h.apart j i hj hi Ka) hb q h1 h2
  ·rw [Tf _ _ e] at h1
   by_cases e2:i=k
   ·subst e2
    rw [Vk] at h2;exact vA (h.own j hj) (h.apart i j hi hj (fun e=>Ka e.symm)) hb q h2 h1
   ·rw [Tf _ _ e2] at h2
    exact h.apart j i hj hi Ka q h1 h2
theorem OwnF.new (h:OwnF N w M ty xs n vs) (hb:Below w.heap.size w w') {x:Value} {m:Nat} {l:List Value} (ho:w'.ownsRow w.heap.size (ty M) 1 x m l) (hN:N <= w.heap.size):OwnF N w' (M+1) ty (Wb xs M x) (Wb n M m) (Wb vs M l):=by
 refine ⟨fun j hj=>?_,fun j i hj hi Ka q h1 h2=>?_⟩
 ·by_cases e:j=M
  ·subst e;simp only [Vk];exact mg ho hN
  ·simp only [Tf _ _ e]
   exact db (h.own j (by omega)) hb zR
 ·by_cases e:j=M
  ·subst e
   have e2:i≠j:=fun e2=>Ka e2.symm
   rw [Vk] at h1;rw [Tf _ _ e2] at h2;have a:=(ho.lt q h1).1;have b:=((h.own i (by omega)).lt q h2).2
   omega
  ·rw [Tf _ _ e] at h1
   by_cases e2:i=M
   ·subst e2
    rw [Vk] at h2;have a:=(ho.lt q h2).1;have b:=((h.own j (by omega)).lt q h1).2
    omega
   ·rw [Tf _ _ e2] at h2
    exact h.apart j i (by omega) (by omega) Ka q h1 h2
end
def tyF:Nat -> TypeId
 | 0=>28
 | 1=>22
 | 2=>28
 | _=>22
theorem oG {K:Nat -> Prop} {g N:Nat} {w u:World} (h:mi g N w u) (hK:∀ b,K b -> b<N /\ b≠g):Vf K w u:=⟨h.1,h.2.1,h.2.2.1,h.2.2.2.1,fun b hb _=>h.2.2.2.2 b (hK b hb).1 (hK b hb).2⟩
theorem aP {l:List Nat} {i:Nat} (h:i<l.length):(sg (Hh l))[i]?=some (.int .i64 ((l.getD i 0:Nat):Int)):=by
 rw [List.getD_eq_getElem?_getD,List.getElem?_eq_getElem h];simp [sg,Hh,h]
theorem CK {α:Type} (f:Nat -> α) {l:List Nat} {i:Nat} (h:i<l.length):(l.take i).map f++[f (l.getD i 0)]=(l.take (i+1)).map f:=by
 rw [List.take_succ_eq_append_getElem h,List.map_append,List.getD_eq_getElem?_getD,List.getElem?_eq_getElem h]
 rfl
theorem OP {w:World} {base n c:Nat} {e:TypeId} {A:Option Addr} {xs:List Value} (h:w.ownsRow base e 1 (.slice A n c) n xs):Rd w 1 A n xs:=by
 obtain ⟨A',c',he,-,-,hr,-⟩:=Tb h
 injection he with e1 e2 e3
 subst e1;exact hr
theorem qN {w:World} {g:Nat} (x y z:Value):w.grownBy (((w.setCell ⟨g,1,none⟩ x).setCell ⟨g,2,none⟩ y).setCell ⟨g,3,none⟩ z) (some g):=by
 iterate 3 refine Yd ?_ (.inl rfl) _
 exact Lc w _
theorem SP {N n:Nat} {w:World} {gb:Option Nat} {e:TypeId} {x:Value} {l:List Nat} (h:w.ownsRow N e 1 x n (Ca l)) (hl:∀ y∈l,y<18446744073709551616) (Ka:∀ q,x.ownBlock=some q -> gb=some q -> False):df N gb w x l:=by
 intro u hu;have ho:=zg (u:=u) h fun b hb=>hu b (h.lt b hb).1 (h.lt b hb).2 fun e=>Ka b hb e.symm
 obtain ⟨A,c,rfl,-⟩:=Tb ho;exact Fh ho hl
def JZ (B:Nat) (w0:World) (cs:List Value) (l:List (List Nat)):Prop:=cs.length=l.length /\ ∀ (i:Nat) (h1:i<cs.length) (h2:i<l.length),df B none w0 cs[i] l[i]
theorem xP (B:Nat) (w0:World):JZ B w0 [] []:=⟨rfl,fun i h=>by simp at h⟩
theorem uP {B:Nat} {w0:World} {cs:List Value} {l:List (List Nat)} {x:Value} {y:List Nat} (h:JZ B w0 cs l) (hx:df B none w0 x y):JZ B w0 (cs++[x]) (l++[y]):=by
 obtain ⟨h1,h2⟩:=h;refine ⟨by simp [h1],fun i h3 h4=>?_⟩
 by_cases hi:i<cs.length
 ·rw [List.getElem_append_left hi,List.getElem_append_left (by omega)]
  exact h2 i hi (by omega)
 ·have e:i=cs.length:=by simp at h3;omega
  subst e;simp only [List.getElem_append_right zR,Nat.sub_self,List.getElem_cons_zero];rw [List.getElem_append_right (by omega)]
  simp only [h1,Nat.sub_self,List.getElem_cons_zero];exact hx
theorem vP {B:Nat} {w0 w:World} {base n:Nat} {e:TypeId} {v:Value} {cs:List Value} {l:List (List Nat)} (h:JZ B w0 cs l) (hs:w0.heap.size <= w.heap.size) (hw:∀ b,B <= b -> b<w0.heap.size -> w.heap[b]?=w0.heap[b]?) (ho:w.ownsRow base e 1 v n cs) (bn:w0.heap.size <= base) (hB:B <= w0.heap.size):RRx B w v l:=by
 refine rF (N:=B) ⟨h.1,fun i h1 h2 u hu=>?_⟩ ho zR (by omega)
 refine h.2 i h1 h2 u fun b b1 b2 _=>(hu b b1 (by omega) fun e2=>?_).trans (hw b b1 b2)
 have:=(ho.lt b e2.symm).1;omega
structure InvP (pos:List Nat) (cols:List (List Nat)) (sa:List Nat) (pf:Nat -> List Nat) (dd B:Nat) (w7:World) (i:Nat) (xs:Nat -> Value) (nn:Nat -> Nat) (vs:Nat -> List Value):Prop where
 n0:nn 0=i
 n1:nn 1=i
 n2:nn 2=i
 s:vs 1=Ca ((pos.take i).map fun k=>sa.getD k 0)
 c:JZ B w7 (vs 0) ((pos.take i).map fun k=>cols.getD k [])
 p:vs 2=(List.range i).map fun k=>xs (k+3)
 r:∀ k,k<i -> nn (k+3)=dd /\ vs (k+3)=Ca (pf (pos.getD k 0))
theorem InvP.step {pos:List Nat} {cols:List (List Nat)} {sa:List Nat} {pf:Nat -> List Nat} {dd B:Nat} {w7:World} {i:Nat} {xs:Nat -> Value} {nn:Nat -> Nat} {vs:Nat -> List Value} (h:InvP pos cols sa pf dd B w7 i xs nn vs) (hi:i<pos.length) {z sz:Nat} (hz:z=pos.getD i 0) {a b c p ec:Value} (hc:df B none w7 ec (cols.getD z [])) (hs:sz=sa.getD z 0) :
  InvP pos cols sa pf dd B w7 (i+1) (Wb (Wb (Wb (Wb xs 0 a) 1 b) (i+3) p) 2 c) (Wb (Wb (Wb (Wb nn 0 (nn 0+1)) 1 (nn 1+1)) (i+3) dd) 2 (nn 2+1)) (Wb (Wb (Wb (Wb vs 0 (vs 0++[ec])) 1 (vs 1++[.int .u64 sz])) (i+3) (Ca (pf z))) 2 (vs 2++[p])):=by
 have f3:∀ {α:Type} (f:Nat -> α) (x0 x1 x2 x3:α),Wb (Wb (Wb (Wb f 0 x0) 1 x1) (i+3) x3) 2 x2 0=x0 /\ Wb (Wb (Wb (Wb f 0 x0) 1 x1) (i+3) x3) 2 x2 1=x1 /\ Wb (Wb (Wb (Wb f 0 x0) 1 x1) (i+3) x3) 2 x2 2=x2 /\ Wb (Wb (Wb (Wb f 0 x0) 1 x1) (i+3) x3) 2 x2 (i+3)=x3 /\ ∀ k,k<i -> Wb (Wb (Wb (Wb f 0 x0) 1 x1) (i+3) x3) 2 x2 (k+3)=f (k+3):=fun f x0 x1 x2 x3=>by
  refine ⟨?_,?_,?_,?_,fun k hk=>?_⟩
  ·rw [Tf _ _ (by omega),Tf _ _ (by omega),Tf _ _ (by omega),Vk]
  ·rw [Tf _ _ (by omega),Tf _ _ (by omega),Vk]
  ·rw [Vk]
  ·rw [Tf _ _ (by omega),Vk]
  ·rw [Tf _ _ (by omega),Tf _ _ (by omega),Tf _ _ (by omega),Tf _ _ (by omega)]
 have fn:=f3 nn (nn 0+1) (nn 1+1) (nn 2+1) dd;have fv:=f3 vs (vs 0++[ec]) (vs 1++[.int .u64 sz]) (vs 2++[p]) (Ca (pf z));have fx:=f3 xs a b c p;refine ⟨?_,?_,?_,?_,?_,?_,fun k hk=>?_⟩
 ·rw [fn.1,h.n0]
 ·rw [fn.2.1,h.n1]
 ·rw [fn.2.2.1,h.n2]
 ·rw [fv.2.1,h.s,<- CK _ hi,<- hz,<- hs]
  simp [Ca]
 ·rw [fv.1,<- CK _ hi,<- hz]
  exact uP h.c hc
 ·rw [fv.2.2.1,h.p,List.range_succ,List.map_append]
  congr 1
  ·exact List.map_congr_left fun k hk=>(fx.2.2.2.2 k (List.mem_range.1 hk)).symm
  ·simp only [List.map_cons,List.map_nil]
   rw [fx.2.2.2.1]
 ·by_cases e:k=i
  ·subst e
   rw [fn.2.2.2.1,fv.2.2.2.1,hz];exact ⟨rfl,rfl⟩
  ·rw [fn.2.2.2.2 k (by omega),fv.2.2.2.2 k (by omega)]
   exact h.r k (by omega)
theorem FQ {N i dd:Nat} {u:World} {xs:Nat -> Value} {nn:Nat -> Nat} {vs:Nat -> List Value} {pos:List Nat} {pf:Nat -> List Nat} (Rb:OwnF N u (i+3) tyF xs nn vs) (hp:vs 2=(List.range i).map fun k=>xs (k+3)) (hr:∀ k,k<i -> nn (k+3)=dd /\ vs (k+3)=Ca (pf (pos.getD k 0))) (hl:pos.length=i) (oa:∀ z,∀ y∈pf z,y<18446744073709551616):Qd u [xs 2] (pos.map pf):=by
 refine DD (N:=N) (w:=u) (cs:=vs 2) ⟨by rw [hp];simp [hl],fun k h1 h2=>?_⟩ (Rb.own 2 (by omega))
 have hk:k<i:=by rw [hp] at h1;simpa using h1
 have e1:(vs 2)[k]=xs (k+3):=by
  have:(vs 2)[k]?=some (xs (k+3)):=by rw [hp];simp [hk]
  rw [List.getElem?_eq_getElem h1] at this;exact Option.some.inj this
 have e2:(pos.map pf)[k]=pf (pos.getD k 0):=by
  rw [List.getElem_map,List.getD_eq_getElem?_getD,List.getElem?_eq_getElem (by omega)]
  rfl
 rw [e1,e2];have ho:=Rb.own (k+3) (by omega)
 rw [(hr k hk).1,(hr k hk).2] at ho;exact SP ho (oa _) fun q h1 h2=>Rb.apart (k+3) 2 (by omega) (by omega) (by omega) q h1 h2
def wtF (p:Nat) (cs:List (List Nat)) (i:Nat):List Nat:=(List.range (cs.getD i []).length).map (fW p (cs.getD i []) 1)
def aQ (p:Nat) (cs:List (List Nat)):List (List Nat):=(List.range cs.length).map (wtF p cs)
theorem s6 (L:Va) (pu ra:Nat) (rows:List Ya):(Uu L pu ra rows).length=L.a+L.b+L.b+L.b:=by
 unfold Uu Io;rw [jt,jt,jt,jt];simp [Ek,xe]
theorem Y1 {L:Va} {pu ra:Nat} {rows:List Ya}:∀ r∈Uu L pu ra rows,r.length=L.block:=fun r h=>by
 unfold Uu at h;obtain ⟨i,k,-,-,rfl⟩:=WG h;simp [wv]
theorem zC6 (L:Va) (pu ra:Nat) (vars:Int) (A:Option Addr) (R c:Nat) (rows:List Ya) (w:World) (hL:Vc L) (hF:ux L pu vars rows) (hr:RSl 3 Md w [.slice A R c] rows) (hV:pA vars rows) :
  Calls Tryz.prog 140 #[.agg (Ua L),Ib L.p (pu:Int) vars (.slice A R c), .int .u64 ra] w fun e w'=>∃ v,e= .returned v /\ Qd w' [v] (aQ L.p (Uu L pu ra rows)) /\ Below w.heap.size w w':=by
 obtain ⟨Pd,Lb⟩:=nc hL.p;have yV:=hL.a;have zV:=hL.b;have xa:=hL.b2;obtain ⟨hlen,-⟩:=sI hL;have HC:=zH (fun w' (hb:Below w.heap.size w w')=>zCO L pu ra vars A R c rows w' hL hF (Le fq _ _ _ _ hb hr) hV)
 have HI:=zH (fun A c l w hl=>zCV L.p 1 L.block A c l w hL.p hl hlen (by rw [Nat.mod_eq_of_lt (by omega)];decide))
 have HIL:=zH (show ∀ l,∀ x∈(List.range L.block).map (fW L.p l 1),x<18446744073709551616 from fun l x hx=>by
  obtain ⟨i,-,rfl⟩:=List.mem_map.1 hx;exact Nat.lt_trans (zB9 (by omega) _ _ _) Lb)
 obtain ⟨Sh,Wy⟩:=zEX (Uu L pu ra rows);have Gu:=zH (show Sh.length <= 400000 by rw [Wy,s6];omega)
 have xW:=zH (show ∀ r∈Sh,r.length=L.block by rw [Wy];exact Y1)
 rw [<- Wy] at HC |-;obtain ⟨f,hf⟩:=zEX (wtF L.p Sh);have HFI:=zH (show ∀ i (h:i<Sh.length),f i=(List.range L.block).map (fW L.p Sh[i] 1) from fun i h=>by
  rw [hf];unfold wtF;rw [TV h,xW.out _ (List.getElem_mem h)])
 have HRF:=zH (zC7 f);have EZ:=zH (show aQ L.p Sh=(List.range Sh.length).map f by rw [hf];rfl)
 rw [EZ.out];clear Wy hf hL hF hr hV yV zV hlen Pd Lb EZ;unfold Ua Ib at *;obtain ⟨kl,kt,aa,-⟩:=ah w 35 25 #[.int .u64 L.p, .int .i64 L.block, .int .i64 L.queries, .int .i64 L.k, .int .i64 L.n, .int .i64 L.secret, .int .i64 L.rows, .int .i64 L.a, .int .i64 L.b, .int .i64 L.b, .int .i64 L.b] #[.int .u64 L.p, .int .i64 pu, .int .i64 vars, .slice A R c];go_enter Tryz.func140,Tryz.ntmps140
 go_upto_region 1 with fail
 generalize (w.alloc _).alloc _=w1 at kl kt aa |-;have cl:=kl.cell;have ct:=kt.cell;go_wp2_with fail
 refine (HC.out _ aa).mono ?_;rintro e w2 ⟨vC,rfl,hC,Aa⟩;replace kl:=ea kl Aa;replace aa:=ja aa Aa;clear Aa cl ct kt HC;obtain ⟨AC,nC,cC,rfl⟩:=RSl.slc hC;obtain ⟨hCn,-,-,hCd⟩:=sh hC;have gC:(nC:Int) <= 400000:=by have:=Gu.out;omega
 have HCN:=zH hCn;clear hCn hC;go_wp2_with fail
 go_loopw [7,9] (fun u y wr=>∃ (i:Nat) (v:Value) (cs:List Value),v=u /\ i <= nC /\ y= .int .i64 i /\ wr.ownsRow w2.heap.size 28 1 v i cs /\ Ag 0 wr v cs ((List.range i).map f) /\ Below w2.heap.size w2 wr) (fun _ y _=>nC-(intOf y).toNat)
 case atStart=>exact ⟨0,_,[],rfl,Nat.zero_le _,rfl,⟨rfl, .inl ⟨rfl,rfl⟩⟩,ED _ _ _,Below.refl _ _⟩
 case round =>
  obtain ⟨i,v,cs,rfl,hi,rfl,ma,Da,hb⟩:=hrel;by_cases oa:i<nC
  ·have q1:(i:Int)<(nC:Int):=by omega
   have q2:(0:Int) <= (i:Int):=by omega
   have vV:i<Sh.length:=by rw [HCN.out];exact oa
   obtain ⟨b1,pX,A1,n1,c1,rfl,Vy,Nc,Qt⟩:=Zl hCd vV;have z1:=(zb Qt).1;have Ve:n1=L.block:=by rw [z1];exact xW.out _ (List.getElem_mem vV)
   subst Ve;have fw:=ib hb Qt;have IW:=(hb.cell (p:=⟨b1,pX+i,none⟩) Vy).trans Nc;have RY:b1<wr.heap.size:=Nat.lt_of_lt_of_le Vy hb.size;have wX:=zH (HFI.out i vV);have HRi:=zH (HRF.out i);obtain ⟨x,hx⟩:=zEX (Sh[i]);rw [<- hx] at fw wX;have HLx:=zH (HIL.out x);rw [<- wX.out] at HLx;have fl:Hid (∀ w':World,RWd w' [.slice A1 L.block c1] x -> Calls Tryz.prog 184 #[.int .u64 L.p, .slice A1 L.block c1, .int .u64 1] w' fun e w2=>∃ v,e= .returned (.tuple #[v, .int .i64 0]) /\ w2.ownsRow w'.heap.size 22 1 v L.block (Ca (f i)) /\ Below w'.heap.size w' w2):=zH (fun w' h=>by rw [wX.out];exact HI.out A1 c1 x w' h)
   obtain ⟨fi,kU⟩:=zEX (f i);rw [<- kU] at HLx fl HRi;clear hx z1 Nc Qt kU wX;have Zj:=ea kl hb;have cl:=Zj.cell;have ll:=Zj.lt;go_upto_region 6 with fail
   refine Pc (Bb) [6] [0,1,2,3,4,5,6,7,8,9,10,11] (by kernel_rfl) (by kernel_rfl) ?_
   refine di (pa) ?_;intro Wc Ba da;have Ja:=Sg Ba;replace ma:=db ma Ja zR;replace Da:=Nf Da Ja;replace hb:=ja hb Ja;replace fw:=ib Ja fw;refine Kb ?_;refine oc (pa) rfl rfl rfl (fun _=>by go_simp <;> rfl) ((fl.out _ fw).mono ?_)
   rintro e w7 ⟨v7,rfl,o7,mc⟩;refine ⟨_,rfl,mc,?_⟩;replace da:=(pa).trans _ _ _ da (mc);simp only [Act.put,zLa,zLb,zLc];obtain ⟨A7,c7,rfl,-⟩:=Tb o7;have hx:=TB (N:=0) (gb:=v.ownBlock) o7 HLx.out (Nat.zero_le _) (fun q e=>(ma.lt q e).2)
   replace ma:=db ma mc zR;replace Da:=Nf Da mc;replace hb:=ja hb mc;refine Kb ?_;refine pc ?_;clear Ja mc da Ba IW RY cl ll fw o7;go_wp2_with (at_builtin;refine If rfl _ _ rfl Jo rfl (ma.alloc _) rfl (Uk _ _ _) (by intro u hu;simp at hu;subst hu;rfl) (by omega) (by simp;have:=hb.size;omega) ?_)
   intro v' wn Ta Ha Ab;have ia:=(Below.refl w7.heap.size w7).alloc zR (.cells #[.slice A7 L.block c7] 28);have uv:=mh (ma.alloc _) Ha (by simp;have:=hb.size;omega)
   replace Da:=Nf Da ia;replace hx:=Lp hx ia.size (fun b _ h2 _=>ia.block b h2)
   have Vh:=WZ Da hx Ha (by simpa using Ab)
   rw [HRi.out] at Vh;replace hb:=(ja hb ia).trans uv;clear ia Ha Ab uv Da hx ma;go_wp2
   go_roundw
   case rel=>exact ⟨i+1,v',_,rfl,by omega,by go_num,Ta,Vh,hb⟩
   case measure=>simp [intOf];omega
  ·obtain rfl:i=nC:=by omega
   have q1:¬((i:Int)<(i:Int)):=by omega
   have hend:=DD Da ma;go_wp2;go_ret
   exact ⟨_,rfl,by rw [HCN.out];exact hend,aa.trans (hb.mono aa.size)⟩
end Go.Proofs.YtjipleoamlmkfaaGreat
