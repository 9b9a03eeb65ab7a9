/- A part of the proof. No condition. -/
import Derived.Shelf.Sort.Plain
import Derived.Test.YtdhhdplholkmdaaGreatProg
import Derived.Test.YtdhhdplholkmdaaGreatPC30
import Derived.Sort.OwnSortedInts
import Derived.Test.YtdhhdplholkmdaaGreatPC17
import Derived.Test.YtdhhdplholkmdaaGreatPC19
import Derived.Carry
import Derived.Deep.AppendLies
import Derived.Laws.OwnMore
import Derived.Maps.OwnSet
import Derived.Maps.Views
import Derived.Test.YtdhhdplholkmdaaGreatPC29
import Derived.Test.YtdhhdplholkmdaaGreatPC15
import Derived.Test.YtdhhdplholkmdaaGreatPC13
import Derived.Test.YtdhhdplholkmdaaGreatPC20

namespace Go.Proofs.YtdhhdplholkmdaaGreat
open Go.RowKit Go.Shelf
def ren189:Go.Shelf.Ren:=⟨fun | 125=>197 | 128=>249 | 129=>250 | 189=>199 | 215=>301 | 216=>284 | 257=>251 | 294=>278 | 295=>279 | 296=>280 | 297=>281 | 298=>282 | 299=>283 | 300=>285 | 301=>286 | 328=>296 | 329=>297 | 330=>298 | 331=>299 | 332=>300 | 343=>302 | n=>n,fun | 0=>0 | 3=>3 | 4=>4 | 5=>5 | 9=>9 | 28=>47 | 46=>276 | 51=>311 | 53=>22 | 131=>271 | 182=>328 | 183=>329 | 218=>338 | 222=>341 | 228=>344 | 229=>345 | n=>n,fun n=>n⟩
theorem zE9:Go.Proofs.Lays.n189 Tryz.prog ren189:={ mixed:=by kernel_rfl,f125:=by kernel_rfl,f128:=by kernel_rfl,f129:=by kernel_rfl,f189:=by kernel_rfl,f215:=by kernel_rfl,f216:=by kernel_rfl,f257:=by kernel_rfl,f294:=by kernel_rfl,f295:=by kernel_rfl,f296:=by kernel_rfl,f297:=by kernel_rfl,f298:=by kernel_rfl,f299:=by kernel_rfl,f300:=by kernel_rfl,f301:=by kernel_rfl,f328:=by kernel_rfl,f329:=by kernel_rfl,f330:=by kernel_rfl,f331:=by kernel_rfl,f332:=by kernel_rfl,f343:=by kernel_rfl,t0:=by kernel_rfl,a0:=fun _=>by kernel_rfl,z0:=fun _=>by kernel_rfl,v0:=fun _=>by kernel_rfl,t3:=by kernel_rfl,a3:=fun _=>by kernel_rfl,z3:=fun _=>by kernel_rfl,v3:=fun _=>by kernel_rfl,t4:=by kernel_rfl,a4:=fun _=>by kernel_rfl,z4:=fun _=>by kernel_rfl,v4:=fun _=>by kernel_rfl,t5:=by kernel_rfl,a5:=fun _=>by kernel_rfl,z5:=fun _=>by kernel_rfl,v5:=fun _=>by kernel_rfl,t9:=by kernel_rfl,a9:=fun _=>by kernel_rfl,z9:=fun _=>by kernel_rfl,v9:=fun _=>by kernel_rfl,t28:=by kernel_rfl,a28:=fun _=>by kernel_rfl,z28:=fun _=>by kernel_rfl,v28:=fun _=>by kernel_rfl,t46:=by kernel_rfl,a46:=fun _=>by kernel_rfl,z46:=fun _=>by kernel_rfl,v46:=fun _=>by kernel_rfl,t51:=by kernel_rfl,a51:=fun _=>by kernel_rfl,z51:=fun _=>by kernel_rfl,v51:=fun _=>by kernel_rfl,t53:=by kernel_rfl,a53:=fun _=>by kernel_rfl,z53:=fun _=>by kernel_rfl,v53:=fun _=>by kernel_rfl,t131:=by kernel_rfl,a131:=fun _=>by kernel_rfl,z131:=fun _=>by kernel_rfl,v131:=fun _=>by kernel_rfl,t182:=by kernel_rfl,a182:=fun _=>by kernel_rfl,z182:=fun _=>by kernel_rfl,v182:=fun _=>by kernel_rfl,t183:=by kernel_rfl,a183:=fun _=>by kernel_rfl,z183:=fun _=>by kernel_rfl,v183:=fun _=>by kernel_rfl,t218:=by kernel_rfl,a218:=fun _=>by kernel_rfl,z218:=fun _=>by kernel_rfl,v218:=fun _=>by kernel_rfl,t222:=by kernel_rfl,a222:=fun _=>by kernel_rfl,z222:=fun _=>by kernel_rfl,v222:=fun _=>by kernel_rfl,t228:=by kernel_rfl,a228:=fun _=>by kernel_rfl,z228:=fun _=>by kernel_rfl,v228:=fun _=>by kernel_rfl,t229:=by kernel_rfl,a229:=fun _=>by kernel_rfl,z229:=fun _=>by kernel_rfl,v229:=fun _=>by kernel_rfl }
end Go.Proofs.YtdhhdplholkmdaaGreat
namespace Go.Proofs.YtdhhdplholkmdaaGreat
open Go.RowKit Go.Shelf
def Y4 (n:Nat) (f:Nat→Nat):Array Value:=((List.range n).map fun k=>Value.int .i64 (f k:Int)).toArray
theorem Un {n k:Nat} (f:Nat→Nat) (h:k<n):(Y4 n f)[k]?=some (.int .i64 (f k:Int)):=by simp [Y4,h]
theorem UA {n:Nat} {f g:Nat→Nat} (h:∀ i,i<n→f i=g i):Y4 n f=Y4 n g:=by
 unfold Y4
 congr 1
 exact List.map_congr_left fun i hi=>by rw [h i (List.mem_range.1 hi)]
theorem Kv {n:Nat} (f:Nat→Nat) (k v:Nat):(Y4 n f).setIfInBounds k (.int .i64 (v:Int))=Y4 n (zk f k v):=by
 apply Array.ext
 ·simp [Y4]
 ·intro i h1 h2
  simp [Y4] at h1 h2
  rw [Array.getElem_setIfInBounds (by simpa [Y4] using h1)]
  simp only [Y4,zk]
  split
  ·subst_vars;simp
  ·rename_i hne
   simp [show ¬i=k from fun e=>hne e.symm]
def Xe (l:List Nat):List Int:=l.map fun n:Nat=>(n:Int)
theorem jZ {n:Nat} {l:List Nat} (h:l.length=n):Y4 n (fun k=>l.getD k 0)=(I64 (Xe l)).toArray:=by
 subst h
 unfold Y4 I64 Xe
 congr 1
 rw [List.map_map]
 refine List.ext_getElem (by simp) fun i h1 h2=>?_
 simp at h1
 simp [List.getD_eq_getElem?_getD,h1]
theorem zA6:(Tryz.prog.info? 3).map (fun i=>(i.zero,i.size,i.bytes))=some (some (.int .i64 0),1,8):=by kernel_rfl
theorem GT:JG Tryz.prog 47 3 1 8 (.int .i64 0):=by
 obtain ⟨i0,hi,hz0,hz1,hz2⟩:=info_parts zA6
 exact ⟨Tryz.underlying47,⟨i0,hi,hz0,hz1,hz2⟩,rfl,by omega⟩
theorem zBk (n:Nat):madeCells (Value.int .i64 0).cells (n*1)=Y4 n fun _=>0:=by
 apply Array.toList_inj.1
 rw [show (Value.int .i64 0).cells=#[.int .i64 0] from rfl,toList_madeCells_one]
 exact List.ext_getElem (by simp [Y4]) fun i h1 h2=>by simp [Y4]
theorem zE6 (n:Nat) (hn:n≤1000000) (w:World) :
  (Instr.makeSlice 47 (.int .i64 (n:Int)) (.int .i64 (n:Int))).run Tryz.prog w= .ok (.slice (some ⟨w.heap.size,0,none⟩) n n) (w.alloc (.cells (Y4 n fun _=>0) 3)):=by
 have:=mk_n (P:=Tryz.prog) GT n (by omega) (by omega) w
 rw [zBk] at this
 exact this
set_option maxRecDepth 100000 in
set_option maxHeartbeats 1000000 in
theorem kJ (ad:Addr) (n c:Nat) (l:List Int) (w:World) (hr:Rd w 1 (some ad) n (I64 l)) (hn:n≤60000) :
  Calls Tryz.prog 198 #[.slice (some ad) n c] w fun e w'=>∃ g d,e= .returned (.slice (some ⟨g,0,none⟩) n d)∧w.heap.size≤g∧w'.ownsRow w.heap.size 3 1 (.slice (some ⟨g,0,none⟩) n d) n (I64 l)∧Below w.heap.size w w':=by
 have hnil:=fun (w:World) (a:Option Addr) (n c:Nat)=>Lib.run_eql_slice_nil (P:=Tryz.prog) w 47 3 a n c 0 0 Tryz.underlying47
 have gl:(n:Int)≤60000:=by omega
 have hal:=(Below.refl w.heap.size w).alloc (Nat.le_refl _) (.cells #[] 3)
 go_enter Tryz.func198,Tryz.ntmps198
 go_wp2_with (at_builtin;refine ZW rfl _ _ rfl GT rfl (Us w 3 (Nat.le_refl _)) rfl (hr.alloc _) (yT l) (by omega) (by simp) ?_)
 intro v' wn hown' hgrow hblk
 have hB:=YD (Us w 3 (Nat.le_refl _)) hgrow (by simp)
 have hB2:=hal.trans hB
 rcases hown'.2 with ⟨rfl,h0⟩ | ⟨g,cap,cur,rfl,hgb,-⟩
 ·rcases hblk with h | h <;> simp [Value.ownBlock] at h
 ·go_wp2
  go_ret
  exact ⟨g,cap,rfl,hgb,hown',hB2⟩
theorem zCi {w:World} {base g n d:Nat} {l:List Int} (ho:w.ownsRow base 3 1 (.slice (some ⟨g,0,none⟩) n d) n (I64 l)) (hn:n≤60000) :
  Calls Tryz.prog 199 #[.slice (some ⟨g,0,none⟩) n d] w fun e w'=>e= .returned (.tuple #[])∧w'.ownsRow base 3 1 (.slice (some ⟨g,0,none⟩) n d) n (I64 (l.mergeSort fun x y=>decide (x≤y)))∧w.grownBy w' (some g):=by
 have hlen:l.length=n:=by have:=ho.1;rw [zAp] at this;omega
 subst hlen
 rcases ho.2 with ⟨h0,-⟩ | ⟨g',cap,cur,hv,hgb,hh,h1,h2,h3,h4⟩
 ·cases h0
 ·injection hv with e1 e2 e3
  injection e1 with e1
  injection e1 with e1
  subst e1 e3
  have hH:=holds_of_blockI hh (by rw [Nat.mul_one] at h4;exact h4)
  refine (Any.slices_Sort_int zE9 g 0 d l w hH (Array.getElem?_eq_some_iff.1 hh).1 (by omega)).mono ?_
  rintro e w' ⟨he,nn,os,rfl⟩
  exact ⟨he,ownsRow_sortedI (List.length_mergeSort l) hgb hh h1 h2 h3,grownBy_sortedI _⟩
theorem zEp (l:List Nat):(Xe l).mergeSort (fun x y=>decide (x≤y))=Xe (l.mergeSort fun x y=>decide (x≤y)):=by
 unfold Xe
 exact (List.map_mergeSort (fun a _ b _=>by simp)).symm
end Go.Proofs.YtdhhdplholkmdaaGreat
namespace Go.Proofs.YtdhhdplholkmdaaGreat
open Go.RowKit
def Xa (n:Nat) (f:Nat→Bool):Array Value:=((List.range n).map fun k=>Value.bool (f k)).toArray
theorem Gr {n k:Nat} (f:Nat→Bool) (h:k<n):(Xa n f)[k]?=some (.bool (f k)):=by simp [Xa,h]
theorem KI {n:Nat} {f g:Nat→Bool} (h:∀ i,i<n→f i=g i):Xa n f=Xa n g:=by
 unfold Xa
 congr 1
 exact List.map_congr_left fun i hi=>by rw [h i (List.mem_range.1 hi)]
theorem kd {n:Nat} (f:Nat→Bool) (k:Nat) (v:Bool):(Xa n f).setIfInBounds k (.bool v)=Xa n (fun i=>if i=k then v else f i):=by
 apply Array.ext
 ·simp [Xa]
 ·intro i h1 h2
  simp [Xa] at h1 h2
  rw [Array.getElem_setIfInBounds (by simpa [Xa] using h1)]
  simp only [Xa]
  split
  ·subst_vars;simp
  ·rename_i hne
   simp [show ¬i=k from fun e=>hne e.symm]
theorem ky:(Tryz.prog.info? 4).map (fun i=>(i.zero,i.size,i.bytes))=some (some (.bool false),1,1):=by kernel_rfl
theorem zFf:JG Tryz.prog 213 4 1 1 (.bool false):=by
 obtain ⟨i0,hi,hz0,hz1,hz2⟩:=info_parts ky
 exact ⟨Tryz.underlying213,⟨i0,hi,hz0,hz1,hz2⟩,rfl,by omega⟩
theorem jS (n:Nat):madeCells (Value.bool false).cells (n*1)=Xa n fun _=>false:=by
 apply Array.toList_inj.1
 rw [show (Value.bool false).cells=#[.bool false] from rfl,toList_madeCells_one]
 exact List.ext_getElem (by simp [Xa]) fun i h1 h2=>by simp [Xa]
theorem zCn (n:Nat) (hn:n≤1000000) (w:World) :
  (Instr.makeSlice 213 (.int .i64 (n:Int)) (.int .i64 (n:Int))).run Tryz.prog w= .ok (.slice (some ⟨w.heap.size,0,none⟩) n n) (w.alloc (.cells (Xa n fun _=>false) 4)):=by
 have:=mk_n (P:=Tryz.prog) zFf n (by omega) (by omega) w
 rw [jS] at this
 exact this
end Go.Proofs.YtdhhdplholkmdaaGreat
namespace Go.Proofs.YtdhhdplholkmdaaGreat
open Go.RowKit Go.Maps
theorem zCg {n i j:Nat} {l:List Nat} (hl:l.length=n) (hi:i<n) (hj:j<n):Y4 n (zk (zk (fun k=>l.getD k 0) i (l.getD j 0)) j (l.getD i 0))=Y4 n (fun k=>(VQ l i j).getD k 0):=UA fun k hk=>by
 unfold zk VQ
 simp only [List.getD_eq_getElem?_getD]
 rw [List.getElem?_set,List.getElem?_set]
 by_cases h1:k=j
 ·subst h1
  simp [hl,hk]
 ·have h1':¬j=k:=fun e=>h1 e.symm
  by_cases h2:k=i
  ·subst h2
   simp [h1,h1',hl,hk]
  ·have h2':¬i=k:=fun e=>h2 e.symm
   simp [h1,h1',h2,h2']
theorem zFa {w:World} {g n:Nat} {t:TypeId} {xs:List Value} (k:Blk w g t xs.toArray) (h:xs.length=n):Rd w 1 (some ⟨g,0,none⟩) n xs:=by
 refine ⟨by omega,fun _=>⟨_,rfl,fun j u hj=>?_⟩⟩
 have hk:=k.cell j
 rw [List.getElem?_toArray,hj] at hk
 by_cases h0:j=0
 ·subst h0;exact hk
 ·simp only [Addr.add,h0,if_false];simpa using hk
theorem zD4 {O:Orc} (h:K5 O) (s c i:Nat):Vt O s c i<YR:=VO (zEj h _ _) _ _
set_option maxRecDepth 100000 in
set_option maxHeartbeats 2000000 in
theorem zI {w:World} {g:Nat} {O:Orc} {F:Nat→Prop} (h:OrcAt w g O F) (st ct n count:Nat) (hn:n≤1024) (hcn:count≤n) (hst:st<18446744073709551616) (hct:ct<1000000) (hO:YX O 900000) :
  Calls Tryz.prog 119 #[.pointer (some ⟨g,0,none⟩), .agg #[.int .u64 (st:Int), .int .u64 (ct:Int)], .int .i64 (n:Int), .int .i64 (count:Int)] w fun e w'=>∃ gr d F',e= .returned (.tuple #[.slice (some ⟨gr,0,none⟩) count d, .agg #[.int .u64 (st:Int), .int .u64 ((ct+count:Nat):Int)]]) ∧
   OrcAt w' g (Jr O 19 (Vu st ct count)) F'∧Moved F F' w w'∧w'.ownsRow w.heap.size 3 1 (.slice (some ⟨gr,0,none⟩) count d) count (I64 (Xe (jy O st ct n count)))∧¬F' gr:=by
 obtain ⟨kx,kr,hb0,hsz⟩:=Xn w 120 120 #[.int .u64 (st:Int), .int .u64 (ct:Int)] #[.int .u64 0, .int .u64 0]
 have H:=Lib.hid h
 have HO:=Lib.hid hO
 have HST:=Lib.hid hst
 have HCT:=Lib.hid hct
 have d1:¬((count:Int)<0):=by omega
 have d1':decide ((count:Int)<0)=false:=decide_eq_false d1
 have d2:¬((n:Int)<(count:Int)):=by omega
 have d2':decide ((n:Int)<(count:Int))=false:=decide_eq_false d2
 have d2n:¬(n<count):=by omega
 have d2n':decide (n<count)=false:=decide_eq_false d2n
 have d3:¬((1024:Int)<(n:Int)):=by omega
 have d3':decide ((1024:Int)<(n:Int))=false:=decide_eq_false d3
 have d3n':decide (1024<n)=false:=decide_eq_false (by omega)
 have hmk:=fun w=>zE6 n (by omega) w
 obtain ⟨zc,hzc⟩:∃ zc,zc=Y4 n fun _=>0:=⟨_,rfl⟩
 rw [←hzc] at hmk
 have HZC:=Lib.hid hzc
 have nF:∀ b,w.heap.size≤b→¬F b:=fun b hb hf=>by have:=H.out.lt b hf;omega
 clear h hO hst hct hzc hsz
 go_enter Tryz.func119,Tryz.ntmps119
 go_upto_region 3 with fail
 generalize (w.alloc _).alloc _=w1 at kx kr hb0 ⊢
 go_wp2_with fail
 have hal:=(Below.refl w1.heap.size w1).alloc (Nat.le_refl _) (.cells zc 3)
 have kl:=Blk.new w1 3 zc
 have lxr:w.heap.size+1<w1.heap.size:=kr.lt
 replace kx:=kx.below hal kx.lt
 replace kr:=kr.below hal kr.lt
 replace hb0:=Za hb0 hal
 generalize w1.alloc _=w2 at kl kx kr hb0 ⊢
 generalize w1.heap.size=gl at kl lxr ⊢
 obtain ⟨gx,hgx⟩:∃ gx,gx=w.heap.size:=⟨_,rfl⟩
 obtain ⟨gr,hgr⟩:∃ gr,gr=w.heap.size+1:=⟨_,rfl⟩
 rw [←hgr] at kr lxr ⊢
 rw [←hgx] at kx ⊢
 have HGX:=Lib.hid hgx
 have HGR:=Lib.hid hgr
 have hxr:gx≠gr:=by omega
 have hxl:gx≠gl:=by omega
 have hrl:gr≠gl:=by omega
 have h2:=H.out.below hb0
 have m2:Moved F F w w2:=Zp hb0
 have HX:=Lib.hid (show w.heap.size≤gx∧w.heap.size≤gr∧w.heap.size≤gl by omega)
 rw [HZC.out,show Y4 n (fun _=>0)=Y4 n (fun k=>if k<0 then k else 0) from UA fun i _=>by rw [if_neg (by omega)]] at kl
 clear hal hmk hgx hgr hb0
 go_loopw [32] (fun y wr=>∃ i:Nat,i≤n∧y= .int .i64 (i:Int)∧OrcAt wr g O F∧Moved F F w wr∧Blk wr gx 120 #[.int .u64 (st:Int), .int .u64 (ct:Int)]∧Blk wr gr 120 #[.int .u64 0, .int .u64 0]∧Blk wr gl 3 (Y4 n fun k=>if k<i then k else 0)) (fun y _=>n-(intOf y).toNat)
 case atStart=>exact ⟨0,Nat.zero_le _,rfl,h2,m2,kx,kr,kl⟩
 case round =>
  clear h2 m2 kx kr kl
  obtain ⟨i,hi,rfl,h1,m1,kx,kr,kl⟩:=hrel
  by_cases hlt:i<n
  ·have g1:(0:Int)≤(i:Int):=by omega
   have g2:(i:Int)<(n:Int):=by omega
   have hcl:wr.cell? ⟨gl,i,none⟩=some (.int .i64 0):=(kl.cell i).trans ((Un _ hlt).trans (by simp))
   have hfl:=kl.frozen
   have HLT:=Lib.hid hlt
   have H1:=Lib.hid h1
   have M1:=Lib.hid m1
   have KX:=Lib.hid kx
   have KR:=Lib.hid kr
   have KL:=Lib.hid kl
   clear hlt h1 m1 kx kr kl
   go_wp2
   go_roundw
   case rel =>
    refine ⟨i+1,by have:=HLT.out;omega,by go_num,H1.out.set (nF gl HX.out.2.2) _,Zy M1.out HX.out.2.2 _ _,KX.out.far (p:=⟨gl,i,none⟩) hxl _,KR.out.far (p:=⟨gl,i,none⟩) hrl _,?_⟩
    have:=KL.out.set_ i (.int .i64 (i:Int))
    rw [Kv] at this
    rw [show Y4 n (fun k=>if k<i+1 then k else 0)=Y4 n (zk (fun k=>if k<i then k else 0) i i) from UA fun k _=>by
     unfold zk
     by_cases e1:k=i
     ·subst e1;rw [if_pos rfl,if_pos (by omega)]
     ·rw [if_neg e1]
      by_cases e2:k<i
      ·simp [e2,show k<i+1 by omega]
      ·simp [e2,show ¬k<i+1 by omega]]
    exact this
   case measure=>have:=HLT.out;simp [intOf];omega
  ·have e1:n=i:=by omega
   subst e1
   clear hlt hi
   have hf0:Y4 n (fun k=>if k<n then k else 0)=Y4 n (fun k=>(ZS (Vt O st ct) n 0).getD k 0):=UA fun k hk=>by simp [ZS,List.getD_eq_getElem?_getD,hk]
   rw [hf0] at kl
   have hO0:Jr O 19 (Vu st ct 0)=O:=rfl
   have HLen:=Lib.hid (fun i=>Ym (Vt O st ct) n i)
   have HCA:=Lib.hid (fun i=>zD4 (O:=O) H.out.ok.ans st ct i)
   have nF3:=Lib.hid (show ¬F gx∧¬F gr∧¬F gl from ⟨nF gx HX.out.1,nF gr HX.out.2.1,nF gl HX.out.2.2⟩)
   go_wp2_with fail
   go_loopw [41] (fun y wr=>∃ (i:Nat) (F1:Nat→Prop),i≤count∧y= .int .i64 (i:Int)∧OrcAt wr g (Jr O 19 (Vu st ct i)) F1∧Moved F F1 w wr∧Blk wr gx 120 #[.int .u64 (st:Int), .int .u64 ((ct+i:Nat):Int)]∧Blk wr gr 120 #[.int .u64 0, .int .u64 0] ∧
    Blk wr gl 3 (Y4 n fun k=>(ZS (Vt O st ct) n i).getD k 0)∧¬F1 gx∧¬F1 gr∧¬F1 gl) (fun y _=>count-(intOf y).toNat)
   case atStart=>exact ⟨0,F,Nat.zero_le _,rfl,h1,m1,kx,kr,kl,nF3.out⟩
   case round =>
    clear h1 m1 kx kr kl
    obtain ⟨i,F1,hi,rfl,h1,m1,kx,kr,kl,n1,n2,n3⟩:=hrel
    by_cases hlt:i<count
    ·have g1:(0:Int)≤(i:Int):=by omega
     have g2:(i:Int)<(count:Int):=by omega
     have LE1:=Lib.hid (Yn (z8 (lab:=19) (Vu st ct i) HO.out) (show 900000+(Vu st ct i).length≤1000000 by rw [zBn];omega))
     have CH:=Lib.hid (US h1 st (ct+i) YR (by decide) (by decide) HST.out (by have:=HCT.out;omega) LE1.out)
     obtain ⟨cv,hcv⟩:∃ cv,cv=Vt O st ct i:=⟨_,rfl⟩
     have hcv2:Yl (Jr O 19 (Vu st ct i)) 19 [st,ct+i]%YR=cv:=by rw [hcv];exact Nat.mod_eq_of_lt (HCA.out i)
     have hcq:cv<YR:=by rw [hcv];exact HCA.out i
     rw [hcv2,←zC] at CH
     obtain ⟨c1,hc1⟩:∃ c1,c1=ct+i:=⟨_,rfl⟩
     rw [←hc1] at CH kx
     have HC1:=Lib.hid hc1
     have HCV:=Lib.hid hcv
     have HCQ:=Lib.hid hcq
     have hcx:=kx.cell
     obtain ⟨m,hm⟩:∃ m,m=n-i:=⟨_,rfl⟩
     have hm0:0<m:=by omega
     obtain ⟨r,hr⟩:∃ r,r=cv%m:=⟨_,rfl⟩
     have hrm:r<m:=by rw [hr];exact Nat.mod_lt _ hm0
     obtain ⟨j,hj⟩:∃ j,j=i+r:=⟨_,rfl⟩
     have hjn:j<n:=by omega
     have e1:IntKind.i64.wrap ((n:Int)-(i:Int))=(m:Int):=by rw [IntKind.wrap_i64];omega
     have e2:IntKind.u64.wrap (m:Int)=(m:Int):=by rw [IntKind.wrap_u64];omega
     have e3:(cv:Int).tmod (m:Int)=(r:Int):=by rw [Int.tmod_eq_emod_of_nonneg (by omega),hr];exact (Int.natCast_emod cv m).symm
     have e4:IntKind.i64.wrap (r:Int)=(r:Int):=by rw [IntKind.wrap_i64];omega
     have e5:IntKind.i64.wrap ((i:Int)+(r:Int))=(j:Int):=by rw [IntKind.wrap_i64];omega
     have e0:¬(m=0):=by omega
     have e0':((m:Int) == 0)=false:=by rw [beq_eq_false_iff_ne];omega
     have HSTEP:=Lib.hid (show ZS (Vt O st ct) n (i+1)=VQ (ZS (Vt O st ct) n i) i j by rw [ZS,←hcv,←hm,←hr,←hj])
     have g3:(0:Int)≤(j:Int):=by omega
     have g4:(j:Int)<(n:Int):=by omega
     have g5:(i:Int)<(n:Int):=by omega
     have HLT:=Lib.hid hlt
     have HJN:=Lib.hid hjn
     have KX:=Lib.hid kx
     have KR:=Lib.hid kr
     have KL:=Lib.hid kl
     have M1:=Lib.hid m1
     have hin:i<n:=by omega
     have HIN:=Lib.hid hin
     clear hc1 hcv hcq hcv2 hm hr hj hrm hm0 hjn hlt kr kl m1 h1 hin
     unfold YR at CH
     go_wp2_with fail
     refine CH.out.mono ?_
     rintro _ w3 ⟨rfl,F2,h3,m3⟩
     have kx3:=KX.out.moved m3 n1
     have kr3:=KR.out.moved m3 n2
     have kl3:=KL.out.moved m3 n3
     have n1':=Yu m3 KX.out.lt n1
     have n2':=Yu m3 KR.out.lt n2
     have n3':=Yu m3 KL.out.lt n3
     have hs:=UQ (gr:=gx) (x:=.int .u64 (st:Int)) (y:=.int .u64 ((c1+1:Nat):Int)) (M1.out.trans m3) HX.out.1 h3 n1' kx3
     have kr4:=(kr3.far (p:=⟨gx,0,none⟩) (fun e=>hxr e.symm) (.int .u64 (st:Int))).far (p:=⟨gx,1,none⟩) (fun e=>hxr e.symm) (.int .u64 ((c1+1:Nat):Int))
     have kl4:=(kl3.far (p:=⟨gx,0,none⟩) (fun e=>hxl e.symm) (.int .u64 (st:Int))).far (p:=⟨gx,1,none⟩) (fun e=>hxl e.symm) (.int .u64 ((c1+1:Nat):Int))
     have hf3:=kx3.frozen
     have hc3:=kx3.cell
     clear h3 m3 kr3 kl3 CH hcx
     obtain ⟨c2,hc2⟩:∃ c2,c2=c1+1:=⟨_,rfl⟩
     rw [←hc2] at hs kr4 kl4 ⊢
     have HC2:=Lib.hid hc2
     clear hc2
     go_upto_region 14 with fail
     obtain ⟨s1,s2,s3⟩:=hs
     generalize (w3.setCell _ _).setCell _ _=w4 at s1 s2 s3 kr4 kl4 ⊢
     clear hf3 hc3 kx3
     obtain ⟨L,hL⟩:∃ L,L=ZS (Vt O st ct) n i:=⟨_,rfl⟩
     rw [←hL] at kl4 HSTEP
     have HLL:=Lib.hid (show L.length=n by rw [hL];exact HLen.out i)
     have hci:w4.cell? ⟨gl,i,none⟩=some (.int .i64 ((L.getD i 0:Nat):Int)):=(kl4.cell i).trans (Un _ HIN.out)
     have hcj:w4.cell? ⟨gl,j,none⟩=some (.int .i64 ((L.getD j 0:Nat):Int)):=(kl4.cell j).trans (Un _ HJN.out)
     have hgl4:=kl4.lt
     have HSW:=Lib.hid (zCg HLL.out HIN.out HJN.out)
     have S1:=Lib.hid s1
     have S2:=Lib.hid s2
     have S3:=Lib.hid s3
     have KR4:=Lib.hid kr4
     have KL4:=Lib.hid kl4
     obtain ⟨xi,hxi⟩:∃ xi,xi=L.getD i 0:=⟨_,rfl⟩
     obtain ⟨xj,hxj⟩:∃ xj,xj=L.getD j 0:=⟨_,rfl⟩
     rw [←hxi] at hci HSW
     rw [←hxj] at hcj HSW
     clear s1 s2 s3 kr4 kl4 hL hxi hxj
     go_wp2_with fail
     refine yt (Yj) [13,15] [13] [2,3,8,9,10] [0,1,2,3,4,5,6,7,8,9,10,11,12,13,14,15] (by kernel_rfl) (by kernel_rfl) ?_
     refine GV (later_moves) ?_
     intro Wc HWc hacc
     have T1:=Lib.hid (show OrcAt Wc g (Jr O 19 (Vu st ct (i+1))) F2 by rw [HWc.out];exact S1.out.drew)
     have T2:=Lib.hid (show Moved F F2 w Wc by rw [HWc.out];exact YF S2.out)
     have T3:=Lib.hid (S3.out.drew)
     have T4:=Lib.hid (KR4.out.drew)
     have T5:=Lib.hid (KL4.out.drew)
     rw [←HWc.out] at T3 T4 T5
     clear HWc
     repeat (first | (refine J9 (later_moves) rfl rfl rfl (fun _ _ _ h=>h) ?_;simp only [Act.put,zLa,zLb,zLc]) | (refine Jm (v:=?_) (later_moves) rfl rfl rfl rfl (fun _ _ _ h=>h) ?_ ?_;rotate_left;(· (intro w' hR;(first | have hcells:=Zd ((later_moves).trans _ _ _ hacc (hR rfl)) | skip);clear hR;go_simp;try with_reducible rfl));simp only [Act.put,zLa,zLb,zLc]) | (refine JZ (v:=?_) (later_moves) rfl rfl rfl (fun _ _ _ h=>h) ?_ ?_;rotate_left;(· (intro w';go_simp;try with_reducible rfl));simp only [Act.put,zLa,zLb,zLc]))
     refine Jn (later_moves) rfl rfl rfl ?_
     have hfw:=T5.out.frozen
     have hci2:Wc.cell? ⟨gl,i,none⟩=_:=(T5.out.cell i).trans (Un _ HIN.out)
     clear hci hcj hacc
     go_simp
     refine ⟨fun h=>Bool.noConfusion h,?_⟩
     have k5:=T5.out.set_ i (.int .i64 (xj:Int))
     rw [Kv] at k5
     have o5:=T1.out.set (x:=gl) (i:=i) n3' (.int .i64 (xj:Int))
     have m5:=Zy T2.out HX.out.2.2 i (.int .i64 (xj:Int))
     have x5:=T3.out.far (p:=⟨gl,i,none⟩) hxl (.int .i64 (xj:Int))
     have r5:=T4.out.far (p:=⟨gl,i,none⟩) hrl (.int .i64 (xj:Int))
     try simp only [Act.put,zLa,zLb,zLc]
     generalize Wc.setCell _ _=w6 at k5 o5 m5 x5 r5 ⊢
     clear hfw hci2 T1 T2 T3 T4 T5
     have hacc:=later_moves.refl w6
     have hf6:=k5.frozen
     have hc6:w6.cell? ⟨gl,j,none⟩=_:=(k5.cell j).trans (Un _ HJN.out)
     repeat (first | (refine J9 (later_moves) rfl rfl rfl (fun _ _ _ h=>h) ?_;simp only [Act.put,zLa,zLb,zLc]) | (refine Jm (v:=?_) (later_moves) rfl rfl rfl rfl (fun _ _ _ h=>h) ?_ ?_;rotate_left;(· (intro w' hR;(first | have hcells:=Zd ((later_moves).trans _ _ _ hacc (hR rfl)) | skip);clear hR;go_simp;try with_reducible rfl));simp only [Act.put,zLa,zLb,zLc]) | (refine JZ (v:=?_) (later_moves) rfl rfl rfl (fun _ _ _ h=>h) ?_ ?_;rotate_left;(· (intro w';go_simp;try with_reducible rfl));simp only [Act.put,zLa,zLb,zLc]))
     refine Jn (later_moves) rfl rfl rfl ?_
     go_simp
     refine ⟨fun h=>Bool.noConfusion h,?_⟩
     have k6:=k5.set_ j (.int .i64 (xi:Int))
     rw [Kv,HSW.out,←HSTEP.out] at k6
     have o6:=o5.set (x:=gl) (i:=j) n3' (.int .i64 (xi:Int))
     have m6:=Zy m5 HX.out.2.2 j (.int .i64 (xi:Int))
     have x6:=x5.far (p:=⟨gl,j,none⟩) hxl (.int .i64 (xi:Int))
     have r6:=r5.far (p:=⟨gl,j,none⟩) hrl (.int .i64 (xi:Int))
     try simp only [Act.put,zLa,zLb,zLc]
     generalize w6.setCell _ _=w7 at k6 o6 m6 x6 r6 ⊢
     refine jI ?_
     clear k5 o5 m5 x5 r5 hf6 hc6 hacc
     go_wp2
     go_roundw
     case rel=>exact ⟨i+1,F2,by have:=HLT.out;omega,by go_num,o6,m6,by rw [show ct+(i+1)=c2 by rw [HC2.out,HC1.out];omega];exact x6,r6,k6,n1',n2',n3'⟩
     case measure=>have:=HLT.out;simp [intOf];omega
    ·have e1:count=i:=by omega
     subst e1
     obtain ⟨cc,hcc⟩:∃ cc,cc=ct+count:=⟨_,rfl⟩
     rw [←hcc] at kx
     have HCC:=Lib.hid hcc
     clear hcc
     have kl2:Blk wr gl 3 (I64 (Xe (ZS (Vt O st ct) n count))).toArray:=by rw [←jZ (HLen.out count)];exact kl
     have hrd:=zFa kl2 (show (I64 (Xe (ZS (Vt O st ct) n count))).length=n by rw [zAp];unfold Xe;rw [List.length_map];exact HLen.out count)
     have hrt:=hrd.take hcn
     rw [Nat.mul_one,show (I64 (Xe (ZS (Vt O st ct) n count))).take count=I64 (Xe ((ZS (Vt O st ct) n count).take count)) by simp [I64,Xe,List.map_take]] at hrt
     have hcut:∀ w,(Instr.slice 47 (.slice (some ⟨gl,0,none⟩) n n) none (some (.int .i64 (count:Int))) none).run Tryz.prog w= .ok (.slice (some ⟨gl,0,none⟩) count n) w:=fun w=>kE GT _ n n count hcn
     have CL:=Lib.hid (kJ ⟨gl,0,none⟩ count n _ wr hrt (by omega))
     have HPR:=Lib.hid (show jy O st ct n count=((ZS (Vt O st ct) n count).take count).mergeSort fun x y=>decide (x≤y) from rfl)
     have hgc:(0:Int)≤(count:Int):=by omega
     have hgn:(count:Int)≤(n:Int):=by omega
     have H1:=Lib.hid h1
     have M1:=Lib.hid m1
     have KX:=Lib.hid kx
     have KR:=Lib.hid kr
     clear kl kl2 hrd hrt h1 m1 kx kr hlt hi
     go_wp2_with fail
     refine CL.out.mono ?_
     rintro _ w3 ⟨g2,d,rfl,hg2,hown,hb3⟩
     have SO:=Lib.hid (zCi hown (by omega))
     have hg2l:=(hown.lt g2 rfl).2
     clear hown
     go_wp2_with fail
     refine SO.out.mono ?_
     rintro _ w4 ⟨rfl,hown,hg4⟩
     have hx1:gx<wr.heap.size:=KX.out.lt
     have hr1:gr<wr.heap.size:=KR.out.lt
     have kx4:=(KX.out.below hb3 hx1).grown hg4 (fun e=>by have:=Option.some.inj e;omega)
     have kr4:=(KR.out.below hb3 hr1).grown hg4 (fun e=>by have:=Option.some.inj e;omega)
     have m4:=zCf (M1.out.trans (Zp (F:=F1) hb3)) hg4 (fun b hb=>by rw [←Option.some.inj hb];have:=M1.out.size;omega)
     have h4:=(H1.out.below hb3).keep hg4.size fun b hb=>hg4.block b (by have:=H1.out.lt b hb;have:=hb3.size;omega) (fun e=>by have:=Option.some.inj e;have:=H1.out.lt b hb;omega)
     have nG2:¬F1 g2:=fun e=>by have:=H1.out.lt _ e;omega
     rw [zEp,←HPR.out] at hown
     have hcx:=kx4.cell
     have hlx:=kx4.lt
     have HOWN:=Lib.hid hown
     have H4:=Lib.hid h4
     have M4:=Lib.hid m4
     have hwr:w.heap.size≤wr.heap.size:=M1.out.size
     clear hown h4 m4 hg4 hb3 CL SO hcut
     go_wp2_with fail
     refine Zx (Vg gr) [3] [0,1,2,3] (by kernel_rfl) (by kernel_rfl) ?_
     refine ZY (Zc gr) ?_
     intro Wc HWc hacc
     have k5:Blk Wc gr 120 #[.int .u64 0, .int .u64 0]:=by rw [HWc.out];exact kr4.drew
     have h5:=UQ (x:=.int .u64 (st:Int)) (y:=.int .u64 (cc:Int)) (show Moved F F1 w Wc by rw [HWc.out];exact YF M4.out) HX.out.2.1 (show OrcAt Wc g (Jr O 19 (Vu st ct count)) F1 by rw [HWc.out];exact H4.out.drew) n2 k5
     have OWN5:=Lib.hid (show Wc.ownsRow wr.heap.size 3 1 (.slice (some ⟨g2,0,none⟩) count d) count (I64 (Xe (jy O st ct n count))) by rw [HWc.out];exact ZT HOWN.out fun _ _=>rfl)
     have hf5:=k5.frozen
     have hc5:=k5.cell
     clear HWc
     repeat (first | (refine Zh (Zc gr) rfl rfl (fun _ _ _ h=>h) ?_;simp only [Act.put,zLa,zLb,zLc]) | (refine Ze (v:=?_) (Zc gr) rfl rfl (fun _ _ _ h=>h) ?_ ?_;rotate_left;(· (intro w' hR;(first | have hcells:=ZI ((Zc gr).trans _ _ _ hacc hR) | skip);go_simp;try with_reducible rfl));simp only [Act.put,zLa,zLb,zLc]))
     refine Zs (Zc gr) rfl rfl rfl ?_
     go_simp
     refine ⟨Jl Wc gr 0 1 (.int .u64 (st:Int)) (.int .u64 (cc:Int)),?_⟩
     obtain ⟨s1,s2,s3⟩:=h5
     have OWN6:=Lib.hid (Vv (ZT (u:=(Wc.setCell ⟨gr,0,none⟩ (.int .u64 (st:Int))).setCell ⟨gr,1,none⟩ (.int .u64 (cc:Int))) OWN5.out fun b hb=>(Below.heap_setCell _ ⟨gr,1,none⟩ _ b (fun e=>by have:=(OWN5.out.lt b hb).1;simp at e;omega)).trans (Below.heap_setCell Wc ⟨gr,0,none⟩ _ b (fun e=>by have:=(OWN5.out.lt b hb).1;simp at e;omega))) hwr)
     try simp only [Act.put,zLa,zLb,zLc]
     generalize (Wc.setCell _ _).setCell _ _=w6 at s1 s2 s3 OWN6 ⊢
     refine Zt ?_
     have c0:=s3.cell 0
     have c2:=s3.cell 1
     have DONE:=Lib.hid (And.intro s1 (And.intro s2 (And.intro OWN6.out nG2)))
     go_wp2
     refine bodyPost_ret (v:=.tuple #[.slice (some ⟨g2,0,none⟩) count d, .agg #[.int .u64 (st:Int), .int .u64 (cc:Int)]]) (by simp [results,Tryz.results119,go_sem,c0,c2]) rfl ?_
     obtain ⟨d1,d2,d3,d4⟩:=DONE.out
     exact ⟨g2,d,F1,by rw [HCC.out],d1,d2,d3,d4⟩
end Go.Proofs.YtdhhdplholkmdaaGreat
namespace Go.Proofs.YtdhhdplholkmdaaGreat
def Cg (p:Nat) (x y:Int):Prop:=(p:Int)∣x-y
theorem Cg.symm {p:Nat} {x y:Int} (h:Cg p x y):Cg p y x:=by
 obtain ⟨c,hc⟩:=h
 exact ⟨-c,by rw [Int.mul_neg,←hc];omega⟩
theorem Cg.trans {p:Nat} {x y z:Int} (h:Cg p x y) (h2:Cg p y z):Cg p x z:=by
 obtain ⟨c,hc⟩:=h
 obtain ⟨d,hd⟩:=h2
 exact ⟨c+d,by rw [Int.mul_add,←hc,←hd];omega⟩
theorem Cg.add {p:Nat} {x y u v:Int} (h:Cg p x y) (h2:Cg p u v):Cg p (x+u) (y+v):=by
 obtain ⟨c,hc⟩:=h
 obtain ⟨d,hd⟩:=h2
 exact ⟨c+d,by rw [Int.mul_add,←hc,←hd];omega⟩
theorem Cg.eq {p a b:Nat} (h:Cg p (a:Int) (b:Int)) (ha:a<p) (hb:b<p):a=b:=by
 obtain ⟨c,hc⟩:=h
 rcases Int.lt_trichotomy c 0 with h1 | h1 | h1
 ·have:(p:Int)*c≤(p:Int)*(-1):=Int.mul_le_mul_of_nonneg_left (by omega) (by omega)
  omega
 ·subst h1;omega
 ·have:(p:Int)*1≤(p:Int)*c:=Int.mul_le_mul_of_nonneg_left (by omega) (by omega)
  omega
end Go.Proofs.YtdhhdplholkmdaaGreat
namespace Go.Proofs.YtdhhdplholkmdaaGreat
theorem zDl:∀ (n:Nat) (f:Nat→Nat),(∀ i,i<n+1→f i<n)→(∀ i j,i<n+1→j<n+1→f i=f j→i=j)→False
 | 0,f,h,_=>absurd (h 0 (by omega)) (Nat.not_lt_zero _)
 | n+1,f,h,hi=>by
  have hne:∀ i,i<n+1→f i≠f (n+1):=fun i h1 e=>by
   have:=hi i (n+1) (by omega) (by omega) e
   omega
  refine zDl n (fun i=>if f i=n then f (n+1) else f i) (fun i h1=>?_) fun i j h1 h2 e=>?_
  ·split
   ·rename_i e
    have h3:=hne i h1
    have h4:=h (n+1) (by omega)
    omega
   ·have:=h i (by omega)
    omega
  ·change (if f i=n then f (n+1) else f i)=(if f j=n then f (n+1) else f j) at e
   by_cases e1:f i=n <;> by_cases e2:f j=n
   ·exact hi i j (by omega) (by omega) (by omega)
   ·rw [if_pos e1,if_neg e2] at e
    exact absurd e.symm (hne j h2)
   ·rw [if_neg e1,if_pos e2] at e
    exact absurd e (hne i h1)
   ·rw [if_neg e1,if_neg e2] at e
    exact hi i j (by omega) (by omega) e
theorem onto {n:Nat} {f:Nat→Nat} (h:∀ i,i<n→f i<n) (hi:∀ i j,i<n→j<n→f i=f j→i=j) {y:Nat} (hy:y<n):∃ i,i<n∧f i=y:=by
 refine Classical.byContradiction fun hno=>?_
 have hne:∀ i,i<n→f i≠y:=fun i h1 e=>hno ⟨i,h1,e⟩
 obtain ⟨m,rfl⟩:∃ m,n=m+1:=⟨n-1,by omega⟩
 refine zDl m (fun i=>if f i=m then y else f i) (fun i h1=>?_) fun i j h1 h2 e=>?_
 ·split
  ·rename_i e
   have:=hne i h1
   omega
  ·have:=h i h1
   omega
 ·change (if f i=m then y else f i)=(if f j=m then y else f j) at e
  by_cases e1:f i=m <;> by_cases e2:f j=m
  ·exact hi i j h1 h2 (by omega)
  ·rw [if_pos e1,if_neg e2] at e
   exact absurd e.symm (hne j h2)
  ·rw [if_neg e1,if_pos e2] at e
   exact absurd e (hne i h1)
  ·rw [if_neg e1,if_neg e2] at e
   exact hi i j h1 h2 e
end Go.Proofs.YtdhhdplholkmdaaGreat
namespace Go.Proofs.YtdhhdplholkmdaaGreat
structure MsgOk (L:YO) (m r:List (List Nat)):Prop where
 ml:m.length=L.a+L.b+L.b+L.b
 rl:r.length=m.length
 mr:∀ x∈m,x.length=L.block
 rr:∀ x∈r,x.length=L.queries
end Go.Proofs.YtdhhdplholkmdaaGreat
namespace Go.Proofs.YtdhhdplholkmdaaGreat
def subN (p a b:Nat):Nat:=(a+negP p b)%p
def cm2 (p a b be:Nat) (f:Nat→Nat) (e:Nat):Nat→Nat
 | 0=>e
 | j+1=>subN p (cm2 p a b be f e j) (powR p be (j+1)*subN p (f (a+j)*f (a+b+j)%p) (f (a+b+b+j))%p)
end Go.Proofs.YtdhhdplholkmdaaGreat
namespace Go.Proofs.YtdhhdplholkmdaaGreat
open Go.RowKit
theorem zFb {n k:Nat} {f:Nat→Bool} (hk:k<n) (h:f k=false):(List.range n).all f=false:=by
 rw [Bool.eq_false_iff]
 intro hh
 rw [List.all_eq_true] at hh
 rw [hh k (List.mem_range.2 hk)] at h
 cases h
theorem zD0 {n:Nat} {f:Nat→Bool} (h:∀ k,k<n→f k=true):(List.range n).all f=true:=by
 rw [List.all_eq_true]
 exact fun k hk=>h k (List.mem_range.1 hk)
theorem ju {p:Nat} {n:Int} {l:List (Int × Nat)} (h:Xb p n l=true) {i:Nat} (hi:i<l.length):X0 p n l i=false:=by
 unfold Xb at h
 have h1:=List.all_eq_true.1 h i (List.mem_range.2 hi)
 simpa using h1
theorem GP {p:Nat} {n:Int} {l:List (Int × Nat)} (h:Xb p n l=true):∀ i,i<l.length→(i:Int)≤(l.getD i (0,0)).1∧(l.getD i (0,0)).1<n∧(l.getD i (0,0)).2<p
 | 0,hi=>by
  have h1:=ju h hi
  unfold X0 at h1
  simp only [Bool.or_eq_false_iff,decide_eq_false_iff_not,Bool.and_eq_false_iff] at h1
  omega
 | i+1,hi=>by
  have h1:=ju h hi
  have h2:=GP h i (by omega)
  unfold X0 at h1
  simp only [Bool.or_eq_false_iff,decide_eq_false_iff_not,Bool.and_eq_false_iff,Nat.add_sub_cancel] at h1
  omega
theorem Kw {p:Nat} {n:Int} {l:List (Int × Nat)} (h:Xb p n l=true) (hn:0≤n):(l.length:Int)≤n:=by
 by_cases hl:l.length=0
 ·omega
 ·have:=GP h (l.length-1) (by omega)
  omega
theorem Jd {p:Nat} {n:Int} {l:List (Int × Nat)} (h:Xb p n l=true):∀ t∈l,0≤t.1∧t.1<n∧t.2<p:=fun t ht=>by
 obtain ⟨i,hi,rfl⟩:=List.getElem_of_mem ht
 have:=GP h i hi
 rw [List.getD_eq_getElem?_getD,List.getElem?_eq_getElem hi] at this
 simp only [Option.getD_some] at this
 omega
theorem zy {p:Nat} {pub vars:Int} {rows:List Yb} (h:ZZ p pub vars rows=true):∀ r∈rows,Xb p vars r.a=true∧Xb p vars r.b=true∧Xb p vars r.c=true:=fun r hr=>by
 unfold ZZ at h
 rw [Bool.and_eq_true] at h
 have h1:=List.all_eq_true.1 h.2 r hr
 unfold Vb at h1
 rw [Bool.and_eq_true,Bool.and_eq_true] at h1
 exact ⟨h1.1.1,h1.1.2,h1.2⟩
theorem Um {p:Nat} {pub vars:Int} {rows:List Yb} (h:ZZ p pub vars rows=true):0≤pub∧pub<vars∧vars≤65536∧rows.length≤16384:=by
 simp only [ZZ,Bool.and_eq_true,Bool.not_eq_true',decide_eq_false_iff_not] at h
 omega
theorem K0 {p:Nat} {pub vars:Int} {rows:List Yb} (h:ZZ p pub vars rows=true):yE rows:=fun r hr=>by
 have h1:=zy h r hr
 have h2:=Um h
 have a1:=Kw h1.1 (by omega)
 have a2:=Kw h1.2.1 (by omega)
 have a3:=Kw h1.2.2 (by omega)
 omega
theorem ye:∀ (rows:List Yb),(rows.flatMap numR).length=3*rows.length+2*U4 rows
 | []=>rfl
 | r :: rows=>by
  have h1:=ye rows
  rw [List.flatMap_cons,List.length_append,h1]
  simp only [numR,zt,VG,List.length_append,List.length_cons,jx,U4,List.map_cons,List.sum_cons]
  simp
  omega
theorem xY {p:Nat} {pub vars:Int} {rows:List Yb} (h:ZZ p pub vars rows=true) (hs:Ki rows):U0 p pub vars rows where
 pl:=(Z5 (Xq h)).2
 pubI:=by have:=Um h;omega
 varI:=by have:=Um h;omega
 n:=(Um h).2.2.2
 sides:=fun r hr k hk=>by
  have h1:=K0 h r hr
  unfold VG
  split
  ·exact h1.1
  ·split
   ·exact h1.2.1
   ·exact h1.2.2
 terms:=fun r hr k hk t ht=>by
  have h1:=zy h r hr
  have h2:=Um h
  have h3:=(Z5 (Xq h)).2
  unfold VG at ht
  split at ht
  ·have:=Jd h1.1 t ht;omega
  ·split at ht
   ·have:=Jd h1.2.1 t ht;omega
   ·have:=Jd h1.2.2 t ht;omega
 len:=by
  have h1:=hs (K0 h)
  simp only [Uf,List.length_append,List.length_cons,List.length_nil,ye]
  omega
theorem yR {w:World} {cs:List Value} (hl:cs.length=11) (h:Fits Tryz.prog w 32 cs):∃ (p:Nat) (pub vars:Int) (A B:Option Addr) (n c m d:Nat) (rows:List Yb) (ws:List Nat) (bl bw qs:Int) (coin seed:Nat) (real:Bool),
  cs=[.int .u64 (p:Int), .int .i64 pub, .int .i64 vars, .slice A n c, .int .i64 bl, .int .i64 bw, .int .i64 qs, .slice B m d, .int .u64 (coin:Int), .bool real, .int .u64 (seed:Int)]∧zAd w p pub vars A B n c m d rows ws∧coin<18446744073709551616∧seed<18446744073709551616:=by
 match cs,hl with
 | [x0,x1,x2,x3,x4,x5,x6,x7,x8,x9,x10],_ =>
  obtain ⟨p,pub,vars,A,B,n,c,m,d,rows,ws,bl,bw,qs,hc,hin⟩:=xx rfl (ZN (i:=0) Tryz.underlying32 rfl rfl zj h)
  obtain ⟨a,ha,hal⟩:=Uq Tryz.underlying22 (ZN (i:=1) Tryz.underlying32 rfl rfl Yw h)
  obtain ⟨b,hb⟩:=zBt Tryz.underlying4 (ZN (i:=2) Tryz.underlying32 rfl rfl xf h)
  obtain ⟨e,he,hel⟩:=Uq Tryz.underlying22 (ZN (i:=3) Tryz.underlying32 rfl rfl Yw h)
  simp [xk] at hc ha hb he
  obtain ⟨rfl,rfl,rfl,rfl,rfl,rfl,rfl,rfl⟩:=hc
  subst ha hb he
  exact ⟨p,pub,vars,A,B,n,c,m,d,rows,ws,bl,bw,qs,a,e,b,rfl,hin,hal,hel⟩
theorem jr {w:World} {cs0:Array Value} (f0:Fits Tryz.prog w 32 (Value.agg cs0).cells.toList):∃ (p:Nat) (pub vars:Int) (A B:Option Addr) (n c m d:Nat) (rows:List Yb) (ws:List Nat) (bl bw qs:Int) (coin seed:Nat) (real:Bool),
  cs0=#[.int .u64 (p:Int), .int .i64 pub, .int .i64 vars, .slice A n c, .int .i64 bl, .int .i64 bw, .int .i64 qs, .slice B m d, .int .u64 (coin:Int), .bool real, .int .u64 (seed:Int)]∧zAd w p pub vars A B n c m d rows ws∧coin<18446744073709551616∧seed<18446744073709551616:=by
 have e0:(Value.agg cs0).cells=cs0:=rfl
 rw [e0] at f0
 have l0:=(Jh Tryz.underlying32 f0).1
 rw [ze] at l0
 obtain ⟨p,pub,vars,A,B,n,c,m,d,rows,ws,bl,bw,qs,coin,seed,real,hc,hin,h1,h2⟩:=yR l0 f0
 exact ⟨p,pub,vars,A,B,n,c,m,d,rows,ws,bl,bw,qs,coin,seed,real,Array.toList_inj.1 hc,hin,h1,h2⟩
theorem kV {w:World} {cs1:Array Value} (f1:Fits Tryz.prog w 35 (Value.agg cs1).cells.toList):∃ (P:Yi) (S:PS),cs1=Y3 P S∧Js w P S:=by
 have e1:(Value.agg cs1).cells=cs1:=rfl
 rw [e1] at f1
 have l1:=(Jh Tryz.underlying35 f1).1
 rw [zJ] at l1
 obtain ⟨P,S,hp,hpin⟩:=jT l1 f1
 exact ⟨P,S,Array.toList_inj.1 hp,hpin⟩
theorem jP {w:World} {A:Option Addr} {n c:Nat} (f:Fits Tryz.prog w 28 (Value.slice A n c).cells.toList):∃ l,RWd w [.slice A n c] l :=
 VS Tryz.underlying28 Tryz.underlying22 Yw f
end Go.Proofs.YtdhhdplholkmdaaGreat
