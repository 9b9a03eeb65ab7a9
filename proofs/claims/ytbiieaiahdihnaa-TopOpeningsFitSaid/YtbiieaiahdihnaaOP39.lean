/- A part of the proof. No condition. -/
import Derived.Shelf.Sort.Plain
import Derived.Test.YtbiieaiahdihnaaProg
import Derived.Test.YtbiieaiahdihnaaOP38
import Derived.Sort.OwnSortedInts

namespace Go.Proofs.Ytbiieaiahdihnaa
open Go.RowKit Go.Shelf
def xJ:Go.Shelf.Ren:=⟨fun | 125=>48 | 128=>70 | 129=>71 | 189=>28 | 215=>91 | 216=>67 | 257=>47 | 294=>61 | 295=>62 | 296=>63 | 297=>64 | 298=>65 | 299=>66 | 300=>68 | 301=>69 | 328=>86 | 329=>87 | 330=>88 | 331=>89 | 332=>90 | 343=>100 | n=>n,fun | 0=>0 | 3=>3 | 4=>4 | 5=>5 | 9=>9 | 28=>38 | 46=>90 | 51=>113 | 53=>26 | 131=>83 | 182=>105 | 183=>106 | 218=>120 | 222=>123 | 228=>129 | 229=>130 | n=>n,fun n=>n⟩
theorem xb:Go.Proofs.Lays.n189 Try.prog xJ:={ mixed:=by kernel_rfl,f125:=by kernel_rfl,f128:=by kernel_rfl,f129:=by kernel_rfl,f189:=by kernel_rfl,f215:=by kernel_rfl,f216:=by kernel_rfl,f257:=by kernel_rfl,f294:=by kernel_rfl,f295:=by kernel_rfl,f296:=by kernel_rfl,f297:=by kernel_rfl,f298:=by kernel_rfl,f299:=by kernel_rfl,f300:=by kernel_rfl,f301:=by kernel_rfl,f328:=by kernel_rfl,f329:=by kernel_rfl,f330:=by kernel_rfl,f331:=by kernel_rfl,f332:=by kernel_rfl,f343:=by kernel_rfl,t0:=by kernel_rfl,a0:=fun _=>by kernel_rfl,z0:=fun _=>by kernel_rfl,v0:=fun _=>by kernel_rfl,t3:=by kernel_rfl,a3:=fun _=>by kernel_rfl,z3:=fun _=>by kernel_rfl,v3:=fun _=>by kernel_rfl,t4:=by kernel_rfl,a4:=fun _=>by kernel_rfl,z4:=fun _=>by kernel_rfl,v4:=fun _=>by kernel_rfl,t5:=by kernel_rfl,a5:=fun _=>by kernel_rfl,z5:=fun _=>by kernel_rfl,v5:=fun _=>by kernel_rfl,t9:=by kernel_rfl,a9:=fun _=>by kernel_rfl,z9:=fun _=>by kernel_rfl,v9:=fun _=>by kernel_rfl,t28:=by kernel_rfl,a28:=fun _=>by kernel_rfl,z28:=fun _=>by kernel_rfl,v28:=fun _=>by kernel_rfl,t46:=by kernel_rfl,a46:=fun _=>by kernel_rfl,z46:=fun _=>by kernel_rfl,v46:=fun _=>by kernel_rfl,t51:=by kernel_rfl,a51:=fun _=>by kernel_rfl,z51:=fun _=>by kernel_rfl,v51:=fun _=>by kernel_rfl,t53:=by kernel_rfl,a53:=fun _=>by kernel_rfl,z53:=fun _=>by kernel_rfl,v53:=fun _=>by kernel_rfl,t131:=by kernel_rfl,a131:=fun _=>by kernel_rfl,z131:=fun _=>by kernel_rfl,v131:=fun _=>by kernel_rfl,t182:=by kernel_rfl,a182:=fun _=>by kernel_rfl,z182:=fun _=>by kernel_rfl,v182:=fun _=>by kernel_rfl,t183:=by kernel_rfl,a183:=fun _=>by kernel_rfl,z183:=fun _=>by kernel_rfl,v183:=fun _=>by kernel_rfl,t218:=by kernel_rfl,a218:=fun _=>by kernel_rfl,z218:=fun _=>by kernel_rfl,v218:=fun _=>by kernel_rfl,t222:=by kernel_rfl,a222:=fun _=>by kernel_rfl,z222:=fun _=>by kernel_rfl,v222:=fun _=>by kernel_rfl,t228:=by kernel_rfl,a228:=fun _=>by kernel_rfl,z228:=fun _=>by kernel_rfl,v228:=fun _=>by kernel_rfl,t229:=by kernel_rfl,a229:=fun _=>by kernel_rfl,z229:=fun _=>by kernel_rfl,v229:=fun _=>by kernel_rfl }
end Go.Proofs.Ytbiieaiahdihnaa
namespace Go.Proofs.Ytbiieaiahdihnaa
open Go.RowKit Go.Shelf
def Z1 (n:Nat) (f:Nat→Nat):Array Value:=((List.range n).map fun k=>Value.int .i64 (f k:Int)).toArray
theorem Xq {n k:Nat} (f:Nat→Nat) (h:k<n):(Z1 n f)[k]?=some (.int .i64 (f k:Int)):=by simp [Z1,h]
theorem XH {n:Nat} {f g:Nat→Nat} (h:∀ i,i<n→f i=g i):Z1 n f=Z1 n g:=by
 unfold Z1
 congr 1
 exact List.map_congr_left fun i hi=>by rw [h i (List.mem_range.1 hi)]
theorem V9 {n:Nat} (f:Nat→Nat) (k v:Nat):(Z1 n f).setIfInBounds k (.int .i64 (v:Int))=Z1 n (Vk f k v):=by
 apply Array.ext
 ·simp [Z1]
 ·intro i h1 h2
  simp [Z1] at h1 h2
  rw [Array.getElem_setIfInBounds (by simpa [Z1] using h1)]
  simp only [Z1,Vk]
  split
  ·subst_vars;simp
  ·rename_i hne
   simp [show ¬i=k from fun e=>hne e.symm]
def Vz (l:List Nat):List Int:=l.map fun n:Nat=>(n:Int)
theorem K6 {n:Nat} {l:List Nat} (h:l.length=n):Z1 n (fun k=>l.getD k 0)=(I64 (Vz l)).toArray:=by
 subst h
 unfold Z1 I64 Vz
 congr 1
 rw [List.map_map]
 refine List.ext_getElem (by simp) fun i h1 h2=>?_
 simp at h1
 simp [List.getD_eq_getElem?_getD,h1]
theorem yw:(Try.prog.info? 3).map (fun i=>(i.zero,i.size,i.bytes))=some (some (.int .i64 0),1,8):=by kernel_rfl
theorem K8:Jm Try.prog 38 3 1 8 (.int .i64 0):=by
 obtain ⟨i0,hi,hz0,hz1,hz2⟩:=info_parts yw
 exact ⟨Try.underlying38,⟨i0,hi,hz0,hz1,hz2⟩,rfl,by omega⟩
theorem zq (n:Nat):madeCells (Value.int .i64 0).cells (n*1)=Z1 n fun _=>0:=by
 apply Array.toList_inj.1
 rw [show (Value.int .i64 0).cells=#[.int .i64 0] from rfl,toList_madeCells_one]
 exact List.ext_getElem (by simp [Z1]) fun i h1 h2=>by simp [Z1]
theorem xn (n:Nat) (hn:n≤1000000) (w:World) :
  (Instr.makeSlice 38 (.int .i64 (n:Int)) (.int .i64 (n:Int))).run Try.prog w= .ok (.slice (some ⟨w.heap.size,0,none⟩) n n) (w.alloc (.cells (Z1 n fun _=>0) 3)):=by
 have:=mk_n (P:=Try.prog) K8 n (by omega) (by omega) w
 rw [zq] at this
 exact this
set_option maxRecDepth 100000 in
set_option maxHeartbeats 1000000 in
theorem K9 (ad:Addr) (n c:Nat) (l:List Int) (w:World) (hr:Rd w 1 (some ad) n (I64 l)) (hn:n≤60000) :
  Calls Try.prog 27 #[.slice (some ad) n c] w fun e w'=>∃ g d,e= .returned (.slice (some ⟨g,0,none⟩) n d)∧w.heap.size≤g∧w'.ownsRow w.heap.size 3 1 (.slice (some ⟨g,0,none⟩) n d) n (I64 l)∧Below w.heap.size w w':=by
 have hnil:=fun (w:World) (a:Option Addr) (n c:Nat)=>Lib.run_eql_slice_nil (P:=Try.prog) w 38 3 a n c 0 0 Try.underlying38
 have gl:(n:Int)≤60000:=by omega
 have hal:=(Below.refl w.heap.size w).alloc (Nat.le_refl _) (.cells #[] 3)
 go_enter Try.func27,Try.ntmps27
 go_wp2_with (at_builtin;refine ZJ rfl _ _ rfl K8 rfl (JD w 3 (Nat.le_refl _)) rfl (hr.alloc _) (xo l) (by omega) (by simp) ?_)
 intro v' wn hown' hgrow hblk
 have hB:=VH (JD w 3 (Nat.le_refl _)) hgrow (by simp)
 have hB2:=hal.trans hB
 rcases hown'.2 with ⟨rfl,h0⟩ | ⟨g,cap,cur,rfl,hgb,-⟩
 ·rcases hblk with h | h <;> simp [Value.ownBlock] at h
 ·go_wp2
  go_ret
  exact ⟨g,cap,rfl,hgb,hown',hB2⟩
theorem zn {w:World} {base g n d:Nat} {l:List Int} (ho:w.ownsRow base 3 1 (.slice (some ⟨g,0,none⟩) n d) n (I64 l)) (hn:n≤60000) :
  Calls Try.prog 28 #[.slice (some ⟨g,0,none⟩) n d] w fun e w'=>e= .returned (.tuple #[])∧w'.ownsRow base 3 1 (.slice (some ⟨g,0,none⟩) n d) n (I64 (l.mergeSort fun x y=>decide (x≤y)))∧w.grownBy w' (some g):=by
 have hlen:l.length=n:=by have:=ho.1;rw [GP] at this;omega
 subst hlen
 rcases ho.2 with ⟨h0,-⟩ | ⟨g',cap,cur,hv,hgb,hh,h1,h2,h3,h4⟩
 ·cases h0
 ·injection hv with e1 e2 e3
  injection e1 with e1
  injection e1 with e1
  subst e1 e3
  have hH:=holds_of_blockI hh (by rw [Nat.mul_one] at h4;exact h4)
  refine (Any.slices_Sort_int xb g 0 d l w hH (Array.getElem?_eq_some_iff.1 hh).1 (by omega)).mono ?_
  rintro e w' ⟨he,nn,os,rfl⟩
  exact ⟨he,ownsRow_sortedI (List.length_mergeSort l) hgb hh h1 h2 h3,grownBy_sortedI _⟩
theorem ye (l:List Nat):(Vz l).mergeSort (fun x y=>decide (x≤y))=Vz (l.mergeSort fun x y=>decide (x≤y)):=by
 unfold Vz
 exact (List.map_mergeSort (fun a _ b _=>by simp)).symm
end Go.Proofs.Ytbiieaiahdihnaa
namespace Go.Proofs.Ytbiieaiahdihnaa
open Go.RowKit Go.Maps
theorem zC {n i j:Nat} {l:List Nat} (hl:l.length=n) (hi:i<n) (hj:j<n):Z1 n (Vk (Vk (fun k=>l.getD k 0) i (l.getD j 0)) j (l.getD i 0))=Z1 n (fun k=>(Us l i j).getD k 0):=XH fun k hk=>by
 unfold Vk Us
 simp only [List.getD_eq_getElem?_getD]
 rw [List.getElem?_set,List.getElem?_set]
 by_cases h1:k=j
 ·subst h1
  simp [hl,hk]
 ·have h1':¬j=k:=fun e=>h1 e.symm
  by_cases h2:k=i
  ·subst h2
   simp [h1,h1',hl,hk]
  ·have h2':¬i=k:=fun e=>h2 e.symm
   simp [h1,h1',h2,h2']
theorem xh {w:World} {g n:Nat} {t:TypeId} {xs:List Value} (k:Blk w g t xs.toArray) (h:xs.length=n):Rd w 1 (some ⟨g,0,none⟩) n xs:=by
 refine ⟨by omega,fun _=>⟨_,rfl,fun j u hj=>?_⟩⟩
 have hk:=k.cell j
 rw [List.getElem?_toArray,hj] at hk
 by_cases h0:j=0
 ·subst h0;exact hk
 ·simp only [Addr.add,h0,if_false];simpa using hk
theorem yC {O:Orc} (h:XI O) (s c i:Nat):Xc O s c i<Zg:=VD (Xi h _ _) _ _
set_option maxRecDepth 100000 in
set_option maxHeartbeats 2000000 in
theorem Jo {w:World} {g:Nat} {O:Orc} {F:Nat→Prop} (h:OrcAt w g O F) (st ct n count:Nat) (hn:n≤1024) (hcn:count≤n) (hst:st<18446744073709551616) (hct:ct<1000000) (hO:ZV O 900000) :
  Calls Try.prog 9 #[.pointer (some ⟨g,0,none⟩), .agg #[.int .u64 (st:Int), .int .u64 (ct:Int)], .int .i64 (n:Int), .int .i64 (count:Int)] w fun e w'=>∃ gr d F',e= .returned (.tuple #[.slice (some ⟨gr,0,none⟩) count d, .agg #[.int .u64 (st:Int), .int .u64 ((ct+count:Nat):Int)]]) ∧
   OrcAt w' g (Zv O 19 (YH st ct count)) F'∧Moved F F' w w'∧w'.ownsRow w.heap.size 3 1 (.slice (some ⟨gr,0,none⟩) count d) count (I64 (Vz (Kf O st ct n count)))∧¬F' gr:=by
 obtain ⟨kx,kr,hb0,hsz⟩:=Xs w 40 40 #[.int .u64 (st:Int), .int .u64 (ct:Int)] #[.int .u64 0, .int .u64 0]
 have H:=Lib.hid h
 have HO:=Lib.hid hO
 have HST:=Lib.hid hst
 have HCT:=Lib.hid hct
 have d1:¬((count:Int)<0):=by omega
 have d1':decide ((count:Int)<0)=false:=decide_eq_false d1
 have d2:¬((n:Int)<(count:Int)):=by omega
 have d2':decide ((n:Int)<(count:Int))=false:=decide_eq_false d2
 have d2n:¬(n<count):=by omega
 have d2n':decide (n<count)=false:=decide_eq_false d2n
 have d3:¬((1024:Int)<(n:Int)):=by omega
 have d3':decide ((1024:Int)<(n:Int))=false:=decide_eq_false d3
 have d3n':decide (1024<n)=false:=decide_eq_false (by omega)
 have hmk:=fun w=>xn n (by omega) w
 obtain ⟨zc,hzc⟩:∃ zc,zc=Z1 n fun _=>0:=⟨_,rfl⟩
 rw [←hzc] at hmk
 have HZC:=Lib.hid hzc
 have nF:∀ b,w.heap.size≤b→¬F b:=fun b hb hf=>by have:=H.out.lt b hf;omega
 clear h hO hst hct hzc hsz
 go_enter Try.func9,Try.ntmps9
 go_upto_region 3 with fail
 generalize (w.alloc _).alloc _=w1 at kx kr hb0 ⊢
 go_wp2_with fail
 have hal:=(Below.refl w1.heap.size w1).alloc (Nat.le_refl _) (.cells zc 3)
 have kl:=Blk.new w1 3 zc
 have lxr:w.heap.size+1<w1.heap.size:=kr.lt
 replace kx:=kx.below hal kx.lt
 replace kr:=kr.below hal kr.lt
 replace hb0:=Za hb0 hal
 generalize w1.alloc _=w2 at kl kx kr hb0 ⊢
 generalize w1.heap.size=gl at kl lxr ⊢
 obtain ⟨gx,hgx⟩:∃ gx,gx=w.heap.size:=⟨_,rfl⟩
 obtain ⟨gr,hgr⟩:∃ gr,gr=w.heap.size+1:=⟨_,rfl⟩
 rw [←hgr] at kr lxr ⊢
 rw [←hgx] at kx ⊢
 have HGX:=Lib.hid hgx
 have HGR:=Lib.hid hgr
 have hxr:gx≠gr:=by omega
 have hxl:gx≠gl:=by omega
 have hrl:gr≠gl:=by omega
 have h2:=H.out.below hb0
 have m2:Moved F F w w2:=Zh hb0
 have HX:=Lib.hid (show w.heap.size≤gx∧w.heap.size≤gr∧w.heap.size≤gl by omega)
 rw [HZC.out,show Z1 n (fun _=>0)=Z1 n (fun k=>if k<0 then k else 0) from XH fun i _=>by rw [if_neg (by omega)]] at kl
 clear hal hmk hgx hgr hb0
 go_loopw [32] (fun y wr=>∃ i:Nat,i≤n∧y= .int .i64 (i:Int)∧OrcAt wr g O F∧Moved F F w wr∧Blk wr gx 40 #[.int .u64 (st:Int), .int .u64 (ct:Int)]∧Blk wr gr 40 #[.int .u64 0, .int .u64 0]∧Blk wr gl 3 (Z1 n fun k=>if k<i then k else 0)) (fun y _=>n-(intOf y).toNat)
 case atStart=>exact ⟨0,Nat.zero_le _,rfl,h2,m2,kx,kr,kl⟩
 case round =>
  clear h2 m2 kx kr kl
  obtain ⟨i,hi,rfl,h1,m1,kx,kr,kl⟩:=hrel
  by_cases hlt:i<n
  ·have g1:(0:Int)≤(i:Int):=by omega
   have g2:(i:Int)<(n:Int):=by omega
   have hcl:wr.cell? ⟨gl,i,none⟩=some (.int .i64 0):=(kl.cell i).trans ((Xq _ hlt).trans (by simp))
   have hfl:=kl.frozen
   have HLT:=Lib.hid hlt
   have H1:=Lib.hid h1
   have M1:=Lib.hid m1
   have KX:=Lib.hid kx
   have KR:=Lib.hid kr
   have KL:=Lib.hid kl
   clear hlt h1 m1 kx kr kl
   go_wp2
   go_roundw
   case rel =>
    refine ⟨i+1,by have:=HLT.out;omega,by go_num,H1.out.set (nF gl HX.out.2.2) _,ZX M1.out HX.out.2.2 _ _,KX.out.far (p:=⟨gl,i,none⟩) hxl _,KR.out.far (p:=⟨gl,i,none⟩) hrl _,?_⟩
    have:=KL.out.set_ i (.int .i64 (i:Int))
    rw [V9] at this
    rw [show Z1 n (fun k=>if k<i+1 then k else 0)=Z1 n (Vk (fun k=>if k<i then k else 0) i i) from XH fun k _=>by
     unfold Vk
     by_cases e1:k=i
     ·subst e1;rw [if_pos rfl,if_pos (by omega)]
     ·rw [if_neg e1]
      by_cases e2:k<i
      ·simp [e2,show k<i+1 by omega]
      ·simp [e2,show ¬k<i+1 by omega]]
    exact this
   case measure=>have:=HLT.out;simp [intOf];omega
  ·have e1:n=i:=by omega
   subst e1
   clear hlt hi
   have hf0:Z1 n (fun k=>if k<n then k else 0)=Z1 n (fun k=>(Z2 (Xc O st ct) n 0).getD k 0):=XH fun k hk=>by simp [Z2,List.getD_eq_getElem?_getD,hk]
   rw [hf0] at kl
   have hO0:Zv O 19 (YH st ct 0)=O:=rfl
   have HLen:=Lib.hid (fun i=>Y0 (Xc O st ct) n i)
   have HCA:=Lib.hid (fun i=>yC (O:=O) H.out.ok.ans st ct i)
   have nF3:=Lib.hid (show ¬F gx∧¬F gr∧¬F gl from ⟨nF gx HX.out.1,nF gr HX.out.2.1,nF gl HX.out.2.2⟩)
   go_wp2_with fail
   go_loopw [41] (fun y wr=>∃ (i:Nat) (F1:Nat→Prop),i≤count∧y= .int .i64 (i:Int)∧OrcAt wr g (Zv O 19 (YH st ct i)) F1∧Moved F F1 w wr∧Blk wr gx 40 #[.int .u64 (st:Int), .int .u64 ((ct+i:Nat):Int)]∧Blk wr gr 40 #[.int .u64 0, .int .u64 0] ∧
    Blk wr gl 3 (Z1 n fun k=>(Z2 (Xc O st ct) n i).getD k 0)∧¬F1 gx∧¬F1 gr∧¬F1 gl) (fun y _=>count-(intOf y).toNat)
   case atStart=>exact ⟨0,F,Nat.zero_le _,rfl,h1,m1,kx,kr,kl,nF3.out⟩
   case round =>
    clear h1 m1 kx kr kl
    obtain ⟨i,F1,hi,rfl,h1,m1,kx,kr,kl,n1,n2,n3⟩:=hrel
    by_cases hlt:i<count
    ·have g1:(0:Int)≤(i:Int):=by omega
     have g2:(i:Int)<(count:Int):=by omega
     have LE1:=Lib.hid (Zs (Yk (lab:=19) (YH st ct i) HO.out) (show 900000+(YH st ct i).length≤1000000 by rw [zb];omega))
     have CH:=Lib.hid (XP h1 st (ct+i) Zg (by decide) (by decide) HST.out (by have:=HCT.out;omega) LE1.out)
     obtain ⟨cv,hcv⟩:∃ cv,cv=Xc O st ct i:=⟨_,rfl⟩
     have hcv2:ZM (Zv O 19 (YH st ct i)) 19 [st,ct+i]%Zg=cv:=by rw [hcv];exact Nat.mod_eq_of_lt (HCA.out i)
     have hcq:cv<Zg:=by rw [hcv];exact HCA.out i
     rw [hcv2,←Gp] at CH
     obtain ⟨c1,hc1⟩:∃ c1,c1=ct+i:=⟨_,rfl⟩
     rw [←hc1] at CH kx
     have HC1:=Lib.hid hc1
     have HCV:=Lib.hid hcv
     have HCQ:=Lib.hid hcq
     have hcx:=kx.cell
     obtain ⟨m,hm⟩:∃ m,m=n-i:=⟨_,rfl⟩
     have hm0:0<m:=by omega
     obtain ⟨r,hr⟩:∃ r,r=cv%m:=⟨_,rfl⟩
     have hrm:r<m:=by rw [hr];exact Nat.mod_lt _ hm0
     obtain ⟨j,hj⟩:∃ j,j=i+r:=⟨_,rfl⟩
     have hjn:j<n:=by omega
     have e1:IntKind.i64.wrap ((n:Int)-(i:Int))=(m:Int):=by rw [IntKind.wrap_i64];omega
     have e2:IntKind.u64.wrap (m:Int)=(m:Int):=by rw [IntKind.wrap_u64];omega
     have e3:(cv:Int).tmod (m:Int)=(r:Int):=by rw [Int.tmod_eq_emod_of_nonneg (by omega),hr];exact (Int.natCast_emod cv m).symm
     have e4:IntKind.i64.wrap (r:Int)=(r:Int):=by rw [IntKind.wrap_i64];omega
     have e5:IntKind.i64.wrap ((i:Int)+(r:Int))=(j:Int):=by rw [IntKind.wrap_i64];omega
     have e0:¬(m=0):=by omega
     have e0':((m:Int) == 0)=false:=by rw [beq_eq_false_iff_ne];omega
     have HSTEP:=Lib.hid (show Z2 (Xc O st ct) n (i+1)=Us (Z2 (Xc O st ct) n i) i j by rw [Z2,←hcv,←hm,←hr,←hj])
     have g3:(0:Int)≤(j:Int):=by omega
     have g4:(j:Int)<(n:Int):=by omega
     have g5:(i:Int)<(n:Int):=by omega
     have HLT:=Lib.hid hlt
     have HJN:=Lib.hid hjn
     have KX:=Lib.hid kx
     have KR:=Lib.hid kr
     have KL:=Lib.hid kl
     have M1:=Lib.hid m1
     have hin:i<n:=by omega
     have HIN:=Lib.hid hin
     clear hc1 hcv hcq hcv2 hm hr hj hrm hm0 hjn hlt kr kl m1 h1 hin
     unfold Zg at CH
     go_wp2_with fail
     refine CH.out.mono ?_
     rintro _ w3 ⟨rfl,F2,h3,m3⟩
     have kx3:=KX.out.moved m3 n1
     have kr3:=KR.out.moved m3 n2
     have kl3:=KL.out.moved m3 n3
     have n1':=Zn m3 KX.out.lt n1
     have n2':=Zn m3 KR.out.lt n2
     have n3':=Zn m3 KL.out.lt n3
     have hs:=VK (gr:=gx) (x:=.int .u64 (st:Int)) (y:=.int .u64 ((c1+1:Nat):Int)) (M1.out.trans m3) HX.out.1 h3 n1' kx3
     have kr4:=(kr3.far (p:=⟨gx,0,none⟩) (fun e=>hxr e.symm) (.int .u64 (st:Int))).far (p:=⟨gx,1,none⟩) (fun e=>hxr e.symm) (.int .u64 ((c1+1:Nat):Int))
     have kl4:=(kl3.far (p:=⟨gx,0,none⟩) (fun e=>hxl e.symm) (.int .u64 (st:Int))).far (p:=⟨gx,1,none⟩) (fun e=>hxl e.symm) (.int .u64 ((c1+1:Nat):Int))
     have hf3:=kx3.frozen
     have hc3:=kx3.cell
     clear h3 m3 kr3 kl3 CH hcx
     obtain ⟨c2,hc2⟩:∃ c2,c2=c1+1:=⟨_,rfl⟩
     rw [←hc2] at hs kr4 kl4 ⊢
     have HC2:=Lib.hid hc2
     clear hc2
     go_upto_region 14 with fail
     obtain ⟨s1,s2,s3⟩:=hs
     generalize (w3.setCell _ _).setCell _ _=w4 at s1 s2 s3 kr4 kl4 ⊢
     clear hf3 hc3 kx3
     obtain ⟨L,hL⟩:∃ L,L=Z2 (Xc O st ct) n i:=⟨_,rfl⟩
     rw [←hL] at kl4 HSTEP
     have HLL:=Lib.hid (show L.length=n by rw [hL];exact HLen.out i)
     have hci:w4.cell? ⟨gl,i,none⟩=some (.int .i64 ((L.getD i 0:Nat):Int)):=(kl4.cell i).trans (Xq _ HIN.out)
     have hcj:w4.cell? ⟨gl,j,none⟩=some (.int .i64 ((L.getD j 0:Nat):Int)):=(kl4.cell j).trans (Xq _ HJN.out)
     have hgl4:=kl4.lt
     have HSW:=Lib.hid (zC HLL.out HIN.out HJN.out)
     have S1:=Lib.hid s1
     have S2:=Lib.hid s2
     have S3:=Lib.hid s3
     have KR4:=Lib.hid kr4
     have KL4:=Lib.hid kl4
     obtain ⟨xi,hxi⟩:∃ xi,xi=L.getD i 0:=⟨_,rfl⟩
     obtain ⟨xj,hxj⟩:∃ xj,xj=L.getD j 0:=⟨_,rfl⟩
     rw [←hxi] at hci HSW
     rw [←hxj] at hcj HSW
     clear s1 s2 s3 kr4 kl4 hL hxi hxj
     go_wp2_with fail
     refine V8 (ZQ) [13,15] [13] [2,3,8,9,10] [0,1,2,3,4,5,6,7,8,9,10,11,12,13,14,15] (by kernel_rfl) (by kernel_rfl) ?_
     refine Gy (later_moves) ?_
     intro Wc HWc hacc
     have T1:=Lib.hid (show OrcAt Wc g (Zv O 19 (YH st ct (i+1))) F2 by rw [HWc.out];exact S1.out.drew)
     have T2:=Lib.hid (show Moved F F2 w Wc by rw [HWc.out];exact ZZ S2.out)
     have T3:=Lib.hid (S3.out.drew)
     have T4:=Lib.hid (KR4.out.drew)
     have T5:=Lib.hid (KL4.out.drew)
     rw [←HWc.out] at T3 T4 T5
     clear HWc
     repeat (first | (refine Xl (later_moves) rfl rfl rfl (fun _ _ _ h=>h) ?_;simp only [Act.put,zLa,zLb,zLc]) | (refine YV (v:=?_) (later_moves) rfl rfl rfl rfl (fun _ _ _ h=>h) ?_ ?_;rotate_left;(· (intro w' hR;(first | have hcells:=Zc ((later_moves).trans _ _ _ hacc (hR rfl)) | skip);clear hR;go_simp;try with_reducible rfl));simp only [Act.put,zLa,zLb,zLc]) | (refine Xe (v:=?_) (later_moves) rfl rfl rfl (fun _ _ _ h=>h) ?_ ?_;rotate_left;(· (intro w';go_simp;try with_reducible rfl));simp only [Act.put,zLa,zLb,zLc]))
     refine YT (later_moves) rfl rfl rfl ?_
     have hfw:=T5.out.frozen
     have hci2:Wc.cell? ⟨gl,i,none⟩=_:=(T5.out.cell i).trans (Xq _ HIN.out)
     clear hci hcj hacc
     go_simp
     refine ⟨fun h=>Bool.noConfusion h,?_⟩
     have k5:=T5.out.set_ i (.int .i64 (xj:Int))
     rw [V9] at k5
     have o5:=T1.out.set (x:=gl) (i:=i) n3' (.int .i64 (xj:Int))
     have m5:=ZX T2.out HX.out.2.2 i (.int .i64 (xj:Int))
     have x5:=T3.out.far (p:=⟨gl,i,none⟩) hxl (.int .i64 (xj:Int))
     have r5:=T4.out.far (p:=⟨gl,i,none⟩) hrl (.int .i64 (xj:Int))
     try simp only [Act.put,zLa,zLb,zLc]
     generalize Wc.setCell _ _=w6 at k5 o5 m5 x5 r5 ⊢
     clear hfw hci2 T1 T2 T3 T4 T5
     have hacc:=later_moves.refl w6
     have hf6:=k5.frozen
     have hc6:w6.cell? ⟨gl,j,none⟩=_:=(k5.cell j).trans (Xq _ HJN.out)
     repeat (first | (refine Xl (later_moves) rfl rfl rfl (fun _ _ _ h=>h) ?_;simp only [Act.put,zLa,zLb,zLc]) | (refine YV (v:=?_) (later_moves) rfl rfl rfl rfl (fun _ _ _ h=>h) ?_ ?_;rotate_left;(· (intro w' hR;(first | have hcells:=Zc ((later_moves).trans _ _ _ hacc (hR rfl)) | skip);clear hR;go_simp;try with_reducible rfl));simp only [Act.put,zLa,zLb,zLc]) | (refine Xe (v:=?_) (later_moves) rfl rfl rfl (fun _ _ _ h=>h) ?_ ?_;rotate_left;(· (intro w';go_simp;try with_reducible rfl));simp only [Act.put,zLa,zLb,zLc]))
     refine YT (later_moves) rfl rfl rfl ?_
     go_simp
     refine ⟨fun h=>Bool.noConfusion h,?_⟩
     have k6:=k5.set_ j (.int .i64 (xi:Int))
     rw [V9,HSW.out,←HSTEP.out] at k6
     have o6:=o5.set (x:=gl) (i:=j) n3' (.int .i64 (xi:Int))
     have m6:=ZX m5 HX.out.2.2 j (.int .i64 (xi:Int))
     have x6:=x5.far (p:=⟨gl,j,none⟩) hxl (.int .i64 (xi:Int))
     have r6:=r5.far (p:=⟨gl,j,none⟩) hrl (.int .i64 (xi:Int))
     try simp only [Act.put,zLa,zLb,zLc]
     generalize w6.setCell _ _=w7 at k6 o6 m6 x6 r6 ⊢
     refine U0 ?_
     clear k5 o5 m5 x5 r5 hf6 hc6 hacc
     go_wp2
     go_roundw
     case rel=>exact ⟨i+1,F2,by have:=HLT.out;omega,by go_num,o6,m6,by rw [show ct+(i+1)=c2 by rw [HC2.out,HC1.out];omega];exact x6,r6,k6,n1',n2',n3'⟩
     case measure=>have:=HLT.out;simp [intOf];omega
    ·have e1:count=i:=by omega
     subst e1
     obtain ⟨cc,hcc⟩:∃ cc,cc=ct+count:=⟨_,rfl⟩
     rw [←hcc] at kx
     have HCC:=Lib.hid hcc
     clear hcc
     have kl2:Blk wr gl 3 (I64 (Vz (Z2 (Xc O st ct) n count))).toArray:=by rw [←K6 (HLen.out count)];exact kl
     have hrd:=xh kl2 (show (I64 (Vz (Z2 (Xc O st ct) n count))).length=n by rw [GP];unfold Vz;rw [List.length_map];exact HLen.out count)
     have hrt:=hrd.take hcn
     rw [Nat.mul_one,show (I64 (Vz (Z2 (Xc O st ct) n count))).take count=I64 (Vz ((Z2 (Xc O st ct) n count).take count)) by simp [I64,Vz,List.map_take]] at hrt
     have hcut:∀ w,(Instr.slice 38 (.slice (some ⟨gl,0,none⟩) n n) none (some (.int .i64 (count:Int))) none).run Try.prog w= .ok (.slice (some ⟨gl,0,none⟩) count n) w:=fun w=>Vm K8 _ n n count hcn
     have CL:=Lib.hid (K9 ⟨gl,0,none⟩ count n _ wr hrt (by omega))
     have HPR:=Lib.hid (show Kf O st ct n count=((Z2 (Xc O st ct) n count).take count).mergeSort fun x y=>decide (x≤y) from rfl)
     have hgc:(0:Int)≤(count:Int):=by omega
     have hgn:(count:Int)≤(n:Int):=by omega
     have H1:=Lib.hid h1
     have M1:=Lib.hid m1
     have KX:=Lib.hid kx
     have KR:=Lib.hid kr
     clear kl kl2 hrd hrt h1 m1 kx kr hlt hi
     go_wp2_with fail
     refine CL.out.mono ?_
     rintro _ w3 ⟨g2,d,rfl,hg2,hown,hb3⟩
     have SO:=Lib.hid (zn hown (by omega))
     have hg2l:=(hown.lt g2 rfl).2
     clear hown
     go_wp2_with fail
     refine SO.out.mono ?_
     rintro _ w4 ⟨rfl,hown,hg4⟩
     have hx1:gx<wr.heap.size:=KX.out.lt
     have hr1:gr<wr.heap.size:=KR.out.lt
     have kx4:=(KX.out.below hb3 hx1).grown hg4 (fun e=>by have:=Option.some.inj e;omega)
     have kr4:=(KR.out.below hb3 hr1).grown hg4 (fun e=>by have:=Option.some.inj e;omega)
     have m4:=Jx (M1.out.trans (Zh (F:=F1) hb3)) hg4 (fun b hb=>by rw [←Option.some.inj hb];have:=M1.out.size;omega)
     have h4:=(H1.out.below hb3).keep hg4.size fun b hb=>hg4.block b (by have:=H1.out.lt b hb;have:=hb3.size;omega) (fun e=>by have:=Option.some.inj e;have:=H1.out.lt b hb;omega)
     have nG2:¬F1 g2:=fun e=>by have:=H1.out.lt _ e;omega
     rw [ye,←HPR.out] at hown
     have hcx:=kx4.cell
     have hlx:=kx4.lt
     have HOWN:=Lib.hid hown
     have H4:=Lib.hid h4
     have M4:=Lib.hid m4
     have hwr:w.heap.size≤wr.heap.size:=M1.out.size
     clear hown h4 m4 hg4 hb3 CL SO hcut
     go_wp2_with fail
     refine Z7 (GE gr) [3] [0,1,2,3] (by kernel_rfl) (by kernel_rfl) ?_
     refine Z4 (ZC gr) ?_
     intro Wc HWc hacc
     have k5:Blk Wc gr 40 #[.int .u64 0, .int .u64 0]:=by rw [HWc.out];exact kr4.drew
     have h5:=VK (x:=.int .u64 (st:Int)) (y:=.int .u64 (cc:Int)) (show Moved F F1 w Wc by rw [HWc.out];exact ZZ M4.out) HX.out.2.1 (show OrcAt Wc g (Zv O 19 (YH st ct count)) F1 by rw [HWc.out];exact H4.out.drew) n2 k5
     have OWN5:=Lib.hid (show Wc.ownsRow wr.heap.size 3 1 (.slice (some ⟨g2,0,none⟩) count d) count (I64 (Vz (Kf O st ct n count))) by rw [HWc.out];exact ZE HOWN.out fun _ _=>rfl)
     have hf5:=k5.frozen
     have hc5:=k5.cell
     clear HWc
     repeat (first | (refine ZK (ZC gr) rfl rfl (fun _ _ _ h=>h) ?_;simp only [Act.put,zLa,zLb,zLc]) | (refine Zy (v:=?_) (ZC gr) rfl rfl (fun _ _ _ h=>h) ?_ ?_;rotate_left;(· (intro w' hR;(first | have hcells:=X4 ((ZC gr).trans _ _ _ hacc hR) | skip);go_simp;try with_reducible rfl));simp only [Act.put,zLa,zLb,zLc]))
     refine Z6 (ZC gr) rfl rfl rfl ?_
     go_simp
     refine ⟨X5 Wc gr 0 1 (.int .u64 (st:Int)) (.int .u64 (cc:Int)),?_⟩
     obtain ⟨s1,s2,s3⟩:=h5
     have OWN6:=Lib.hid (UQ (ZE (u:=(Wc.setCell ⟨gr,0,none⟩ (.int .u64 (st:Int))).setCell ⟨gr,1,none⟩ (.int .u64 (cc:Int))) OWN5.out fun b hb=>(Below.heap_setCell _ ⟨gr,1,none⟩ _ b (fun e=>by have:=(OWN5.out.lt b hb).1;simp at e;omega)).trans (Below.heap_setCell Wc ⟨gr,0,none⟩ _ b (fun e=>by have:=(OWN5.out.lt b hb).1;simp at e;omega))) hwr)
     try simp only [Act.put,zLa,zLb,zLc]
     generalize (Wc.setCell _ _).setCell _ _=w6 at s1 s2 s3 OWN6 ⊢
     refine Yd ?_
     have c0:=s3.cell 0
     have c2:=s3.cell 1
     have DONE:=Lib.hid (And.intro s1 (And.intro s2 (And.intro OWN6.out nG2)))
     go_wp2
     refine bodyPost_ret (v:=.tuple #[.slice (some ⟨g2,0,none⟩) count d, .agg #[.int .u64 (st:Int), .int .u64 (cc:Int)]]) (by simp [results,Try.results9,go_sem,c0,c2]) rfl ?_
     obtain ⟨d1,d2,d3,d4⟩:=DONE.out
     exact ⟨g2,d,F1,by rw [HCC.out],d1,d2,d3,d4⟩
end Go.Proofs.Ytbiieaiahdihnaa
