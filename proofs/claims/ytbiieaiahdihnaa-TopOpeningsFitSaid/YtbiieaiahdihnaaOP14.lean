/- A part of the proof. No condition. -/
import Derived.Laws.OwnMore
import Derived.Test.YtbiieaiahdihnaaProg
import Derived.Test.YtbiieaiahdihnaaOP11
import Derived.BigQuiet
import Derived.Deep.QuietTactic
import Derived.Test.YtbiieaiahdihnaaOP2
import Derived.Test.YtbiieaiahdihnaaOP6

namespace Go.Proofs.Ytbiieaiahdihnaa
open Go.RowKit
def ZD (n:Nat) (f:Nat→Nat):Array Value:=((List.range n).map fun k=>Value.int .u64 (f k:Int)).toArray
def Vk (f:Nat→Nat) (k v:Nat):Nat→Nat:=fun i=>if i=k then v else f i
theorem VR {n k:Nat} (f:Nat→Nat) (h:k<n):(ZD n f)[k]?=some (.int .u64 (f k:Int)):=by simp [ZD,h]
theorem Xg {n:Nat} {f g:Nat→Nat} (h:∀ i,i<n→f i=g i):ZD n f=ZD n g:=by
 unfold ZD
 congr 1
 exact List.map_congr_left fun i hi=>by rw [h i (List.mem_range.1 hi)]
theorem VW {n:Nat} (f:Nat→Nat) (k v:Nat):(ZD n f).setIfInBounds k (.int .u64 (v:Int))=ZD n (Vk f k v):=by
 apply Array.ext
 ·simp [ZD]
 ·intro i h1 h2
  simp [ZD] at h1 h2
  rw [Array.getElem_setIfInBounds (by simpa [ZD] using h1)]
  simp only [ZD,Vk]
  split
  ·subst_vars;simp
  ·rename_i hne
   simp [show ¬i=k from fun e=>hne e.symm]
theorem UR (n:Nat) (f:Nat→Nat):ZD n f=(U64 ((List.range n).map f)).toArray:=by simp [ZD,U64]
theorem mk_n {P:Program} {t e:TypeId} {size bytes:Nat} {z:Value} (E:Jm P t e size bytes z) (n:Nat) (hb:bytes*n≤281474976710656) (hn:(n:Int)≤9223372036854775807) (w:World) :
  (Instr.makeSlice t (.int .i64 (n:Int)) (.int .i64 (n:Int))).run P w= .ok (.slice (some ⟨w.heap.size,0,none⟩) n n) (w.alloc (.cells (madeCells z.cells (n*size)) e)):=by
 obtain ⟨ht,⟨i,hi,hz,hs,hby⟩,hzs,hsz⟩:=E
 have:=run_make (P:=P) w t e i z ht hi hz .i64 .i64 (n:Int) (n:Int) (by omega) (Int.le_refl _) (by rw [hby,←Int.natCast_mul];exact Int.ofNat_le.2 hb) hn
 rw [Int.toNat_natCast,hs] at this
 exact this
theorem Gm (n:Nat):madeCells (Value.int .u64 0).cells (n*1)=ZD n fun _=>0:=by
 apply Array.toList_inj.1
 rw [show (Value.int .u64 0).cells=#[.int .u64 0] from rfl,toList_madeCells_one]
 exact List.ext_getElem (by simp [ZD]) fun i h1 h2=>by simp [ZD]
theorem z6:(Try.prog.info? 26).map (fun i=>(i.zero,i.size,i.bytes))=some (some (.int .u64 0),1,8):=by kernel_rfl
theorem zx:Jm Try.prog 23 26 1 8 (.int .u64 0):=by
 obtain ⟨i0,hi,hz0,hz1,hz2⟩:=info_parts z6
 exact ⟨Try.underlying23,⟨i0,hi,hz0,hz1,hz2⟩,rfl,by omega⟩
theorem U5 (n:Nat) (hn:n≤1000000) (w:World) :
  (Instr.makeSlice 23 (.int .i64 (n:Int)) (.int .i64 (n:Int))).run Try.prog w= .ok (.slice (some ⟨w.heap.size,0,none⟩) n n) (w.alloc (.cells (ZD n fun _=>0) 26)):=by
 have:=mk_n (P:=Try.prog) zx n (by omega) (by omega) w
 rw [Gm] at this
 exact this
structure xG where
 p:Nat
 block:Nat
 queries:Nat
 k:Nat
 n:Nat
 secret:Nat
 rows:Nat
 a:Nat
 b:Nat
structure LayOk (l:xG):Prop where
 p:okP l.p=true
 b1:2≤l.block
 b2:l.block≤256
 q1:1≤l.queries
 q2:l.queries≤64
 k:l.k=l.block+l.queries
 n:∃ j,l.n=2^j
 n2:l.n≤1024
 s:l.secret≤65536
 r:l.rows≤16384
 a:l.a≤100000
 b:l.b≤100000
 bj:l.block &&& (l.block-1)=0
 bd:(l.p-1)%l.block=0
 nd:(l.p-1)%l.n=0
 nl:l.n<l.p-1
 nk:2*l.k≤l.n
 ae:l.a=(l.secret+l.block-1) / l.block
 be:l.b=(l.rows+l.block-1) / l.block
def fitsN (n:Nat):Nat:=2^((n-1).log2+1)
structure NewIn where
 p:Nat
 pub:Int
 vars:Int
 nr:Nat
 bl:Int
 bw:Int
 qs:Int
def NewIn.n (x:NewIn):Nat:=x.bw.toNat*fitsN (2*(x.bl.toNat+x.qs.toNat))
def xI (x:NewIn):Int :=
 if x.bl<2∨256<x.bl∨x.bl.toNat &&& (x.bl.toNat-1)≠0∨x.qs<1∨64<x.qs∨(x.bw≠1∧x.bw≠2∧x.bw≠4∧x.bw≠8) then 1
 else if (x.p-1)%x.bl.toNat≠0∨(x.p-1)%x.n≠0∨x.p-1≤x.n then 7
 else if 1024<x.n then 3 else 0
def xD (x:NewIn):xG:=⟨x.p,x.bl.toNat,x.qs.toNat,x.bl.toNat+x.qs.toNat,x.n,(x.vars-1-x.pub).toNat,x.nr,((x.vars-1-x.pub).toNat+x.bl.toNat-1) / x.bl.toNat,(x.nr+x.bl.toNat-1) / x.bl.toNat⟩
structure LayFor (L:xG) (x:NewIn):Prop where
 p:L.p=x.p
 eq:L=xD x
 err:xI x=0
 pub:0≤x.pub
 vars:x.pub<x.vars
section
variable {w w0:World} {g B:Nat} {t:TypeId} {cs:Array Value}
end
section
variable (p:Nat) (pub vars:Int) (A:Option Addr) (n c:Nat) (rows:List RowR) (bl bw qs:Int) (w:World)
end
def S (l:List Nat):ByteArray:=⟨(l.map fun n=>UInt8.ofNat n).toArray⟩
theorem xK (l:List Nat):(S l).size=l.length:=by simp [S,ByteArray.size]
theorem Gd {P:Program} {w:World} {src e dst:TypeId} {A:Option Addr} {n c:Nat} {l:List Nat} (hs:P.underlying src=some (.slice e)) (he:P.underlying e=some (.int .u8)) (hd:P.underlying dst=some .string)
  (h:Rd w 1 A n (U8 l)):(convert src dst (.slice A n c)).run P w= .ok (.string (S l)) w:=by
 have hl:l.length=n:=by have:=h.len1;rwa [yN] at this
 rcases Nat.eq_zero_or_pos n with h0 | h0
 ·subst h0
  obtain rfl:l=[]:=List.eq_nil_of_length_eq_zero hl
  rcases A with _ | ad
  ·rw [run_convert_bytes_nil w src e hs he _ _ dst hd]
   rfl
  ·rw [run_convert_bytes_string w src dst e _ 0 c hs he hd,run_bytesToString w ad 0 c [] (by simpa using run_loadCells_list (P:=P) w ad [] (fun j v hj=>by simp at hj))]
   rfl
 ·obtain ⟨ad,rfl,hc⟩:=h.2 h0
  have hlc:=run_loadCells_list (P:=P) w ad (U8 l) hc
  rw [yN,hl] at hlc
  rw [run_convert_bytes_string w src dst e _ n c hs he hd,run_bytesToString w ad n c (l.map fun x:Nat=>(x:Int)) (by rw [hlc];simp [U8,Function.comp_def]),foldl_push_bytes]
  simp [S,ByteArray.empty,ByteArray.emptyWithCapacity,Function.comp_def]
  rfl
theorem zl {l1 l2:List Nat} {k:Nat} (h:l1.take k=l2.take k) (h1:k<l1.length) (h2:k<l2.length) (e:l1.getD k 0=l2.getD k 0):l1.take (k+1)=l2.take (k+1):=by
 rw [VV l1 k h1,VV l2 k h2,h,e]
theorem yR {l1 l2:List Nat} {k:Nat} (e:l1.getD k 0≠l2.getD k 0):decide (l1=l2)=false:=decide_eq_false fun h=>e (by rw [h])
set_option maxRecDepth 100000 in
set_option maxHeartbeats 1000000 in
theorem Ks (A1 A2:Option Addr) (n1 c1 n2 c2:Nat) (l1 l2:List Nat) (w:World) (h1:RWd w [.slice A1 n1 c1] l1) (h2:RWd w [.slice A2 n2 c2] l2) :
  Calls Try.prog 19 #[.slice A1 n1 c1, .slice A2 n2 c2] w fun e w'=>e= .returned (.bool (decide (l1=l2)))∧Below w.heap.size w w':=by
 obtain ⟨rfl,a1,a2,a3,r1⟩:=ZO h1
 obtain ⟨rfl,b1,b2,b3,r2⟩:=ZO h2
 have gm:=YY a1 a2
 have gm2:=YY b1 b2
 clear h1 h2 a1 a2 b1 b2 a3 b3
 by_cases hn:l1.length=l2.length
 rotate_left
 ·have t1:((l1.length:Int) != (l2.length:Int))=true:=by rw [bne_iff_ne];omega
  have t2:((l1.length:Int) == (l2.length:Int))=false:=by rw [beq_eq_false_iff_ne];omega
  have HF:=Lib.hid (show decide (l1=l2)=false from decide_eq_false fun h=>hn (by rw [h]))
  rw [HF.out]
  generalize l1.length=m1 at *
  generalize l2.length=m2 at *
  clear r1 r2 hn
  go_enter Try.func19,Try.ntmps19
  go_wp2
  go_ret
  exact ⟨rfl,Below.refl _ _⟩
 have t1:((l1.length:Int) != (l2.length:Int))=false:=by rw [bne_eq_false_iff_eq];omega
 have t2:((l1.length:Int) == (l2.length:Int))=true:=by rw [beq_iff_eq];omega
 obtain ⟨n,hn1⟩:∃ n,l1.length=n:=⟨_,rfl⟩
 have hn2:l2.length=n:=by omega
 rw [hn1] at r1
 rw [hn2] at r2
 rw [hn1,hn2] at t1 t2
 rw [hn1] at gm
 rw [hn1,hn2]
 obtain ⟨ans,ha⟩:∃ ans,ans=decide (l1=l2):=⟨_,rfl⟩
 rw [←ha]
 have HA:=Lib.hid ha
 have H1:=Lib.hid hn1
 have H2:=Lib.hid hn2
 clear hn hn1 hn2 gm2 ha
 go_enter Try.func19,Try.ntmps19
 go_wp2_with fail
 go_loopw [5] (fun y wr=>∃ i:Nat,i≤n∧y= .int .i64 (i:Int)∧Hid (l1.take i=l2.take i)∧Below w.heap.size w wr) (fun y _=>n-(intOf y).toNat)
 case atStart=>exact ⟨0,Nat.zero_le _,rfl,rfl,Below.refl _ _⟩
 case round =>
  obtain ⟨i,hi,rfl,HT,hbr⟩:=hrel
  by_cases hlt:i<n
  ·have g1:(0:Int)≤(i:Int):=by omega
   have g2:(i:Int)<(n:Int):=by omega
   have q1:=r1.below hbr
   have q2:=r2.below hbr
   rw [←H1.out] at q1
   rw [←H2.out] at q2
   obtain ⟨x1,y1,rfl,v1,d1⟩:=ZN q1 (j:=i) (by rw [H1.out];exact hlt)
   obtain ⟨x2,y2,rfl,v2,d2⟩:=ZN q2 (j:=i) (by rw [H2.out];exact hlt)
   clear q1 q2
   by_cases he:l1.getD i 0=l2.getD i 0
   ·have HT2:=Lib.hid (zl HT.out (by rw [H1.out];exact hlt) (by rw [H2.out];exact hlt) he)
    rw [←he] at d2
    generalize l1.getD i 0=z at *
    have u1:((z:Int) != (z:Int))=false:=by rw [bne_eq_false_iff_eq]
    have u2:((z:Int) == (z:Int))=true:=by rw [beq_iff_eq]
    clear he HT
    go_wp2_with fail
    refine Zp (ZQ) (later_moves) [] [] [0,1,2,3,4,5,6,7,8] (by kernel_rfl) (by kernel_rfl) ?_
    refine Zo (later_moves) ?_
    intro Wc hacc
    repeat (first | (refine Zf (later_moves) rfl rfl rfl rfl (fun _ _ _ h=>h) ?_;simp only [Act.put,zLa,zLb,zLc]) | (refine Zd (v:=?_) (later_moves) rfl rfl rfl rfl (fun _ _ _ h=>h) ?_ ?_;rotate_left;(· (intro w' hR;(first | have hcells:=Zc ((later_moves).trans _ _ _ hacc hR) | skip);go_simp;try with_reducible rfl));simp only [Act.put,zLa,zLb,zLc]))
    refine YC rfl ?_
    intro wd hRd
    replace hacc:=(later_moves).trans _ _ _ hacc hRd
    clear hRd
    go_wp2
    replace hbr:=Za hbr.drew hacc
    go_roundw
    case rel=>exact ⟨i+1,by omega,by go_num,HT2.out,hbr⟩
    case measure=>simp [intOf];omega
   ·have HF:=Lib.hid (HA.out.trans (yR he))
    generalize l1.getD i 0=z1 at *
    generalize l2.getD i 0=z2 at *
    have u1:((z1:Int) != (z2:Int))=true:=by rw [bne_iff_ne];omega
    have u2:((z1:Int) == (z2:Int))=false:=by rw [beq_eq_false_iff_ne];omega
    clear he HT
    go_wp2_with fail
    refine Zp (ZQ) (later_moves) [] [] [0,1,2,3,4,5,6,7,8] (by kernel_rfl) (by kernel_rfl) ?_
    refine Zo (later_moves) ?_
    intro Wc hacc
    repeat (first | (refine Zf (later_moves) rfl rfl rfl rfl (fun _ _ _ h=>h) ?_;simp only [Act.put,zLa,zLb,zLc]) | (refine Zd (v:=?_) (later_moves) rfl rfl rfl rfl (fun _ _ _ h=>h) ?_ ?_;rotate_left;(· (intro w' hR;(first | have hcells:=Zc ((later_moves).trans _ _ _ hacc hR) | skip);go_simp;try with_reducible rfl));simp only [Act.put,zLa,zLb,zLc]))
    refine YC rfl ?_
    intro wd hRd
    replace hacc:=(later_moves).trans _ _ _ hacc hRd
    clear hRd
    go_wp2
    go_ret
    exact ⟨by rw [HF.out];rfl,Za hbr.drew hacc⟩
  ·obtain rfl:i=n:=by omega
   have HF:=Lib.hid (HA.out.trans (decide_eq_true (by have:=HT.out;rwa [←H1.out,List.take_length,H1.out,←H2.out,List.take_length] at this)))
   go_wp2
   go_ret
   exact ⟨by rw [HF.out];rfl,hbr⟩
def XR (w:World) (cs:List Value) (l:List (List Nat)):Prop:=RSl 1 RWd w cs l
theorem YA:yE XR:=yM Yc
theorem Xu {w:World} {A:Option Addr} {n c:Nat} {l:List (List Nat)} (h:XR w [.slice A n c] l):l.length=n∧n≤c∧c≤maxLen∧RdL w 1 RWd A l:=by
 obtain ⟨A',n',c',he,h1,h2,h3,h4⟩:=h
 simp at he
 obtain ⟨rfl,rfl,rfl⟩:=he
 exact ⟨h1,h2,h3,h4⟩
theorem za {w:World} {A:Option Addr} {l:List (List Nat)} (h:RdL w 1 RWd A l) (hl:0<l.length):∃ b q,A=some ⟨b,q,none⟩:=by
 obtain ⟨a,cs,e,h1,hc,-⟩:=h 0 hl
 have h0:=hc 0 (by omega)
 rw [List.getElem?_eq_getElem (by omega)] at h0
 have hs:=World.cell?_spot h0
 obtain ⟨b,q,s⟩:=a
 cases s with
 | none=>exact ⟨b,q,e⟩
 | some x=>simp [Addr.add] at hs
theorem KO {w:World} {A:Option Addr} {l:List (List Nat)} (h:RdL w 1 RWd A l) {i:Nat} (hi:i<l.length) :
  ∃ b q A1 n1 c1,A=some ⟨b,q,none⟩∧b<w.heap.size∧w.cell? ⟨b,q+i,none⟩=some (.slice A1 n1 c1)∧RWd w [.slice A1 n1 c1] l[i]:=by
 obtain ⟨a,cs,e,hl,hc,hr⟩:=h i hi
 have hr':=hr
 obtain ⟨A1,n1,c1,rfl,-⟩:=hr'
 obtain ⟨b,q,ha⟩:=za h (by omega)
 rw [e] at ha
 obtain rfl:=Option.some.inj ha
 have h0:=hc 0 (by omega)
 have e0:(⟨b,q,none⟩:Addr).add (i*1+0)=⟨b,q+i,none⟩:=by rw [X0];simp
 rw [e0] at h0
 exact ⟨b,q,A1,n1,c1,e,World.block_lt_of_cell? _ _ h0,h0,hr⟩
theorem Z4 {P:Program} {l:List Oper} {hs:List Nat} {Q:Exit→Act→World→Prop} {R:World→World→Prop} {listed:Array Bool} {a:Act} {w:World} (M:ZI R) {order:List Nat} (h:∀ W,Hid (W=w)→R w W→wpO P l hs Q R order listed a W):wpO P l hs Q R order listed a w:=h w rfl (M.refl w)
end Go.Proofs.Ytbiieaiahdihnaa
