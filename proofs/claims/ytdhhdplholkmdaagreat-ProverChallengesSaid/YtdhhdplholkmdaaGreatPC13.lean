/- A part of the proof. No condition. -/
import Derived.Laws.OwnMore
import Derived.Test.YtdhhdplholkmdaaGreatProg
import Derived.Test.YtdhhdplholkmdaaGreatPC10
import Derived.BigQuiet
import Derived.Deep.QuietTactic
import Derived.Test.YtdhhdplholkmdaaGreatPC3
import Derived.Test.YtdhhdplholkmdaaGreatPC6

namespace Go.Proofs.YtdhhdplholkmdaaGreat
open Go.RowKit
def Ua (n:Nat) (f:Nat→Nat):Array Value:=((List.range n).map fun k=>Value.int .u64 (f k:Int)).toArray
def zk (f:Nat→Nat) (k v:Nat):Nat→Nat:=fun i=>if i=k then v else f i
theorem zEf {n k:Nat} (f:Nat→Nat) (h:k<n):(Ua n f)[k]?=some (.int .u64 (f k:Int)):=by simp [Ua,h]
theorem zBj {n:Nat} {f g:Nat→Nat} (h:∀ i,i<n→f i=g i):Ua n f=Ua n g:=by
 unfold Ua
 congr 1
 exact List.map_congr_left fun i hi=>by rw [h i (List.mem_range.1 hi)]
theorem zCy {n:Nat} (f:Nat→Nat) (k v:Nat):(Ua n f).setIfInBounds k (.int .u64 (v:Int))=Ua n (zk f k v):=by
 apply Array.ext
 ·simp [Ua]
 ·intro i h1 h2
  simp [Ua] at h1 h2
  rw [Array.getElem_setIfInBounds (by simpa [Ua] using h1)]
  simp only [Ua,zk]
  split
  ·subst_vars;simp
  ·rename_i hne
   simp [show ¬i=k from fun e=>hne e.symm]
theorem mk_n {P:Program} {t e:TypeId} {size bytes:Nat} {z:Value} (E:JG P t e size bytes z) (n:Nat) (hb:bytes*n≤281474976710656) (hn:(n:Int)≤9223372036854775807) (w:World) :
  (Instr.makeSlice t (.int .i64 (n:Int)) (.int .i64 (n:Int))).run P w= .ok (.slice (some ⟨w.heap.size,0,none⟩) n n) (w.alloc (.cells (madeCells z.cells (n*size)) e)):=by
 obtain ⟨ht,⟨i,hi,hz,hs,hby⟩,hzs,hsz⟩:=E
 have:=run_make (P:=P) w t e i z ht hi hz .i64 .i64 (n:Int) (n:Int) (by omega) (Int.le_refl _) (by rw [hby,←Int.natCast_mul];exact Int.ofNat_le.2 hb) hn
 rw [Int.toNat_natCast,hs] at this
 exact this
theorem info_w:(Tryz.prog.info? 22).map (fun i=>(i.zero,i.size,i.bytes))=some (some (.int .u64 0),1,8):=by kernel_rfl
theorem Gi:JG Tryz.prog 28 22 1 8 (.int .u64 0):=by
 obtain ⟨i0,hi,hz0,hz1,hz2⟩:=info_parts info_w
 exact ⟨Tryz.underlying28,⟨i0,hi,hz0,hz1,hz2⟩,rfl,by omega⟩
def S (l:List Nat):ByteArray:=⟨(l.map fun n=>UInt8.ofNat n).toArray⟩
theorem S_size (l:List Nat):(S l).size=l.length:=by simp [S,ByteArray.size]
theorem jM {P:Program} {w:World} {src e dst:TypeId} {A:Option Addr} {n c:Nat} {l:List Nat} (hs:P.underlying src=some (.slice e)) (he:P.underlying e=some (.int .u8)) (hd:P.underlying dst=some .string)
  (h:Rd w 1 A n (U8 l)):(convert src dst (.slice A n c)).run P w= .ok (.string (S l)) w:=by
 have hl:l.length=n:=by have:=h.len1;rwa [zCu] at this
 rcases Nat.eq_zero_or_pos n with h0 | h0
 ·subst h0
  obtain rfl:l=[]:=List.eq_nil_of_length_eq_zero hl
  rcases A with _ | ad
  ·rw [run_convert_bytes_nil w src e hs he _ _ dst hd]
   rfl
  ·rw [run_convert_bytes_string w src dst e _ 0 c hs he hd,run_bytesToString w ad 0 c [] (by simpa using run_loadCells_list (P:=P) w ad [] (fun j v hj=>by simp at hj))]
   rfl
 ·obtain ⟨ad,rfl,hc⟩:=h.2 h0
  have hlc:=run_loadCells_list (P:=P) w ad (U8 l) hc
  rw [zCu,hl] at hlc
  rw [run_convert_bytes_string w src dst e _ n c hs he hd,run_bytesToString w ad n c (l.map fun x:Nat=>(x:Int)) (by rw [hlc];simp [U8,Function.comp_def]),foldl_push_bytes]
  simp [S,ByteArray.empty,ByteArray.emptyWithCapacity,Function.comp_def]
  rfl
def RRows (w:World) (cs:List Value) (l:List (List Nat)):Prop:=RSl 1 RWd w cs l
theorem ZY {P:Program} {l:List Oper} {hs:List Nat} {Q:Exit→Act→World→Prop} {R:World→World→Prop} {listed:Array Bool} {a:Act} {w:World} (M:Yx R) {order:List Nat} (h:∀ W,Hid (W=w)→R w W→wpO P l hs Q R order listed a W):wpO P l hs Q R order listed a w:=h w rfl (M.refl w)
theorem Z2 {g:Nat} {w w':World} (h:Below w.heap.size w w'):Vg g w w':=jD (ZO w _) h (Nat.le_refl _)
end Go.Proofs.YtdhhdplholkmdaaGreat
