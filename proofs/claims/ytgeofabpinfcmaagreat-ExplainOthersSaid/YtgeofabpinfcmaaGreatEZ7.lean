/- A part of the proof. No condition. -/
import Derived.Test.YtgeofabpinfcmaaGreatProg
import Derived.Test.YtgeofabpinfcmaaGreatEZ5
import Derived.Test.YtgeofabpinfcmaaGreatEZ4
import Derived.Laws.OwnMore

set_option maxRecDepth 100000
set_option maxHeartbeats 8000000
set_option linter.unusedVariables false
set_option linter.unusedSimpArgs false
namespace Go.Proofs.YtgeofabpinfcmaaGreat
open Go.RowKit
theorem Ra {w:World} {A:Option Addr} {n c:Nat} {l:List Nat} (h:RWd w [.slice A n c] l):n=l.length /\ n <= c /\ c <= maxLen /\ (∀ x∈l,x<18446744073709551616) /\ Rd w 1 A n (Fa l):=by
 obtain ⟨A',n',c',he,h1,h2,h3,h4⟩:=h;simp at he
 obtain ⟨rfl,rfl,rfl⟩:=he;have:=h3.len1;rw [Ou] at this;exact ⟨this.symm,h1,h2,h4,h3⟩
theorem Vd {w:World} {A:Option Addr} {l:List Nat} (h:Rd w 1 A l.length (Fa l)) {j:Nat} (hj:j<l.length):∃ b q,A=some ⟨b,q,none⟩ /\ b<w.heap.size /\ w.cell? ⟨b,q+j,none⟩=some (.int .u64 ((l.getD j 0:Nat):Int)):=by
 obtain ⟨b,q,e,hb,hc⟩:=uI h (by omega)
 refine ⟨b,q,e,hb,?_⟩;rw [hc j hj,FA hj,List.getD_eq_getElem?_getD,List.getElem?_eq_getElem hj]
 rfl
theorem Kf {n c:Nat} (h1:n <= c) (h2:c <= maxLen):(n:Int) <= 9223372036854775807:=by
 simp [maxLen] at h2
 omega
theorem GX {l:List Nat} {B:Nat} (h:∀ x∈l,x<B) {k:Nat} (hk:k<l.length):l.getD k 0<B:=by
 rw [List.getD_eq_getElem?_getD,List.getElem?_eq_getElem hk];exact h _ (List.getElem_mem _)
theorem Pu (l:List Nat) (k:Nat) (h:k<l.length):l.take (k+1)=l.take k++[l.getD k 0]:=by
 rw [List.take_succ_eq_append_getElem h,List.getD_eq_getElem?_getD,List.getElem?_eq_getElem h]
 rfl
theorem FX {β:Type} (f:β -> Nat -> β) (b:β) (l:List Nat) (k:Nat) (h:k<l.length):(l.take (k+1)).foldl f b=f ((l.take k).foldl f b) (l.getD k 0):=by
 rw [Pu l k h,List.foldl_append]
 rfl
theorem qf {w:World} {base:Nat} {e:TypeId} {A:Option Addr} {c n:Nat} {l:List Nat} (h:w.ownsRow base e 1 (.slice A n c) n (Fa l)) (hl:∀ x∈l,x<18446744073709551616):RWd w [.slice A n c] l:=by
 obtain ⟨A',c',he,h1,h2,h3,-⟩:=Ob h;simp at he
 obtain ⟨rfl,rfl⟩:=he;exact ⟨A,n,c,rfl,h1,h2,h3,hl⟩
theorem Ae {W W':World} {B:Nat} {e:TypeId} {size:Nat} {v:Value} {n:Nat} {xs:List Value} (h:W.ownsRow B e size v n xs) (hg:W.grownBy W' v.ownBlock) (hB:B <= W.heap.size):Below B W W' :=
 TE hg B hB fun g e=>(h.lt g e).1
theorem Qi {w:World} {B m:Nat} {t:TypeId} {v:Value} {a b c:List Nat} (h:w.ownsRow B t 1 v m (Fa a++Fa b)) (e:a++b=c):w.ownsRow B t 1 v m (Fa c):=by
 rw [<- e,UN];exact h
theorem IC {w:World} {g:Nat} {t:TypeId} {l:List Nat} (h:Blk w g t (Fa l).toArray) (hl:∀ x∈l,x<18446744073709551616) (hm:l.length <= maxLen):RWd w [.slice (some ⟨g,0,none⟩) l.length l.length] l:=by
 refine ⟨_,_,_,rfl,zR,hm,⟨by rw [Ou,Nat.mul_one],fun _=>⟨_,rfl,fun j u hu=>?_⟩⟩,hl⟩
 rw [Ep,Nat.zero_add,h.cell]
 simpa using hu
def Ha (n:Nat) (f:Nat -> Nat):Array Value:=((List.range n).map fun k=>Value.int .u64 (f k:Int)).toArray
def ef (f:Nat -> Nat) (k v:Nat):Nat -> Nat:=fun i=>if i=k then v else f i
theorem dg {n k:Nat} (f:Nat -> Nat) (h:k<n):(Ha n f)[k]?=some (.int .u64 (f k:Int)):=by simp [Ha,h]
theorem pk {n:Nat} {f g:Nat -> Nat} (h:∀ i,i<n -> f i=g i):Ha n f=Ha n g:=by
 unfold Ha
 congr 1
 exact List.map_congr_left fun i hi=>by rw [h i (List.mem_range.1 hi)]
theorem zo {n:Nat} (f:Nat -> Nat) (k v:Nat):(Ha n f).setIfInBounds k (.int .u64 v)=Ha n (ef f k v):=by
 apply Array.ext
 ·simp [Ha]
 ·intro i h1 h2
  simp [Ha] at h1 h2
  rw [Array.getElem_setIfInBounds (by simpa [Ha] using h1)]
  simp only [Ha,ef];split
  ·subst_vars;simp
  ·rename_i Bb
   simp [show ¬i=k from fun e=>Bb e.symm]
theorem Ms (n:Nat) (f:Nat -> Nat):Ha n f=(Fa ((List.range n).map f)).toArray:=by simp [Ha,Fa]
theorem jk {w:World} {g n:Nat} {t:TypeId} {f:Nat -> Nat} (h:Blk w g t (Ha n f)) (hf:∀ i,i<n -> f i<18446744073709551616) (hn:n <= maxLen):RWd w [.slice (some ⟨g,0,none⟩) n n] ((List.range n).map f):=by
 rw [Ms] at h;have:=IC h (fun x hx=>by
  obtain ⟨i,hi,rfl⟩:=List.mem_map.1 hx;exact hf i (List.mem_range.1 hi)) (by simpa using hn)
 simpa using this
theorem mk_n {P:Program} {t e:TypeId} {size bytes:Nat} {z:Value} (E:Pz P t e size bytes z) (n:Nat) (hb:bytes*n <= 281474976710656) (hn:(n:Int) <= 9223372036854775807) (w:World) :
  (Instr.makeSlice t (.int .i64 n) (.int .i64 n)).run P w= .ok (.slice (some ⟨w.heap.size,0,none⟩) n n) (w.alloc (.cells (madeCells z.cells (n*size)) e)):=by
 obtain ⟨ht,⟨i,hi,hz,hs,Zd⟩,hzs,Nb⟩:=E;have:=run_make (P:=P) w t e i z ht hi hz .i64 .i64 (n:Int) (n:Int) (by omega) (Int.le_refl _) (by rw [Zd,<- Int.natCast_mul];exact Int.ofNat_le.2 hb) hn
 rw [Int.toNat_natCast,hs] at this;exact this
theorem wQ (n:Nat):madeCells (Value.int .u64 0).cells (n*1)=Ha n fun _=>0:=by
 apply Array.toList_inj.1
 rw [show (Value.int .u64 0).cells=#[.int .u64 0] from rfl,toList_madeCells_one]
 exact List.ext_getElem (by simp [Ha]) fun i h1 h2=>by simp [Ha]
theorem fX:(Tryz.prog.info? 22).map (fun i=>(i.zero,i.size,i.bytes))=some (some (.int .u64 0),1,8):=by kernel_rfl
theorem xf:Pz Tryz.prog 28 22 1 8 (.int .u64 0):=by
 obtain ⟨i0,hi,Tg,fe,sh⟩:=info_parts fX;exact ⟨Tryz.underlying28,⟨i0,hi,Tg,fe,sh⟩,rfl,by omega⟩
theorem mj (n:Nat) (hn:n <= 1000000) (w:World) :
  (Instr.makeSlice 28 (.int .i64 n) (.int .i64 n)).run Tryz.prog w= .ok (.slice (some ⟨w.heap.size,0,none⟩) n n) (w.alloc (.cells (Ha n fun _=>0) 22)):=by
 have:=mk_n (P:=Tryz.prog) xf n (by omega) (by omega) w
 rw [wQ] at this;exact this
end Go.Proofs.YtgeofabpinfcmaaGreat
namespace Go.Proofs.YtgeofabpinfcmaaGreat
def og:List Nat -> List Nat
 | []=>[]
 | x :: l=>if og l=[] /\ x=0 then [] else x :: og l
theorem MT:∀ l:List Nat,og (l++[0])=og l
 | []=>rfl
 | x :: l=>by
  rw [List.cons_append,og,MT l]
  rfl
theorem pN {y:Nat} (hy:y≠0):∀ l:List Nat,og (l++[y])=l++[y]
 | []=>by simp [og,hy]
 | x :: l=>by
  rw [List.cons_append,og,pN hy l];simp
theorem JT:∀ l:List Nat,(og l).length <= l.length
 | []=>zR
 | x :: l=>by
  rw [og];split
  ·exact Nat.zero_le _
  ·have:=JT l
   simpa using this
theorem mN:∀ (l:List Nat) (i:Nat),(og l).getD i 0=l.getD i 0
 | [],_=>rfl
 | x :: l,i=>by
  rw [og];split
  ·rename_i h
   cases i with
   | zero=>simp [h.2]
   | succ i =>
    have:=mN l i;rw [h.1] at this
    simpa using this
  ·cases i with
   | zero=>rfl
   | succ i=>simpa using mN l i
theorem W5 {l:List Nat} {x:Nat}:x∈og l -> x∈l:=by
 induction l with
 | nil=>exact id
 | cons y l ih =>
  rw [og];split
  ·intro h;cases h
  ·intro h
   rcases List.mem_cons.1 h with h | h
   ·exact List.mem_cons.2 (.inl h)
   ·exact List.mem_cons.2 (.inr (ih h))
def Ui (p:Nat) (l:List Nat):List Nat:=og (l.map (·%p))
def pn (p:Nat) (a b:List Nat) (i:Nat):Nat:=(a.getD i 0+b.getD i 0)%p
def Pe (p:Nat) (a b:List Nat):List Nat:=Ui p ((List.range (max a.length b.length)).map (pn p a b))
def xh (p:Nat) (a:List Nat) (n:Nat):List Nat:=Ui p (a.map fun x=>x*n%p)
def xj (a:List Nat) (n:Nat):List Nat:=List.replicate n 0++a
def xg (p:Nat) (a b:List Nat):Nat -> List Nat
 | 0=>[]
 | k+1=>Pe p (xg p a b k) (xj (xh p b (a.getD k 0)) k)
def Be (p:Nat) (a b:List Nat):List Nat:=xg p a b a.length
def evS (p:Nat) (a:List Nat) (f:Nat -> Nat):Nat -> Nat
 | 0=>0
 | k+1=>(evS p a f k+a.getD k 0*f k%p)%p
def yg (p x:Nat):Nat -> Nat
 | 0=>1
 | k+1=>yg p x k*x%p
def Bc (p:Nat) (a:List Nat) (x:Nat):Nat:=evS p a (yg p x) a.length
def Te (a:List Nat) (n:Nat):List Nat:=a++List.replicate (n-a.length) 0
theorem MH (p:Nat) (l:List Nat) (i:Nat):(l.map (·%p)).getD i 0=l.getD i 0%p:=by
 rw [List.getD_eq_getElem?_getD,List.getD_eq_getElem?_getD,List.getElem?_map];cases l[i]? <;> simp
theorem lN (p:Nat) (l:List Nat) (i:Nat):(Ui p l).getD i 0=l.getD i 0%p:=by
 rw [Ui,mN,MH]
theorem nG {p:Nat} (hp:0<p) {l:List Nat} {x:Nat} (h:x∈Ui p l):x<p:=by
 obtain ⟨y,-,rfl⟩:=List.mem_map.1 (W5 h);exact Nat.mod_lt _ hp
theorem QI (p:Nat) (l:List Nat):(Ui p l).length <= l.length:=by
 have:=JT (l.map (·%p))
 simpa [Ui] using this
theorem Qf (f:Nat -> Nat) (n i:Nat):((List.range n).map f).getD i 0=if i<n then f i else 0:=by
 rw [List.getD_eq_getElem?_getD,List.getElem?_map];split
 ·rename_i h
  rw [List.getElem?_range h]
  rfl
 ·rename_i h
  rw [List.getElem?_eq_none (by simpa using h)]
  rfl
theorem ym {l:List Nat} {i:Nat} (h:l.length <= i):l.getD i 0=0:=by
 rw [List.getD_eq_getElem?_getD,List.getElem?_eq_none h]
 rfl
theorem Jk (p:Nat) (a b:List Nat) (i:Nat):(Pe p a b).getD i 0=(a.getD i 0+b.getD i 0)%p:=by
 rw [Pe,lN,Qf];split
 ·rw [pn,Nat.mod_mod]
 ·rename_i h
  rw [ym (l:=a) (by omega),ym (l:=b) (by omega)]
theorem nn (p:Nat) (a b:List Nat):(Pe p a b).length <= max a.length b.length:=by
 have:=QI p ((List.range (max a.length b.length)).map (pn p a b))
 simpa [Pe] using this
theorem xQ (f:Nat -> Nat) (h:f 0=0) (l:List Nat) (i:Nat):(l.map f).getD i 0=f (l.getD i 0):=by
 rw [List.getD_eq_getElem?_getD,List.getD_eq_getElem?_getD,List.getElem?_map];cases l[i]? <;> simp [h]
theorem Hz (p:Nat) (a:List Nat) (n i:Nat):(xh p a n).getD i 0=a.getD i 0*n%p:=by
 rw [xh,lN,xQ (fun x=>x*n%p) (by simp),Nat.mod_mod]
theorem uq (p:Nat) (a:List Nat) (n:Nat):(xh p a n).length <= a.length:=by
 have:=QI p (a.map fun x=>x*n%p)
 simpa [xh] using this
theorem iD (a:List Nat) (n i:Nat):(xj a n).getD i 0=if i<n then 0 else a.getD (i-n) 0:=by
 rw [xj,List.getD_eq_getElem?_getD];split
 ·rename_i h
  rw [List.getElem?_append_left (by simpa using h)]
  simp [h]
 ·rename_i h
  rw [List.getElem?_append_right (by simpa using h),List.getD_eq_getElem?_getD,List.length_replicate]
theorem JI (a:List Nat) (n:Nat):(xj a n).length=n+a.length:=by simp [xj]
theorem GL (p:Nat) (a b:List Nat):∀ k,(xg p a b (k+1)).length <= k+b.length
 | 0=>by
  have h1:=nn p (xg p a b 0) (xj (xh p b (a.getD 0 0)) 0);have h3:=uq p b (a.getD 0 0);rw [JI] at h1;have h0:(xg p a b 0).length=0:=rfl;rw [h0] at h1;rw [xg];omega
 | k+1=>by
  have h1:=nn p (xg p a b (k+1)) (xj (xh p b (a.getD (k+1) 0)) (k+1));have h2:=GL p a b k;have h3:=uq p b (a.getD (k+1) 0);rw [JI] at h1;rw [xg];omega
theorem Dr (p:Nat) (a b:List Nat):(Be p a b).length <= a.length-1+b.length:=by
 rw [Be];cases h:a.length with
 | zero=>exact Nat.zero_le _
 | succ k=>exact GL p a b k
theorem IQ {p:Nat} (a b:List Nat) (k i:Nat) (h:a.getD k 0=0):(xg p a b (k+1)).getD i 0=(xg p a b k).getD i 0%p:=by
 rw [xg,Jk,iD,Hz,h];split <;> simp
theorem aY {p:Nat} (hp:0<p) (a b:List Nat) (k i:Nat):(xg p a b k).getD i 0<p:=by
 cases k with
 | zero=>simpa [xg] using hp
 | succ k=>rw [xg,Jk];exact Nat.mod_lt _ hp
theorem Ir (a:List Nat) (n i:Nat):(Te a n).getD i 0=a.getD i 0:=by
 rw [Te,List.getD_eq_getElem?_getD,List.getD_eq_getElem?_getD];by_cases h:i<a.length
 ·rw [List.getElem?_append_left h]
 ·rw [List.getElem?_append_right (by omega),List.getElem?_eq_none (l:=a) (by omega),List.getElem?_replicate]
  split <;> rfl
theorem Uu (a:List Nat) (n:Nat):(Te a n).length=max n a.length:=by
 simp [Te]
 omega
theorem Om {a b:List Nat} (hl:a.length=b.length) (h:∀ i,i<a.length -> a.getD i 0=b.getD i 0):a=b:=by
 apply List.ext_getElem hl
 intro i h1 h2;have:=h i h1;rw [List.getD_eq_getElem?_getD,List.getD_eq_getElem?_getD,List.getElem?_eq_getElem h1,List.getElem?_eq_getElem h2] at this;exact this
theorem NH {l:List Nat} {B:Nat} (h:∀ i,l.getD i 0<B):∀ x∈l,x<B:=fun x hx=>by
 obtain ⟨i,hi,rfl⟩:=List.getElem_of_mem hx;have:=h i
 rwa [List.getD_eq_getElem?_getD,List.getElem?_eq_getElem hi] at this
end Go.Proofs.YtgeofabpinfcmaaGreat
namespace Go.Proofs.YtgeofabpinfcmaaGreat
open Go.RowKit
def Yf (B:Nat) (w w':World):Prop:=Below B w w'
theorem zb (B:Nat):Oe (Yf B):=⟨fun w=>Below.refl _ w,fun _ _ _ h k=>Below.trans h k⟩
theorem lH {B:Nat} {w w':World} (h:Yf B w.drew w'):∀ b o,b<B -> w'.cell? ⟨b,o,none⟩=w.cell? ⟨b,o,none⟩:=fun b o hb=>Below.cell h (p:=⟨b,o,none⟩) hb
theorem Nf {a b:Prop} (h:a) (s:Imp a b:=by
 (repeat ((first | (apply Imp.via (mD (zb _) rfl rfl (fun _ _ _ h=>h))) | (apply Imp.via (lD (v:=?_) (zb _) rfl rfl (fun _ _ _ h=>h) ?hr);case hr=>(intro w' hR;(first | have Bn:=lH ((zb _).trans _ _ _ ja hR) | skip);go_simp;try with_reducible rfl)));simp only [Act.put,zLa,zLb,zLc]))
 exact Imp.rfl'):b:=s h
theorem yf {B:Nat} {w w':World} (h:Below w.heap.size w w') (hB:B <= w.heap.size):Yf B w w':=h.mono hB
theorem zP {B:Nat} (w:World) {g i:Nat} (v:Value) (hg:B <= g):Yf B w (w.setCell ⟨g,i,none⟩ v):=(Below.refl B w).setCell (p:=⟨g,i,none⟩) hg v
def okL (l:List Oper):List Nat -> Array Bool -> Bool
 | [],_=>true
 | i :: rest,Ca=>decide (i<l.length)&&Region.free .any l.toArray Ca i&&(Region.ready .any l.toArray Ca).contains i&&okL l rest (Ca.setIfInBounds i true)
def Nz (P:Program) (l:List Oper) (Q:Exit -> Act -> World -> Prop) (R:World -> World -> Prop) (order:List Nat) (fuel:Nat) (Ca:Array Bool) (a:Act) (w:World):Prop :=
 Region.noSelect l.toArray=true -> okL l order Ca=true -> Ci P l.toArray Q R (order.length+fuel) Ca a w
section
variable {P:Program} {l:List Oper} {Q:Exit -> Act -> World -> Prop} {R:World -> World -> Prop} {rest:List Nat} {fuel i:Nat} {o:Oper} {Ca:Array Bool} {a:Act} {w:World}
theorem XI {id:Nat} (R:World -> World -> Prop) (order:List Nat) (fuel:Nat) (hm:P.follows .mixedOrders=true) (Ta:(Region.noSelect l.toArray&&order.length+fuel == l.length&&okL l order (List.replicate l.length false).toArray)=true)
  (h:Nz P l Q R order fuel (List.replicate l.length false).toArray a w.drew):(Code.region id l.toArray true).wp P Q a w:=by
 simp only [Bool.and_eq_true,beq_iff_eq] at Ta;refine AE R hm ?_;rw [<- Ta.1.2];have:=h Ta.1.1 Ta.2
 rwa [Ta.1.2] at this |-
theorem ZI (M:Oe R) {order:List Nat} (h:∀ W,Hid (W=w) -> R w W -> Nz P l Q R order fuel Ca a W):Nz P l Q R order fuel Ca a w:=h w rfl (M.refl w)
theorem WQ (h:okL l (i :: rest) Ca=true):i<l.length /\ Region.free .any l.toArray Ca i=true /\ (Region.ready .any l.toArray Ca).contains i=true /\ okL l rest (Ca.setIfInBounds i true)=true:=by
 unfold okL at h;simp only [Bool.and_eq_true,decide_eq_true_eq] at h;obtain ⟨⟨⟨h1,h2⟩,h3⟩,h4⟩:=h;exact ⟨h1,h2,h3,h4⟩
theorem L6 {v:Value} (M:Oe R) (ho:l[i]?=some o) (hw:Region.wanted o (yielded l.toArray a.tmps)=true) (hQ:∀ c a w,Q (.panic c) (a.put o.dst v) w -> Q (.panic c) a w)
  (Re:∀ w',R w w' -> (execOp a.eval o).run P w'= .ok (.value v) w') (h:Nz P l Q R rest fuel (Ca.setIfInBounds i true) (a.put o.dst v) w):Nz P l Q R (i :: rest) fuel Ca a w:=by
 intro hn Ta;obtain ⟨h1,h2,h3,h5⟩:=WQ Ta;have e:=Dl (h:=h1) ho;subst e;have:=Qh (fuel:=rest.length+fuel) i M h1 hn h2 h3 hQ (.inl ⟨hw,Re⟩) (h hn h5);rw [List.length_cons,show rest.length+1+fuel=rest.length+fuel+1 by omega]
 exact this
theorem M6 (M:Oe R) (ho:l[i]?=some o) (hw:Region.wanted o (yielded l.toArray a.tmps)=false) (hQ:∀ c a w,Q (.panic c) (a.put o.dst undef) w -> Q (.panic c) a w)
  (h:Nz P l Q R rest fuel (Ca.setIfInBounds i true) (a.put o.dst undef) w):Nz P l Q R (i :: rest) fuel Ca a w:=by
 intro hn Ta;obtain ⟨h1,h2,h3,h5⟩:=WQ Ta;have e:=Dl (h:=h1) ho;subst e;have:=Qh (fuel:=rest.length+fuel) i M h1 hn h2 h3 hQ (.inr ⟨hw,rfl⟩) (h hn h5);rw [List.length_cons,show rest.length+1+fuel=rest.length+fuel+1 by omega]
 exact this
theorem jJ {a b:Prop} (h:a) (s:Imp a b:=by
 (repeat ((first | (apply Imp.via (M6 (zb _) rfl rfl (fun _ _ _ h=>h))) | (apply Imp.via (L6 (v:=?_) (zb _) rfl rfl (fun _ _ _ h=>h) ?hr);case hr=>(intro w' hR;(first | have Bn:=lH ((zb _).trans _ _ _ ja hR) | skip);go_simp;try with_reducible rfl)));simp only [Act.put,zLa,zLb,zLc]))
 exact Imp.rfl'):b:=s h
end
def Rj (a:Act) (vs:Nat -> Value) (js:List (Option Tmp × Nat)):Act:=js.foldl (fun a j=>a.put j.1 (vs j.2)) a
theorem mM (l:List Oper) (vs:Nat -> Value):∀ (js:List Nat) (a:Act),Ri l vs a js=Rj a vs (js.map fun j=>(Gf l j,j))
 | [],_=>rfl
 | _ :: js,_=>mM l vs js _
section
variable {P:Program} {l:List Oper} {Q:Exit -> Act -> World -> Prop} {R:World -> World -> Prop} {T:List Ik} {ps:List (Nat × Rr)} {B:Nat} {w0:World} {a0:Act} {L0:Array Bool}
abbrev NoX:Nat -> Prop:=fun _=>False
theorem dH {B:Nat} {w w':World}:Tm B NoX w w'↔Below B w w':=⟨fun h=>⟨h.1,h.2.1,h.2.2.1,h.2.2.2.1,fun b hb=>h.2.2.2.2 b hb id⟩,fun h=>⟨h.os,h.tape,h.output,h.size,fun b hb _=>h.block b hb⟩⟩
def Um (w w':World) (F:Nat -> Nat -> Prop) (eat:List Nat):Nat -> Prop:=fun b=>(w.heap.size <= b /\ b<w'.heap.size) \/ ∃ j∈eat,F j b
def sm (B:Nat) (w w':World) (F:Nat -> Nat -> Prop) (eat:List Nat):Prop:=Below B w w' /\ ∀ b,b<w.heap.size -> (∀ j∈eat,¬F j b) -> w'.heap[b]?=w.heap[b]?
theorem ML (B:Nat) (w:World) (F:Nat -> Nat -> Prop) (eat:List Nat):sm B w w F eat:=⟨Below.refl _ _,fun _ _ _=>rfl⟩
theorem Ru {B:Nat} {w w':World} (h:Below w.heap.size w w') (hB:B <= w.heap.size) (F:Nat -> Nat -> Prop) (eat:List Nat):sm B w w' F eat:=⟨h.mono hB,fun b hb _=>h.block b hb⟩
theorem YI (M:Oe R) (T:List Ik) (ps:List (Nat × Rr)) (js:List (Option Tmp × Nat)) (hs tail:List Nat) {fuel:Nat} (hn:Region.noSelect l.toArray=true)
  (Ta:(RH l T L0&&(T.all fun s=>decide (s.i<l.length))&&decide (T.length+tail.length=fuel)&&Su l hs tail (Mq T L0)&&(((T.map (·.i)).map fun j=>(Gf l j,j)) == js))=true)
  (hB:B <= w0.heap.size) (hR:∀ w',Below B w0 w' -> R w0 w') (jC:∀ s∈T,uD (RC ps) B NoX w0 s) (LF:∀ s∈T,LG P l (RC ps) B NoX w0 a0 s)
  (Du:∀ (w:World) (vs:Nat -> Value) (F:Nat -> Nat -> Prop),Below B w0 w -> (∀ s∈T,(∀ k∈T,s.i ∉ k.eat) -> RC ps s.i vs (F s.i) w /\ ∀ b,F s.i b -> b<w.heap.size /\ B <= b) -> (∀ j k b,j≠k -> F j b -> ¬F k b) ->
   fm P l hs Q R tail (Mq T L0) (Rj a0 vs js) w):Nz P l Q R [] fuel L0 a0 w0:=by
 intro _ _;simp only [Bool.and_eq_true,beq_iff_eq,decide_eq_true_eq] at Ta;obtain ⟨⟨⟨⟨h1,h2⟩,h3⟩,h4⟩,h5⟩:=Ta;rw [List.all_eq_true] at h2;have ok:=YQ h1;have za:∀ s∈T,s.i<l.length:=fun s hs=>by simpa using h2 s hs
 have zw:∀ s∈T,L0.getD s.i true=false:=fun s hs=>(PC _ _ ok.topo _ (List.mem_map.2 ⟨s,hs,rfl⟩) _ (List.getElem?_eq_getElem (za s hs))).2
 rw [List.length_nil,Nat.zero_add];refine O6 (X:=NoX) (fr:=tail.length) M hn h1 hB (fun w' h=>hR w' (dH.1 h)) (fun _=>undef) (fun _=>l.length) (fun _ _=>zR) (fun s hs h=>absurd (za s hs) (Nat.not_lt.2 h)) jC LF ?_ fun w vs F he hf hd=>?_
 ·rw [List.filter_eq_self.2 fun s hs=>by rw [zw s hs];rfl]
  exact h3
 ·have e:(T.map (·.i)).filter (·<l.length)=T.map (·.i):=List.filter_eq_self.2 fun j hj=>by
   obtain ⟨s,hs,rfl⟩:=List.mem_map.1 hj
   simpa using za s hs
  rw [e,mM,h5];exact Du w vs F (dH.1 he) (fun s hs Bb=>⟨(hf s hs Bb).1,fun b hb=>⟨((hf s hs Bb).2 b hb).1,((hf s hs Bb).2 b hb).2.resolve_right id⟩⟩) hd hn h4
theorem yq {s:Ik} {o:Oper} (js:List (Option Tmp × Nat)) (ho:l[s.i]?=some o) (hjs:((s.deps.filter (·<l.length)).map fun j=>(Gf l j,j))=js)
  (h:∀ (w:World) (vs:Nat -> Value) (F:Nat -> Nat -> Prop),Below B w0 w -> (∀ j∈s.deps,RC ps j vs (F j) w /\ ∀ b,F j b -> b<w.heap.size /\ B <= b) -> (∀ j k b,j≠k -> F j b -> ¬F k b) ->
   Vi P (execOp (Rj a0 vs js).eval o) w fun v w'=>sm B w w' F s.eat /\ RC ps s.i (Nh vs s.i v) (Um w w' F s.eat) w'):LG P l (RC ps) B NoX w0 a0 s:=by
 intro o' ho' w vs F he hd Dg;rw [ho] at ho';obtain rfl:=Option.some.inj ho';rw [mM,hjs];refine SO ?_ (h w vs F (dH.1 he) (fun j hj=>⟨(hd j hj).1,fun b hb=>⟨((hd j hj).2 b hb).1,((hd j hj).2 b hb).2.resolve_right id⟩⟩) Dg)
 rintro v w' ⟨h1,h2⟩;exact ⟨dH.2 h1.1,h1.2,h2⟩
end
def zs (f:(Nat -> Value) -> Value) (i:Nat):Rr:=fun vs _ _=>vs i=f vs
def vf (t:TypeId) (cs:(Nat -> Value) -> Array Value) (mk:Nat -> Value) (i:Nat):Rr:=fun vs F w=>∃ g,vs i=mk g /\ F g /\ Blk w g t (cs vs)
abbrev Se (n:Nat):Nat -> Value:=fun g=>.slice (some ⟨g,0,none⟩) n n
abbrev mq:Nat -> Value:=fun g=>.pointer (some ⟨g,0,none⟩)
section
variable {p:Nat -> Rr} {B:Nat} {X:Nat -> Prop} {w0:World} {s:Ik}
theorem XM {f:(Nat -> Value) -> Value} (hp:p s.i=zs f s.i) (hf:∀ vs us:Nat -> Value,(∀ m∈s.deps,us m=vs m) -> f us=f vs):uD p B X w0 s:=by
 intro vs us F w w' _ _ h _ _ hv;rw [hp] at hv |-;unfold zs at *;rw [h _ (by simp),hv,hf vs us fun m hm=>h m (by simp [hm])]
theorem uv {t:TypeId} {cs:(Nat -> Value) -> Array Value} {mk:Nat -> Value} (hp:p s.i=vf t cs mk s.i) (hf:∀ vs us:Nat -> Value,(∀ m∈s.deps,us m=vs m) -> cs us=cs vs):uD p B X w0 s:=by
 intro vs us F w w' _ _ h _ hk hv;rw [hp] at hv |-;obtain ⟨g,h1,h2,h3⟩:=hv;exact ⟨g,by rw [h _ (by simp),h1],h2,by rw [hf vs us fun m hm=>h m (by simp [hm])];exact (hk g h2).trans h3⟩
theorem ru {w w':World} {t:TypeId} {cs:(Nat -> Value) -> Array Value} {mk:Nat -> Value} {F:Nat -> Nat -> Prop} {eat:List Nat} {vs:Nat -> Value} {i g:Nat} (h:Blk w' g t (cs (Nh vs i (mk g)))) (hg:w.heap.size <= g):vf t cs mk i (Nh vs i (mk g)) (Um w w' F eat) w' :=
 ⟨g,VT _ _ _, .inl ⟨hg,h.lt⟩,h⟩
end
end Go.Proofs.YtgeofabpinfcmaaGreat
