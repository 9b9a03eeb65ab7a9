/- A part of the proof. No condition. -/
import Derived.Laws.OwnMore
import Derived.Test.YtjipleoamlmkfaaGreatProg
import Derived.Test.YtjipleoamlmkfaaGreatPF14

set_option maxRecDepth 100000
set_option maxHeartbeats 8000000
set_option linter.unusedVariables false
set_option linter.unusedSimpArgs false
namespace Go.Proofs.YtjipleoamlmkfaaGreat
open Go.RowKit
def Fa (n:Nat) (f:Nat -> Nat):Array Value:=((List.range n).map fun k=>Value.int .u64 (f k:Int)).toArray
def Pe (f:Nat -> Nat) (k v:Nat):Nat -> Nat:=fun i=>if i=k then v else f i
theorem Fe {n k:Nat} (f:Nat -> Nat) (h:k<n):(Fa n f)[k]?=some (.int .u64 (f k:Int)):=by simp [Fa,h]
theorem ui {n:Nat} {f g:Nat -> Nat} (h:∀ i,i<n -> f i=g i):Fa n f=Fa n g:=by
 unfold Fa
 congr 1
 exact List.map_congr_left fun i hi=>by rw [h i (List.mem_range.1 hi)]
theorem Tm {n:Nat} (f:Nat -> Nat) (k v:Nat):(Fa n f).setIfInBounds k (.int .u64 v)=Fa n (Pe f k v):=by
 apply Array.ext
 ·simp [Fa]
 ·intro i h1 h2
  simp [Fa] at h1 h2
  rw [Array.getElem_setIfInBounds (by simpa [Fa] using h1)]
  simp only [Fa,Pe];split
  ·subst_vars;simp
  ·rename_i Ka
   simp [show ¬i=k from fun e=>Ka e.symm]
theorem Dq (n:Nat) (f:Nat -> Nat):Fa n f=(Ca ((List.range n).map f)).toArray:=by simp [Fa,Ca]
theorem Gv {w:World} {g n:Nat} {t:TypeId} {f:Nat -> Nat} (h:Blk w g t (Fa n f)) (hf:∀ i,i<n -> f i<18446744073709551616) (hn:n <= maxLen):RWd w [.slice (some ⟨g,0,none⟩) n n] ((List.range n).map f):=by
 rw [Dq] at h;have:=Ix h (fun x hx=>by
  obtain ⟨i,hi,rfl⟩:=List.mem_map.1 hx;exact hf i (List.mem_range.1 hi)) (by simpa using hn)
 simpa using this
theorem vB {P:Program} {t e:TypeId} {size bytes:Nat} {z:Value} (E:Gj P t e size bytes z) (n:Nat) (hb:bytes*n <= 281474976710656) (hn:(n:Int) <= 9223372036854775807) (w:World) :
  (Instr.makeSlice t (.int .i64 n) (.int .i64 n)).run P w= .ok (.slice (some ⟨w.heap.size,0,none⟩) n n) (w.alloc (.cells (madeCells z.cells (n*size)) e)):=by
 obtain ⟨ht,⟨i,hi,hz,hs,Sq⟩,hzs,Ra⟩:=E;have:=run_make (P:=P) w t e i z ht hi hz .i64 .i64 (n:Int) (n:Int) (by omega) (Int.le_refl _) (by rw [Sq,<- Int.natCast_mul];exact Int.ofNat_le.2 hb) hn
 rw [Int.toNat_natCast,hs] at this;exact this
theorem LO (n:Nat):madeCells (Value.int .u64 0).cells (n*1)=Fa n fun _=>0:=by
 apply Array.toList_inj.1
 rw [show (Value.int .u64 0).cells=#[.int .u64 0] from rfl,toList_madeCells_one]
 exact List.ext_getElem (by simp [Fa]) fun i h1 h2=>by simp [Fa]
theorem XN:(Tryz.prog.info? 22).map (fun i=>(i.zero,i.size,i.bytes))=some (some (.int .u64 0),1,8):=by kernel_rfl
theorem Vi:Gj Tryz.prog 28 22 1 8 (.int .u64 0):=by
 obtain ⟨i0,hi,Ff,Zb,td⟩:=info_parts XN;exact ⟨Tryz.underlying28,⟨i0,hi,Ff,Zb,td⟩,rfl,by omega⟩
theorem Fp (n:Nat) (hn:n <= 1000000) (w:World) :
  (Instr.makeSlice 28 (.int .i64 n) (.int .i64 n)).run Tryz.prog w= .ok (.slice (some ⟨w.heap.size,0,none⟩) n n) (w.alloc (.cells (Fa n fun _=>0) 22)):=by
 have:=vB (P:=Tryz.prog) Vi n (by omega) (by omega) w
 rw [LO] at this;exact this
theorem zDj {l1 l2:List Nat} {k:Nat} (h:l1.take k=l2.take k) (h1:k<l1.length) (h2:k<l2.length) (e:l1.getD k 0=l2.getD k 0):l1.take (k+1)=l2.take (k+1):=by
 rw [tB l1 k h1,tB l2 k h2,h,e]
theorem zDi {l1 l2:List Nat} {k:Nat} (e:l1.getD k 0≠l2.getD k 0):decide (l1=l2)=false:=decide_eq_false fun h=>e (by rw [h])
theorem zC0 (A1 A2:Option Addr) (n1 c1 n2 c2:Nat) (l1 l2:List Nat) (w:World) (h1:RWd w [.slice A1 n1 c1] l1) (h2:RWd w [.slice A2 n2 c2] l2) :
  Calls Tryz.prog 73 #[.slice A1 n1 c1, .slice A2 n2 c2] w fun e w'=>e= .returned (.bool (decide (l1=l2))) /\ Below w.heap.size w w':=by
 obtain ⟨rfl,a1,a2,a3,r1⟩:=zb h1;obtain ⟨rfl,b1,b2,b3,r2⟩:=zb h2;have gm:=uj a1 a2;have gm2:=uj b1 b2;clear h1 h2 a1 a2 b1 b2 a3 b3;by_cases hn:l1.length=l2.length
 rotate_left
 ·have t1:((l1.length:Int) != (l2.length:Int))=true:=by rw [bne_iff_ne];omega
  have t2:((l1.length:Int) == (l2.length:Int))=false:=by rw [beq_eq_false_iff_ne];omega
  have HF:=zH (show decide (l1=l2)=false from decide_eq_false fun h=>hn (by rw [h]))
  rw [HF.out];generalize l1.length=m1 at *;generalize l2.length=m2 at *;clear r1 r2 hn;go_enter Tryz.func73,Tryz.ntmps73
  go_wp2;go_ret
  exact ⟨rfl,Below.refl _ _⟩
 have t1:((l1.length:Int) != (l2.length:Int))=false:=by rw [bne_eq_false_iff_eq];omega
 have t2:((l1.length:Int) == (l2.length:Int))=true:=by rw [beq_iff_eq];omega
 obtain ⟨n,Ve⟩:∃ n,l1.length=n:=⟨_,rfl⟩;have Od:l2.length=n:=by omega
 rw [Ve] at r1;rw [Od] at r2;rw [Ve,Od] at t1 t2;rw [Ve] at gm;rw [Ve,Od];obtain ⟨ans,ha⟩:=zEX (decide (l1=l2));rw [<- ha];have HA:=zH ha;have H1:=zH Ve;have H2:=zH Od;clear hn Ve Od gm2 ha;go_enter Tryz.func73,Tryz.ntmps73
 go_wp2_with fail
 go_loopw [5] (fun y wr=>∃ i:Nat,i <= n /\ y= .int .i64 i /\ Hid (l1.take i=l2.take i) /\ Below w.heap.size w wr) (fun y _=>n-(intOf y).toNat)
 case atStart=>exact ⟨0,Nat.zero_le _,rfl,rfl,Below.refl _ _⟩
 case round =>
  obtain ⟨i,hi,rfl,HT,Qa⟩:=hrel;by_cases oa:i<n
  ·have g1:(0:Int) <= (i:Int):=by omega
   have g2:(i:Int)<(n:Int):=by omega
   have q1:=r1.below Qa;have q2:=r2.below Qa;rw [<- H1.out] at q1;rw [<- H2.out] at q2;obtain ⟨x1,y1,rfl,v1,d1⟩:=Ye q1 (j:=i) (by rw [H1.out];exact oa)
   obtain ⟨x2,y2,rfl,v2,d2⟩:=Ye q2 (j:=i) (by rw [H2.out];exact oa)
   clear q1 q2;by_cases he:l1.getD i 0=l2.getD i 0
   ·have DW:=zH (zDj HT.out (by rw [H1.out];exact oa) (by rw [H2.out];exact oa) he)
    rw [<- he] at d2;generalize l1.getD i 0=z at *;have u1:((z:Int) != (z:Int))=false:=by rw [bne_eq_false_iff_eq]
    have u2:((z:Int) == (z:Int))=true:=by rw [beq_iff_eq]
    clear he HT;go_wp2_with fail
    refine xd (Bb) (pa) [] [] [0,1,2,3,4,5,6,7,8] (by kernel_rfl) (by kernel_rfl) ?_
    refine yd (pa) ?_;intro Wc da;refine Uc ?_;refine im rfl ?_;intro wd Rc;replace da:=(pa).trans _ _ _ da Rc;clear Rc;go_wp2;replace Qa:=ja Qa.drew da
    go_roundw
    case rel=>exact ⟨i+1,by omega,by go_num,DW.out,Qa⟩
    case measure=>simp [intOf];omega
   ·have HF:=zH (HA.out.trans (zDi he))
    generalize l1.getD i 0=z1 at *;generalize l2.getD i 0=z2 at *;have u1:((z1:Int) != (z2:Int))=true:=by rw [bne_iff_ne];omega
    have u2:((z1:Int) == (z2:Int))=false:=by rw [beq_eq_false_iff_ne];omega
    clear he HT;go_wp2_with fail
    refine xd (Bb) (pa) [] [] [0,1,2,3,4,5,6,7,8] (by kernel_rfl) (by kernel_rfl) ?_
    refine yd (pa) ?_;intro Wc da;refine Uc ?_;refine im rfl ?_;intro wd Rc;replace da:=(pa).trans _ _ _ da Rc;clear Rc;go_wp2;go_ret
    exact ⟨by rw [HF.out];rfl,ja Qa.drew da⟩
  ·obtain rfl:i=n:=by omega
   have HF:=zH (HA.out.trans (decide_eq_true (by have:=HT.out;rwa [<- H1.out,List.take_length,H1.out,<- H2.out,List.take_length] at this)))
   go_wp2;go_ret
   exact ⟨by rw [HF.out];rfl,Qa⟩
def Qd (w:World) (cs:List Value) (l:List (List Nat)):Prop:=RSl 1 RWd w cs l
theorem bO:Ao Qd:=Le zw
theorem FR {w w1:World} {v:List Value} {l:List (List Nat)} (h:Below w.heap.size w w1) (r:Qd w v l):Qd w1 v l:=bO _ _ _ _ h r
theorem sh {w:World} {A:Option Addr} {n c:Nat} {l:List (List Nat)} (h:Qd w [.slice A n c] l):l.length=n /\ n <= c /\ c <= maxLen /\ RdL w 1 RWd A l:=by
 obtain ⟨A',n',c',he,h1,h2,h3,h4⟩:=h;simp at he
 obtain ⟨rfl,rfl,rfl⟩:=he;exact ⟨h1,h2,h3,h4⟩
theorem QS {w:World} {A:Option Addr} {l:List (List Nat)} (h:RdL w 1 RWd A l) (hl:0<l.length):∃ b q,A=some ⟨b,q,none⟩:=by
 obtain ⟨a,cs,e,h1,hc,-⟩:=h 0 hl;have h0:=hc 0 (by omega)
 rw [List.getElem?_eq_getElem (by omega)] at h0
 have hs:=World.cell?_spot h0;obtain ⟨b,q,s⟩:=a;cases s with
 | none=>exact ⟨b,q,e⟩
 | some x=>simp [Addr.add] at hs
theorem Zl {w:World} {A:Option Addr} {l:List (List Nat)} (h:RdL w 1 RWd A l) {i:Nat} (hi:i<l.length) :
  ∃ b q A1 n1 c1,A=some ⟨b,q,none⟩ /\ b<w.heap.size /\ w.cell? ⟨b,q+i,none⟩=some (.slice A1 n1 c1) /\ RWd w [.slice A1 n1 c1] l[i]:=by
 obtain ⟨a,cs,e,hl,hc,hr⟩:=h i hi;have Xh:=hr;obtain ⟨A1,n1,c1,rfl,-⟩:=Xh;obtain ⟨b,q,ha⟩:=QS h (by omega)
 rw [e] at ha;obtain rfl:=Option.some.inj ha;have h0:=hc 0 (by omega)
 have e0:(⟨b,q,none⟩:Addr).add (i*1+0)=⟨b,q+i,none⟩:=by rw [Kj];simp
 rw [e0] at h0;exact ⟨b,q,A1,n1,c1,e,World.block_lt_of_cell? _ _ h0,h0,hr⟩
def df (N:Nat) (gb:Option Nat) (w:World) (v:Value) (l:List Nat):Prop:=∀ u:World,(∀ b,N <= b -> b<w.heap.size -> some b≠gb -> u.heap[b]?=w.heap[b]?) -> RWd u [v] l
def Ag (N:Nat) (w:World) (v:Value) (cs:List Value) (l:List (List Nat)):Prop:=cs.length=l.length /\ ∀ (i:Nat) (h1:i<cs.length) (h2:i<l.length),df N v.ownBlock w cs[i] l[i]
theorem ED (N:Nat) (w:World) (v:Value):Ag N w v [] []:=⟨rfl,fun i h=>by simp at h⟩
theorem Lp {N:Nat} {gb:Option Nat} {w w':World} {v:Value} {l:List Nat} (h:df N gb w v l) (hs:w.heap.size <= w'.heap.size) (hw:∀ b,N <= b -> b<w.heap.size -> some b≠gb -> w'.heap[b]?=w.heap[b]?):df N gb w' v l :=
 fun u hu=>h u fun b h1 h2 h3=>(hu b h1 (by omega) h3).trans (hw b h1 h2 h3)
theorem JH {N:Nat} {w w':World} {v:Value} {cs:List Value} {l:List (List Nat)} (h:Ag N w v cs l) (hs:w.heap.size <= w'.heap.size) (hw:∀ b,N <= b -> b<w.heap.size -> some b≠v.ownBlock -> w'.heap[b]?=w.heap[b]?):Ag N w' v cs l :=
 ⟨h.1,fun i h1 h2=>Lp (h.2 i h1 h2) hs hw⟩
theorem Nf {N:Nat} {w w':World} {v:Value} {cs:List Value} {l:List (List Nat)} (h:Ag N w v cs l) (hb:Below w.heap.size w w'):Ag N w' v cs l :=
 JH h hb.size fun b _ h2 _=>hb.block b h2
theorem TB {N base n:Nat} {w:World} {gb:Option Nat} {e:TypeId} {x:Value} {l:List Nat} (h:w.ownsRow base e 1 x n (Ca l)) (hl:∀ y∈l,y<18446744073709551616) (hN:N <= base) (hg:∀ q,gb=some q -> q<base):df N gb w x l:=by
 intro u hu;have ho:=own_agree' h fun b h1 h2=>hu b (by omega) h2 fun e=>by have:=hg b e.symm;omega
 obtain ⟨A,c,rfl,-⟩:=Tb ho;exact Fh ho hl
where
 own_agree' {w u:World} {base:Nat} {e:TypeId} {size:Nat} {v:Value} {n:Nat} {xs:List Value} (h:w.ownsRow base e size v n xs) (ha:∀ b,base <= b -> b<w.heap.size -> u.heap[b]?=w.heap[b]?):u.ownsRow base e size v n xs:=by
  obtain ⟨h1,h2⟩:=h;refine ⟨h1,?_⟩;rcases h2 with h2 | ⟨g,cap,cur,hv,Kg,hh,r⟩
  ·exact Or.inl h2
  ·exact Or.inr ⟨g,cap,cur,hv,Kg,by rw [ha g Kg (Array.getElem?_eq_some_iff.1 hh).1];exact hh,r⟩
theorem WZ {N:Nat} {w w':World} {v v' x:Value} {cs:List Value} {l:List (List Nat)} {y:List Nat} (h:Ag N w v cs l) (hx:df N v.ownBlock w x y) (hg:w.grownBy w' v.ownBlock) (hv:v'.ownBlock=v.ownBlock \/ v'.ownBlock=some w.heap.size):Ag N w' v' (cs++[x]) (l++[y]):=by
 have key:∀ {z:Value} {m:List Nat},df N v.ownBlock w z m -> df N v'.ownBlock w' z m:=fun {z m} hz u hu=>by
  refine hz u fun b h1 h2 h3=>?_
  refine (hu b h1 (by have:=hg.size;omega) ?_).trans (hg.block b h2 (fun e=>h3 e))
  rcases hv with e | e
  ·rw [e];exact h3
  ·rw [e];intro e2;have:=Option.some.inj e2;omega
 refine ⟨by simp [h.1],fun i h1 h2=>?_⟩
 by_cases hi:i<cs.length
 ·rw [List.getElem_append_left hi,List.getElem_append_left (by have:=h.1;omega)]
  exact key (h.2 i hi _)
 ·have e1:i=cs.length:=by simp at h1;omega
  have e2:(cs++[x])[i]=x:=by subst e1;simp
  have e3:(l++[y])[i]=y:=by
   have:i=l.length:=by rw [e1,h.1]
   subst this;simp
  rw [e2,e3];exact key hx
theorem DD {N base n:Nat} {w:World} {e:TypeId} {v:Value} {cs:List Value} {l:List (List Nat)} (h:Ag N w v cs l) (ho:w.ownsRow base e 1 v n cs):Qd w [v] l:=by
 obtain ⟨A,c,rfl,h1,h2,hr,-⟩:=Tb ho;have hn:cs.length=n:=by have:=ho.1;omega
 refine ⟨A,n,c,rfl,by rw [<- h.1,hn],h1,h2,fun i hi=>?_⟩
 have pq:i<cs.length:=by rw [h.1];exact hi
 obtain ⟨b,q,hA,hb,hc⟩:=ru hr (by omega)
 refine ⟨_,[cs[i]],hA,rfl,fun j hj=>?_,h.2 i pq hi w fun _ _ _ _=>rfl⟩
 obtain rfl:j=0:=by omega
 rw [Kj,show q+(i*1+0)=q+i by omega,hc i (by omega),List.getElem?_eq_getElem pq]
 rfl
end Go.Proofs.YtjipleoamlmkfaaGreat
