/- A part of the proof. No condition. -/
import Derived.Deep.RegionLaw
import Derived.Laws.CopyOwn
import Derived.Lib.Hide
import Derived.Maps.AppendAt
import Derived.OpenShut
import Derived.ProofKit
import Derived.Test.YtjipleoamlmkfaaGreatProg
import Derived.WalkKit
import Derived.WalkLawsBesides
import Derived.WalkSpells

set_option maxRecDepth 100000
set_option maxHeartbeats 8000000
set_option linter.unusedVariables false
set_option linter.unusedSimpArgs false
namespace Go.Proofs.YtjipleoamlmkfaaGreat
open Go.RowKit
theorem zLa {α:Type _} (l:List α) (i:Nat) (a:α):l.toArray.setIfInBounds i a=(l.set i a).toArray:=List.setIfInBounds_toArray l i a
theorem zLb {α:Type _} (x:α) (xs:List α) (a:α):(x :: xs).set 0 a=a :: xs:=List.set_cons_zero
theorem zLc {α:Type _} (x:α) (xs:List α) (i:Nat) (a:α):(x :: xs).set (i+1) a=x :: xs.set i a:=List.set_cons_succ
theorem zR {n:Nat}:n≤n:=Nat.le_refl n
theorem zH {P:Prop} (h:P):Hid P:=Lib.hid h
theorem zEX {α:Sort _} (a:α):∃ x,x=a:=⟨_,rfl⟩
def U8 (l:List Nat):List Value:=l.map (fun n:Nat=>Value.int .u8 n)
def Ca (l:List Nat):List Value:=l.map (fun n:Nat=>Value.int .u64 n)
def sg (l:List Int):List Value:=l.map (fun n:Int=>Value.int .i64 n)
theorem yI (l:List Nat):(U8 l).length=l.length:=by simp [U8]
theorem Gi (l:List Nat):(Ca l).length=l.length:=by simp [Ca]
theorem xI (l:List Int):(sg l).length=l.length:=by simp [sg]
theorem RC (l m:List Nat):U8 (l++m)=U8 l++U8 m:=by simp [U8]
theorem lG (l m:List Nat):Ca (l++m)=Ca l++Ca m:=by simp [Ca]
theorem yg (l:List Nat):∀ u∈Ca l,u.oneCell'=true:=by
 intro u hu;obtain ⟨n,_,rfl⟩:=List.mem_map.1 hu
 rfl
theorem yP (l:List Int):∀ u∈sg l,u.oneCell'=true:=by
 intro u hu;obtain ⟨n,_,rfl⟩:=List.mem_map.1 hu
 rfl
theorem jv {l:List Nat} {j:Nat} (h:j<l.length):(Ca l)[j]?=some (.int .u64 (l[j]:Int)):=by simp [Ca,h]
theorem MG (a:Addr) (n:Nat):(a.add n).block=a.block:=by
 unfold Addr.add;split <;> rfl
theorem X5 (a:Addr) (i j:Nat):(a.add i).add j=a.add (i+j):=by
 unfold Addr.add;by_cases hi:i=0 <;> by_cases hj:j=0 <;> simp [hi,hj,Nat.add_assoc]
theorem nG (a:Addr):a.add 0=a:=by simp [Addr.add]
def Rd (w:World) (size:Nat) (A:Option Addr) (n:Nat) (xs:List Value):Prop :=
 xs.length=n*size /\ (0<n -> ∃ ad,A=some ad /\ ∀ j u,xs[j]?=some u -> w.cell? (ad.add j)=some u)
section
variable {w w':World} {size n:Nat} {A:Option Addr} {xs:List Value}
theorem Rd.nil (w:World) (size:Nat) (A:Option Addr):Rd w size A 0 []:=⟨by simp,fun h=>absurd h (by omega)⟩
theorem Rd.len1 (h:Rd w 1 A n xs):xs.length=n:=by have:=h.1;omega
theorem Rd.at_ {k:Nat} (h:Rd w 1 A n xs) (hk:k<n):∃ ad u,A=some ad /\ xs[k]?=some u /\ w.cell? (ad.add k)=some u:=by
 obtain ⟨ad,e,hc⟩:=h.2 (by omega)
 have hl:k<xs.length:=by rw [h.len1];exact hk
 exact ⟨ad,xs[k],e,List.getElem?_eq_getElem hl,hc k _ (List.getElem?_eq_getElem hl)⟩
theorem Rd.keep (h:Rd w size A n xs) (hk:∀ p:Addr,p.block<w.heap.size -> w'.cell? p=w.cell? p):Rd w' size A n xs :=
 ⟨h.1,fun hn=>by
  obtain ⟨ad,e,hc⟩:=h.2 hn;exact ⟨ad,e,fun j u hu=>(hk _ (World.block_lt_of_cell? _ _ (hc j u hu))).trans (hc j u hu)⟩⟩
theorem Rd.below (h:Rd w size A n xs) (hb:Below w.heap.size w w'):Rd w' size A n xs:=h.keep fun _ hp=>hb.cell hp
theorem Rd.drew (h:Rd w size A n xs):Rd w.drew size A n xs:=h
theorem Rd.drewN (h:Rd w size A n xs) (k:Nat):Rd (w.drewN k) size A n xs:=h
theorem Rd.alloc (h:Rd w size A n xs) (o:Obj):Rd (w.alloc o) size A n xs:=h.keep fun p hp=>World.cell?_alloc_lt w o p hp
theorem Rd.grown (h:Rd w size A n xs) {row:Option Nat} (hg:w.grownBy w' row) (hr:∀ ad,A=some ad -> some ad.block≠row):Rd w' size A n xs :=
 ⟨h.1,fun hn=>by
  obtain ⟨ad,e,hc⟩:=h.2 hn;refine ⟨ad,e,fun j u hu=>?_⟩
  exact hg.cell (hc j u hu) (by rw [MG];exact hr ad e)⟩
theorem Rd.cut (h:Rd w size A n xs) {k cap:Nat} (hk:k <= n) (hc:n <= cap) :
  Rd w size (if cap=k then A else A.map (·.add (k*size))) (n-k) (xs.drop (k*size)):=by
 refine ⟨by rw [List.length_drop,h.1,Nat.sub_mul],fun hn=>?_⟩
 obtain ⟨ad,rfl,Tj⟩:=h.2 (by omega)
 rw [if_neg (by omega)]
 refine ⟨ad.add (k*size),rfl,fun j u hu=>?_⟩
 rw [X5];exact Tj _ u (by rw [<- hu,List.getElem?_drop])
theorem Rd.take (h:Rd w size A n xs) {k:Nat} (hk:k <= n):Rd w size A k (xs.take (k*size)):=by
 refine ⟨by rw [List.length_take,h.1];exact Nat.min_eq_left (Nat.mul_le_mul_right _ hk),fun hn=>?_⟩
 obtain ⟨ad,e,Tj⟩:=h.2 (by omega)
 refine ⟨ad,e,fun j u hu=>Tj j u ?_⟩
 rw [List.getElem?_take] at hu;split at hu
 ·exact hu
 ·cases hu
theorem Rd.of_own {base:Nat} {e:TypeId} {c:Nat} (h:w.ownsRow base e size (.slice A n c) n xs):Rd w size A n xs:=by
 refine ⟨h.1,fun hn=>?_⟩
 rcases h.2 with ⟨_,h0⟩ | ⟨g,cap,cur,hv,_⟩
 ·omega
 ·have hA:A=some ⟨g,0,none⟩:=by injection hv
  subst hA;exact ⟨_,rfl,h.cells (g:=g) rfl⟩
end
theorem Tb {w:World} {base:Nat} {e:TypeId} {size:Nat} {v:Value} {n:Nat} {xs:List Value} (h:w.ownsRow base e size v n xs) :
  ∃ A c,v= .slice A n c /\ n <= c /\ c <= maxLen /\ Rd w size A n xs /\ (∀ ad,A=some ad -> base <= ad.block /\ ad.block<w.heap.size):=by
 have h2:=h;rcases h.2 with ⟨rfl,rfl⟩ | ⟨g,cap,cur,rfl,hb,hh,hn,hm,_⟩
 ·exact ⟨none,0,rfl,zR,by simp [maxLen],Rd.of_own h2,fun ad h=>by cases h⟩
 ·refine ⟨some ⟨g,0,none⟩,cap,rfl,hn,hm,Rd.of_own h2,fun ad h=>?_⟩
  injection h with h
  subst h;exact ⟨hb,(Array.getElem?_eq_some_iff.1 hh).1⟩
theorem db {w w':World} {base B:Nat} {e:TypeId} {size:Nat} {v:Value} {n:Nat} {xs:List Value} (h:w.ownsRow base e size v n xs) (hb:Below B w w') (hB:w.heap.size <= B):w'.ownsRow base e size v n xs:=by
 obtain ⟨h1,h2⟩:=h;refine ⟨h1,?_⟩;rcases h2 with h2 | ⟨g,cap,cur,hv,hg,hh,r⟩
 ·exact Or.inl h2
 ·exact Or.inr ⟨g,cap,cur,hv,hg,by rw [hb.block g (by have:=(Array.getElem?_eq_some_iff.1 hh).1;omega)];exact hh,r⟩
theorem mg {w:World} {base KG:Nat} {e:TypeId} {size:Nat} {v:Value} {n:Nat} {xs:List Value} (h:w.ownsRow base e size v n xs) (hB:KG <= base):w.ownsRow KG e size v n xs:=by
 obtain ⟨h1,h2⟩:=h;refine ⟨h1,?_⟩;rcases h2 with h2 | ⟨g,cap,cur,hv,hg,r⟩
 ·exact Or.inl h2
 ·exact Or.inr ⟨g,cap,cur,hv,Nat.le_trans hB hg,r⟩
theorem sJ {w:World} {base:Nat} {e:TypeId} {size:Nat} {v:Value} {n:Nat} {xs:List Value} (h:w.ownsRow base e size v n xs):∀ g,v.ownBlock=some g -> base <= g /\ g<w.heap.size:=h.lt
theorem ja {w0 w1 w2:World} (h1:Below w0.heap.size w0 w1) (h2:Below w1.heap.size w1 w2):Below w0.heap.size w0 w2:=h1.trans (h2.mono h1.size)
theorem mv {B:Nat} {a w:World} (h:Below B a w) (n:Nat):Below B a (w.drewN n):=⟨h.os,h.tape,h.output,h.size,h.block⟩
theorem Lc (w:World) (row:Option Nat):w.grownBy w row:=⟨rfl,rfl,rfl,zR,fun _ _ _=>rfl⟩
theorem rN {a w:World} {row:Option Nat} (h:a.grownBy w row) (o:Obj):a.grownBy (w.alloc o) row :=
 ⟨h.os,h.tape,h.output,Nat.le_trans h.size (by simp),fun i hi Ka=>(Below.heap_alloc w o i (Nat.lt_of_lt_of_le hi h.size)).trans (h.block i hi Ka)⟩
theorem Yd {a w:World} {row:Option Nat} (h:a.grownBy w row) {p:Addr} (hp:row=some p.block \/ a.heap.size <= p.block) (u:Value):a.grownBy (w.setCell p u) row :=
 ⟨h.os,h.tape,h.output,by simpa [World.setCell] using h.size,fun i hi Ka=>(Below.heap_setCell w p u i (by
  rintro rfl;rcases hp with hp | hp
  ·exact Ka hp.symm
  ·omega)).trans (h.block i hi Ka)⟩
theorem Iq {a w w':World} {row row':Option Nat} (h:a.grownBy w row) (hg:w.grownBy w' row') (hr:∀ g,row'=some g -> row=some g \/ a.heap.size <= g):a.grownBy w' row :=
 ⟨hg.os.trans h.os,hg.tape.trans h.tape,hg.output.trans h.output,Nat.le_trans h.size hg.size,fun i hi Ka=>(hg.block i (Nat.lt_of_lt_of_le hi h.size) (fun e=>by
  rcases hr i e.symm with h1 | h1
  ·exact Ka h1.symm
  ·omega)).trans (h.block i hi Ka)⟩
theorem Uh {a w w':World} {row:Option Nat} {B:Nat} (h:a.grownBy w row) (hb:Below B w w') (hB:a.heap.size <= B):a.grownBy w' row :=
 ⟨hb.os.trans h.os,hb.tape.trans h.tape,hb.output.trans h.output,Nat.le_trans h.size hb.size,fun i hi Ka=>(hb.block i (Nat.lt_of_lt_of_le hi hB)).trans (h.block i hi Ka)⟩
theorem Fo {a w:World} {row:Option Nat} (h:a.grownBy w row) (B:Nat) (hB:B <= a.heap.size) (hr:∀ g,row=some g -> B <= g):Below B a w :=
 ⟨h.os,h.tape,h.output,h.size,fun k hk=>h.block k (by omega) (fun e=>by have:=hr k e.symm;omega)⟩
def Gj (P:Program) (t e:TypeId) (size bytes:Nat) (z:Value):Prop :=
 P.underlying t=some (.slice e) /\ (∃ i,P.info? e=some i /\ i.zero=some z /\ i.size=size /\ i.bytes=bytes) /\ z.cells.size=size /\ 0<size
theorem Uk (w:World) (x:Value) (t:TypeId):Rd (w.alloc (.cells #[x] t)) 1 (some ⟨w.heap.size,0,none⟩) 1 [x] :=
 ⟨rfl,fun _=>⟨_,rfl,cell_one_new w x t⟩⟩
theorem Tx (w:World) (e:TypeId) {base:Nat} (hb:base <= w.heap.size):(w.alloc (.cells #[] e)).ownsRow base e 1 (.slice (some ⟨w.heap.size,0,none⟩) 0 0) 0 [] :=
 World.ownsRow_made w #[] 0 hb (by simp [maxLen]) rfl
section
variable {P:Program} {w:World} {base size bytes:Nat} {t e:TypeId} {z v:Value} {n:Nat} {xs:List Value}
theorem nS (E:Gj P t e size bytes z) (ty:TypeId) (ma:w.ownsRow base e size v n xs) {A:Option Addr} {m c:Nat} {news:List Value} (hr:Rd w size A m news)
  (h1:∀ u∈news,u.oneCell'=true) (Gl:(n+m)*(bytes+1) <= 140737488355328) (bn:base <= w.heap.size) :
  ∃ v' w',(Builtin.append_ #[t,t] ty #[v, .slice A m c]).run P w= .ok v' w' /\ w'.ownsRow base e size v' (n+m) (xs++news) /\ w.grownBy w' v.ownBlock /\ (v'.ownBlock=v.ownBlock \/ v'.ownBlock=some w.heap.size):=by
 obtain ⟨ht,⟨i,hi,hz,hs,Sq⟩,hzs,Ra⟩:=E;have hb:(n+m)*bytes <= 140737488355328:=Nat.le_trans (Nat.mul_le_mul_left _ (Nat.le_succ _)) Gl;have hl:n+m <= maxLen:=by
  have:=Nat.le_trans (Nat.le_mul_of_pos_right (n+m) (Nat.succ_pos bytes)) Gl;simp only [maxLen];omega
 rcases A with _ | ad
 ·have hm:m=0:=by
   rcases Nat.eq_zero_or_pos m with h0 | h0
   ·exact h0
   ·obtain ⟨ad,h,_⟩:=hr.2 h0
    cases h
  subst hm;have hn:news=[]:=List.eq_nil_of_length_eq_zero (by simpa using hr.1)
  subst hn;refine ⟨v,w,?_,by simpa using ma,Lc w _, .inl rfl⟩
  rcases ma.2 with ⟨rfl,rfl⟩ | ⟨g,cap,cur,rfl,_,_,Sc,_⟩
  ·simp [Builtin.append_,run_underlying ht,sizeOf,typeInfo,hi,Builtin.lenOf,Builtin.firstCells]
  ·simp [Builtin.append_,run_underlying ht,sizeOf,typeInfo,hi,Builtin.lenOf,Builtin.firstCells,Sc,storeCells]
 ·have yi:∀ j u,news[j]?=some u -> w.cell? (ad.add j)=some u:=by
   intro j u hu;rcases Nat.eq_zero_or_pos m with h0 | h0
   ·subst h0
    have hn:news=[]:=List.eq_nil_of_length_eq_zero (by simpa using hr.1)
    subst hn;simp at hu
   ·obtain ⟨ad',h,hc⟩:=hr.2 h0
    injection h with h
    subst h;exact hc j u hu
  obtain ⟨v',w',Xb,h2,h3,_,h5⟩:=run_append_own_at (P:=P) w base t ty e i z size bytes ht hi hz hs Sq hzs Ra v n xs ma ad m c news hr.1 yi h1 hl hb bn;exact ⟨v',w',Xb,h2,h3,h5⟩
theorem om {o:Oper} {a:Act} {K:Act -> World -> Prop} {Q:Exit -> Act -> World -> Prop} (s x:Operand)
  (ho:o.op= .call { callee:=.builtin .append,args:=#[s,x],argTypes:=#[t,t] })
  (E:Gj P t e size bytes z) (hs:a.eval s=v) (ma:w.ownsRow base e size v n xs)
  {A:Option Addr} {m c:Nat} {news:List Value} (hx:a.eval x= .slice A m c) (hr:Rd w size A m news) (h1:∀ u∈news,u.oneCell'=true)
  (Gl:(n+m)*(bytes+1) <= 140737488355328) (bn:base <= w.heap.size)
  (h:∀ v' w',w'.ownsRow base e size v' (n+m) (xs++news) -> w.grownBy w' v.ownBlock -> (v'.ownBlock=v.ownBlock \/ v'.ownBlock=some w.heap.size) -> K (a.put o.dst v') w'):o.wp P a w K Q:=by
 obtain ⟨v',w',Xb,h2,h3,h4⟩:=nS (P:=P) (c:=c) E o.type ma hr h1 Gl bn;unfold Oper.wp execOp;simp only [ho,resolve,invoke,builtin,Sem.run_bind,Sem.run_pure,Result.andThen_ok,List.map_toArray,List.map_cons,List.map_nil,hs,hx,Xb];exact h v' w' h2 h3 h4
theorem If {ops:Array Oper} {rest:List Oper} {o:Oper} {a:Act} {Q:Exit -> Act -> World -> Prop} (hgd:o.guard=none) (s x:Operand)
  (ho:o.op= .call { callee:=.builtin .append,args:=#[s,x],argTypes:=#[t,t] })
  (E:Gj P t e size bytes z) (hs:a.eval s=v) (ma:w.ownsRow base e size v n xs)
  {A:Option Addr} {m c:Nat} {news:List Value} (hx:a.eval x= .slice A m c) (hr:Rd w size A m news) (h1:∀ u∈news,u.oneCell'=true)
  (Gl:(n+m)*(bytes+1) <= 140737488355328) (bn:base <= w.heap.size)
  (h:∀ v' w',w'.ownsRow base e size v' (n+m) (xs++news) -> w.grownBy w' v.ownBlock -> (v'.ownBlock=v.ownBlock \/ v'.ownBlock=some w.heap.size) -> wpList P ops Q rest (a.put o.dst v') w'):wpList P ops Q (o :: rest) a w :=
 wpList_plain hgd fun _ hK=>om s x ho E hs ma hx hr h1 Gl bn fun v' w' h2 h3 h4=>hK _ _ (h v' w' h2 h3 h4)
end
theorem QP {a w w':World} {row:Option Nat} {u u':Value} (h:a.grownBy w row) (hu:∀ g,u.ownBlock=some g -> row=some g \/ a.heap.size <= g) (hg:w.grownBy w' u.ownBlock)
  (Ym:u'.ownBlock=u.ownBlock \/ ∃ g,u'.ownBlock=some g /\ w.heap.size <= g):a.grownBy w' row /\ ∀ g,u'.ownBlock=some g -> row=some g \/ a.heap.size <= g:=by
 refine ⟨Iq h hg hu,fun g Yv=>?_⟩
 rcases Ym with e | ⟨g',e,hle⟩
 ·exact hu g (e ▸ Yv)
 ·rw [e] at Yv
  injection Yv with Yv
  subst Yv;exact .inr (Nat.le_trans h.size hle)
def Blk (w:World) (g:Nat) (t:TypeId) (cs:Array Value):Prop:=w.heap[g]?=some (.cells cs t (0,0))
section
variable {w w':World} {g:Nat} {t:TypeId} {cs:Array Value}
theorem Blk.lt (h:Blk w g t cs):g<w.heap.size:=(Array.getElem?_eq_some_iff.1 h).1
theorem Blk.cell (h:Blk w g t cs) (i:Nat):w.cell? ⟨g,i,none⟩=cs[i]?:=cell_of_row w g i cs t (0,0) h
theorem Blk.frozen (h:Blk w g t cs) (i:Nat):w.frozen? ⟨g,i,none⟩=false:=by
 unfold Blk at h;simp [World.frozen?,h]
theorem Blk.new (w:World) (t:TypeId) (cs:Array Value):Blk (w.alloc (.cells cs t)) w.heap.size t cs:=heap_alloc_new w _
theorem Blk.drew (h:Blk w g t cs):Blk w.drew g t cs:=h
theorem Blk.drewN (h:Blk w g t cs) (n:Nat):Blk (w.drewN n) g t cs:=h
theorem Blk.alloc (h:Blk w g t cs) (o:Obj):Blk (w.alloc o) g t cs:=(Below.heap_alloc w o g h.lt).trans h
theorem Blk.set_ (h:Blk w g t cs) (i:Nat) (u:Value):Blk (w.setCell ⟨g,i,none⟩ u) g t (cs.setIfInBounds i u):=by
 unfold Blk at h |-;simp [World.setCell,Array.getElem?_modify,h]
theorem Blk.far (h:Blk w g t cs) {p:Addr} (hp:g≠p.block) (u:Value):Blk (w.setCell p u) g t cs:=(Below.heap_setCell w p u g hp).trans h
theorem Blk.below {B:Nat} (h:Blk w g t cs) (hb:Below B w w') (hg:g<B):Blk w' g t cs:=(hb.block g hg).trans h
theorem ea {w w1:World} {g:Nat} {t:TypeId} {cs:Array Value} (k:Blk w g t cs) (h:Below w.heap.size w w1):Blk w1 g t cs:=k.below h k.lt
theorem Blk.grown {row:Option Nat} (h:Blk w g t cs) (hb:w.grownBy w' row) (hg:some g≠row):Blk w' g t cs:=(hb.block g h.lt hg).trans h
theorem Dc {w w1:World} {g i:Nat} {t:TypeId} {cs:Array Value} (k:Blk w g t cs) (h:w.grownBy w1 (some i)) (e:some g≠some i:=by intro e;have:=Option.some.inj e;first | omega | (apply absurd this;assumption) | (apply absurd this.symm;assumption)):Blk w1 g t cs:=k.grown h e
end
theorem Rd.set_ {w:World} {size n:Nat} {A:Option Addr} {xs:List Value} (h:Rd w size A n xs) {p:Addr} (hp:∀ ad,A=some ad -> ad.block≠p.block) (u:Value):Rd (w.setCell p u) size A n xs :=
 ⟨h.1,fun hn=>by
  obtain ⟨ad,e,hc⟩:=h.2 hn;refine ⟨ad,e,fun j x hj=>?_⟩
  rw [World.cell?_setCell_other w p _ u (fun e2=>hp ad e (by rw [e2,MG]))]
  exact hc j x hj⟩
end Go.Proofs.YtjipleoamlmkfaaGreat
