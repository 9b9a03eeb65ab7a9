/- A part of the proof. No condition. -/
import Derived.Test.YtjipleoamlmkfaaGreatProg
import Derived.Test.YtjipleoamlmkfaaGreatPF23
import Derived.Test.YtjipleoamlmkfaaGreatPF36
import Derived.Test.YtjipleoamlmkfaaGreatPF42
import Derived.Laws.OwnMore
import Derived.Test.YtjipleoamlmkfaaGreatPF35
import Derived.Test.YtjipleoamlmkfaaGreatPF46
import Derived.Test.YtjipleoamlmkfaaGreatPF24
import Derived.Test.YtjipleoamlmkfaaGreatPF38
import Derived.Test.YtjipleoamlmkfaaGreatPF33

set_option maxRecDepth 100000
set_option maxHeartbeats 8000000
set_option linter.unusedVariables false
set_option linter.unusedSimpArgs false
namespace Go.Proofs.YtjipleoamlmkfaaGreat
open Go.RowKit
theorem II {p:Nat} {n:Int} {l:List (Int × Nat)} (h:ue p n l=true) {i:Nat} (hi:i<l.length):tj p n l i=false:=by
 unfold ue at h;have h1:=List.all_eq_true.1 h i (List.mem_range.2 hi)
 simpa using h1
theorem zE {p:Nat} {n:Int} {l:List (Int × Nat)} (h:ue p n l=true):∀ i,i<l.length -> (i:Int) <= (l.getD i (0,0)).1 /\ (l.getD i (0,0)).1<n /\ (l.getD i (0,0)).2<p
 | 0,hi=>by
  have h1:=II h hi;unfold tj at h1;simp only [Bool.or_eq_false_iff,decide_eq_false_iff_not,Bool.and_eq_false_iff] at h1;omega
 | i+1,hi=>by
  have h1:=II h hi;have h2:=zE h i (by omega)
  unfold tj at h1;simp only [Bool.or_eq_false_iff,decide_eq_false_iff_not,Bool.and_eq_false_iff,Nat.add_sub_cancel] at h1;omega
theorem AE {p:Nat} {n:Int} {l:List (Int × Nat)} (h:ue p n l=true) (hn:0 <= n):(l.length:Int) <= n:=by
 by_cases hl:l.length=0
 ·omega
 ·have:=zE h (l.length-1) (by omega)
  omega
theorem BE {p:Nat} {n:Int} {l:List (Int × Nat)} (h:ue p n l=true):∀ t∈l,0 <= t.1 /\ t.1<n /\ t.2<p:=fun t ht=>by
 obtain ⟨i,hi,rfl⟩:=List.getElem_of_mem ht;have:=zE h i hi;rw [List.getD_eq_getElem?_getD,List.getElem?_eq_getElem hi] at this;simp only [Option.getD_some] at this;omega
theorem AK {p:Nat} {pub vars:Int} {rows:List Ya} (h:Gb p pub vars rows=true):∀ r∈rows,ue p vars r.a=true /\ ue p vars r.b=true /\ ue p vars r.c=true:=fun r hr=>by
 unfold Gb at h;rw [Bool.and_eq_true] at h;have h1:=List.all_eq_true.1 h.2 r hr;unfold qh at h1;rw [Bool.and_eq_true,Bool.and_eq_true] at h1;exact ⟨h1.1.1,h1.1.2,h1.2⟩
theorem Lz {p:Nat} {pub vars:Int} {rows:List Ya} (h:Gb p pub vars rows=true):0 <= pub /\ pub<vars /\ vars <= 65536 /\ rows.length <= 16384:=by
 simp only [Gb,Bool.and_eq_true,Bool.not_eq_true',decide_eq_false_iff_not] at h;omega
theorem BK {p:Nat} {pub vars:Int} {rows:List Ya} (h:Gb p pub vars rows=true):xF rows:=fun r hr=>by
 have h1:=AK h r hr;have h2:=Lz h;have a1:=AE h1.1 (by omega)
 have a2:=AE h1.2.1 (by omega)
 have a3:=AE h1.2.2 (by omega)
 omega
theorem AI:∀ (rows:List Ya),(rows.flatMap Lx).length=3*rows.length+2*xu rows
 | []=>rfl
 | r :: rows=>by
  have h1:=AI rows;rw [List.flatMap_cons,List.length_append,h1];simp only [Lx,Gp,Dd,List.length_append,List.length_cons,BI,xu,List.map_cons,List.sum_cons];simp
  omega
theorem YG {p:Nat} {pub vars:Int} {rows:List Ya} (h:Gb p pub vars rows=true) (hs:nA rows):Du p pub vars rows where
 pl:=(nc (wu h)).2
 pubI:=by have:=Lz h;omega
 varI:=by have:=Lz h;omega
 n:=(Lz h).2.2.2
 sides:=fun r hr k hk=>by
  have h1:=BK h r hr;unfold Dd;split
  ·exact h1.1
  ·split
   ·exact h1.2.1
   ·exact h1.2.2
 terms:=fun r hr k hk t ht=>by
  have h1:=AK h r hr;have h2:=Lz h;have h3:=(nc (wu h)).2;unfold Dd at ht;split at ht
  ·have:=BE h1.1 t ht;omega
  ·split at ht
   ·have:=BE h1.2.1 t ht;omega
   ·have:=BE h1.2.2 t ht;omega
 len:=by
  have h1:=hs (BK h);simp only [Fk,List.length_append,List.length_cons,List.length_nil,AI];omega
end Go.Proofs.YtjipleoamlmkfaaGreat
namespace Go.Proofs.YtjipleoamlmkfaaGreat
open Go.RowKit Go.Maps
def Pn (real:Bool) (Im:Nat):La:=if real then ⟨false,0,0,[]⟩ else ⟨true,Im,0,[]⟩
abbrev yA (p:Nat) (pub vars:Int) (A B:Option Addr) (n c m d:Nat) (bl bw qs coin:Int) (real:Bool) (Im:Nat):Array Value :=
 #[.int .u64 p, .int .i64 pub, .int .i64 vars, .slice A n c, .int .i64 bl, .int .i64 bw, .int .i64 qs, .slice B m d, .int .u64 coin, .bool real, .int .u64 Im]
theorem zL (p:Nat) (pub vars:Int) (A B:Option Addr) (n c m d:Nat) (bl bw qs coin:Int) (real:Bool) (Im:Nat) (w:World) (hs:Im<18446744073709551616) :
  Calls Tryz.prog 8 #[.agg (yA p pub vars A B n c m d bl bw qs coin real Im)] w fun e w'=>∃ g F,e= .returned (.pointer (some ⟨g,0,none⟩)) /\ OrcAt w' g (Pn real Im) F /\ (∀ b,F b -> w.heap.size <= b) /\ Below w.heap.size w w':=by
 have kb:=Blk.new w 32 (yA p pub vars A B n c m d bl bw qs coin real Im);have hb:=(Below.refl w.heap.size w).alloc zR (.cells (yA p pub vars A B n c m d bl bw qs coin real Im) 32);have HI:=zH (fun w=>GN Im w hs)
 unfold yA at *;clear hs;cases real
 ·go_enter Tryz.func8,Tryz.ntmps8
  go_wp2_with fail
  generalize w.alloc _=w1 at kb hb |-;refine (HI.out w1).mono ?_;rintro e w2 ⟨g,F,rfl,h2,hF,xa⟩;have Gc:=hb.size;replace hb:=ja hb xa;have HH:=zH (And.intro h2 (And.intro hF hb));clear h2 hF hb xa kb;go_wp2;go_ret
  exact ⟨g,F,rfl,HH.out.1,fun b hb=>Nat.le_trans Gc (HH.out.2.1 b hb),HH.out.2.2⟩
 ·go_enter Tryz.func8,Tryz.ntmps8
  go_wp2_with fail
  generalize w.alloc _=w1 at kb hb |-;refine (zC8 w1).mono ?_;rintro e w2 ⟨g,F,rfl,h2,hF,xa⟩;have Gc:=hb.size;replace hb:=ja hb xa;have HH:=zH (And.intro h2 (And.intro hF hb));clear h2 hF hb xa kb;go_wp2;go_ret
  exact ⟨g,F,rfl,HH.out.1,fun b hb=>Nat.le_trans Gc (HH.out.2.1 b hb),HH.out.2.2⟩
theorem zBp (P:Ce) (S:PS) (w:World) :
  Calls Tryz.prog 20 #[.agg (Jc P S)] w fun e w'=>e= .returned (.agg #[.slice S.A1 S.n1 S.c1, .slice S.A2 S.n2 S.c2, .slice S.A3 S.n3 S.c3]) /\ Below w.heap.size w w':=by
 obtain ⟨kb,kr,hb,Ra⟩:=ah w 46 74 (Jc P S) #[.slice none 0 0, .slice none 0 0, .slice none 0 0];clear Ra;unfold Jc at *;go_enter Tryz.func20,Tryz.ntmps20
 go_upto_region 1 with fail
 generalize (w.alloc _).alloc _=w1 at kb kr hb |-;have cb:=kb.cell;have cr:=kr.cell;have fr:=kr.frozen;have kf:=Sw [.slice S.A1 S.n1 S.c1, .slice S.A2 S.n2 S.c2, .slice S.A3 S.n3 S.c3] kr rfl;have Ik:=pK (xs:=[.slice S.A1 S.n1 S.c1, .slice S.A2 S.n2 S.c2, .slice S.A3 S.n3 S.c3]) (g:=w.heap.size+1) hb (Nat.le_succ _);simp only [ng,Nat.zero_add,Nat.reduceAdd] at kf Ik;have HF:=zH (And.intro kf Ik);clear kf Ik;go_wp2;generalize World.setCell (World.setCell (World.setCell w1 _ _) _ _) _ _=wf at HF |-;have cf:=HF.out.1.cell;exact bodyPost_ret (by simp [results,Tryz.results20,go_sem,cf]) rfl ⟨rfl,HF.out.2⟩
end Go.Proofs.YtjipleoamlmkfaaGreat
namespace Go.Proofs.YtjipleoamlmkfaaGreat
open Go.RowKit
def BZ (L:Va) (t:Nat) (a b q:List Nat):Bool:=wU L a b q&&((List.range L.block).all fun k=>decide (oh L.p q (Qp L.p 1 L.block k)=0))&&decide (dY L.p (fun k=>oh L.p b (Qp L.p 1 L.block k)) L.block=t)
theorem zBk {n k:Nat} {f:Nat -> Bool} (hk:k<n) (h:f k=false):(List.range n).all f=false:=by
 rw [Bool.eq_false_iff];intro hh;rw [List.all_eq_true] at hh;rw [hh k (List.mem_range.2 hk)] at h;cases h
theorem E8 {n:Nat} {f:Nat -> Bool} (h:∀ k,k<n -> f k=true):(List.range n).all f=true:=by
 rw [List.all_eq_true];exact fun k hk=>h k (List.mem_range.1 hk)
def I0 (L:Va) (t:Nat) (cs m:List (List Nat)) (be:Nat):Bool:=decide (yZ L.p cs m m.length=t)&&(List.range L.block).all fun k=>decide (oh L.p (zC L.p L.a L.b (Pu (fun i=>(m.getD i []).getD k 0) m.length) be L.b) 0=0)
theorem zBl {n:Nat} {f g:Nat -> Bool} (h:∀ k,k<n -> f k=g k):(List.range n).all f=(List.range n).all g:=by
 rw [Bool.eq_iff_iff,List.all_eq_true,List.all_eq_true];exact ⟨fun h1 x hx=>by rw [<- h x (List.mem_range.1 hx)];exact h1 x hx,fun h1 x hx=>by rw [h x (List.mem_range.1 hx)];exact h1 x hx⟩
theorem J1 {L:Va} (hL:Vc L) {m r:List (List Nat)} (h:tU L m r) (hm:∀ x∈m,∀ y∈x,y<L.p) {i k:Nat} (hi:i<m.length) (hk:k<L.block):Cg L.p (bg ((Ip L m r).getD i []) ((Qp L.p 1 L.block k:Nat):Int)) (((m.getD i []).getD k 0:Nat):Int):=by
 obtain ⟨hp,-⟩:=nc hL.p;rw [rX hL h hi];have h2:(r.getD i []).length=L.queries:=PX h.rr (by rw [h.rl];exact hi)
 have e:sA L m r i=jW L (m.getD i []) (r.getD i []):=by unfold sA Zu jW;rw [h2,<- hL.k]
 rw [e];refine (xS _).symm.trans (Cg.of_eq ?_);rw [zDh hL (fun j=>GH (by omega) (PX (P:=fun x=>∀ y∈x,y<L.p) hm hi) j) hk]
theorem wt_at {L:Va} (hL:Vc L) {cs:List (List Nat)} (lq:∀ x∈cs,x.length=L.block) {j k:Nat} (hj:j<cs.length) (hk:k<L.block):Cg L.p (bg ((aQ L.p cs).getD j []) ((Qp L.p 1 L.block k:Nat):Int)) (((cs.getD j []).getD k 0:Nat):Int):=by
 obtain ⟨hlen,t,ht⟩:=sI hL;have bW:L.block=2^L.block.log2:=by rw [ht,Nat.log2_two_pow]
 rw [zBg hL lq hj];unfold bg PU;rw [List.length_map,List.length_range,G6];exact (YL (fun i=>Cg.rfl') RZ _).trans (s7 _ hL.p hlen bW hk)
theorem a8 {p:Nat} (a b:List (List Nat)):∀ n,Cg p (yZ p a b n:Int) (Sb (fun i=>Sb (fun k=>(((a.getD i []).getD k 0:Nat):Int)*(((b.getD i []).getD k 0:Nat):Int)) (a.getD i []).length) n)
 | 0=>Cg.of_eq rfl
 | n+1=>(Cg.mod _).trans ((Cg.of_eq (Int.natCast_add _ _)).trans ((a8 a b n).add (X8 _ _ _)))
theorem zAT {p:Nat} (hp:0<p) (a b:List (List Nat)):∀ n,yZ p a b n<p
 | 0=>hp
 | _+1=>Nat.mod_lt _ hp
/-- The answers have the right sums zBL if the messages pass. -/
theorem zDz {L:Va} (hL:Vc L) {cs m r:List (List Nat)} (h:tU L m r) (hm:∀ x∈m,∀ y∈x,y<L.p) (lq:∀ x∈cs,x.length=L.block) (Tq:cs.length=m.length) {co li qu:List Nat} (hc:co.length=L.k /\ ∀ y∈co,y<L.p) (hl:li.length=L.k+L.block-2 /\ ∀ y∈li,y<L.p) (hq:qu.length=L.block+2*L.queries-1) (al be t:Nat) :
  BZ L t (RV L m r co al) (mV L cs m r li) (nV L m r qu be)=I0 L t cs m be:=by
 obtain ⟨hp,-⟩:=nc hL.p;have mx:0<L.p:=by omega
 have e1:∀ k,k<L.block -> oh L.p (nV L m r qu be) (Qp L.p 1 L.block k)=oh L.p (zC L.p L.a L.b (Pu (fun i=>(m.getD i []).getD k 0) m.length) be L.b) 0:=fun k hk=>by
  refine Cg.eq (p:=L.p) ?_ (SV mx _ _) (SV mx _ _);refine (xS _).trans ?_;refine (J8 (by omega) m r qu be _).trans ?_
  refine Cg.trans ?_ (N7 (by omega) h.ml.symm _ be).symm
  have e0:Cg L.p (bg (YU L qu) ((Qp L.p 1 L.block k:Nat):Int)) 0:=by
   rw [Y4 hL hq];refine (xS _).symm.trans (Cg.of_eq ?_);rw [zCL hL];rfl
  have Bh:=h.ml;refine (e0.add (qD _ fun j hj=>Cg.rfl'.mul (((J1 hL h hm (i:=L.a+j) (by omega) hk).mul (J1 hL h hm (i:=L.a+L.b+j) (by omega) hk)).less (J1 hL h hm (i:=L.a+L.b+L.b+j) (by omega) hk)))).trans (Cg.of_eq ?_)
  rw [Int.zero_add]
 have e2:dY L.p (fun k=>oh L.p (mV L cs m r li) (Qp L.p 1 L.block k)) L.block=yZ L.p cs m m.length:=by
  refine Cg.eq (p:=L.p) ?_ (zAX mx _ _) (zAT mx _ _ _);refine (I5 _ _).trans ?_;refine Cg.trans ?_ (a8 _ _ _).symm;refine (qD (g:=fun k=>(oh L.p (Rk L li) (Qp L.p 1 L.block k):Int)+Sb (fun j=>(((cs.getD j []).getD k 0:Nat):Int)*(((m.getD j []).getD k 0:Nat):Int)) m.length) _ fun k hk=>?_).trans ?_
  ·refine (xS _).trans ((I8 cs m r li _).trans ?_)
   exact (xS _).symm.add (qD _ fun j hj=>(wt_at hL lq (by omega) hk).mul (J1 hL h hm hj hk))
  ·rw [zZ]
   have e3:Cg L.p (Sb (fun k=>(oh L.p (Rk L li) (Qp L.p 1 L.block k):Int)) L.block) 0:=by
    refine (I5 _ _).symm.trans (Cg.of_eq ?_);rw [zCj hL];rfl
   refine (e3.add Cg.rfl').trans ?_;rw [Int.zero_add,cY];refine qD _ fun j hj=>Cg.of_eq ?_
   rw [PX lq (show j<cs.length by omega)]
 unfold BZ I0;rw [K8 hL h lq Tq hc hl hq al be,e2,Bool.true_and,Bool.and_comm]
 congr 1
 exact zBl fun k hk=>by rw [e1 k hk]
end Go.Proofs.YtjipleoamlmkfaaGreat
namespace Go.Proofs.YtjipleoamlmkfaaGreat
theorem G0 {α:Type} {l:List α} {i:Nat} (d:α) (h:i<l.length):l.getD i d∈l:=by
 rw [List.getD_eq_getElem?_getD,List.getElem?_eq_getElem h];exact List.getElem_mem h
theorem G5 (f:Nat -> Int) (m:Nat):∀ n,Sb f (m+n)=Sb f m+Sb (fun i=>f (m+i)) n
 | 0=>by rw [Sb,Nat.add_zero];omega
 | n+1=>by
  rw [<- Nat.add_assoc,Sb,G5 f m n,Sb];omega
theorem NP {f g:Nat -> Int}:∀ n,(∀ i,i<n -> f i=g i) -> Sb f n=Sb g n
 | 0,_=>rfl
 | n+1,h=>by rw [Sb,Sb,NP n fun i hi=>h i (by omega),h n (by omega)]
theorem zAU (f:Nat -> Int) (B:Nat):∀ n,Sb (fun r=>Sb (fun j=>f (r*B+j)) B) n=Sb f (n*B)
 | 0=>by rw [Sb,Nat.zero_mul,Sb]
 | n+1=>by rw [Sb,zAU f B n,Nat.succ_mul,G5]
theorem zAW {f:Nat -> Int} {n m:Nat} (h:n <= m) (h0:∀ q,n <= q -> f q=0):Sb f m=Sb f n:=by
 obtain ⟨d,rfl⟩:∃ d,m=n+d:=⟨m-n,by omega⟩
 rw [G5,NP (g:=fun _=>0) d fun i _=>h0 _ (by omega),sX]
 omega
def mU (ps:Nat -> Nat):Nat -> Nat
 | 0=>0
 | i+1=>mU ps i+ps i
theorem qZ (B:Nat) (l:Nat -> List Nat) (ps:Nat -> Nat):∀ i,(Ek B l ps i).length=mU ps i
 | 0=>rfl
 | i+1=>by rw [XG,List.length_append,qZ B l ps i,mU];simp [Dl]
theorem G2 {B:Nat} {l:Nat -> List Nat} {ps:Nat -> Nat} {i r:Nat} (h:r<mU ps i):(Ek B l ps (i+1)).getD r []=(Ek B l ps i).getD r []:=by
 rw [XG,List.getD_eq_getElem?_getD,List.getElem?_append_left (by rw [qZ];exact h),List.getD_eq_getElem?_getD]
theorem C2 {B:Nat} {l:Nat -> List Nat} {ps:Nat -> Nat} {i r:Nat} (h:r<ps i):(Ek B l ps (i+1)).getD (mU ps i+r) []=wv B (l i) r:=by
 rw [XG,List.getD_eq_getElem?_getD,List.getElem?_append_right (by rw [qZ];omega),qZ,Nat.add_sub_cancel_left,Dl,List.getElem?_map,List.getElem?_range h]
 rfl
theorem OZ {B:Nat} {v:List Nat} {r j:Nat} (h:j<B):(wv B v r).getD j 0=v.getD (r*B+j) 0:=by
 unfold wv;rw [List.getD_eq_getElem?_getD,List.getElem?_map,List.getElem?_range h]
 rfl
theorem S8 (B:Nat) (lu lv:Nat -> List Nat) (ps:Nat -> Nat):∀ i,Sb (fun r=>Sb (fun k=>((((Ek B lu ps i).getD r []).getD k 0:Nat):Int)*((((Ek B lv ps i).getD r []).getD k 0:Nat):Int)) ((Ek B lu ps i).getD r []).length) (mU ps i) =
  Sb (fun i=>Sb (fun q=>(((lu i).getD q 0:Nat):Int)*(((lv i).getD q 0:Nat):Int)) (ps i*B)) i
 | 0=>rfl
 | i+1=>by
  rw [mU,G5,Sb,<- S8 B lu lv ps i]
  congr 1
  ·exact NP _ fun r hr=>by simp only [G2 hr]
  ·rw [<- zAU]
   refine NP _ fun r hr=>?_
   simp only [C2 hr];rw [show (wv B (lu i) r).length=B by simp [wv]]
   exact NP _ fun j hj=>by rw [OZ hj,OZ hj]
def tvI (ws:List Nat) (t:Int × Nat):Int:=if 0 <= t.1 /\ t.1<(ws.length:Int) then (t.2:Int)*((ws.getD t.1.toNat 0:Nat):Int) else 0
theorem D7 {p:Nat} (ts:List (Int × Nat)) (ws:List Nat):∀ j,j <= ts.length -> Cg p (ud p (ts.take j) ws:Int) (Sb (fun i=>tvI ws (ts.getD i (0,0))) j)
 | 0,_=>Cg.rfl'
 | j+1,h=>by
  rw [Sb,KI p ts ws j (by omega)]
  unfold Hn tvI;split
  ·exact D8 (D7 ts ws j (by omega)) _ _
  ·rw [Int.add_zero]
   exact D7 ts ws j (by omega)
theorem V9 {p:Nat} (ts:List (Int × Nat)) (ws:List Nat):Cg p (ud p ts ws:Int) (Sb (fun i=>tvI ws (ts.getD i (0,0))) ts.length):=by
 have:=D7 (p:=p) ts ws ts.length zR
 rwa [List.take_length] at this
def tX (pu:Nat) (ws:List Nat) (t:Int × Nat):Int:=if 0 <= t.1-1-(pu:Int) then (t.2:Int)*((ws.getD t.1.toNat 0:Nat):Int) else 0
theorem zDF {pu:Nat} {ws pub:List Nat} (dW:ws.take (1+pu)=1 :: pub) (hl:1+pu <= ws.length) {t:Int × Nat} (h0:0 <= t.1) (h1:t.1<(ws.length:Int)):tvI ws t=tvI (1 :: pub) t+tX pu ws t:=by
 have Wh:(1 :: pub).length=1+pu:=by rw [<- dW,List.length_take,Nat.min_eq_left hl]
 unfold tvI tX;rw [if_pos ⟨h0,h1⟩,Wh];by_cases h:0 <= t.1-1-(pu:Int)
 ·rw [if_neg (by omega),if_pos h,Int.zero_add]
 ·rw [if_pos (by omega),if_neg h,Int.add_zero,<- dW]
  congr 2
  rw [List.getD_eq_getElem?_getD,List.getD_eq_getElem?_getD,List.getElem?_take_of_lt (by omega)]
theorem zDy {p pu x S:Nat} {ws:List Nat} (hl:ws.length=1+pu+S) {t:Int × Nat} (h1:t.1<(ws.length:Int)):Cg p (Sb (fun s=>IV s pu x t*((ws.getD (1+pu+s) 0:Nat):Int)) S) ((x:Int)*tX pu ws t):=by
 unfold tX;by_cases h:0 <= t.1-1-(pu:Int)
 ·rw [if_pos h]
  refine zAV (q:=(t.1-1-(pu:Int)).toNat) (by omega) (fun s _ hs=>?_) ?_
  ·unfold IV
   rw [if_neg (by omega),Int.zero_mul]
   exact Cg.rfl'
  ·unfold IV
   rw [if_pos (by omega),show 1+pu+(t.1-1-(pu:Int)).toNat=t.1.toNat by omega]
   exact Cg.of_eq (Int.mul_assoc _ _ _)
 ·rw [if_neg h,Int.mul_zero]
  refine Cg.of_eq ?_;rw [NP (g:=fun _=>0) S fun s _=>by unfold IV;rw [if_neg (by omega),Int.zero_mul],sX]
theorem zAh (f:Nat -> Int):∀ n,-(Sb f n)=Sb (fun i=>-(f i)) n
 | 0=>rfl
 | n+1=>by rw [Sb,Sb,<- zAh f n];omega
theorem l8 (c:Int) (f:Nat -> Int) (n:Nat):Sb f n*c=Sb (fun i=>f i*c) n:=by
 rw [Int.mul_comm,bZ];exact NP _ fun i _=>Int.mul_comm _ _
section
variable {L:Va} {pu ra:Nat} {vars:Int} {rows:List Ya} {ws pub:List Nat}
theorem zDJ (hV:pA vars rows) (hw:(ws.length:Int)=vars) (dW:ws.take (1+pu)=1 :: pub) (hl:1+pu <= ws.length) {k i:Nat} (hk:k<3) (hi:i<rows.length) :
  Cg L.p (ud L.p (Dd (rows.getD i ⟨[],[],[]⟩) k) ws:Int) ((ud L.p (Dd (rows.getD i ⟨[],[],[]⟩) k) (1 :: pub):Int)+Sb (fun t=>tX pu ws ((Dd (rows.getD i ⟨[],[],[]⟩) k).getD t (0,0))) (Dd (rows.getD i ⟨[],[],[]⟩) k).length):=by
 have hr:rows.getD i ⟨[],[],[]⟩∈rows:=G0 _ hi;refine (V9 _ _).trans (Cg.trans (Cg.of_eq ?_) ((V9 _ _).symm.add Cg.rfl'));rw [<- zZ];refine NP _ fun t ht=>?_
 obtain ⟨a,b⟩:=hV _ hr k hk _ (G0 (0,0) ht);exact zDF dW hl a (by omega)
theorem zDr (hp:1<L.p) (hV:pA vars rows) (hw:(ws.length:Int)=vars) {S:Nat} (hl:ws.length=1+pu+S) :
  Cg L.p (Sb (fun s=>(oV L.p pu rows.length ra rows 3 s:Int)*((ws.getD (1+pu+s) 0:Nat):Int)) S)
   (-(Sb (fun k=>Sb (fun i=>((ra^(k*rows.length+i)%L.p:Nat):Int)*Sb (fun t=>tX pu ws ((Dd (rows.getD i ⟨[],[],[]⟩) k).getD t (0,0))) (Dd (rows.getD i ⟨[],[],[]⟩) k).length) rows.length) 3)):=by
 refine (qD S fun s _=>(u6 hp pu rows.length ra rows s 3).mul Cg.rfl').trans ?_
 refine (Cg.of_eq (show _=-(Sb (fun k=>Sb (fun i=>Sb (fun s=>rW L.p pu rows.length ra rows s k i*((ws.getD (1+pu+s) 0:Nat):Int)) S) rows.length) 3) from ?_)).trans (Cg.neg (qD 3 fun k hk=>qD rows.length fun i hi=>?_))
 ·rw [NP (g:=fun s=>-(Sb (fun k=>Sb (fun i=>rW L.p pu rows.length ra rows s k i*((ws.getD (1+pu+s) 0:Nat):Int)) rows.length) 3)) S fun s _=>by
   rw [Int.neg_mul,l8]
   congr 1
   exact NP _ fun k _=>l8 _ _ _]
  rw [<- zAh]
  congr 1
  rw [cY (fun s k=>Sb (fun i=>rW L.p pu rows.length ra rows s k i*((ws.getD (1+pu+s) 0:Nat):Int)) rows.length) 3 S]
  exact NP _ fun k _=>cY (fun s i=>rW L.p pu rows.length ra rows s k i*((ws.getD (1+pu+s) 0:Nat):Int)) rows.length S
 ·have hr:rows.getD i ⟨[],[],[]⟩∈rows:=G0 _ hi
  rw [bZ];refine (Cg.of_eq (show _=Sb (fun t=>Sb (fun s=>IV s pu (ra^(k*rows.length+i)%L.p) ((Dd (rows.getD i ⟨[],[],[]⟩) k).getD t (0,0))*((ws.getD (1+pu+s) 0:Nat):Int)) S) (Dd (rows.getD i ⟨[],[],[]⟩) k).length from ?_)).trans (qD _ fun t ht=>zDy hl ?_)
  ·rw [NP (g:=fun s=>Sb (fun t=>IV s pu (ra^(k*rows.length+i)%L.p) ((Dd (rows.getD i ⟨[],[],[]⟩) k).getD t (0,0))*((ws.getD (1+pu+s) 0:Nat):Int)) (Dd (rows.getD i ⟨[],[],[]⟩) k).length) S fun s _=>by rw [rW,l8]]
   exact cY (fun s t=>IV s pu (ra^(k*rows.length+i)%L.p) ((Dd (rows.getD i ⟨[],[],[]⟩) k).getD t (0,0))*((ws.getD (1+pu+s) 0:Nat):Int)) _ S
  ·obtain ⟨-,b⟩:=hV _ hr k hk _ (G0 (0,0) ht)
   omega
theorem W3 {p k i:Nat} (hi:i<rows.length):(Kh p rows ws k).getD i 0=ud p (Dd (rows.getD i ⟨[],[],[]⟩) k) ws:=by
 unfold Kh;rw [List.getD_eq_getElem?_getD,List.getElem?_map,List.getD_eq_getElem?_getD,List.getElem?_eq_getElem hi]
 rfl
theorem VZ {l:List Nat} {i:Nat} (h:l.length <= i):l.getD i 0=0:=by
 rw [List.getD_eq_getElem?_getD,List.getElem?_eq_none h]
 rfl
theorem zDl (hL:Vc L) (hF:ux L pu vars rows) (hV:pA vars rows) (hw:(ws.length:Int)=vars) (dW:ws.take (1+pu)=1 :: pub) :
  yZ L.p (Uu L pu ra rows) (Ew L rows ws pu) (Ew L rows ws pu).length=JV L.p rows.length ra (1 :: pub) rows 3:=by
 obtain ⟨hp,-⟩:=nc hL.p;have Pd:1<L.p:=by omega
 have Vt:=hF.sec;have RU:=hF.nr;have ya:=hL.b1;have hae:=hL.ae;have hbe:=hL.be;have hl:ws.length=1+pu+L.secret:=by omega
 have ha:L.secret <= L.a*L.block:=by
  rw [hae];have:=Nat.div_add_mod (L.secret+L.block-1) L.block;have:=Nat.mod_lt (L.secret+L.block-1) (show 0<L.block by omega)
  rw [Nat.mul_comm];omega
 have hb:rows.length <= L.b*L.block:=by
  rw [hbe,RU];have:=Nat.div_add_mod (rows.length+L.block-1) L.block;have:=Nat.mod_lt (rows.length+L.block-1) (show 0<L.block by omega)
  rw [Nat.mul_comm];omega
 refine Cg.eq (p:=L.p) ?_ (zAT (by omega) _ _ _) (zA1 (by omega) _ _ _ _ _)
 refine (a8 _ _ _).trans ?_;have Bh:(Ew L rows ws pu).length=mU (xe L.a L.b L.b L.b) 4:=by unfold Ew Io;exact qZ _ _ _ 4
 rw [Bh];unfold Uu Ew Io;rw [S8];have h0:Sb (fun q=>((((List.range L.secret).map (oV L.p pu rows.length ra rows 3)).getD q 0:Nat):Int)*(((ws.drop (1+pu)).getD q 0:Nat):Int)) (L.a*L.block)=Sb (fun s=>(oV L.p pu rows.length ra rows 3 s:Int)*((ws.getD (1+pu+s) 0:Nat):Int)) L.secret:=by
  rw [zAW ha fun q hq=>by rw [VZ (by simp;exact hq)];exact Int.zero_mul _]
  refine NP _ fun s hs=>?_
  congr 2
  ·rw [List.getD_eq_getElem?_getD,List.getElem?_map,List.getElem?_range hs];rfl
  ·rw [List.getD_eq_getElem?_getD,List.getElem?_drop,List.getD_eq_getElem?_getD]
 have hk:∀ k,k<3 -> Sb (fun q=>(((Sf L.p rows.length ra k).getD q 0:Nat):Int)*(((Kh L.p rows ws k).getD q 0:Nat):Int)) (L.b*L.block)=Sb (fun i=>((ra^(k*rows.length+i)%L.p:Nat):Int)*(ud L.p (Dd (rows.getD i ⟨[],[],[]⟩) k) ws:Int)) rows.length:=fun k _=>by
  rw [zAW hb fun q hq=>by rw [VZ (l:=Sf L.p rows.length ra k) (by simp [Sf];exact hq)];exact Int.zero_mul _]
  refine NP _ fun i hi=>?_
  rw [W3 hi]
  congr 2
  unfold Sf;rw [List.getD_eq_getElem?_getD,List.getElem?_map,List.getElem?_range hi]
  rfl
 refine (Cg.of_eq (show _=Sb (fun s=>(oV L.p pu rows.length ra rows 3 s:Int)*((ws.getD (1+pu+s) 0:Nat):Int)) L.secret+Sb (fun k=>Sb (fun i=>((ra^(k*rows.length+i)%L.p:Nat):Int)*(ud L.p (Dd (rows.getD i ⟨[],[],[]⟩) k) ws:Int)) rows.length) 3 from ?_)).trans ?_
 ·have e4:∀ F:Nat -> Int,Sb F 4=F 0+(F 1+F 2+F 3):=fun F=>by simp only [Sb];omega
  have e3:∀ F:Nat -> Int,Sb F 3=F 0+F 1+F 2:=fun F=>by simp only [Sb];omega
  rw [e4,e3];have e:∀ {a b c d a' b' c' d':Int},a=a' -> b=b' -> c=c' -> d=d' -> a+(b+c+d)=a'+(b'+c'+d'):=fun h1 h2 h3 h4=>by rw [h1,h2,h3,h4]
  exact e h0 (hk 0 (by decide)) (hk 1 (by decide)) (hk 2 (by decide))
 ·refine ((zDr Pd hV hw hl).add (qD 3 fun k hk=>qD rows.length fun i hi=>Cg.rfl'.mul (zDJ hV hw dW (by omega) hk hi))).trans ((Cg.of_eq ?_).trans (zA0 rows.length ra (1 :: pub) rows 3).symm)
  have e:Sb (fun k=>Sb (fun i=>((ra^(k*rows.length+i)%L.p:Nat):Int)*((ud L.p (Dd (rows.getD i ⟨[],[],[]⟩) k) (1 :: pub):Int)+Sb (fun t=>tX pu ws ((Dd (rows.getD i ⟨[],[],[]⟩) k).getD t (0,0))) (Dd (rows.getD i ⟨[],[],[]⟩) k).length)) rows.length) 3 =
    Sb (fun k=>Sb (fun i=>tgT L.p rows.length ra (1 :: pub) rows k i) rows.length) 3+Sb (fun k=>Sb (fun i=>((ra^(k*rows.length+i)%L.p:Nat):Int)*Sb (fun t=>tX pu ws ((Dd (rows.getD i ⟨[],[],[]⟩) k).getD t (0,0))) (Dd (rows.getD i ⟨[],[],[]⟩) k).length) rows.length) 3:=by
   rw [<- zZ];refine NP _ fun k _=>?_
   rw [<- zZ];exact NP _ fun i _=>Int.mul_add _ _ _
  rw [e];generalize Sb (fun k=>Sb (fun i=>tgT L.p rows.length ra (1 :: pub) rows k i) rows.length) 3=x
  generalize Sb (fun k=>Sb (fun i=>((ra^(k*rows.length+i)%L.p:Nat):Int)*Sb (fun t=>tX pu ws ((Dd (rows.getD i ⟨[],[],[]⟩) k).getD t (0,0))) (Dd (rows.getD i ⟨[],[],[]⟩) k).length) rows.length) 3=y
  omega
theorem F7 {k j:Nat} (hk:k<3) (hj:j<L.b):(Ew L rows ws pu).getD (L.a+k*L.b+j) []=wv L.block (Kh L.p rows ws k) j:=by
 have e1:mU (xe L.a L.b L.b L.b) 1=L.a:=Nat.zero_add _;have e2:mU (xe L.a L.b L.b L.b) 2=L.a+L.b:=by show 0+L.a+L.b=_;omega
 have e3:mU (xe L.a L.b L.b L.b) 3=L.a+L.b+L.b:=by show 0+L.a+L.b+L.b=_;omega
 unfold Ew Io;rcases (show k=0 \/ k=1 \/ k=2 by omega) with rfl | rfl | rfl
 ·rw [G2 (by omega),G2 (by omega),show L.a+0*L.b+j=mU (xe L.a L.b L.b L.b) 1+j by omega,C2 hj]
  rfl
 ·rw [G2 (by omega),show L.a+1*L.b+j=mU (xe L.a L.b L.b L.b) 2+j by omega,C2 hj]
  rfl
 ·rw [show L.a+2*L.b+j=mU (xe L.a L.b L.b L.b) 3+j by omega,C2 hj]
  rfl
theorem zDn (hL:Vc L) (hs:∀ r∈rows,ud L.p r.a ws*ud L.p r.b ws%L.p=ud L.p r.c ws) (be:Nat) {k:Nat} (hk:k<L.block) :
  oh L.p (zC L.p L.a L.b (Pu (fun i=>((Ew L rows ws pu).getD i []).getD k 0) (Ew L rows ws pu).length) be L.b) 0=0:=by
 obtain ⟨hp,-⟩:=nc hL.p;have Bh:(Ew L rows ws pu).length=L.a+L.b+L.b+L.b:=by
  unfold Ew Io;rw [qZ];show 0+L.a+L.b+L.b+L.b=_
  omega
 refine Cg.eq (p:=L.p) ?_ (SV (by omega) _ _) (by omega)
 refine (N7 (by omega) Bh.symm _ be).trans ?_
 refine (qD (g:=fun _=>0) L.b fun j hj=>?_).trans (Cg.of_eq (sX _))
 have r0:=F7 (L:=L) (rows:=rows) (ws:=ws) (pu:=pu) (k:=0) (by decide) hj
 have r1:=F7 (L:=L) (rows:=rows) (ws:=ws) (pu:=pu) (k:=1) (by decide) hj
 have r2:=F7 (L:=L) (rows:=rows) (ws:=ws) (pu:=pu) (k:=2) (by decide) hj
 rw [show L.a+0*L.b+j=L.a+j by omega] at r0
 rw [show L.a+1*L.b+j=L.a+L.b+j by omega] at r1
 rw [show L.a+2*L.b+j=L.a+L.b+L.b+j by omega] at r2
 simp only [r0,r1,r2];rw [OZ hk,OZ hk,OZ hk];refine (Cg.rfl'.mul (show Cg L.p _ 0 from ?_)).trans (Cg.of_eq (Int.mul_zero _))
 by_cases hq:j*L.block+k<rows.length
 ·rw [W3 hq,W3 hq,W3 hq]
  have h:=hs _ (G0 (⟨[],[],[]⟩:Ya) hq);show Cg L.p ((ud L.p (rows.getD (j*L.block+k) ⟨[],[],[]⟩).a ws:Int)*(ud L.p (rows.getD (j*L.block+k) ⟨[],[],[]⟩).b ws:Int)-(ud L.p (rows.getD (j*L.block+k) ⟨[],[],[]⟩).c ws:Int)) 0
  rw [<- h];exact (Cg.rfl'.less ((Cg.mod _).trans (Cg.of_eq (Int.natCast_mul _ _)))).trans (Cg.of_eq (Int.sub_self _))
 ·rw [VZ (l:=Kh L.p rows ws 0) (by simp [Kh];omega),VZ (l:=Kh L.p rows ws 1) (by simp [Kh];omega),VZ (l:=Kh L.p rows ws 2) (by simp [Kh];omega)]
  exact Cg.rfl'
theorem zDm (hL:Vc L) (hF:ux L pu vars rows) (hV:pA vars rows) (hw:(ws.length:Int)=vars) (dW:ws.take (1+pu)=1 :: pub)
  (hs:∀ r∈rows,ud L.p r.a ws*ud L.p r.b ws%L.p=ud L.p r.c ws) (be:Nat) :
  I0 L (JV L.p rows.length ra (1 :: pub) rows 3) (Uu L pu ra rows) (Ew L rows ws pu) be=true:=by
 unfold I0;rw [Bool.and_eq_true];exact ⟨decide_eq_true (zDl hL hF hV hw dW),E8 fun k hk=>decide_eq_true (zDn hL hs be hk)⟩
end
end Go.Proofs.YtjipleoamlmkfaaGreat
namespace Go.Proofs.YtjipleoamlmkfaaGreat
open Go.RowKit
theorem QR (real:Bool) (Im:Nat) (h:Im<18446744073709551616):jG (Pn real Im) 0:=by
 cases real
 ·exact ⟨fun _ q hq=>by simp [Pn] at hq,fun q hq=>by simp [Pn] at hq,by simp [Pn,Qc],by simpa [Pn] using h⟩
 ·exact ⟨fun _ q hq=>by simp [Pn] at hq,fun q hq=>by simp [Pn] at hq,by simp [Pn,Qc],by simp [Pn]⟩
theorem zA2 {O:La} {k:Nat} (h:jG O k) (L:Va) (dg:Nat) (pub:List Nat):W5 (ef O L dg pub) (k+1) 0 :=
 zDA (s:=⟨O,20,0⟩) (c:=0) ⟨h,by show (20:Nat)<18446744073709551616;omega,zR⟩ 1 _
theorem lF {l:List Nat} {n:Int} {p:Nat} (h:Cj l n p=true):(l.length:Int)=n:=by
 unfold Cj at h;simp only [Bool.and_eq_true,beq_iff_eq] at h;exact h.2
theorem QQ {L:Va} {j:Nat} {P:Ce} (h:Bj L j P=true):P.code.length=L.k /\ P.linear.length=L.k+L.block-1 /\ P.quad.length=2*L.k-1:=by
 unfold Bj at h;simp only [Bool.and_eq_true] at h;have h1:=lF h.2.1;have h2:=lF h.2.2.1;have h3:=lF h.2.2.2.1;omega
theorem TQ {L:Va} {j:Nat} {P:Ce} (hL:Vc L) (h:Bj L j P=true):(P.code++P.linear++P.quad).length <= 100000:=by
 obtain ⟨h1,h2,h3⟩:=QQ h;have a:=hL.k;have b:=hL.b2;have c:=hL.q2;simp only [List.length_append];omega
theorem EI (s:Tr) (all:List Nat) (n q:Nat) (h:q <= n):(Zr s all n q).length=q:=DI _ _ _ _ _ h
end Go.Proofs.YtjipleoamlmkfaaGreat
namespace Go.Proofs.YtjipleoamlmkfaaGreat
open Go.RowKit Go.Maps
structure PvIn.Good (x:PvIn):Prop where
 L:Vc x.L
 n:x.L.n=2^x.dd
 dd:x.dd <= 10
 ms:tU x.L x.m x.crs
 c1:x.l1.length=x.L.k /\ ∀ y∈x.l1,y<x.L.p
 c2:x.l2.length=x.L.k+x.L.block-2 /\ ∀ y∈x.l2,y<x.L.p
 c3:x.l3.length=x.L.block+2*x.L.queries-1 /\ ∀ y∈x.l3,y<x.L.p
 c4:x.l4.length=x.L.n /\ Sd x.l4=true
section
variable {x:PvIn}
theorem PvIn.ref_code (h:x.Good) (al:Nat):RV x.L x.m x.crs x.l1 al=x.code al:=(R8 h.L h.ms h.c1.1 h.c1.2 al).symm
theorem PvIn.coef (h:x.Good) (rh:Nat):dt x.L x.pub rh x.rows=Uu x.L x.pub rh x.rows:=zBC (by have:=nc h.L.p;omega) _ _ _
theorem PvIn.coef_len (h:x.Good) (rh:Nat):(Uu x.L x.pub rh x.rows).length=x.m.length:=(s6 _ _ _ _).trans h.ms.ml.symm
theorem PvIn.ref_lin (h:x.Good) (rh:Nat):mV x.L (Uu x.L x.pub rh x.rows) x.m x.crs x.l2=x.lin rh:=by
 unfold PvIn.lin;rw [PvIn.coef h];exact (W9 h.L h.ms (fun _ hr=>Y1 _ hr) (PvIn.coef_len h rh) h.c2.1 h.c2.2).symm
theorem PvIn.ref_quad (h:x.Good) (be:Nat):nV x.L x.m x.crs x.l3 be=x.quad be:=(zAu h.L h.ms h.c3.1 be).symm
end
end Go.Proofs.YtjipleoamlmkfaaGreat
namespace Go.Proofs.YtjipleoamlmkfaaGreat
open Go.RowKit Go.Maps
theorem zAr {f g:Nat -> Nat} (n:Nat):∀ k,(∀ i,i<k -> f i=g i) -> Og f n k=Og g n k
 | 0,_=>rfl
 | k+1,h=>by
  rw [Og,Og,zAr n k fun i hi=>h i (by omega),h k (by omega)]
theorem X7 {O:La} {s j:Nat}:∀ q,j <= q -> ug (Nb O 19 (Rh s 0 j)) (Nb O 19 (Rh s 0 q))
 | 0,h=>by
  obtain rfl:j=0:=by omega
  exact fun _ _ _ h=>h
 | q+1,h=>by
  by_cases e:j=q+1
  ·subst e
   exact fun _ _ _ h=>h
  ·rw [RL O s 0 q]
   exact Uw (X7 q (by omega)) (AF _ _ _)
theorem zDb {O Z:La} {s q i:Nat} (h:ug (Nb O 19 (Rh s 0 q)) Z) (hi:i<q):Mj Z s 0 i=Mj O s 0 i:=by
 unfold Mj;rw [XJ (Rh s 0 i) (Uw (X7 q (by omega)) h)]
 exact (ZY (O:=Nb O 19 (Rh s 0 i)) (by rw [<- RL];exact Uw (X7 q (by omega)) h)).1
theorem zDc {O Z:La} {s n q:Nat} (h:ug (Nb O 19 (Rh s 0 q)) Z):Sr Z s 0 n q=Sr O s 0 n q:=by
 unfold Sr;rw [zAr n q fun i hi=>zDb h hi]
theorem zDe {O Z:La} {st ct n q:Nat} {all:List Nat} (h:ug (Li ⟨O,st,ct⟩ all q) Z):Zr ⟨Z,st,ct⟩ all n q=Zr ⟨O,st,ct⟩ all n q:=by
 have ha:ug (Zg ⟨O,st,ct⟩ 3 all).O Z:=Uw (wK _ _ _) h;unfold Zr;rw [mF ha];exact zDc h
theorem zDa {Z:La} {s:Tr} {all:List Nat} {n q:Nat} (hc:s.ct=3) (h:ug (Li s all q) Z):Zr ⟨Z,s.st,3⟩ all n q=Zr s all n q:=by
 cases s
 simp only at hc;subst hc;exact zDe h
theorem zDd {O Z:La} {st root p:Nat} (h:ug (ve ⟨O,st,0⟩ root).O Z):tk ⟨Z,st,0⟩ p root=tk ⟨O,st,0⟩ p root:=by
 obtain ⟨a,ha⟩:=zEX (Zg ⟨O,st,0⟩ 2 [root]);have hc:a.ct=0:=by rw [ha];rfl
 have e:ve ⟨O,st,0⟩ root=Ed (Ed (Ed a)):=by rw [ha];rfl
 rw [e] at h;have h2:ug (Ed (Ed a)).O Z:=Uw (AF _ _ _) h;have h1:ug (Ed a).O Z:=Uw (AF _ _ _) h2;have h0:ug a.O Z:=Uw (AF _ _ _) h1;have ez:Zg ⟨Z,st,0⟩ 2 [root]=⟨Z,a.st,0⟩:=by rw [mF (by rw [<- ha];exact h0),<- ha]
 have r1:Ed ⟨Z,a.st,0⟩=⟨Z,a.st,1⟩:=pF (O:=a.O) (by rw [<- hc];exact h1)
 have e1:(⟨(Ed a).O,a.st,1⟩:Tr)=Ed a:=by simp [Ed,hc]
 have r2:Ed ⟨Z,a.st,1⟩=⟨Z,a.st,2⟩:=pF (O:=(Ed a).O) (by rw [e1];exact h2)
 have e2:(⟨(Ed (Ed a)).O,a.st,2⟩:Tr)=Ed (Ed a):=by simp [Ed,hc]
 have v0:AA ⟨Z,a.st,0⟩=AA a:=by
  have:=(ZY (O:=a.O) (lab:=19) (el:=[a.st,a.ct]) h1).1;unfold AA;rw [hc] at this |-;exact this
 have v1:AA ⟨Z,a.st,1⟩=AA (Ed a):=by
  have:=(ZY (O:=(Ed a).O) (lab:=19) (el:=[(Ed a).st,(Ed a).ct]) h2).1;unfold AA;simp only [Ed,hc] at this |-;exact this
 have v2:AA ⟨Z,a.st,2⟩=AA (Ed (Ed a)):=by
  have:=(ZY (O:=(Ed (Ed a)).O) (lab:=19) (el:=[(Ed (Ed a)).st,(Ed (Ed a)).ct]) h).1;unfold AA;simp only [Ed,hc] at this |-;exact this
 unfold tk;rw [ez,r1,r2,v0,v1,v2,<- ha]
theorem Y8 {l:List Nat} (h:∀ x∈l,x<Xa):Sd l=true:=List.all_eq_true.2 fun x hx=>decide_eq_true (h x hx)
theorem W2 {l:List Nat} (h:Sd l=true):∀ x∈l,x<Xa:=fun x hx=>of_decide_eq_true (List.all_eq_true.1 h x hx)
theorem zCw {O T:La} {d:Nat} {ls:List (List Nat)} {sa:List Nat} (hd:d <= 10) (hn:ls.length=2^d) (RD:sa.length=ls.length) (ON:Sd sa=true) (hle:∀ l∈ls,Sd l=true) (hO:rm O)
  (hT:ug (ey d (Nb O 16 (Qk ls sa)) (Ee O 16 (Qk ls sa))) T) {i:Nat} (hi:i<ls.length) :
  vX T (su (jq d (Nb O 16 (Qk ls sa)) (Ee O 16 (Qk ls sa)))) ls.length i (sa.getD i 0) (ls.getD i []) (yj (jq d (Nb O 16 (Qk ls sa)) (Ee O 16 (Qk ls sa))) i)=true /\
   uX T (su (jq d (Nb O 16 (Qk ls sa)) (Ee O 16 (Qk ls sa)))) ls.length i (sa.getD i 0) (ls.getD i []) (yj (jq d (Nb O 16 (Qk ls sa)) (Ee O 16 (Qk ls sa))) i)=T:=by
 have hql:(Qk ls sa).length=ls.length:=yE _ _;have hqe:∀ q∈Qk ls sa,Sd q=true:=fun q hq=>by
  simp only [Qk,List.mem_map,List.mem_range] at hq;obtain ⟨k,hk,rfl⟩:=hq;exact Y8 fun x hx=>by
   rcases List.mem_cons.1 hx with e | e
   ·rw [e];exact BD (W2 ON) k
   ·exact W2 (hle _ (Bx [] hk)) x e
 have ha:=N8 O 16 (Qk ls sa) hqe i (by omega)
 rw [rO ls sa i hi] at ha;have hv:=IG hO 16 (Qk ls sa);have Cr:(Ee O 16 (Qk ls sa)).length=2^d:=by rw [Dw,hql,hn]
 have hOa:=EG hO 16 (Qk ls sa);generalize Ee O 16 (Qk ls sa)=L at *;generalize Nb O 16 (Qk ls sa)=O1 at *;have hA:=hT _ _ _ (Y5 d L ha);obtain ⟨w1,w2⟩:=zBd (T:=T) d O1 L 16 (sa.getD i 0 :: ls.getD i []) i Cr hv hT hOa (by omega) hA
 have ht:=aT O1 hd Cr;have hta:=eU d O1 L hOa hv;have hp:pW (su (jq d O1 L)) ls.length i (sa.getD i 0) (ls.getD i []) (yj (jq d O1 L) i)=true:=by
  unfold pW;rw [show VU ls.length=true by rw [hn];exact eJ hd,decide_eq_true hi,decide_eq_true (show 2^(yj (jq d O1 L) i).length=ls.length by rw [IB,List.length_map,List.length_range,ht.len,hn];rfl),
   decide_eq_true (show su (jq d O1 L)<Xa by rw [ZR ht];exact eK hta d 0),decide_eq_true (BD (W2 ON) i),hle _ (Bx [] hi),Y8 (DQ hta i)]
  rfl
 unfold vX uX;rw [hp,w1,w2];exact ⟨by simp,rfl⟩
theorem S0 {l:List Nat} {n p:Nat} (hl:l.length=n) (h:∀ y∈l,y<p):Cj l (n:Int) p=true:=by
 unfold Cj;rw [Bool.and_eq_true,List.all_eq_true];exact ⟨fun y hy=>decide_eq_true (h y hy),by rw [hl];simp⟩
theorem X9 {ls:List (List Nat)} {m n p:Nat} (hl:ls.length=m) (h:∀ l∈ls,l.length=n /\ ∀ y∈l,y<p):vz ls (m:Int) (n:Int) p=true:=by
 unfold vz;rw [Bool.and_eq_true,List.all_eq_true];exact ⟨fun l hx=>S0 (h l hx).1 (h l hx).2,by rw [hl];simp⟩
section
section
variable {x:PvIn} (O:La)
theorem PvIn.pos_len (h:x.Good):(x.pos O).length=x.L.queries:=EI _ _ _ _ (by have:=h.L.nk;have:=h.L.k;omega)
theorem PvIn.pos_lt (h:x.Good):∀ y∈x.pos O,y<x.L.n:=LQ _ _ _ _ _ (by have:=h.L.nk;have:=h.L.k;omega)
theorem PvIn.cols_get {i:Nat} (hi:i<x.L.n):x.cols.getD i []=(List.range (x.m.length+3)).map (CA x.L (Ow x.L x.m x.crs x.l1 x.l2 x.l3) i):=by
 unfold PvIn.cols;rw [List.getD_eq_getElem?_getD,List.getElem?_map,List.getElem?_range hi]
 rfl
theorem PvIn.cols_lt (h:x.Good):∀ l∈x.cols,∀ y∈l,y<x.L.p:=fun l hl y hy=>by
 obtain ⟨i,-,rfl⟩:=List.mem_map.1 hl;obtain ⟨j,-,rfl⟩:=List.mem_map.1 hy;exact DM (p:=x.L.p) (by have:=nc h.L.p;omega) x.L.n x.L.n.log2 _ (Yc x.L.p).1 i
theorem PvIn.valid (h:x.Good) (ha:rm (x.t1 O).O):Bj x.L x.dd (x.pr O)=true:=by
 have mx:0<x.L.p:=by have:=nc h.L.p;omega
 have Wt:=x.tree_lt O ha;have hr:x.root O<Xa:=cS Wt;have hs:(x.tree O).length=x.dd+1:=(aC _ _ _ (by rw [Dw,yE,x.cols_len,h.n])).1
 have Wh:=pos_len O h;have Ut:=pos_lt O h;unfold Bj;rw [Bool.and_eq_true,Bool.and_eq_true,Bool.and_eq_true,Bool.and_eq_true,Bool.and_eq_true,Bool.and_eq_true];refine ⟨?_,S0 (by simp [PvIn.pr,PvIn.code]) (x.code_lt mx h.c1.2 _),S0 (by simp [PvIn.pr,PvIn.lin]) (x.lin_lt mx h.c2.2 _),S0 (by simp [PvIn.pr,PvIn.quad]) (x.quad_lt mx _),X9 (by simp [PvIn.pr,Wh]) fun l hl=>?_,S0 (by simp [PvIn.pr,Wh]) fun y hy=>?_,X9 (by simp [PvIn.pr,Wh]) fun l hl=>?_⟩
 ·rw [Bool.not_eq_true',decide_eq_false_iff_not]
  have:Oh=Xa:=rfl;show ¬Oh <= x.root O
  omega
 ·obtain ⟨i,hi,rfl⟩:=List.mem_map.1 hl
  have hm:x.cols.getD i []∈x.cols:=Bx [] (by rw [x.cols_len];exact Ut i hi)
  exact ⟨by rw [x.cols_row _ hm,h.ms.ml],cols_lt h _ hm⟩
 ·obtain ⟨i,hi,rfl⟩:=List.mem_map.1 hy
  exact BD (W2 h.c4.2) i
 ·obtain ⟨i,hi,rfl⟩:=List.mem_map.1 hl
  exact ⟨by rw [IB,List.length_map,List.length_range,hs];rfl,DQ Wt i⟩
theorem PvIn.again_ch {Z:La} (hZ:ug (x.oF O) Z):tk (ef Z x.L x.dg x.pu) x.L.p (x.root O)=x.ch O:=by
 rw [WR (O:=O) (Uw (x.sub1 O) (Uw (x.sub2 O) (Uw (x.sub3 O) hZ)))];exact zDd (O:=x.o2 O) (Uw (x.sub3 O) hZ)
theorem PvIn.again_t2 {Z:La} (hZ:ug (x.oF O) Z):ve (ef Z x.L x.dg x.pu) (x.root O)=⟨Z,(x.t2 O).st,3⟩:=by
 rw [WR (O:=O) (Uw (x.sub1 O) (Uw (x.sub2 O) (Uw (x.sub3 O) hZ)))];exact XR (O:=x.o2 O) (Uw (x.sub3 O) hZ)
theorem PvIn.t2_ct:(x.t2 O).ct=3:=zS _ _ _
theorem PvIn.again_pos {Z:La} (hZ:ug (x.oF O) Z):Zr (ve (ef Z x.L x.dg x.pu) (x.root O)) (x.all O) x.L.n x.L.queries=x.pos O:=by
 rw [again_t2 O hZ];exact zDa (t2_ct O) hZ
theorem PvIn.again_o {Z:La} (hZ:ug (x.oF O) Z):Li (ve (ef Z x.L x.dg x.pu) (x.root O)) (x.all O) x.L.queries=Z:=by
 rw [again_t2 O hZ];exact VR (t2_ct O) hZ
theorem PvIn.opens (h:x.Good) (ha:rm (x.t1 O).O) {Z:La} (hZ:ug (x.oF O) Z) {i:Nat} (hi:i<x.L.n) :
  vX Z (x.root O) x.L.n i (x.l4.getD i 0) (x.cols.getD i []) (yj (x.tree O) i)=true /\ uX Z (x.root O) x.L.n i (x.l4.getD i 0) (x.cols.getD i []) (yj (x.tree O) i)=Z:=by
 have:=zCw (O:=(x.t1 O).O) (T:=Z) (ls:=x.cols) (sa:=x.l4) h.dd (by rw [x.cols_len,h.n]) (by rw [x.cols_len];exact h.c4.1) h.c4.2 (x.cols_els h.L.p) ha (Uw (x.sub2 O) (Uw (x.sub3 O) hZ)) (i:=i) (by rw [x.cols_len];exact hi)
 rw [x.cols_len] at this;exact this
theorem PvIn.fits (h:x.Good) (al rh be:Nat) {i:Nat} (hi:i<x.L.n):LW x.L (Uu x.L x.pub rh x.rows) al be (x.code al) (x.lin rh) (x.quad be) (i:Int) (x.cols.getD i [])=true:=by
 rw [cols_get hi,<- ref_code h,<- ref_lin h,<- ref_quad h];exact zBE h.L h.ms (fun _ hr=>Y1 _ hr) (coef_len h rh) h.c1 h.c2 h.c3.1 al be hi
theorem PvIn.tests (h:x.Good) (hm:∀ r∈x.m,∀ y∈r,y<x.L.p) (al rh be t:Nat):BZ x.L t (x.code al) (x.lin rh) (x.quad be)=I0 x.L t (Uu x.L x.pub rh x.rows) x.m be:=by
 rw [<- ref_code h,<- ref_lin h,<- ref_quad h];exact zDz h.L h.ms hm (fun _ hr=>Y1 _ hr) (coef_len h rh) h.c1 h.c2 h.c3.1 al be t
end
end
end Go.Proofs.YtjipleoamlmkfaaGreat
namespace Go.Proofs.YtjipleoamlmkfaaGreat
open Go.RowKit
structure StB (g:Nat) (w wf:World):Prop where
 os:wf.os=w.os
 tape:wf.tape=w.tape
 output:wf.output=w.output
 size:wf.heap.size=w.heap.size
 far:∀ j,j≠g -> wf.heap[j]?=w.heap[j]?
section
variable {g:Nat} {w wf:World}
theorem st_all (g:Nat) (xs:List Value) (w:World):StB g w (ng w g xs 0) :=
 ⟨(oK g xs 0 w).2.1,(oK g xs 0 w).2.2.1,(oK g xs 0 w).2.2.2,(oK g xs 0 w).1,fun _ hj=>Xr hj xs 0 w⟩
theorem StB.blk (h:StB g w wf) {b:Nat} {t:TypeId} {cs:Array Value} (k:Blk w b t cs) (hb:b≠g):Blk wf b t cs:=(h.far b hb).trans k
theorem StB.below (h:StB g w wf) {w0:World} {N:Nat} (k:Below N w0 w) (hN:N <= g):Below N w0 wf :=
 ⟨h.os.trans k.os,h.tape.trans k.tape,h.output.trans k.output,Nat.le_trans k.size (Nat.le_of_eq h.size.symm),fun b hb=>(h.far b (by omega)).trans (k.block b hb)⟩
theorem StB.agr (h:StB g w wf) {K:Nat -> Prop} (hK:¬K g):Vf K w wf:=⟨h.os,h.tape,h.output,Nat.le_of_eq h.size.symm,fun b hb _=>h.far b fun e=>hK (e ▸ hb)⟩
theorem StB.hd (h:StB g w wf) {K:Nat -> Prop} {Q:World -> Prop} (k:Hd K w Q) (hK:¬K g):Hd K wf Q:=Mc k (h.agr hK)
theorem StB.own (h:StB g w wf) {base n size:Nat} {e:TypeId} {x:Value} {xs:List Value} (k:w.ownsRow base e size x n xs) (hg:∀ b,x.ownBlock=some b -> b≠g):wf.ownsRow base e size x n xs:=zg k fun b hb=>h.far b (hg b hb)
theorem StB.trans {v:World} (h:StB g w wf) (k:StB g wf v):StB g w v:=⟨k.os.trans h.os,k.tape.trans h.tape,k.output.trans h.output,k.size.trans h.size,fun j hj=>(k.far j hj).trans (h.far j hj)⟩
end
theorem zDt {w:World} {g:Nat} {t:TypeId} {y0 y1 y2 y3 y4 y5 y6:Value} (k:Blk w g t #[y0,y1,y2,y3,y4,y5,y6]) (x0 x1 x2 x3 x4 x5 x6:Value):∃ wf,(((((((w).setCell ⟨g,0,none⟩ x0).setCell ⟨g,1,none⟩ x1).setCell ⟨g,2,none⟩ x2).setCell ⟨g,3,none⟩ x3).setCell ⟨g,4,none⟩ x4).setCell ⟨g,5,none⟩ x5).setCell ⟨g,6,none⟩ x6=wf /\ Blk wf g t #[x0,x1,x2,x3,x4,x5,x6] /\ StB g w wf :=
 ⟨_,rfl,Sw [x0,x1,x2,x3,x4,x5,x6] k rfl,st_all g [x0,x1,x2,x3,x4,x5,x6] w⟩
theorem zC3 (L:Va) (pu ra al be:Nat) (vars:Int) (A B B1 B2 B3:Option Addr) (R c d m1 d1 m2 d2 m3 d3:Nat) (rows:List Ya) (pub a b q:List Nat) (w:World)
  (hL:Vc L) (hF:ux L pu vars rows) (hr:RSl 3 Md w [.slice A R c] rows) (pH:RWd w [.slice B pu d] pub)
  (ha:RWd w [.slice B1 m1 d1] a) (hb:RWd w [.slice B2 m2 d2] b) (hq:RWd w [.slice B3 m3 d3] q) :
  Calls Tryz.prog 21 #[.agg (Ua L),Ib L.p (pu:Int) vars (.slice A R c), .slice B pu d, .agg #[.int .u64 al, .int .u64 ra, .int .u64 be], .agg #[.slice B1 m1 d1, .slice B2 m2 d2, .slice B3 m3 d3]] w fun e w'=>e= .returned (.bool (BZ L (JV L.p rows.length ra (1 :: pub) rows 3) a b q)) /\ Below w.heap.size w w':=by
 have wX:=zH (fun w' (h:Below w.heap.size w w')=>zAE L B1 B2 B3 m1 d1 m2 d2 m3 d3 a b q w' hL (ib h ha) (ib h hb) (ib h hq))
 have HPt:=zH (fun w=>zAC L w hL)
 have HTg:=zH (fun w' (h:Below w.heap.size w w')=>zC4 L pu ra vars A B R c d rows pub w' hL hF (Le fq _ _ _ _ h hr) (ib h pH))
 have HQ:=zH (fun x w' (h:Below w.heap.size w w')=>O7 L.p B3 m3 d3 x q w' hL.p (ib h hq))
 have HB:=zH (fun x w' (h:Below w.heap.size w w')=>O7 L.p B2 m2 d2 x b w' hL.p (ib h hb))
 have HA:=zH (fun a b w=>Yx L.p a b w hL.p)
 have gB:=hL.b2;obtain ⟨t,ht⟩:=zEX (JV L.p rows.length ra (1 :: pub) rows 3);rw [<- ht] at HTg |-;obtain ⟨D,hD⟩:=zEX (Qp L.p 1 L.block);obtain ⟨Z,hZ⟩:∃ Z:Nat -> Nat,Z=fun k=>oh L.p q (D k):=⟨_,rfl⟩
 obtain ⟨S,hS⟩:∃ S:Nat -> Nat,S=dY L.p (fun k=>oh L.p b (D k)):=⟨_,rfl⟩
 obtain ⟨ans,Uy⟩:=zEX (BZ L t a b q);have HE:=zH (show ans=(wU L a b q&&((List.range L.block).all fun k=>decide (Z k=0))&&decide (S L.block=t)) by rw [Uy,hS,hZ,hD];rfl)
 have HZ:=zH (show ∀ k,oh L.p q (D k)=Z k from fun k=>by rw [hZ])
 have DX:=zH (show S 0=0 by rw [hS];rfl)
 have HS:=zH (show ∀ k,S (k+1)=(S k+oh L.p b (D k))%L.p from fun k=>by rw [hS];rfl)
 rw [<- Uy];rw [<- hD] at HPt;generalize wU L a b q=b1 at *;clear ht hD hZ hS Uy hL hF hr pH ha hb hq;unfold Ua Ib at *;obtain ⟨kl,kt,kx,ka,aa,-⟩:=Hy w 35 25 72 74 #[.int .u64 L.p, .int .i64 L.block, .int .i64 L.queries, .int .i64 L.k, .int .i64 L.n, .int .i64 L.secret, .int .i64 L.rows, .int .i64 L.a, .int .i64 L.b, .int .i64 L.b, .int .i64 L.b] #[.int .u64 L.p, .int .i64 pu, .int .i64 vars, .slice A R c] #[.int .u64 al, .int .u64 ra, .int .u64 be] #[.slice B1 m1 d1, .slice B2 m2 d2, .slice B3 m3 d3];go_enter Tryz.func21,Tryz.ntmps21
 go_upto_region 1 with fail
 generalize (((w.alloc _).alloc _).alloc _).alloc _=w1 at kl kt kx ka aa |-;have cl:=kl.cell;have ca:=ka.cell;go_wp2_with fail
 refine (wX.out _ aa).mono ?_;rintro e w2 ⟨rfl,Aa⟩;replace kl:=ea kl Aa;replace kt:=ea kt Aa;replace kx:=ea kx Aa;replace ka:=ea ka Aa;replace aa:=ja aa Aa;clear Aa cl ca;cases b1
 ·have HF:=zH (show ans=false by rw [HE.out];simp)
  go_wp2;go_ret
  exact ⟨by rw [HF.out];rfl,aa⟩
 have cl:=kl.cell;go_wp2_with fail
 refine (HPt.out _).mono ?_;rintro e w4 ⟨v1,v2,rfl,Pd,Lb,Aa⟩;replace kl:=ea kl Aa;replace kt:=ea kt Aa;replace kx:=ea kx Aa;replace ka:=ea ka Aa;replace aa:=ja aa Aa;clear Aa cl HPt;obtain ⟨P1,n1,c1,e1,-⟩:=id Pd;obtain ⟨P2,n2,c2,e2,-⟩:=id Lb;simp only [List.cons.injEq,and_true] at e1 e2;subst e1 e2;obtain rfl:n1=L.block:=by rw [(zb Pd).1];simp
 clear Lb;go_wp2_with fail
 go_loopw [13,14] (fun y i wr=>∃ k:Nat,k <= L.block /\ i= .int .i64 k /\ y= .int .u64 (S k:Int) /\ Hid (∀ j,j<k -> Z j=0) /\ Below w4.heap.size w4 wr) (fun _ i _=>L.block-(intOf i).toNat)
 case atStart=>exact ⟨0,Nat.zero_le _,rfl,by rw [DX.out];rfl,zH fun j h=>absurd h (Nat.not_lt_zero _),Below.refl _ _⟩
 case round =>
  obtain ⟨k,hk,rfl,rfl,HZs,hb⟩:=hrel;have Cp:=ea kl hb;have kt':=ea kt hb;have kx':=ea kx hb;have OY:=ea ka hb;replace aa:=ja aa hb;have cl:=Cp.cell;have ll:=Cp.lt;have ca:=OY.cell;have la:=OY.lt;by_cases oa:k<L.block
  ·have q1:(k:Int)<(L.block:Int):=by omega
   have q2:(0:Int) <= (k:Int):=by omega
   have hlen:((List.range L.block).map D).length=L.block:=by simp
   obtain ⟨-,-,-,-,za⟩:=zb (ib hb Pd);have Nl:Rd wr 1 P1 ((List.range L.block).map D).length (Ca ((List.range L.block).map D)):=by rw [hlen];exact za
   obtain ⟨bp,qp,rfl,Za,hc⟩:=Ye Nl (j:=k) (by rw [hlen];exact oa)
   rw [fF,if_pos oa] at hc;obtain ⟨x,hx⟩:=zEX (D k);obtain ⟨y,hy⟩:=zEX (oh L.p b x);obtain ⟨z,hz⟩:=zEX (Z k);obtain ⟨s1,Gc⟩:=zEX (S (k+1));have Cm:=zH (fun w' h=>by have:=HQ.out (D k) w' h;rw [HZ.out k,<- hz,<- hx] at this;exact this)
   have HB1:=zH (fun w' h=>by have:=HB.out x w' h;rw [<- hy] at this;exact this)
   have Zc:=zH (fun w=>by have:=HA.out (S k) y w;rw [hy,hx,<- HS.out k,<- hx,<- hy,<- Gc] at this;exact this)
   have HH:=zH (And.intro hz Gc);rw [<- hx] at hc;clear hx hy hz Gc za Nl hlen;generalize S k=sk at *;go_upto_region 8 with fail
   refine Pc (Bb) [11,12] [0,1,2,3,4,5,6,7,8,9,10,11,12,13] (by kernel_rfl) (by kernel_rfl) ?_
   refine di (pa) ?_;intro Wc Ba da;have Ja:=Sg Ba;refine Kb ?_;refine oc (pa) rfl rfl rfl (fun _=>by go_simp <;> rfl) ((HB1.out _ (ja aa Ja)).mono ?_)
   rintro e w6 ⟨rfl,Aa⟩;refine ⟨_,rfl,Aa,?_⟩;replace da:=(pa).trans _ _ _ da (Aa);simp only [Act.put,zLa,zLb,zLc];replace Ja:=ja Ja Aa;clear Aa;refine Kb ?_;refine oc (pa) rfl rfl rfl (fun _=>by go_simp <;> rfl) ((Zc.out _).mono ?_)
   rintro e w7 ⟨rfl,Aa⟩;refine ⟨_,rfl,Aa,?_⟩;replace da:=(pa).trans _ _ _ da (Aa);simp only [Act.put,zLa,zLb,zLc];replace Ja:=ja Ja Aa;clear Aa;refine Kb ?_;refine pc ?_;replace hc:=(Ja.cell (p:=⟨bp,qp+k,none⟩) Za).trans hc;replace Za:=Nat.lt_of_lt_of_le Za Ja.size;replace Cp:=Cp.below Ja Cp.lt;replace OY:=OY.below Ja OY.lt;replace aa:=ja aa Ja;replace hb:=ja hb Ja;clear da Ja Ba cl ll ca la;have cl:=Cp.cell;have ll:=Cp.lt;have ca:=OY.cell;have la:=OY.lt;go_upto_region 9 with fail
   refine Pc (Bb) [8] [0,1,2,3,4,5,6,7,8,9] (by kernel_rfl) (by kernel_rfl) ?_
   refine di (pa) ?_;intro Wc Ba da;have Ja:=Sg Ba;replace aa:=ja aa Ja;replace hb:=ja hb Ja;clear Ja;refine Kb ?_;refine oc (pa) rfl rfl rfl (fun _=>by go_simp <;> rfl) ((Cm.out _ aa).mono ?_)
   rintro e w8 ⟨rfl,Aa⟩;refine ⟨_,rfl,Aa,?_⟩;replace da:=(pa).trans _ _ _ da (Aa);simp only [Act.put,zLa,zLb,zLc];replace aa:=ja aa Aa;replace hb:=ja hb Aa;clear Aa;refine Kb ?_;refine pc ?_;clear da cl ll ca la hc Za;by_cases h0:z=0
   ·have q3:((z:Int) != 0)=false:=by rw [bne_eq_false_iff_eq];omega
    have HZ1:=zH (show ∀ j,j<k+1 -> Z j=0 from fun j hj=>by
     by_cases e:j=k
     ·rw [e,<- HH.out.1];exact h0
     ·exact HZs.out j (by omega))
    clear h0;go_wp2
    go_roundw
    case rel=>exact ⟨k+1,by omega,by go_num,by rw [HH.out.2],HZ1,hb⟩
    case measure=>simp [intOf];omega
   ·have q3:((z:Int) != 0)=true:=by rw [bne_iff_ne];omega
    have HF:=zH (show ans=false by rw [HE.out,zBk oa (decide_eq_false (show ¬Z k=0 by rw [<- HH.out.1];exact h0))];simp)
    clear h0;go_wp2;go_ret
    exact ⟨by rw [HF.out];rfl,aa⟩
  ·obtain rfl:k=L.block:=by omega
   have q1:¬((L.block:Int)<(L.block:Int)):=by omega
   have Sx:=zH (show ans=decide (S L.block=t) by rw [HE.out,E8 fun k hk=>decide_eq_true (HZs.out k hk)];simp)
   have ct:=kt'.cell;have cx:=kx'.cell;generalize S L.block=s at *;go_wp2_with fail
   refine (HTg.out _ aa).mono ?_;rintro e w5 ⟨rfl,Aa⟩;replace aa:=ja aa Aa;clear Aa cl ct cx ca;by_cases hs:s=t
   ·have q3:((s:Int) == (t:Int))=true:=by rw [beq_iff_eq];omega
    have HF:=zH (show ans=true by rw [Sx.out,decide_eq_true hs])
    clear hs Sx;go_wp2;go_ret
    exact ⟨by rw [HF.out];rfl,aa⟩
   ·have q3:((s:Int) == (t:Int))=false:=by rw [beq_eq_false_iff_ne];omega
    have HF:=zH (show ans=false by rw [Sx.out,decide_eq_false hs])
    clear hs Sx;go_wp2;go_ret
    exact ⟨by rw [HF.out];rfl,aa⟩
end Go.Proofs.YtjipleoamlmkfaaGreat
