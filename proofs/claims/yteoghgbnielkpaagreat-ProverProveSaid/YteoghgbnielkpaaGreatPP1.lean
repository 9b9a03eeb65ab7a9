/- A part of the proof. No condition. -/
import Derived.Deep.RegionLaw
import Derived.Laws.CopyOwn
import Derived.Lib.Hide
import Derived.Maps.AppendAt
import Derived.OpenShut
import Derived.ProofKit
import Derived.Test.YteoghgbnielkpaaGreatProg
import Derived.WalkKit
import Derived.WalkLawsBesides
import Derived.WalkSpells

set_option maxRecDepth 100000
set_option maxHeartbeats 8000000
set_option linter.unusedVariables false
set_option linter.unusedSimpArgs false
namespace Go.Proofs.YteoghgbnielkpaaGreat
open Go.RowKit
open Tryz
open Go renaming World->vu, Value->vw, Addr->vx, TypeId->vy
open Go.Value renaming int->vd, slice->ve
open Go.IntKind renaming u64->vo, i64->vq, u8->vt
open Go.RowKit renaming Below->vz
open Go.World renaming setCell->vE
open Option renaming none->vB, some->vD
theorem zLa {α:Type _} (l:List α) (i:Nat) (a:α):l.toArray.setIfInBounds i a=(l.set i a).toArray:=List.setIfInBounds_toArray l i a
theorem zLb {α:Type _} (x:α) (xs:List α) (a:α):(x :: xs).set 0 a=a :: xs:=List.set_cons_zero
theorem zLc {α:Type _} (x:α) (xs:List α) (i:Nat) (a:α):(x :: xs).set (i+1) a=x :: xs.set i a:=List.set_cons_succ
theorem zR {n:Nat}:n≤n:=Nat.le_refl n
theorem zH {P:Prop} (h:P):Hid P:=Lib.hid h
theorem zEX {α:Sort _} (a:α):∃ x,x=a:=⟨_,rfl⟩
theorem zO {p:Prop} (h:p:=by omega):p:=h
theorem zK {p:Prop} (h:p:=by kernel_rfl):p:=h
theorem zD {p:Prop} (h:p:=by decide):p:=h
theorem zS {p:Prop} (h:p:=by simp):p:=h
theorem zT {p:Prop} (h:p:=by (simp;omega)):p:=h
theorem zQ {a p:Prop} (x:a) (h:a→p:=by (intro this;omega)):p:=h x
theorem zA (w:World) (c:Obj):RowKit.Below w.heap.size w (w.alloc c):=(Below.refl _ _).alloc (Nat.le_refl _) _
theorem aa:type_of% @Lib.hid:=@Lib.hid
theorem Ba:type_of% @Nat.le_refl:=@Nat.le_refl
theorem Ha:type_of% @List.setIfInBounds_toArray:=@List.setIfInBounds_toArray
theorem Ia:type_of% @List.set_cons_succ:=@List.set_cons_succ
theorem Ja:type_of% @List.set_cons_zero:=@List.set_cons_zero
theorem jb:type_of% @Nat.le_trans:=@Nat.le_trans
theorem Gb:type_of% @if_neg:=@if_neg
theorem Kb:type_of% @Below.refl:=@Below.refl
theorem Lb:type_of% @if_pos:=@if_pos
theorem Nb:type_of% @Option.some.inj:=@Option.some.inj
theorem Qb:type_of% @Nat.zero_le:=@Nat.zero_le
theorem Xb:type_of% @decide_eq_false:=@decide_eq_false
theorem xc:type_of% @decide_eq_true:=@decide_eq_true
theorem Ec:type_of% @List.getElem?_eq_getElem:=@List.getElem?_eq_getElem
theorem Hc:type_of% @List.getD_eq_getElem?_getD:=@List.getD_eq_getElem?_getD
theorem Sc:type_of% @Nat.mod_lt:=@Nat.mod_lt
theorem Uc:type_of% @bodyPost_ret:=@bodyPost_ret
theorem ee:type_of% @List.mem_map:=@List.mem_map
theorem pe:type_of% @Bool.and_eq_true:=@Bool.and_eq_true
theorem Je:type_of% @Nat.lt_trans:=@Nat.lt_trans
theorem Ke:type_of% @beq_eq_false_iff_ne:=@beq_eq_false_iff_ne
theorem Qe:type_of% @List.getElem_mem:=@List.getElem_mem
theorem Re:type_of% @Nat.zero_add:=@Nat.zero_add
theorem We:type_of% @Nat.lt_of_lt_of_le:=@Nat.lt_of_lt_of_le
theorem xg:type_of% @Nat.mul_comm:=@Nat.mul_comm
theorem Bg:type_of% @World.block_lt_of_cell?:=@World.block_lt_of_cell?
theorem Zg:type_of% @Nat.pow_succ:=@Nat.pow_succ
theorem mh:type_of% @IntKind.wrap_u64:=@IntKind.wrap_u64
theorem oh:type_of% @List.all_eq_true:=@List.all_eq_true
theorem ph:type_of% @List.getElem_cons_zero:=@List.getElem_cons_zero
theorem qh:type_of% @List.length_append:=@List.length_append
theorem Vh:type_of% @Int.natCast_mul:=@Int.natCast_mul
theorem Yh:type_of% @List.length_cons:=@List.length_cons
theorem Bi:type_of% @IntKind.wrap_i64:=@IntKind.wrap_i64
theorem Ci:type_of% @List.getElem_cons_succ:=@List.getElem_cons_succ
theorem Mj:type_of% @List.mem_range:=@List.mem_range
theorem Zj:type_of% @Nat.lt_or_ge:=@Nat.lt_or_ge
theorem dk:type_of% @bne_iff_ne:=@bne_iff_ne
theorem Kk:type_of% @List.mem_cons:=@List.mem_cons
theorem Lk:type_of% @Nat.mod_eq_of_lt:=@Nat.mod_eq_of_lt
theorem Yk:type_of% @Int.pow_mul:=@Int.pow_mul
theorem Zk:type_of% @Int.pow_succ:=@Int.pow_succ
theorem Hl:type_of% @List.mem_filter:=@List.mem_filter
theorem jm:type_of% @Int.eq_ofNat_of_zero_le:=@Int.eq_ofNat_of_zero_le
theorem Mm:type_of% @Bool.not_eq_true':=@Bool.not_eq_true'
theorem Tm:type_of% @List.length_map:=@List.length_map
theorem En:type_of% @Int.toNat_natCast:=@Int.toNat_natCast
theorem Hn:type_of% @List.getElem?_toArray:=@List.getElem?_toArray
theorem Jn:type_of% @Nat.eq_zero_or_pos:=@Nat.eq_zero_or_pos
theorem Oo:type_of% @Nat.add_zero:=@Nat.add_zero
theorem Qo:type_of% @beq_iff_eq:=@beq_iff_eq
theorem Rp:type_of% @Int.mul_comm:=@Int.mul_comm
theorem Sp:type_of% @List.length_range:=@List.length_range
theorem Tp:type_of% @List.mem_append:=@List.mem_append
theorem Vq:type_of% @List.getElem_of_mem:=@List.getElem_of_mem
theorem Ks:type_of% @Int.mul_assoc:=@Int.mul_assoc
theorem Ls:type_of% @Int.one_mul:=@Int.one_mul
theorem Ns:type_of% @Nat.mul_one:=@Nat.mul_one
theorem zt:type_of% @Bool.false_ne_true:=@Bool.false_ne_true
theorem Ht:type_of% @List.forall_mem_nil:=@List.forall_mem_nil
theorem It:type_of% @List.getElem?_eq_none:=@List.getElem?_eq_none
theorem Jt:type_of% @Nat.pow_le_pow_right:=@Nat.pow_le_pow_right
theorem Kt:type_of% @Nat.shiftRight_eq_div_pow:=@Nat.shiftRight_eq_div_pow
theorem Mu:type_of% @Below.heap_setCell:=@Below.heap_setCell
theorem Xu:type_of% @Int.natCast_pow:=@Int.natCast_pow
theorem Zu:type_of% @Region.noSelect_spec:=@Region.noSelect_spec
theorem mv:type_of% @below_drewN:=@below_drewN
theorem Hw:type_of% @Int.natCast_add:=@Int.natCast_add
theorem Mw:type_of% @List.forall_mem_cons:=@List.forall_mem_cons
theorem Nw:type_of% @List.map_congr_left:=@List.map_congr_left
theorem Qw:type_of% @bne_eq_false_iff_eq:=@bne_eq_false_iff_eq
theorem Yx:type_of% @Array.getElem?_eq_some_iff:=@Array.getElem?_eq_some_iff
theorem zy:type_of% @List.append_assoc:=@List.append_assoc
theorem Ay:type_of% @List.mem_singleton:=@List.mem_singleton
theorem By:type_of% @List.take_length:=@List.take_length
theorem Cy:type_of% @List.take_succ_eq_append_getElem:=@List.take_succ_eq_append_getElem
theorem Ly:type_of% @decide_eq_false_iff_not:=@decide_eq_false_iff_not
theorem My:type_of% @decide_eq_true_eq:=@decide_eq_true_eq
theorem EA:type_of% @List.getElem_append_left:=@List.getElem_append_left
theorem FA:type_of% @Nat.div_add_mod:=@Nat.div_add_mod
theorem GA:type_of% @Nat.div_le_self:=@Nat.div_le_self
theorem DC:type_of% @List.length_drop:=@List.length_drop
theorem EC:type_of% @List.take_of_length_le:=@List.take_of_length_le
theorem uE:type_of% @List.all_eq_false:=@List.all_eq_false
theorem xE:type_of% @List.contains_iff_mem:=@List.contains_iff_mem
theorem zE:type_of% @Nat.mul_le_mul_right:=@Nat.mul_le_mul_right
theorem GJ:type_of% @List.filter_cons_of_neg:=@List.filter_cons_of_neg
theorem IJ:type_of% @List.filter_cons_of_pos:=@List.filter_cons_of_pos
theorem JJ:type_of% @List.getElem_append_right:=@List.getElem_append_right
theorem wM:type_of% @Classical.byContradiction:=@Classical.byContradiction
theorem FM:type_of% @Int.tdiv_eq_ediv_of_nonneg:=@Int.tdiv_eq_ediv_of_nonneg
theorem IM:type_of% @List.eq_nil_of_length_eq_zero:=@List.eq_nil_of_length_eq_zero
theorem JM:type_of% @List.getElem?_append_left:=@List.getElem?_append_left
def U8 (l:List Nat):List vw:=l.map (fun n:Nat=>vd vt n)
def Qa (l:List Nat):List vw:=l.map (fun n:Nat=>vd vo n)
def wg (l:List Int):List vw:=l.map (fun n:Int=>vd vq n)
theorem G6 (l:List Nat):(U8 l).length=l.length:=by simp [U8]
theorem qt (l:List Nat):(Qa l).length=l.length:=by simp [Qa]
theorem F6 (l:List Int):(wg l).length=l.length:=by simp [wg]
theorem OU (l m:List Nat):U8 (l++m)=U8 l++U8 m:=by simp [U8]
theorem bZ (l m:List Nat):Qa (l++m)=Qa l++Qa m:=by simp [Qa]
theorem De (l:List Nat):∀ u∈Qa l,u.oneCell'=true:=by
 intro u hu;obtain ⟨n,_,rfl⟩:=ee.1 hu
 rfl
theorem uX (l:List Int):∀ u∈wg l,u.oneCell'=true:=by
 intro u hu;obtain ⟨n,_,rfl⟩:=ee.1 hu
 rfl
theorem cH {l:List Nat} {j:Nat} (h:j<l.length):(Qa l)[j]?=vD (vd vo (l[j]:Int)):=by simp [Qa,h]
theorem vZ (a:vx) (n:Nat):(a.add n).block=a.block:=by
 unfold Addr.add;split <;> rfl
theorem QU (a:vx) (i j:Nat):(a.add i).add j=a.add (i+j):=by
 unfold Addr.add;by_cases hi:i=0 <;> by_cases hj:j=0 <;> simp [hi,hj,Nat.add_assoc]
theorem gZ (a:vx):a.add 0=a:=by simp [Addr.add]
def Rd (w:vu) (size:Nat) (A:Option vx) (n:Nat) (xs:List vw):Prop :=
 xs.length=n*size /\ (0<n -> ∃ ad,A=vD ad /\ ∀ j u,xs[j]?=vD u -> w.cell? (ad.add j)=vD u)
section
variable {w w':vu} {size n:Nat} {A:Option vx} {xs:List vw}
theorem Rd.nil (w:vu) (size:Nat) (A:Option vx):Rd w size A 0 []:=⟨zS,fun h=>absurd h zO⟩
theorem Rd.len1 (h:Rd w 1 A n xs):xs.length=n:=by have:=h.1;omega
theorem Rd.at_ {k:Nat} (h:Rd w 1 A n xs) (hk:k<n):∃ ad u,A=vD ad /\ xs[k]?=vD u /\ w.cell? (ad.add k)=vD u:=by
 obtain ⟨ad,e,hc⟩:=h.2 zO;have hl:k<xs.length:=by rw [h.len1];exact hk
 exact ⟨ad,xs[k],e,Ec hl,hc k _ (Ec hl)⟩
theorem Rd.keep (h:Rd w size A n xs) (hk:∀ p:vx,p.block<w.1.size -> w'.cell? p=w.cell? p):Rd w' size A n xs :=
 ⟨h.1,fun hn=>by
  obtain ⟨ad,e,hc⟩:=h.2 hn;exact ⟨ad,e,fun j u hu=>(hk _ (Bg _ _ (hc j u hu))).trans (hc j u hu)⟩⟩
theorem Rd.below (h:Rd w size A n xs) (hb:vz w.1.size w w'):Rd w' size A n xs:=h.keep fun _ hp=>hb.cell hp
theorem Rd.drew (h:Rd w size A n xs):Rd w.drew size A n xs:=h
theorem Rd.drewN (h:Rd w size A n xs) (k:Nat):Rd (w.drewN k) size A n xs:=h
theorem Rd.alloc (h:Rd w size A n xs) (o:Obj):Rd (w.alloc o) size A n xs:=h.keep fun p hp=>World.cell?_alloc_lt w o p hp
theorem Rd.grown (h:Rd w size A n xs) {row:Option Nat} (hg:w.grownBy w' row) (hr:∀ ad,A=vD ad -> vD ad.block≠row):Rd w' size A n xs :=
 ⟨h.1,fun hn=>by
  obtain ⟨ad,e,hc⟩:=h.2 hn;refine ⟨ad,e,fun j u hu=>?_⟩
  exact hg.cell (hc j u hu) (by rw [vZ];exact hr ad e)⟩
theorem Rd.cut (h:Rd w size A n xs) {k cap:Nat} (hk:k <= n) (hc:n <= cap) :
  Rd w size (if cap=k then A else A.map (·.add (k*size))) (n-k) (xs.drop (k*size)):=by
 refine ⟨by rw [DC,h.1,Nat.sub_mul],fun hn=>?_⟩
 obtain ⟨ad,rfl,Zm⟩:=h.2 zO;rw [Gb zO];refine ⟨ad.add (k*size),rfl,fun j u hu=>?_⟩
 rw [QU];exact Zm _ u (by rw [<- hu,List.getElem?_drop])
theorem Rd.take (h:Rd w size A n xs) {k:Nat} (hk:k <= n):Rd w size A k (xs.take (k*size)):=by
 refine ⟨by rw [List.length_take,h.1];exact Nat.min_eq_left (zE _ hk),fun hn=>?_⟩
 obtain ⟨ad,e,Zm⟩:=h.2 zO;refine ⟨ad,e,fun j u hu=>Zm j u ?_⟩
 rw [List.getElem?_take] at hu;split at hu
 ·exact hu
 ·cases hu
theorem Rd.of_own {base:Nat} {e:vy} {c:Nat} (h:w.ownsRow base e size (ve A n c) n xs):Rd w size A n xs:=by
 refine ⟨h.1,fun hn=>?_⟩
 rcases h.2 with ⟨_,h0⟩ | ⟨g,cap,cur,hv,_⟩
 ·omega
 ·have hA:A=vD ⟨g,0,vB⟩:=by injection hv
  subst hA;exact ⟨_,rfl,h.cells (g:=g) rfl⟩
end
theorem Yb {w:vu} {base:Nat} {e:vy} {size:Nat} {v:vw} {n:Nat} {xs:List vw} (h:w.ownsRow base e size v n xs) :
  ∃ A c,v=ve A n c /\ n <= c /\ c <= maxLen /\ Rd w size A n xs /\ (∀ ad,A=vD ad -> base <= ad.block /\ ad.block<w.1.size):=by
 have h2:=h;rcases h.2 with ⟨rfl,rfl⟩ | ⟨g,cap,cur,rfl,hb,hh,hn,hm,_⟩
 ·exact ⟨vB,0,rfl,zR,by simp [maxLen],Rd.of_own h2,fun ad h=>by cases h⟩
 ·refine ⟨vD ⟨g,0,vB⟩,cap,rfl,hn,hm,Rd.of_own h2,fun ad h=>?_⟩
  injection h with h
  subst h;exact ⟨hb,(Yx.1 hh).1⟩
theorem Za {w w':vu} {base B:Nat} {e:vy} {size:Nat} {v:vw} {n:Nat} {xs:List vw} (h:w.ownsRow base e size v n xs) (hb:vz B w w') (hB:w.1.size <= B):w'.ownsRow base e size v n xs:=by
 obtain ⟨h1,h2⟩:=h;refine ⟨h1,?_⟩;rcases h2 with h2 | ⟨g,cap,cur,hv,hg,hh,r⟩
 ·exact Or.inl h2
 ·exact Or.inr ⟨g,cap,cur,hv,hg,by rw [hb.block g (zQ ((Yx.1 hh).1))];exact hh,r⟩
theorem Hg {w:vu} {base base':Nat} {e:vy} {size:Nat} {v:vw} {n:Nat} {xs:List vw} (h:w.ownsRow base e size v n xs) (hB:base' <= base):w.ownsRow base' e size v n xs:=by
 obtain ⟨h1,h2⟩:=h;refine ⟨h1,?_⟩;rcases h2 with h2 | ⟨g,cap,cur,hv,hg,r⟩
 ·exact Or.inl h2
 ·exact Or.inr ⟨g,cap,cur,hv,jb hB hg,r⟩
theorem O8 {w:vu} {base:Nat} {e:vy} {size:Nat} {v:vw} {n:Nat} {xs:List vw} (h:w.ownsRow base e size v n xs):∀ g,v.ownBlock=vD g -> base <= g /\ g<w.1.size:=h.lt
theorem ta {w0 w1 w2:vu} (h1:vz w0.1.size w0 w1) (h2:vz w1.1.size w1 w2):vz w0.1.size w0 w2:=h1.trans (h2.mono h1.size)
theorem KE {B:Nat} {a w:vu} (h:vz B a w) (n:Nat):vz B a (w.drewN n):=⟨h.os,h.tape,h.output,h.size,h.block⟩
theorem mg (w:vu) (row:Option Nat):w.grownBy w row:=⟨rfl,rfl,rfl,zR,fun _ _ _=>rfl⟩
theorem zDL {a w:vu} {row:Option Nat} (h:a.grownBy w row) (o:Obj):a.grownBy (w.alloc o) row :=
 ⟨h.os,h.tape,h.output,jb h.size zS,fun i hi db=>(Below.heap_alloc w o i (We hi h.size)).trans (h.block i hi db)⟩
theorem Li {a w:vu} {row:Option Nat} (h:a.grownBy w row) {p:vx} (hp:row=vD p.block \/ a.1.size <= p.block) (u:vw):a.grownBy (w.setCell p u) row :=
 ⟨h.os,h.tape,h.output,by simpa [vE] using h.size,fun i hi db=>(Mu w p u i (by
  rintro rfl;rcases hp with hp | hp
  ·exact db hp.symm
  ·omega)).trans (h.block i hi db)⟩
theorem XE {a w w':vu} {row row':Option Nat} (h:a.grownBy w row) (hg:w.grownBy w' row') (hr:∀ g,row'=vD g -> row=vD g \/ a.1.size <= g):a.grownBy w' row :=
 ⟨hg.os.trans h.os,hg.tape.trans h.tape,hg.output.trans h.output,jb h.size hg.size,fun i hi db=>(hg.block i (We hi h.size) (fun e=>by
  rcases hr i e.symm with h1 | h1
  ·exact db h1.symm
  ·omega)).trans (h.block i hi db)⟩
theorem Gr {a w w':vu} {row:Option Nat} {B:Nat} (h:a.grownBy w row) (hb:vz B w w') (hB:a.1.size <= B):a.grownBy w' row :=
 ⟨hb.os.trans h.os,hb.tape.trans h.tape,hb.output.trans h.output,jb h.size hb.size,fun i hi db=>(hb.block i (We hi hB)).trans (h.block i hi db)⟩
theorem dH {a w:vu} {row:Option Nat} (h:a.grownBy w row) (B:Nat) (hB:B <= a.1.size) (hr:∀ g,row=vD g -> B <= g):vz B a w :=
 ⟨h.os,h.tape,h.output,h.size,fun k hk=>h.block k zO (fun e=>by have:=hr k e.symm;omega)⟩
def Ds (P:Program) (t e:vy) (size bytes:Nat) (z:vw):Prop :=
 P.underlying t=vD (.slice e) /\ (∃ i,P.info? e=vD i /\ i.zero=vD z /\ i.size=size /\ i.bytes=bytes) /\ z.cells.size=size /\ 0<size
theorem gg (w:vu) (x:vw) (t:vy):Rd (w.alloc (.cells #[x] t)) 1 (vD ⟨w.1.size,0,vB⟩) 1 [x] :=
 ⟨rfl,fun _=>⟨_,rfl,cell_one_new w x t⟩⟩
theorem Zr (w:vu) (e:vy) {base:Nat} (hb:base <= w.1.size):(w.alloc (.cells #[] e)).ownsRow base e 1 (ve (vD ⟨w.1.size,0,vB⟩) 0 0) 0 [] :=
 World.ownsRow_made w #[] 0 hb (by simp [maxLen]) rfl
section
variable {P:Program} {w:vu} {base size bytes:Nat} {t e:vy} {z v:vw} {n:Nat} {xs:List vw}
theorem zAB (E:Ds P t e size bytes z) (ty:vy) (oa:w.ownsRow base e size v n xs) {A:Option vx} {m c:Nat} {news:List vw} (hr:Rd w size A m news)
  (h1:∀ u∈news,u.oneCell'=true) (Ts:(n+m)*(bytes+1) <= 140737488355328) (Ok:base <= w.1.size) :
  ∃ v' w',(Builtin.append_ #[t,t] ty #[v,ve A m c]).run P w= .ok v' w' /\ w'.ownsRow base e size v' (n+m) (xs++news) /\ w.grownBy w' v.ownBlock /\ (v'.ownBlock=v.ownBlock \/ v'.ownBlock=vD w.1.size):=by
 obtain ⟨ht,⟨i,hi,hz,hs,jF⟩,vL,Db⟩:=E;have hb:(n+m)*bytes <= 140737488355328:=jb (Nat.mul_le_mul_left _ (Nat.le_succ _)) Ts;have hl:n+m <= maxLen:=by
  have:=jb (Nat.le_mul_of_pos_right (n+m) (Nat.succ_pos bytes)) Ts;simp only [maxLen];omega
 rcases A with _ | ad
 ·have hm:m=0:=by
   rcases Jn m with h0 | h0
   ·exact h0
   ·obtain ⟨ad,h,_⟩:=hr.2 h0
    cases h
  subst hm;have hn:news=[]:=IM (by simpa using hr.1)
  subst hn;refine ⟨v,w,?_,by simpa using oa,mg w _, .inl rfl⟩
  rcases oa.2 with ⟨rfl,rfl⟩ | ⟨g,cap,cur,rfl,_,_,Nd,_⟩
  ·simp [Builtin.append_,run_underlying ht,sizeOf,typeInfo,hi,Builtin.lenOf,Builtin.firstCells]
  ·simp [Builtin.append_,run_underlying ht,sizeOf,typeInfo,hi,Builtin.lenOf,Builtin.firstCells,Nd,storeCells]
 ·have Us:∀ j u,news[j]?=vD u -> w.cell? (ad.add j)=vD u:=by
   intro j u hu;rcases Jn m with h0 | h0
   ·subst h0
    have hn:news=[]:=IM (by simpa using hr.1)
    subst hn;simp at hu
   ·obtain ⟨ad',h,hc⟩:=hr.2 h0
    injection h with h
    subst h;exact hc j u hu
  obtain ⟨v',w',Ld,h2,h3,_,h5⟩:=run_append_own_at (P:=P) w base t ty e i z size bytes ht hi hz hs jF vL Db v n xs oa ad m c news hr.1 Us h1 hl hb Ok;exact ⟨v',w',Ld,h2,h3,h5⟩
theorem Cs {o:Oper} {a:Act} {K:Act -> vu -> Prop} {Q:Exit -> Act -> vu -> Prop} (s x:Operand)
  (ho:o.op= .call { callee:=.builtin .append,args:=#[s,x],argTypes:=#[t,t] })
  (E:Ds P t e size bytes z) (hs:a.eval s=v) (oa:w.ownsRow base e size v n xs)
  {A:Option vx} {m c:Nat} {news:List vw} (hx:a.eval x=ve A m c) (hr:Rd w size A m news) (h1:∀ u∈news,u.oneCell'=true)
  (Ts:(n+m)*(bytes+1) <= 140737488355328) (Ok:base <= w.1.size)
  (h:∀ v' w',w'.ownsRow base e size v' (n+m) (xs++news) -> w.grownBy w' v.ownBlock -> (v'.ownBlock=v.ownBlock \/ v'.ownBlock=vD w.1.size) -> K (a.put o.dst v') w'):o.wp P a w K Q:=by
 obtain ⟨v',w',Ld,h2,h3,h4⟩:=zAB (P:=P) (c:=c) E o.type oa hr h1 Ts Ok;unfold Oper.wp execOp;simp only [ho,resolve,invoke,builtin,Sem.run_bind,Sem.run_pure,Result.andThen_ok,List.map_toArray,List.map_cons,List.map_nil,hs,hx,Ld];exact h v' w' h2 h3 h4
theorem Wd {ops:Array Oper} {rest:List Oper} {o:Oper} {a:Act} {Q:Exit -> Act -> vu -> Prop} (PK:o.guard=vB) (s x:Operand)
  (ho:o.op= .call { callee:=.builtin .append,args:=#[s,x],argTypes:=#[t,t] })
  (E:Ds P t e size bytes z) (hs:a.eval s=v) (oa:w.ownsRow base e size v n xs)
  {A:Option vx} {m c:Nat} {news:List vw} (hx:a.eval x=ve A m c) (hr:Rd w size A m news) (h1:∀ u∈news,u.oneCell'=true)
  (Ts:(n+m)*(bytes+1) <= 140737488355328) (Ok:base <= w.1.size)
  (h:∀ v' w',w'.ownsRow base e size v' (n+m) (xs++news) -> w.grownBy w' v.ownBlock -> (v'.ownBlock=v.ownBlock \/ v'.ownBlock=vD w.1.size) -> wpList P ops Q rest (a.put o.dst v') w'):wpList P ops Q (o :: rest) a w :=
 wpList_plain PK fun _ hK=>Cs s x ho E hs oa hx hr h1 Ts Ok fun v' w' h2 h3 h4=>hK _ _ (h v' w' h2 h3 h4)
end
theorem zFG {a w w':vu} {row:Option Nat} {u u':vw} (h:a.grownBy w row) (hu:∀ g,u.ownBlock=vD g -> row=vD g \/ a.1.size <= g) (hg:w.grownBy w' u.ownBlock)
  (aB:u'.ownBlock=u.ownBlock \/ ∃ g,u'.ownBlock=vD g /\ w.1.size <= g):a.grownBy w' row /\ ∀ g,u'.ownBlock=vD g -> row=vD g \/ a.1.size <= g:=by
 refine ⟨XE h hg hu,fun g LK=>?_⟩
 rcases aB with e | ⟨g',e,hle⟩
 ·exact hu g (e ▸ LK)
 ·rw [e] at LK
  injection LK with LK
  subst LK;exact .inr (jb h.size hle)
def Blk (w:vu) (g:Nat) (t:vy) (cs:Array vw):Prop:=w.1[g]?=vD (.cells cs t (0,0))
section
variable {w w':vu} {g:Nat} {t:vy} {cs:Array vw}
theorem Blk.lt (h:Blk w g t cs):g<w.1.size:=(Yx.1 h).1
theorem Blk.cell (h:Blk w g t cs) (i:Nat):w.cell? ⟨g,i,vB⟩=cs[i]?:=cell_of_row w g i cs t (0,0) h
theorem Blk.frozen (h:Blk w g t cs) (i:Nat):w.frozen? ⟨g,i,vB⟩=false:=by
 unfold Blk at h;simp [World.frozen?,h]
theorem Blk.new (w:vu) (t:vy) (cs:Array vw):Blk (w.alloc (.cells cs t)) w.1.size t cs:=heap_alloc_new w _
theorem zN (w:vu) (t:vy) (cs:Array vw):Blk (w.alloc (.cells cs t)) w.1.size t cs /\ vz w.1.size w (w.alloc (.cells cs t)):=⟨Blk.new w t cs,(Kb _ _).alloc zR _⟩
theorem Blk.drew (h:Blk w g t cs):Blk w.drew g t cs:=h
theorem Blk.drewN (h:Blk w g t cs) (n:Nat):Blk (w.drewN n) g t cs:=h
theorem Blk.alloc (h:Blk w g t cs) (o:Obj):Blk (w.alloc o) g t cs:=(Below.heap_alloc w o g h.lt).trans h
theorem Blk.set_ (h:Blk w g t cs) (i:Nat) (u:vw):Blk (w.setCell ⟨g,i,vB⟩ u) g t (cs.setIfInBounds i u):=by
 unfold Blk at h |-;simp [vE,Array.getElem?_modify,h]
theorem Blk.far (h:Blk w g t cs) {p:vx} (hp:g≠p.block) (u:vw):Blk (w.setCell p u) g t cs:=(Mu w p u g hp).trans h
theorem Blk.below {B:Nat} (h:Blk w g t cs) (hb:vz B w w') (hg:g<B):Blk w' g t cs:=(hb.block g hg).trans h
theorem pa {w w1:vu} {g:Nat} {t:vy} {cs:Array vw} (k:Blk w g t cs) (h:vz w.1.size w w1):Blk w1 g t cs:=k.below h k.lt
theorem Blk.grown {row:Option Nat} (h:Blk w g t cs) (hb:w.grownBy w' row) (hg:vD g≠row):Blk w' g t cs:=(hb.block g h.lt hg).trans h
theorem sf {w w1:vu} {g i:Nat} {t:vy} {cs:Array vw} (k:Blk w g t cs) (h:w.grownBy w1 (vD i)) (e:vD g≠vD i:=by intro e;have:=Nb e;first | omega | (apply absurd this;assumption) | (apply absurd this.symm;assumption)):Blk w1 g t cs:=k.grown h e
end
theorem Rd.set_ {w:vu} {size n:Nat} {A:Option vx} {xs:List vw} (h:Rd w size A n xs) {p:vx} (hp:∀ ad,A=vD ad -> ad.block≠p.block) (u:vw):Rd (w.setCell p u) size A n xs :=
 ⟨h.1,fun hn=>by
  obtain ⟨ad,e,hc⟩:=h.2 hn;refine ⟨ad,e,fun j x hj=>?_⟩
  rw [World.cell?_setCell_other w p _ u (fun e2=>hp ad e (by rw [e2,vZ]))]
  exact hc j x hj⟩
theorem J5:(prog.info? 5).map (fun i=>(i.zero,i.size,i.bytes))=vD (vD (vd vt 0),1,1):=by kernel_rfl
theorem I5:(prog.info? 22).map (fun i=>(i.zero,i.size,i.bytes))=vD (vD (vd vo 0),1,8):=by kernel_rfl
theorem el_u8:Ds prog 83 5 1 1 (vd vt 0):=by
 obtain ⟨i0,hi,Hi,Vd,Pg⟩:=info_parts J5;exact ⟨underlying83,⟨i0,hi,Hi,Vd,Pg⟩,rfl,zO⟩
theorem Qt:Ds prog 28 22 1 8 (vd vo 0):=by
 obtain ⟨i0,hi,Hi,Vd,Pg⟩:=info_parts I5;exact ⟨underlying28,⟨i0,hi,Hi,Vd,Pg⟩,rfl,zO⟩
def Nn:Nat -> Nat -> List Nat
 | _,0=>[]
 | n,k+1=>n%256 :: Nn (n / 256) k
theorem SZ:∀ (k n:Nat),Nn n (k+1)=Nn n k++[n / 256^k%256]
 | 0,n=>by simp [Nn]
 | k+1,n=>by
  rw [Nn,SZ k (n / 256),Nn,List.cons_append,Nat.div_div_eq_div_mul,Zg,xg 256]
theorem dX:∀ (k n:Nat),(Nn n k).length=k
 | 0,_=>rfl
 | k+1,n=>by simp [Nn,dX k]
end Go.Proofs.YteoghgbnielkpaaGreat
