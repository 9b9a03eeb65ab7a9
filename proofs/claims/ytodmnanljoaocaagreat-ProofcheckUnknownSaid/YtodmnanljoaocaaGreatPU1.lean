/- A part of the proof. No condition. -/
import Derived.Deep.RegionLaw
import Derived.Laws.CopyOwn
import Derived.Lib.Hide
import Derived.Maps.AppendAt
import Derived.OpenShut
import Derived.ProofKit
import Derived.Test.YtodmnanljoaocaaGreatProg
import Derived.WalkKit
import Derived.WalkLawsBesides
import Derived.WalkSpells
import Derived.ChangeOld
import Derived.Deep.Slices
import Derived.BigQuiet
import Derived.Deep.QuietTactic
import Derived.Shelf.Bits.Mul64
import Derived.Shelf.Small.Bits
import Derived.Shelf.Strconv.Itoa0
import Derived.Deep.CutBlock
import Derived.Deep.DeepCutAuto
import Derived.Lib.ItoaNum
import Derived.Outline
import Derived.Deep.RegionHeld3
import Derived.Shelf.Spec.BitsCarry
import Derived.Laws.OwnMore
import Derived.StillTailTactics

set_option maxRecDepth 100000
set_option maxHeartbeats 8000000
set_option linter.unusedVariables false
set_option linter.unusedSimpArgs false
namespace Go.Proofs.YtodmnanljoaocaaGreat
open Go.RowKit
open Tryz
open Go renaming World->vv, Value->vw, Addr->vx, TypeId->vy, Calls->vA
open Go.Value renaming int->vd, slice->ve, agg->vf
open Go.IntKind renaming u64->vq, i64->vt, u8->vu
open Go.Ending renaming returned->vn
open Go.RowKit renaming Below->vz
open Go.World renaming setCell->vE
open Go.Act renaming put->vF
open Option renaming none->vB, some->vD
theorem zLa {α:Type _} (l:List α) (i:Nat) (a:α):l.toArray.setIfInBounds i a=(l.set i a).toArray:=List.setIfInBounds_toArray l i a
theorem zLb {α:Type _} (x:α) (xs:List α) (a:α):(x :: xs).set 0 a=a :: xs:=List.set_cons_zero
theorem zLc {α:Type _} (x:α) (xs:List α) (i:Nat) (a:α):(x :: xs).set (i+1) a=x :: xs.set i a:=List.set_cons_succ
theorem zR {n:Nat}:n≤n:=Nat.le_refl n
theorem zH {P:Prop} (h:P):Hid P:=Lib.hid h
theorem zEX {α:Sort _} (a:α):∃ x,x=a:=⟨_,rfl⟩
theorem zO {p:Prop} (h:p:=by omega):p:=h
theorem zK {p:Prop} (h:p:=by kernel_rfl):p:=h
theorem zD {p:Prop} (h:p:=by decide):p:=h
theorem zS {p:Prop} (h:p:=by simp):p:=h
theorem zT {p:Prop} (h:p:=by (simp;omega)):p:=h
theorem zQ {a p:Prop} (x:a) (h:a→p:=by (intro this;omega)):p:=h x
theorem zA (w:World) (c:Obj):RowKit.Below w.heap.size w (w.alloc c):=(Below.refl _ _).alloc (Nat.le_refl _) _
theorem aa:type_of% @Lib.hid:=@Lib.hid
theorem Ba:type_of% @Nat.le_refl:=@Nat.le_refl
theorem Ga:type_of% @List.setIfInBounds_toArray:=@List.setIfInBounds_toArray
theorem Ha:type_of% @List.set_cons_succ:=@List.set_cons_succ
theorem Ia:type_of% @List.set_cons_zero:=@List.set_cons_zero
theorem mb:type_of% @if_neg:=@if_neg
theorem Bb:type_of% @Below.refl:=@Below.refl
theorem Cb:type_of% @Nat.le_trans:=@Nat.le_trans
theorem Gb:type_of% @if_pos:=@if_pos
theorem Ib:type_of% @decide_eq_false:=@decide_eq_false
theorem Pb:type_of% @Option.some.inj:=@Option.some.inj
theorem Qb:type_of% @decide_eq_true:=@decide_eq_true
theorem Rb:type_of% @Nat.zero_le:=@Nat.zero_le
theorem Dc:type_of% @List.getElem?_eq_getElem:=@List.getElem?_eq_getElem
theorem Gc:type_of% @List.getD_eq_getElem?_getD:=@List.getD_eq_getElem?_getD
theorem Ic:type_of% @Nat.mod_lt:=@Nat.mod_lt
theorem Tc:type_of% @bodyPost_ret:=@bodyPost_ret
theorem Pd:type_of% @Bool.and_eq_true:=@Bool.and_eq_true
theorem Be:type_of% @Nat.lt_of_lt_of_le:=@Nat.lt_of_lt_of_le
theorem Ie:type_of% @List.mem_map:=@List.mem_map
theorem Je:type_of% @beq_eq_false_iff_ne:=@beq_eq_false_iff_ne
theorem yf:type_of% @Nat.zero_add:=@Nat.zero_add
theorem Af:type_of% @World.block_lt_of_cell?:=@World.block_lt_of_cell?
theorem gg:type_of% @Nat.lt_trans:=@Nat.lt_trans
theorem pg:type_of% @List.getElem_mem:=@List.getElem_mem
theorem Tg:type_of% @Below.heap_setCell:=@Below.heap_setCell
theorem Vg:type_of% @IntKind.wrap_u64:=@IntKind.wrap_u64
theorem Wg:type_of% @List.all_eq_true:=@List.all_eq_true
theorem Xg:type_of% @List.getElem_cons_zero:=@List.getElem_cons_zero
theorem Fh:type_of% @bne_iff_ne:=@bne_iff_ne
theorem Th:type_of% @Int.natCast_mul:=@Int.natCast_mul
theorem Uh:type_of% @List.getElem_cons_succ:=@List.getElem_cons_succ
theorem pj:type_of% @IntKind.wrap_i64:=@IntKind.wrap_i64
theorem qj:type_of% @Nat.pow_succ:=@Nat.pow_succ
theorem Ij:type_of% @List.mem_cons:=@List.mem_cons
theorem Jj:type_of% @Nat.mul_comm:=@Nat.mul_comm
theorem pk:type_of% @List.length_cons:=@List.length_cons
theorem Qk:type_of% @beq_iff_eq:=@beq_iff_eq
theorem zl:type_of% @List.mem_filter:=@List.mem_filter
theorem Zl:type_of% @Int.eq_ofNat_of_zero_le:=@Int.eq_ofNat_of_zero_le
theorem im:type_of% @List.getElem?_toArray:=@List.getElem?_toArray
theorem Lm:type_of% @List.mem_range:=@List.mem_range
theorem Mm:type_of% @Nat.lt_or_ge:=@Nat.lt_or_ge
theorem Om:type_of% @Nat.mod_eq_of_lt:=@Nat.mod_eq_of_lt
theorem Dn:type_of% @Int.toNat_natCast:=@Int.toNat_natCast
theorem uo:type_of% @Bool.not_eq_true':=@Bool.not_eq_true'
theorem Pp:type_of% @List.length_append:=@List.length_append
theorem Kq:type_of% @List.forall_mem_nil:=@List.forall_mem_nil
theorem Lq:type_of% @List.mem_append:=@List.mem_append
theorem Nr:type_of% @Region.noSelect_spec:=@Region.noSelect_spec
theorem Ss:type_of% @Bool.false_ne_true:=@Bool.false_ne_true
theorem ft:type_of% @List.forall_mem_cons:=@List.forall_mem_cons
theorem jt:type_of% @List.getElem_of_mem:=@List.getElem_of_mem
theorem ot:type_of% @Nat.add_zero:=@Nat.add_zero
theorem qt:type_of% @Nat.shiftRight_eq_div_pow:=@Nat.shiftRight_eq_div_pow
theorem Ku:type_of% @Int.pow_succ:=@Int.pow_succ
theorem Nu:type_of% @Nat.eq_zero_or_pos:=@Nat.eq_zero_or_pos
theorem Ou:type_of% @Nat.le_add_right:=@Nat.le_add_right
theorem Ru:type_of% @decide_eq_true_eq:=@decide_eq_true_eq
theorem Vv:type_of% @Int.natCast_add:=@Int.natCast_add
theorem dw:type_of% @List.length_map:=@List.length_map
theorem fw:type_of% @bne_eq_false_iff_eq:=@bne_eq_false_iff_eq
theorem Ex:type_of% @Int.tmod_eq_emod_of_nonneg:=@Int.tmod_eq_emod_of_nonneg
theorem Jx:type_of% @List.append_assoc:=@List.append_assoc
theorem Kx:type_of% @List.getElem?_eq_none:=@List.getElem?_eq_none
theorem Lx:type_of% @List.length_range:=@List.length_range
theorem Mx:type_of% @Nat.div_le_self:=@Nat.div_le_self
theorem Qx:type_of% @Tryz.underlying22:=@Tryz.underlying22
theorem Ky:type_of% @Array.getElem?_eq_some_iff:=@Array.getElem?_eq_some_iff
theorem yz:type_of% @List.getElem_append_left:=@List.getElem_append_left
theorem zz:type_of% @List.mem_singleton:=@List.mem_singleton
theorem Az:type_of% @Nat.lt_of_le_of_lt:=@Nat.lt_of_le_of_lt
theorem Bz:type_of% @Tryz.underlying28:=@Tryz.underlying28
theorem Cz:type_of% @Tryz.underlying3:=@Tryz.underlying3
theorem ZA:type_of% @Bool.or_eq_true:=@Bool.or_eq_true
theorem JB:type_of% @List.length_drop:=@List.length_drop
theorem NB:type_of% @List.map_congr_left:=@List.map_congr_left
theorem OB:type_of% @List.range_succ:=@List.range_succ
theorem PB:type_of% @Nat.div_add_mod:=@Nat.div_add_mod
theorem QB:type_of% @Nat.pow_le_pow_right:=@Nat.pow_le_pow_right
theorem XB:type_of% @decide_eq_false_iff_not:=@decide_eq_false_iff_not
theorem ED:type_of% @List.contains_iff_mem:=@List.contains_iff_mem
theorem FD:type_of% @List.getElem_append_right:=@List.getElem_append_right
theorem GD:type_of% @List.take_of_length_le:=@List.take_of_length_le
theorem ID:type_of% @List.take_succ_eq_append_getElem:=@List.take_succ_eq_append_getElem
theorem JD:type_of% @Nat.mul_le_mul_right:=@Nat.mul_le_mul_right
theorem FG:type_of% @List.getElem?_append_right:=@List.getElem?_append_right
theorem rI:type_of% @Classical.byContradiction:=@Classical.byContradiction
theorem VI:type_of% @List.filter_cons_of_neg:=@List.filter_cons_of_neg
theorem WI:type_of% @List.filter_cons_of_pos:=@List.filter_cons_of_pos
theorem zL:type_of% @List.getElem?_append_left:=@List.getElem?_append_left
def U8 (l:List Nat):List vw:=l.map (fun n:Nat=>vd vu n)
def Qa (l:List Nat):List vw:=l.map (fun n:Nat=>vd vq n)
def xf (l:List Int):List vw:=l.map (fun n:Int=>vd vt n)
theorem R4 (l:List Nat):(U8 l).length=l.length:=by simp [U8]
theorem pF (l:List Nat):(Qa l).length=l.length:=by simp [Qa]
theorem Q4 (l:List Int):(xf l).length=l.length:=by simp [xf]
theorem JT (l m:List Nat):U8 (l++m)=U8 l++U8 m:=by simp [U8]
theorem zBd (l m:List Nat):Qa (l++m)=Qa l++Qa m:=by simp [Qa]
theorem Gf (l:List Nat):∀ u∈Qa l,u.oneCell'=true:=by
 intro u hu;obtain ⟨n,_,rfl⟩:=Ie.1 hu
 rfl
theorem tW (l:List Int):∀ u∈xf l,u.oneCell'=true:=by
 intro u hu;obtain ⟨n,_,rfl⟩:=Ie.1 hu
 rfl
theorem bJ {l:List Nat} {j:Nat} (h:j<l.length):(Qa l)[j]?=vD (vd vq (l[j]:Int)):=by simp [Qa,h]
theorem DY (a:vx) (n:Nat):(a.add n).block=a.block:=by
 unfold Addr.add;split <;> rfl
theorem NT (a:vx) (i j:Nat):(a.add i).add j=a.add (i+j):=by
 unfold Addr.add;by_cases hi:i=0 <;> by_cases hj:j=0 <;> simp [hi,hj,Nat.add_assoc]
theorem gY (a:vx):a.add 0=a:=by simp [Addr.add]
def Rd (w:vv) (size:Nat) (A:Option vx) (n:Nat) (xs:List vw):Prop :=
 xs.length=n*size /\ (0<n -> ∃ ad,A=vD ad /\ ∀ j u,xs[j]?=vD u -> w.cell? (ad.add j)=vD u)
section
variable {w w':vv} {size n:Nat} {A:Option vx} {xs:List vw}
theorem Rd.nil (w:vv) (size:Nat) (A:Option vx):Rd w size A 0 []:=⟨zS,fun h=>absurd h zO⟩
theorem Rd.len1 (h:Rd w 1 A n xs):xs.length=n:=by have:=h.1;omega
theorem Rd.at_ {k:Nat} (h:Rd w 1 A n xs) (hk:k<n):∃ ad u,A=vD ad /\ xs[k]?=vD u /\ w.cell? (ad.add k)=vD u:=by
 obtain ⟨ad,e,hc⟩:=h.2 zO;have hl:k<xs.length:=by rw [h.len1];exact hk
 exact ⟨ad,xs[k],e,Dc hl,hc k _ (Dc hl)⟩
theorem Rd.keep (h:Rd w size A n xs) (hk:∀ p:vx,p.block<w.1.size -> w'.cell? p=w.cell? p):Rd w' size A n xs :=
 ⟨h.1,fun hn=>by
  obtain ⟨ad,e,hc⟩:=h.2 hn;exact ⟨ad,e,fun j u hu=>(hk _ (Af _ _ (hc j u hu))).trans (hc j u hu)⟩⟩
theorem Rd.below (h:Rd w size A n xs) (hb:vz w.1.size w w'):Rd w' size A n xs:=h.keep fun _ hp=>hb.cell hp
theorem Rd.drew (h:Rd w size A n xs):Rd w.drew size A n xs:=h
theorem Rd.drewN (h:Rd w size A n xs) (k:Nat):Rd (w.drewN k) size A n xs:=h
theorem Rd.alloc (h:Rd w size A n xs) (o:Obj):Rd (w.alloc o) size A n xs:=h.keep fun p hp=>World.cell?_alloc_lt w o p hp
theorem Rd.grown (h:Rd w size A n xs) {row:Option Nat} (hg:w.grownBy w' row) (hr:∀ ad,A=vD ad -> vD ad.block≠row):Rd w' size A n xs :=
 ⟨h.1,fun hn=>by
  obtain ⟨ad,e,hc⟩:=h.2 hn;refine ⟨ad,e,fun j u hu=>?_⟩
  exact hg.cell (hc j u hu) (by rw [DY];exact hr ad e)⟩
theorem Rd.cut (h:Rd w size A n xs) {k cap:Nat} (hk:k <= n) (hc:n <= cap) :
  Rd w size (if cap=k then A else A.map (·.add (k*size))) (n-k) (xs.drop (k*size)):=by
 refine ⟨by rw [JB,h.1,Nat.sub_mul],fun hn=>?_⟩
 obtain ⟨ad,rfl,jv⟩:=h.2 zO;rw [mb zO];refine ⟨ad.add (k*size),rfl,fun j u hu=>?_⟩
 rw [NT];exact jv _ u (by rw [<- hu,List.getElem?_drop])
theorem Rd.take (h:Rd w size A n xs) {k:Nat} (hk:k <= n):Rd w size A k (xs.take (k*size)):=by
 refine ⟨by rw [List.length_take,h.1];exact Nat.min_eq_left (JD _ hk),fun hn=>?_⟩
 obtain ⟨ad,e,jv⟩:=h.2 zO;refine ⟨ad,e,fun j u hu=>jv j u ?_⟩
 rw [List.getElem?_take] at hu;split at hu
 ·exact hu
 ·cases hu
theorem Rd.of_own {base:Nat} {e:vy} {c:Nat} (h:w.ownsRow base e size (ve A n c) n xs):Rd w size A n xs:=by
 refine ⟨h.1,fun hn=>?_⟩
 rcases h.2 with ⟨_,h0⟩ | ⟨g,cap,cur,hv,_⟩
 ·omega
 ·have hA:A=vD ⟨g,0,vB⟩:=by injection hv
  subst hA;exact ⟨_,rfl,h.cells (g:=g) rfl⟩
end
theorem mc {w:vv} {base:Nat} {e:vy} {size:Nat} {v:vw} {n:Nat} {xs:List vw} (h:w.ownsRow base e size v n xs) :
  ∃ A c,v=ve A n c /\ n <= c /\ c <= maxLen /\ Rd w size A n xs /\ (∀ ad,A=vD ad -> base <= ad.block /\ ad.block<w.1.size):=by
 have h2:=h;rcases h.2 with ⟨rfl,rfl⟩ | ⟨g,cap,cur,rfl,hb,hh,hn,hm,_⟩
 ·exact ⟨vB,0,rfl,zR,by simp [maxLen],Rd.of_own h2,fun ad h=>by cases h⟩
 ·refine ⟨vD ⟨g,0,vB⟩,cap,rfl,hn,hm,Rd.of_own h2,fun ad h=>?_⟩
  injection h with h
  subst h;exact ⟨hb,(Ky.1 hh).1⟩
theorem yb {w w':vv} {base B:Nat} {e:vy} {size:Nat} {v:vw} {n:Nat} {xs:List vw} (h:w.ownsRow base e size v n xs) (hb:vz B w w') (hB:w.1.size <= B):w'.ownsRow base e size v n xs:=by
 obtain ⟨h1,h2⟩:=h;refine ⟨h1,?_⟩;rcases h2 with h2 | ⟨g,cap,cur,hv,hg,hh,r⟩
 ·exact Or.inl h2
 ·exact Or.inr ⟨g,cap,cur,hv,hg,by rw [hb.block g (zQ ((Ky.1 hh).1))];exact hh,r⟩
theorem Bh {w:vv} {base base':Nat} {e:vy} {size:Nat} {v:vw} {n:Nat} {xs:List vw} (h:w.ownsRow base e size v n xs) (hB:base' <= base):w.ownsRow base' e size v n xs:=by
 obtain ⟨h1,h2⟩:=h;refine ⟨h1,?_⟩;rcases h2 with h2 | ⟨g,cap,cur,hv,hg,r⟩
 ·exact Or.inl h2
 ·exact Or.inr ⟨g,cap,cur,hv,Cb hB hg,r⟩
theorem Z6 {w:vv} {base:Nat} {e:vy} {size:Nat} {v:vw} {n:Nat} {xs:List vw} (h:w.ownsRow base e size v n xs):∀ g,v.ownBlock=vD g -> base <= g /\ g<w.1.size:=h.lt
theorem pa {w0 w1 w2:vv} (h1:vz w0.1.size w0 w1) (h2:vz w1.1.size w1 w2):vz w0.1.size w0 w2:=h1.trans (h2.mono h1.size)
theorem IN {B:Nat} {a w:vv} (h:vz B a w) (n:Nat):vz B a (w.drewN n):=⟨h.os,h.tape,h.output,h.size,h.block⟩
theorem Mg (w:vv) (row:Option Nat):w.grownBy w row:=⟨rfl,rfl,rfl,zR,fun _ _ _=>rfl⟩
theorem zDa {a w:vv} {row:Option Nat} (h:a.grownBy w row) (o:Obj):a.grownBy (w.alloc o) row :=
 ⟨h.os,h.tape,h.output,Cb h.size zS,fun i hi Ua=>(Below.heap_alloc w o i (Be hi h.size)).trans (h.block i hi Ua)⟩
theorem tj {a w:vv} {row:Option Nat} (h:a.grownBy w row) {p:vx} (hp:row=vD p.block \/ a.1.size <= p.block) (u:vw):a.grownBy (w.setCell p u) row :=
 ⟨h.os,h.tape,h.output,by simpa [vE] using h.size,fun i hi Ua=>(Tg w p u i (by
  rintro rfl;rcases hp with hp | hp
  ·exact Ua hp.symm
  ·omega)).trans (h.block i hi Ua)⟩
theorem RG {a w w':vv} {row row':Option Nat} (h:a.grownBy w row) (hg:w.grownBy w' row') (hr:∀ g,row'=vD g -> row=vD g \/ a.1.size <= g):a.grownBy w' row :=
 ⟨hg.os.trans h.os,hg.tape.trans h.tape,hg.output.trans h.output,Cb h.size hg.size,fun i hi Ua=>(hg.block i (Be hi h.size) (fun e=>by
  rcases hr i e.symm with h1 | h1
  ·exact Ua h1.symm
  ·omega)).trans (h.block i hi Ua)⟩
theorem Um {a w w':vv} {row:Option Nat} {B:Nat} (h:a.grownBy w row) (hb:vz B w w') (hB:a.1.size <= B):a.grownBy w' row :=
 ⟨hb.os.trans h.os,hb.tape.trans h.tape,hb.output.trans h.output,Cb h.size hb.size,fun i hi Ua=>(hb.block i (Be hi hB)).trans (h.block i hi Ua)⟩
theorem ND {a w:vv} {row:Option Nat} (h:a.grownBy w row) (B:Nat) (hB:B <= a.1.size) (hr:∀ g,row=vD g -> B <= g):vz B a w :=
 ⟨h.os,h.tape,h.output,h.size,fun k hk=>h.block k zO (fun e=>by have:=hr k e.symm;omega)⟩
def Lr (P:Program) (t e:vy) (size bytes:Nat) (z:vw):Prop :=
 P.underlying t=vD (.slice e) /\ (∃ i,P.info? e=vD i /\ i.zero=vD z /\ i.size=size /\ i.bytes=bytes) /\ z.cells.size=size /\ 0<size
theorem mh (w:vv) (x:vw) (t:vy):Rd (w.alloc (.cells #[x] t)) 1 (vD ⟨w.1.size,0,vB⟩) 1 [x] :=
 ⟨rfl,fun _=>⟨_,rfl,cell_one_new w x t⟩⟩
theorem ju (w:vv) (e:vy) {base:Nat} (hb:base <= w.1.size):(w.alloc (.cells #[] e)).ownsRow base e 1 (ve (vD ⟨w.1.size,0,vB⟩) 0 0) 0 [] :=
 World.ownsRow_made w #[] 0 hb (by simp [maxLen]) rfl
section
variable {P:Program} {w:vv} {base size bytes:Nat} {t e:vy} {z v:vw} {n:Nat} {xs:List vw}
theorem T9 (E:Lr P t e size bytes z) (ty:vy) (oa:w.ownsRow base e size v n xs) {A:Option vx} {m c:Nat} {news:List vw} (hr:Rd w size A m news)
  (h1:∀ u∈news,u.oneCell'=true) (lC:(n+m)*(bytes+1) <= 140737488355328) (yk:base <= w.1.size) :
  ∃ v' w',(Builtin.append_ #[t,t] ty #[v,ve A m c]).run P w= .ok v' w' /\ w'.ownsRow base e size v' (n+m) (xs++news) /\ w.grownBy w' v.ownBlock /\ (v'.ownBlock=v.ownBlock \/ v'.ownBlock=vD w.1.size):=by
 obtain ⟨ht,⟨i,hi,hz,hs,ey⟩,hzs,db⟩:=E;have hb:(n+m)*bytes <= 140737488355328:=Cb (Nat.mul_le_mul_left _ (Nat.le_succ _)) lC;have hl:n+m <= maxLen:=by
  have:=Cb (Nat.le_mul_of_pos_right (n+m) (Nat.succ_pos bytes)) lC;simp only [maxLen];omega
 rcases A with _ | ad
 ·have hm:m=0:=by
   rcases Nu m with h0 | h0
   ·exact h0
   ·obtain ⟨ad,h,_⟩:=hr.2 h0
    cases h
  subst hm;have hn:news=[]:=List.eq_nil_of_length_eq_zero (by simpa using hr.1)
  subst hn;refine ⟨v,w,?_,by simpa using oa,Mg w _, .inl rfl⟩
  rcases oa.2 with ⟨rfl,rfl⟩ | ⟨g,cap,cur,rfl,_,_,Ce,_⟩
  ·simp [Builtin.append_,run_underlying ht,sizeOf,typeInfo,hi,Builtin.lenOf,Builtin.firstCells]
  ·simp [Builtin.append_,run_underlying ht,sizeOf,typeInfo,hi,Builtin.lenOf,Builtin.firstCells,Ce,storeCells]
 ·have Yq:∀ j u,news[j]?=vD u -> w.cell? (ad.add j)=vD u:=by
   intro j u hu;rcases Nu m with h0 | h0
   ·subst h0
    have hn:news=[]:=List.eq_nil_of_length_eq_zero (by simpa using hr.1)
    subst hn;simp at hu
   ·obtain ⟨ad',h,hc⟩:=hr.2 h0
    injection h with h
    subst h;exact hc j u hu
  obtain ⟨v',w',Rc,h2,h3,_,h5⟩:=run_append_own_at (P:=P) w base t ty e i z size bytes ht hi hz hs ey hzs db v n xs oa ad m c news hr.1 Yq h1 hl hb yk;exact ⟨v',w',Rc,h2,h3,h5⟩
theorem Iv {o:Oper} {a:Act} {K:Act -> vv -> Prop} {Q:Exit -> Act -> vv -> Prop} (s x:Operand)
  (ho:o.op= .call { callee:=.builtin .append,args:=#[s,x],argTypes:=#[t,t] })
  (E:Lr P t e size bytes z) (hs:a.eval s=v) (oa:w.ownsRow base e size v n xs)
  {A:Option vx} {m c:Nat} {news:List vw} (hx:a.eval x=ve A m c) (hr:Rd w size A m news) (h1:∀ u∈news,u.oneCell'=true)
  (lC:(n+m)*(bytes+1) <= 140737488355328) (yk:base <= w.1.size)
  (h:∀ v' w',w'.ownsRow base e size v' (n+m) (xs++news) -> w.grownBy w' v.ownBlock -> (v'.ownBlock=v.ownBlock \/ v'.ownBlock=vD w.1.size) -> K (a.put o.dst v') w'):o.wp P a w K Q:=by
 obtain ⟨v',w',Rc,h2,h3,h4⟩:=T9 (P:=P) (c:=c) E o.type oa hr h1 lC yk;unfold Oper.wp execOp;simp only [ho,resolve,invoke,builtin,Sem.run_bind,Sem.run_pure,Result.andThen_ok,List.map_toArray,List.map_cons,List.map_nil,hs,hx,Rc];exact h v' w' h2 h3 h4
theorem fe {ops:Array Oper} {rest:List Oper} {o:Oper} {a:Act} {Q:Exit -> Act -> vv -> Prop} (hgd:o.guard=vB) (s x:Operand)
  (ho:o.op= .call { callee:=.builtin .append,args:=#[s,x],argTypes:=#[t,t] })
  (E:Lr P t e size bytes z) (hs:a.eval s=v) (oa:w.ownsRow base e size v n xs)
  {A:Option vx} {m c:Nat} {news:List vw} (hx:a.eval x=ve A m c) (hr:Rd w size A m news) (h1:∀ u∈news,u.oneCell'=true)
  (lC:(n+m)*(bytes+1) <= 140737488355328) (yk:base <= w.1.size)
  (h:∀ v' w',w'.ownsRow base e size v' (n+m) (xs++news) -> w.grownBy w' v.ownBlock -> (v'.ownBlock=v.ownBlock \/ v'.ownBlock=vD w.1.size) -> wpList P ops Q rest (a.put o.dst v') w'):wpList P ops Q (o :: rest) a w :=
 wpList_plain hgd fun _ hK=>Iv s x ho E hs oa hx hr h1 lC yk fun v' w' h2 h3 h4=>hK _ _ (h v' w' h2 h3 h4)
end
theorem zEV {a w w':vv} {row:Option Nat} {u u':vw} (h:a.grownBy w row) (hu:∀ g,u.ownBlock=vD g -> row=vD g \/ a.1.size <= g) (hg:w.grownBy w' u.ownBlock)
  (Nz:u'.ownBlock=u.ownBlock \/ ∃ g,u'.ownBlock=vD g /\ w.1.size <= g):a.grownBy w' row /\ ∀ g,u'.ownBlock=vD g -> row=vD g \/ a.1.size <= g:=by
 refine ⟨RG h hg hu,fun g hg'=>?_⟩
 rcases Nz with e | ⟨g',e,hle⟩
 ·exact hu g (e ▸ hg')
 ·rw [e] at hg'
  injection hg' with hg'
  subst hg';exact .inr (Cb h.size hle)
def Blk (w:vv) (g:Nat) (t:vy) (cs:Array vw):Prop:=w.1[g]?=vD (.cells cs t (0,0))
section
variable {w w':vv} {g:Nat} {t:vy} {cs:Array vw}
theorem Blk.lt (h:Blk w g t cs):g<w.1.size:=(Ky.1 h).1
theorem Blk.cell (h:Blk w g t cs) (i:Nat):w.cell? ⟨g,i,vB⟩=cs[i]?:=cell_of_row w g i cs t (0,0) h
theorem Blk.frozen (h:Blk w g t cs) (i:Nat):w.frozen? ⟨g,i,vB⟩=false:=by
 unfold Blk at h;simp [World.frozen?,h]
theorem Blk.new (w:vv) (t:vy) (cs:Array vw):Blk (w.alloc (.cells cs t)) w.1.size t cs:=heap_alloc_new w _
theorem zN (w:vv) (t:vy) (cs:Array vw):Blk (w.alloc (.cells cs t)) w.1.size t cs /\ vz w.1.size w (w.alloc (.cells cs t)):=⟨Blk.new w t cs,(Bb _ _).alloc zR _⟩
theorem Blk.drew (h:Blk w g t cs):Blk w.drew g t cs:=h
theorem Blk.drewN (h:Blk w g t cs) (n:Nat):Blk (w.drewN n) g t cs:=h
theorem Blk.alloc (h:Blk w g t cs) (o:Obj):Blk (w.alloc o) g t cs:=(Below.heap_alloc w o g h.lt).trans h
theorem Blk.set_ (h:Blk w g t cs) (i:Nat) (u:vw):Blk (w.setCell ⟨g,i,vB⟩ u) g t (cs.setIfInBounds i u):=by
 unfold Blk at h |-;simp [vE,Array.getElem?_modify,h]
theorem Blk.far (h:Blk w g t cs) {p:vx} (hp:g≠p.block) (u:vw):Blk (w.setCell p u) g t cs:=(Tg w p u g hp).trans h
theorem Blk.below {B:Nat} (h:Blk w g t cs) (hb:vz B w w') (hg:g<B):Blk w' g t cs:=(hb.block g hg).trans h
theorem ma {w w1:vv} {g:Nat} {t:vy} {cs:Array vw} (k:Blk w g t cs) (h:vz w.1.size w w1):Blk w1 g t cs:=k.below h k.lt
theorem Blk.grown {row:Option Nat} (h:Blk w g t cs) (hb:w.grownBy w' row) (hg:vD g≠row):Blk w' g t cs:=(hb.block g h.lt hg).trans h
theorem wg {w w1:vv} {g i:Nat} {t:vy} {cs:Array vw} (k:Blk w g t cs) (h:w.grownBy w1 (vD i)) (e:vD g≠vD i:=by intro e;have:=Pb e;first | omega | (apply absurd this;assumption) | (apply absurd this.symm;assumption)):Blk w1 g t cs:=k.grown h e
end
theorem Rd.set_ {w:vv} {size n:Nat} {A:Option vx} {xs:List vw} (h:Rd w size A n xs) {p:vx} (hp:∀ ad,A=vD ad -> ad.block≠p.block) (u:vw):Rd (w.setCell p u) size A n xs :=
 ⟨h.1,fun hn=>by
  obtain ⟨ad,e,hc⟩:=h.2 hn;refine ⟨ad,e,fun j x hj=>?_⟩
  rw [World.cell?_setCell_other w p _ u (fun e2=>hp ad e (by rw [e2,DY]))]
  exact hc j x hj⟩
section
open Go.ChangeShapes Go.WideShapes Go.ChangeAt
def Fits (P:Program) (w:vv) (t:vy) (cs:List vw):Prop :=
 ∃ (H:Type) (enc:vy × vw -> H) (base:Nat) (spare:Nat -> Bool) (held:Bool) (fuel:Nat) (x:DataW H × List MemPlace),DataW.trod enc P w base spare held fuel t cs=vD x
section
variable {P:Program} {w:vv} {t e:vy} {cs:List vw}
theorem Fits.of_trod {H:Type} {enc:vy × vw -> H} {base:Nat} {spare:Nat -> Bool} {held:Bool} {v:vw} {d:DataW H} {ps:List MemPlace} (h:DataW.Trod enc P w base spare held t v d ps):Fits P w t v.cells.toList:=by
 obtain ⟨fuel,hf⟩:=h;exact ⟨H,enc,base,spare,held,fuel,_,hf⟩
theorem ZZ {k:IntKind} (ht:P.underlying t=vD (.int k)) (h:Fits P w t cs):∃ n,cs=[.int k n] /\ (Lit.int k n).wf=true:=by
 obtain ⟨H,enc,base,spare,held,fuel,x,hf⟩:=h;obtain ⟨n,h1,_,h3⟩:=DataW.trod_int ht hf;exact ⟨n,h1,h3⟩
theorem XL (ht:P.underlying t=vD (.int vq)) (h:Fits P w t cs):∃ n:Nat,cs=[vd vq n] /\ n<18446744073709551616:=by
 obtain ⟨n,rfl,hw⟩:=ZZ ht h;have hx:0 <= n /\ n <= 18446744073709551615:=by simpa [Lit.wf,IntKind.min,IntKind.max,IntKind.signed,IntKind.bits] using hw
 obtain ⟨m,rfl⟩:=Zl hx.1;exact ⟨m,rfl,zO⟩
theorem WL (ht:P.underlying t=vD (.int vt)) (h:Fits P w t cs):∃ n:Int,cs=[vd vt n] /\ -9223372036854775808 <= n /\ n <= 9223372036854775807:=by
 obtain ⟨n,rfl,hw⟩:=ZZ ht h;have hx:-9223372036854775808 <= n /\ n <= 9223372036854775807:=by simpa [Lit.wf,IntKind.min,IntKind.max,IntKind.signed,IntKind.bits] using hw
 exact ⟨n,rfl,hx⟩
theorem zCN (ht:P.underlying t=vD .bool) (h:Fits P w t cs):∃ b,cs=[.bool b]:=by
 obtain ⟨H,enc,base,spare,held,fuel,x,hf⟩:=h;cases fuel with
 | zero=>simp [DataW.trod] at hf
 | succ n =>
  unfold DataW.trod at hf;rw [ht] at hf;split at hf <;> simp_all
theorem F0 (ht:P.underlying t=vD (.slice e)) (h:Fits P w t cs):∃ A n c,cs=[ve A n c] /\ n <= c /\ c <= maxLen /\
  ∀ i,i<n -> ∃ a uk,A=vD a /\ uk.length=P.cellsOf e /\ (∀ j,j<P.cellsOf e -> w.cell? (a.add (i*P.cellsOf e+j))=uk[j]?) /\ Fits P w e uk:=by
 obtain ⟨H,enc,base,spare,held,fuel,x,hf⟩:=h;rcases Deep.open_slice ht hf with ⟨rfl,_⟩ | ⟨a,len,cap,m,k,D,Pl,rfl,hb,hl,hm,hmm,hx,hi⟩
 ·exact ⟨vB,0,0,rfl,zR,by simp [maxLen],fun i h=>absurd h zO⟩
 ·refine ⟨vD a,len,cap,rfl,hl,hm,fun i Xd=>?_⟩
  have him:i<m:=by rw [hmm];split <;> omega
  obtain ⟨uk,hc,ht'⟩:=hi i him;obtain ⟨_,tw,Nz⟩:=World.cells?_some hc;exact ⟨a,uk,rfl,tw,fun j hj=>by rw [<- NT];exact Nz j hj,H,enc,base,spare,held,k,_,ht'⟩
theorem zU {fs:Array Field} (ht:P.underlying t=vD (.struct fs)) (h:Fits P w t cs):cs.length=P.cellsOf t /\
  ∀ (i:Nat) (f:Field),fs[i]?=vD f -> Fits P w f.type ((cs.drop f.offset).take (P.cellsOf f.type)):=by
 obtain ⟨H,enc,base,spare,held,fuel,x,hf⟩:=h;obtain ⟨xs,n,_,_,hl,uK,hi⟩:=DataW.trod_struct ht hf;refine ⟨hl,fun i f hif=>?_⟩
 have ta:i<xs.length:=by rw [uK];exact (Ky.1 hif).1
 exact ⟨H,enc,base,spare,held,n,_,(hi i f hif).trans (Dc ta)⟩
theorem PY {p:Nat -> Nat -> Prop}:∀ n,(∀ i,i<n -> ∃ u,p i u) -> ∃ l:List Nat,l.length=n /\ ∀ i (h:i<l.length),p i l[i]
 | 0,_=>⟨[],rfl,fun i h=>by simp at h⟩
 | n+1,h=>by
  obtain ⟨l,hl,hp⟩:=PY n fun i hi=>h i zO
  obtain ⟨u,hu⟩:=h n zO;refine ⟨l++[u],by simp [hl],fun i hx=>?_⟩
  simp at hx
  by_cases h1:i<l.length
  ·rw [yz h1]
   exact hp i h1
  ·rw [FD zO]
   have:i=n:=by omega
   subst this;simp [hl]
   exact hu
theorem zCT (ht:P.underlying t=vD (.slice e)) (he:P.underlying e=vD (.int vq)) (hc:P.cellsOf e=1) (h:Fits P w t cs) :
  ∃ A n c l,cs=[ve A n c] /\ n <= c /\ c <= maxLen /\ Rd w 1 A n (Qa l) /\ ∀ x∈l,x<18446744073709551616:=by
 obtain ⟨A,n,c,rfl,h1,h2,hi⟩:=F0 ht h;have Yz:∀ i,i<n -> ∃ u:Nat,u<18446744073709551616 /\ ∃ a,A=vD a /\ w.cell? (a.add i)=vD (vd vq u):=by
  intro i Xd;obtain ⟨a,uk,rfl,hl,jv,hf⟩:=hi i Xd;obtain ⟨u,rfl,hu⟩:=XL he hf;have:=jv 0 zO;rw [hc,Nat.mul_one,ot] at this;exact ⟨u,hu,a,rfl,by simpa using this⟩
 obtain ⟨l,hl,hp⟩:=PY n Yz;refine ⟨A,n,c,l,rfl,h1,h2,⟨by rw [pF,hl,Nat.mul_one],fun hn=>?_⟩,fun x hx=>?_⟩
 ·obtain ⟨_,a,ha,_⟩:=hp 0 zO
  refine ⟨a,ha,fun j u hu=>?_⟩
  have hj:j<l.length:=by
   rcases Mm j l.length with h | h
   ·exact h
   ·rw [Kx (by rw [pF];exact h)] at hu;cases hu
  obtain ⟨_,a',Wq,So⟩:=hp j hj;rw [ha] at Wq
  injection Wq with Wq
  subst Wq;rw [bJ hj] at hu
  injection hu with hu
  rw [So,hu]
 ·obtain ⟨j,hj,rfl⟩:=jt hx
  exact (hp j hj).1
end
end
def RdL {α:Type} (w:vv) (sz:Nat) (R:vv -> List vw -> α -> Prop) (A:Option vx) (l:List α):Prop :=
 ∀ (i:Nat) (hi:i<l.length),∃ a cs,A=vD a /\ cs.length=sz /\ (∀ j,j<sz -> w.cell? (a.add (i*sz+j))=cs[j]?) /\ R w cs l[i]
def xz {α:Type} (R:vv -> List vw -> α -> Prop):Prop:=∀ (w w':vv) (cs:List vw) (x:α),vz w.1.size w w' -> R w cs x -> R w' cs x
def RSl {α:Type} (sz:Nat) (R:vv -> List vw -> α -> Prop) (w:vv) (cs:List vw) (l:List α):Prop :=
 ∃ A n c,cs=[ve A n c] /\ l.length=n /\ n <= c /\ c <= maxLen /\ RdL w sz R A l
def RWd (w:vv) (cs:List vw) (l:List Nat):Prop :=
 ∃ A n c,cs=[ve A n c] /\ n <= c /\ c <= maxLen /\ Rd w 1 A n (Qa l) /\ ∀ x∈l,x<18446744073709551616
section
variable {α:Type} {R:vv -> List vw -> α -> Prop} {sz:Nat} {w w':vv} {A:Option vx} {l:List α}
theorem RdL.below (h:RdL w sz R A l) (hR:xz R) (hb:vz w.1.size w w'):RdL w' sz R A l:=fun i hi=>by
 obtain ⟨a,cs,e,hl,hc,hr⟩:=h i hi;refine ⟨a,cs,e,hl,fun j hj=>?_,hR _ _ _ _ hb hr⟩
 have sw:=hc j hj;rw [Dc zO] at sw |-;exact (hb.cell (Af _ _ sw)).trans sw
theorem jg (hR:xz R):xz (RSl sz R):=fun w w' cs l hb h=>by
 obtain ⟨A,n,c,e,h1,h2,h3,h4⟩:=h;exact ⟨A,n,c,e,h1,h2,h3,h4.below hR hb⟩
theorem xC:xz RWd:=fun w w' cs l hb h=>by
 obtain ⟨A,n,c,e,h1,h2,h3,h4⟩:=h;exact ⟨A,n,c,e,h1,h2,h3.below hb,h4⟩
theorem Sa {w w1:vv} {v:List vw} {l:List Nat} (h:vz w.1.size w w1) (r:RWd w v l):RWd w1 v l:=xC _ _ _ _ h r
theorem RdL.at_ (h:RdL w sz R A l) (db:0<sz) {i:Nat} (hi:i<l.length) :
  ∃ a b q cs,A=vD a /\ a.add (i*sz)=⟨b,q,vB⟩ /\ cs.length=sz /\ (∀ j,j<sz -> w.cell? ⟨b,q+j,vB⟩=cs[j]?) /\ R w cs l[i]:=by
 obtain ⟨a,cs,e,hl,hc,hr⟩:=h i hi;have h0:=hc 0 db;rw [ot,Dc zO] at h0;obtain ⟨b,q,hq⟩:∃ b q,a.add (i*sz)=⟨b,q,vB⟩:=by
  have hs:=World.cell?_spot h0;generalize a.add (i*sz)=x at hs;obtain ⟨b,q,s⟩:=x;simp at hs
  subst hs;exact ⟨b,q,rfl⟩
 refine ⟨a,b,q,cs,e,hq,hl,fun j hj=>?_,hr⟩
 have:=hc j hj;rw [<- NT,hq] at this;rw [<- this];unfold Addr.add;split <;> simp_all
end
section
variable {P:Program} {w:vv} {t e:vy} {cs:List vw}
theorem QY {α:Type} {p:Nat -> α -> Prop}:∀ n,(∀ i,i<n -> ∃ u,p i u) -> ∃ l:List α,l.length=n /\ ∀ i (h:i<l.length),p i l[i]
 | 0,_=>⟨[],rfl,fun i h=>by simp at h⟩
 | n+1,h=>by
  obtain ⟨l,hl,hp⟩:=QY n fun i hi=>h i zO
  obtain ⟨u,hu⟩:=h n zO;refine ⟨l++[u],by simp [hl],fun i hx=>?_⟩
  simp at hx
  by_cases h1:i<l.length
  ·rw [yz h1]
   exact hp i h1
  ·rw [FD zO]
   have:i=n:=by omega
   subst this;simp [hl]
   exact hu
theorem yU {α:Type} {R:vv -> List vw -> α -> Prop} (sz:Nat) (ht:P.underlying t=vD (.slice e)) (hc:P.cellsOf e=sz)
  (ho:∀ uk,uk.length=sz -> Fits P w e uk -> ∃ x,R w uk x) (h:Fits P w t cs):∃ l,RSl sz R w cs l:=by
 obtain ⟨A,n,c,rfl,h1,h2,hi⟩:=F0 ht h;rw [hc] at hi;have:∀ i,i<n -> ∃ x,∃ a uk,A=vD a /\ uk.length=sz /\ (∀ j,j<sz -> w.cell? (a.add (i*sz+j))=uk[j]?) /\ R w uk x:=by
  intro i Xd;obtain ⟨a,uk,e,hl,jv,hf⟩:=hi i Xd;obtain ⟨x,hx⟩:=ho uk hl hf;exact ⟨x,a,uk,e,hl,jv,hx⟩
 obtain ⟨l,hl,hp⟩:=QY n this;exact ⟨l,A,n,c,rfl,hl,h1,h2,fun i hi=>hp i hi⟩
theorem sJ (ht:P.underlying t=vD (.slice e)) (he:P.underlying e=vD (.int vq)) (hc:P.cellsOf e=1) (h:Fits P w t cs):∃ l,RWd w cs l:=by
 obtain ⟨A,n,c,l,rfl,h1,h2,h3,h4⟩:=zCT ht he hc h;exact ⟨l,A,n,c,rfl,h1,h2,h3,h4⟩
theorem Pj {fs:Array Field} {f:Field} {i k n:Nat} (ht:P.underlying t=vD (.struct fs)) (hf:fs[i]?=vD f) (ho:f.offset=k) (hn:P.cellsOf f.type=n) (h:Fits P w t cs):Fits P w f.type ((cs.drop k).take n):=by
 have:=(zU ht h).2 i f hf;rw [ho,hn] at this;exact this
end
def DT (_w:vv) (cs:List vw) (x:Int × Nat):Prop:=cs=[vd vt x.1,vd vq x.2] /\ (-9223372036854775808 <= x.1 /\ x.1 <= 9223372036854775807) /\ x.2<18446744073709551616
theorem fF:xz DT:=fun _ _ _ _ _ h=>h
def RLin:vv -> List vw -> List (Int × Nat) -> Prop:=RSl 2 DT
theorem mn:xz RLin:=jg fF
structure Ya where
 a:List (Int × Nat)
 b:List (Int × Nat)
 c:List (Int × Nat)
def Ue (w:vv) (cs:List vw) (r:Ya):Prop:=∃ x y z,cs=[x,y,z] /\ RLin w [x] r.a /\ RLin w [y] r.b /\ RLin w [z] r.c
theorem Qg:xz Ue:=fun w w' cs r hb h=>by
 obtain ⟨x,y,z,e,h1,h2,h3⟩:=h;exact ⟨x,y,z,e,mn _ _ _ _ hb h1,mn _ _ _ _ hb h2,mn _ _ _ _ hb h3⟩
structure TabR where
 p:Nat
 pub:Int
 vars:Int
 rows:List Ya
def RTab (w:vv) (cs:List vw) (t:TabR):Prop:=∃ x,cs=[vd vq t.p,vd vt t.pub,vd vt t.vars,x] /\ t.p<18446744073709551616 /\
 (-9223372036854775808 <= t.pub /\ t.pub <= 9223372036854775807) /\ (-9223372036854775808 <= t.vars /\ t.vars <= 9223372036854775807) /\ RSl 3 Ue w [x] t.rows
theorem Tx:prog.cellsOf 22=1:=by kernel_rfl
theorem hJ:prog.cellsOf 3=1:=by kernel_rfl
theorem zBA:prog.cellsOf 4=1:=by kernel_rfl
theorem LL:prog.cellsOf 28=1:=by kernel_rfl
theorem aU:prog.cellsOf 182=1:=by kernel_rfl
theorem zBJ:prog.cellsOf 191=2:=by kernel_rfl
theorem zBG:prog.cellsOf 186=3:=by kernel_rfl
theorem zBH:prog.cellsOf 23=1:=by kernel_rfl
theorem zBI:prog.cellsOf 25=4:=by kernel_rfl
theorem xU {w:vv} {cs:List vw} (h:Fits prog w 182 cs):∃ l,RLin w cs l :=
 yU 2 underlying182 zBJ (fun uk hl hf=>by
  match uk,hl with
  | [x,y],_ =>
   obtain ⟨a,ha,ja⟩:=WL Cz (Pj (i:=0) underlying191 rfl rfl hJ hf);obtain ⟨b,hb,Zb⟩:=XL Qx (Pj (i:=1) underlying191 rfl rfl Tx hf);simp at ha hb
   exact ⟨(a,b),by rw [ha,hb],ja,Zb⟩) h
theorem zCK {w:vv} {cs:List vw} (hl:cs.length=3) (h:Fits prog w 186 cs):∃ r,Ue w cs r:=by
 match cs,hl with
 | [x,y,z],_ =>
  obtain ⟨a,ha⟩:=xU (Pj (i:=0) underlying186 rfl rfl aU h);obtain ⟨b,hb⟩:=xU (Pj (i:=1) underlying186 rfl rfl aU h);obtain ⟨c,hc⟩:=xU (Pj (i:=2) underlying186 rfl rfl aU h);exact ⟨⟨a,b,c⟩,x,y,z,rfl,ha,hb,hc⟩
theorem zCL {w:vv} {cs:List vw} (hl:cs.length=4) (h:Fits prog w 25 cs):∃ t,RTab w cs t:=by
 match cs,hl with
 | [x,y,z,r],_ =>
  obtain ⟨a,ha,ja⟩:=XL Qx (Pj (i:=0) underlying25 rfl rfl Tx h);obtain ⟨b,hb,Zb⟩:=WL Cz (Pj (i:=1) underlying25 rfl rfl hJ h);obtain ⟨c,hc,tw⟩:=WL Cz (Pj (i:=2) underlying25 rfl rfl hJ h);obtain ⟨rs,hr⟩:=yU 3 (R:=Ue) underlying23 zBG (fun uk hl' hf=>zCK hl' hf) (Pj (i:=3) underlying25 rfl rfl zBH h)
  simp at ha hb hc
  exact ⟨⟨a,b,c,rs⟩,r,by rw [ha,hb,hc],ja,Zb,tw,hr⟩
def jc (p:Nat):Bool:=p == 17||p == 97||p == 193||p == 257||p == 12289||p == 65537||p == 18446744069414584321
theorem BC {p:Nat} (h:jc p=true):p=17 \/ p=97 \/ p=193 \/ p=257 \/ p=12289 \/ p=65537 \/ p=18446744069414584321:=by
 simp [jc] at h
 omega
def Vc (p:Nat):Nat × Nat × Nat :=
 if p=17 then (3,4,3) else
 if p=97 then (5,5,5) else
 if p=193 then (5,6,5) else
 if p=257 then (3,8,3) else
 if p=12289 then (11,12,5) else
 if p=65537 then (3,16,3) else
 if p=18446744069414584321 then (7,32,7) else
 (0,0,0)
def QM (p:Nat):vw:=vf #[vd vq ((Vc p).1:Int),vd vq ((Vc p).2.1:Int),vd vq ((Vc p).2.2:Int)]
theorem ZW (p:Nat) (w:vv) (_hp:p<18446744073709551616) :
  vA prog 177 #[vd vq p] w fun e w'=>e=vn (QM p) /\ vz w.1.size w w':=by
 by_cases h0:p=17
 ·subst h0
  go_enter func177,ntmps177
  go_wp2_with fail
  exact Tc (v:=vf #[vd vq 3,vd vq 4,vd vq 3]) (by simp [results,results177,go_sem]) rfl ⟨rfl,(Bb _ _).alloc zR _⟩
 by_cases h1:p=97
 ·subst h1
  go_enter func177,ntmps177
  go_wp2_with fail
  exact Tc (v:=vf #[vd vq 5,vd vq 5,vd vq 5]) (by simp [results,results177,go_sem]) rfl ⟨rfl,(Bb _ _).alloc zR _⟩
 by_cases h2:p=193
 ·subst h2
  go_enter func177,ntmps177
  go_wp2_with fail
  exact Tc (v:=vf #[vd vq 5,vd vq 6,vd vq 5]) (by simp [results,results177,go_sem]) rfl ⟨rfl,(Bb _ _).alloc zR _⟩
 by_cases h3:p=257
 ·subst h3
  go_enter func177,ntmps177
  go_wp2_with fail
  exact Tc (v:=vf #[vd vq 3,vd vq 8,vd vq 3]) (by simp [results,results177,go_sem]) rfl ⟨rfl,(Bb _ _).alloc zR _⟩
 by_cases h4:p=12289
 ·subst h4
  go_enter func177,ntmps177
  go_wp2_with fail
  exact Tc (v:=vf #[vd vq 11,vd vq 12,vd vq 5]) (by simp [results,results177,go_sem]) rfl ⟨rfl,(Bb _ _).alloc zR _⟩
 by_cases h5:p=65537
 ·subst h5
  go_enter func177,ntmps177
  go_wp2_with fail
  exact Tc (v:=vf #[vd vq 3,vd vq 16,vd vq 3]) (by simp [results,results177,go_sem]) rfl ⟨rfl,(Bb _ _).alloc zR _⟩
 by_cases h6:p=18446744069414584321
 ·subst h6
  go_enter func177,ntmps177
  go_wp2_with fail
  exact Tc (v:=vf #[vd vq 7,vd vq 32,vd vq 7]) (by simp [results,results177,go_sem]) rfl ⟨rfl,(Bb _ _).alloc zR _⟩
 have d0:((p:Int) == 17)=false:=by rw [Je];omega
 have d1:((p:Int) == 97)=false:=by rw [Je];omega
 have d2:((p:Int) == 193)=false:=by rw [Je];omega
 have d3:((p:Int) == 257)=false:=by rw [Je];omega
 have d4:((p:Int) == 12289)=false:=by rw [Je];omega
 have d5:((p:Int) == 65537)=false:=by rw [Je];omega
 have d6:((p:Int) == 18446744069414584321)=false:=by rw [Je];omega
 have HR:=zH (show QM p=vf #[vd vq 0,vd vq 0,vd vq 0] by simp [QM,Vc, *])
 clear h0 h1 h2 h3 h4 h5 h6;go_enter func177,ntmps177
 go_wp2_with fail
 exact Tc (v:=vf #[vd vq 0,vd vq 0,vd vq 0]) (by simp [results,results177,go_sem]) rfl ⟨by rw [HR.out],(Bb _ _).alloc zR _⟩
theorem zG0 (p:Nat):decide (0<(Vc p).1)=jc p:=by
 by_cases h:jc p=true
 ·rcases BC h with rfl | rfl | rfl | rfl | rfl | rfl | rfl <;> rfl
 ·have h':=h
  simp [jc] at h'
  simp [Vc,h',h]
theorem G3:(prog.info? 5).map (fun i=>(i.zero,i.size,i.bytes))=vD (vD (vd vu 0),1,1):=by kernel_rfl
theorem E3:(prog.info? 22).map (fun i=>(i.zero,i.size,i.bytes))=vD (vD (vd vq 0),1,8):=by kernel_rfl
theorem el_u8:Lr prog 73 5 1 1 (vd vu 0):=by
 obtain ⟨i0,hi,Wj,Zd,Gg⟩:=info_parts G3;exact ⟨underlying73,⟨i0,hi,Wj,Zd,Gg⟩,rfl,zO⟩
theorem WD:Lr prog 28 22 1 8 (vd vq 0):=by
 obtain ⟨i0,hi,Wj,Zd,Gg⟩:=info_parts E3;exact ⟨Bz,⟨i0,hi,Wj,Zd,Gg⟩,rfl,zO⟩
def Kn:Nat -> Nat -> List Nat
 | _,0=>[]
 | n,k+1=>n%256 :: Kn (n / 256) k
theorem lZ:∀ (k n:Nat),Kn n (k+1)=Kn n k++[n / 256^k%256]
 | 0,n=>by simp [Kn]
 | k+1,n=>by
  rw [Kn,lZ k (n / 256),Kn,List.cons_append,Nat.div_div_eq_div_mul,qj,Jj 256]
theorem ZV:∀ (k n:Nat),(Kn n k).length=k
 | 0,_=>rfl
 | k+1,n=>by simp [Kn,ZV k]
theorem yt (b q k:Nat):(⟨b,q,vB⟩:vx).add k=⟨b,q+k,vB⟩:=by
 unfold Addr.add;split
 ·subst_vars;rfl
 ·rfl
theorem RdL.base {α:Type} {R:vv -> List vw -> α -> Prop} {sz:Nat} {w:vv} {A:Option vx} {l:List α} (h:RdL w sz R A l) (db:0<sz) (hl:0<l.length):∃ b q,A=vD ⟨b,q,vB⟩:=by
 obtain ⟨a,b,q,cs,rfl,hq,-⟩:=h.at_ db hl;refine ⟨b,q,?_⟩;rw [<- hq];simp [Addr.add]
theorem RdL.get {α:Type} {R:vv -> List vw -> α -> Prop} {sz:Nat} {w:vv} {b q:Nat} {l:List α} (h:RdL w sz R (vD ⟨b,q,vB⟩) l) {i:Nat} (hi:i<l.length) :
  ∃ cs,cs.length=sz /\ (∀ j,j<sz -> w.cell? ⟨b,q+i*sz+j,vB⟩=cs[j]?) /\ R w cs l[i]:=by
 obtain ⟨a,cs,e,hl,hc,hr⟩:=h i hi
 injection e with e
 subst e;refine ⟨cs,hl,fun j hj=>?_,hr⟩
 rw [<- hc j hj,yt,Nat.add_assoc]
theorem fP {P:Program} {w:vv} {t e:vy} {n:Nat} {cs:Array vw} {v:vw} {i:Nat} (h:P.underlying t=vD (.array n e)) (hs:((isAgg e).run P w)= .ok false w) (hz:((sizeOf e).run P w)= .ok 1 w) (hi:i<n) (hv:cs[i]?=vD v) :
  (Instr.index t (vf cs) (vd vt i)).run P w= .ok v w:=by
 have h1:(0:Int)<=i /\ (i:Int)<n:=by omega
 simp [Instr.index,run_underlying h,asIntOf,h1,hi,hz,hs,hv,part,Result.andThen]
theorem OT {w:vv}:((isAgg 22).run prog w)= .ok false w:=by simp [isAgg,run_underlying Qx]
theorem mX {w:vv}:((sizeOf 22).run prog w)= .ok 1 w:=by
 obtain ⟨i0,hi,Wj,Zd,Gg⟩:=info_parts E3;simp [sizeOf,typeInfo,hi,Zd]
theorem C3 {w:vv} {a b c:vw}:(Instr.index 275 (vf #[a,b,c]) (vd vt 0)).run prog w= .ok a w :=
 fP (i:=0) underlying275 OT mX zO rfl
theorem tq (p:Nat) (w:vv) (hp:p<18446744073709551616) :
  vA prog 91 #[vd vq p] w fun e w'=>e=vn (.bool (jc p)) /\ vz w.1.size w w':=by
 have HO:=zH (zG0 p);have HR:=zH (ZW p w hp);unfold QM at HR;revert HO HR
 generalize (Vc p).1=a;generalize (Vc p).2.1=b;generalize (Vc p).2.2=c;intro HO HR;go_enter func91,ntmps91
 go_wp2_with (go_at_call 177;refine HR.out.mono ?_;rintro e w1 ⟨rfl,hb⟩)
 rw [C3,Result.andThen,Oper.upon_value];go_wp2;go_ret
 exact ⟨by rw [<- HO.out];rfl,hb⟩
def ren264:Go.Shelf.Ren:=⟨fun | 264=>206 | n=>n,fun | 46=>336 | 53=>22 | n=>n,fun n=>n⟩
theorem zDQ:Go.Proofs.Lays.n264 prog ren264:={ mixed:=by kernel_rfl,f264:=by kernel_rfl,t46:=by kernel_rfl,a46:=fun _=>zK,z46:=fun _=>zK,v46:=fun _=>zK,t53:=by kernel_rfl,a53:=fun _=>zK,z53:=fun _=>zK,v53:=fun _=>by kernel_rfl }
theorem P5 (x y:Nat) (w:vv) (hx:x<18446744073709551616) (hy:y<18446744073709551616) :
  vA prog 206 #[vd vq x,vd vq y] w fun e w'=>e=vn (.tuple #[vd vq ((x*y / 18446744073709551616:Nat):Int),vd vq ((x*y%18446744073709551616:Nat):Int)]) /\ w'=w :=
 Any.bits_Mul64 zDQ x y hx hy w
def ren134:Go.Shelf.Ren:=⟨fun | 129=>277 | 134=>260 | n=>n,fun | 3=>3 | 4=>4 | 5=>5 | 9=>9 | 46=>336 | 53=>22 | n=>n,fun n=>n⟩
theorem zDO:Go.Proofs.Lays.n134 prog ren134:={ mixed:=by kernel_rfl,f129:=by kernel_rfl,f134:=by kernel_rfl,t3:=by kernel_rfl,a3:=fun _=>zK,z3:=fun _=>zK,v3:=fun _=>zK,t4:=by kernel_rfl,a4:=fun _=>zK,z4:=fun _=>zK,v4:=fun _=>zK,t5:=by kernel_rfl,a5:=fun _=>zK,z5:=fun _=>zK,v5:=fun _=>zK,t9:=by kernel_rfl,a9:=fun _=>zK,z9:=fun _=>zK,v9:=fun _=>zK,t46:=by kernel_rfl,a46:=fun _=>zK,z46:=fun _=>zK,v46:=fun _=>zK,t53:=by kernel_rfl,a53:=fun _=>zK,z53:=fun _=>zK,v53:=fun _=>by kernel_rfl }
theorem zD3 (x:Int) (w:vv) (h0:0 <= x) (h1:x <= 18446744073709551615) :
  vA prog 260 #[vd vq x] w fun e w'=>e=vn (vd vt (64-(Lib.bitLen x.toNat:Int))) /\ w'=w:=Any.bits_LeadingZeros64 zDO x w h0 h1
def ren125:Go.Shelf.Ren:=⟨fun | 125=>261 | 128=>278 | 129=>277 | n=>n,fun | 3=>3 | 4=>4 | 5=>5 | 9=>9 | 46=>336 | 51=>348 | 53=>22 | n=>n,fun n=>n⟩
theorem zDN:Go.Proofs.Lays.n125 prog ren125:={ mixed:=by kernel_rfl,f125:=by kernel_rfl,f128:=by kernel_rfl,f129:=by kernel_rfl,t3:=by kernel_rfl,a3:=fun _=>zK,z3:=fun _=>zK,v3:=fun _=>zK,t4:=by kernel_rfl,a4:=fun _=>zK,z4:=fun _=>zK,v4:=fun _=>zK,t5:=by kernel_rfl,a5:=fun _=>zK,z5:=fun _=>zK,v5:=fun _=>zK,t9:=by kernel_rfl,a9:=fun _=>zK,z9:=fun _=>zK,v9:=fun _=>zK,t46:=by kernel_rfl,a46:=fun _=>zK,z46:=fun _=>zK,v46:=fun _=>zK,t51:=by kernel_rfl,a51:=fun _=>zK,z51:=fun _=>zK,v51:=fun _=>zK,t53:=by kernel_rfl,a53:=fun _=>zK,z53:=fun _=>zK,v53:=fun _=>by kernel_rfl }
theorem zDR (x:Int) (w:vv) (h0:0 <= x) (h1:x <= 18446744073709551615) :
  vA prog 261 #[vd vq x] w fun e w'=>e=vn (vd vt (Lib.bitLen x.toNat)) /\ w'=w:=Any.bits_Len zDN x w h0 h1
theorem zB1 {u v y so Jv:Nat} (hy:y=so*4294967296+Jv) (hn:Jv<4294967296) (h1:2147483648 <= so) (hu:u<y) (hv:v<4294967296) :
  (u*4294967296+v) / y <= u / so /\ u / so <= 4294967297 /\ (u*4294967296+v) / y<4294967296:=by
 refine ⟨?_,?_,?_⟩
 ·rw [Nat.le_div_iff_mul_le zO]
  have h2:(u*4294967296+v) / y*y <= u*4294967296+v:=Nat.div_mul_le_self _ _;generalize (u*4294967296+v) / y=q at *;have h3:q*y=q*so*4294967296+q*Jv:=by rw [hy,Nat.mul_add,Nat.mul_assoc]
  omega
 ·have:u<(4294967298)*so:=by omega
  have:=(Nat.div_lt_iff_lt_mul (k:=so) zO).2 this;omega
 ·rw [Nat.div_lt_iff_lt_mul zO]
  have:u+1 <= y:=hu;have h:=JD 4294967296 this;rw [Jj 4294967296 y];omega
theorem gZ {u v y so Jv c:Nat} (hy:y=so*4294967296+Jv) (h1:2147483648 <= so) (hc:c*so <= u) :
  (4294967296*(u-c*so)+v<c*Jv)↔(u*4294967296+v) / y<c:=by
 rw [Nat.div_lt_iff_lt_mul zO];have h3:c*y=c*so*4294967296+c*Jv:=by rw [hy,Nat.mul_add,Nat.mul_assoc]
 omega
theorem zB0 {u v y so Jv c:Nat} (hy:y=so*4294967296+Jv) (hn:Jv<4294967296) (h1:2147483648 <= so) (hc:c*so <= u) (hb:c <= 4294967296) (hr:4294967296 <= u-c*so) (hq:(u*4294967296+v) / y<c+1) :
  c=(u*4294967296+v) / y:=by
 have h:=not_congr (gZ (v:=v) hy h1 hc);have h5:c*Jv <= 4294967296*Jv:=JD _ hb;have h6:¬(4294967296*(u-c*so)+v<c*Jv):=by
  have:4294967296*Jv <= 4294967296*4294967295:=Nat.mul_le_mul_left _ zO;have:4294967296*4294967296 <= 4294967296*(u-c*so):=Nat.mul_le_mul_left _ hr;omega
 have:=h.1 h6;omega
theorem zB4 {X y0 s y u v1 v0 q1 r1 q0 r0:Nat} (hy:y=y0*2^s) (py:0<y0) (hU:X*2^s=(u*4294967296+v1)*4294967296+v0)
  (e1:q1=(u*4294967296+v1) / y) (f1:r1=(u*4294967296+v1)%y) (e0:q0=(r1*4294967296+v0) / y) (f0:r0=(r1*4294967296+v0)%y) :
  X / y0=q1*4294967296+q0 /\ X%y0=r0 / 2^s:=by
 have hp:0<2^s:=Nat.pow_pos zO;have hyp:0<y:=by rw [hy];exact Nat.mul_pos py hp
 have a1:(u*4294967296+v1)=y*q1+r1:=by rw [e1,f1,PB]
 have a0:(r1*4294967296+v0)=y*q0+r0:=by rw [e0,f0,PB]
 have hr:r0<y:=by rw [f0];exact Ic _ hyp
 have key:X*2^s=y*(q1*4294967296+q0)+r0:=by
  have e1:y*(q1*4294967296+q0)=y*q1*4294967296+y*q0:=by rw [Nat.mul_add y,Nat.mul_assoc]
  omega
 have hdiv:X / y0=q1*4294967296+q0:=by
  rw [<- Nat.mul_div_mul_right X y0 hp,<- hy,key,Nat.mul_add_div hyp,Nat.div_eq_of_lt hr,ot]
 refine ⟨hdiv,?_⟩;have hm:X*2^s%y=r0:=by rw [key,Nat.mul_add_mod,Om hr]
 rw [hy,Nat.mul_mod_mul_right] at hm;rw [<- hm,Nat.mul_div_cancel _ hp]
theorem zBx {y:Nat} (h0:y≠0) (h:y<18446744073709551616):Lib.bitLen y <= 64 /\ 9223372036854775808 <= y*2^(64-Lib.bitLen y) /\ y*2^(64-Lib.bitLen y)<18446744073709551616:=by
 obtain ⟨h1,h2,h3⟩:=Lib.bitLenAux_bounds 64 y h h0;have h4:Lib.bitLenAux 64 y <= 64:=Lib.bitLenAux_le 64 y 64 h;have e:Lib.bitLen y=Lib.bitLenAux 64 y:=rfl;rw [e];generalize Lib.bitLenAux 64 y=k at *;have e1:2^(k-1)*2^(64-k)=2^63:=by rw [<- Nat.pow_add];congr 1;omega
 have e2:2^k*2^(64-k)=2^64:=by rw [<- Nat.pow_add];congr 1;omega
 refine ⟨h4,?_,?_⟩
 ·have:=JD (2^(64-k)) h2
  omega
 ·have:=(Nat.mul_lt_mul_right (a:=2^(64-k)) (Nat.pow_pos zO)).2 h3
  omega
theorem Kk (a:Nat) (h:a<18446744073709551616):vq.wrap (a:Int)=a:=by rw [Vg];omega
theorem TX (a:Nat):vq.wrap (a:Int)=((a%18446744073709551616:Nat):Int):=by rw [Vg];omega
theorem VS (a b:Nat) (h:a*b<18446744073709551616):vq.wrap ((a:Int)*b)=((a*b:Nat):Int):=by rw [<- Th,Kk _ h]
theorem zA8 (a b:Nat):vq.wrap ((a:Int)*b)=((a*b%18446744073709551616:Nat):Int):=by rw [<- Th,TX]
theorem US (a b:Nat) (h:a+b<18446744073709551616):vq.wrap ((a:Int)+b)=((a+b:Nat):Int):=by rw [<- Vv,Kk _ h]
theorem zIq (a b:Nat):vq.wrap ((a:Int)+b)=(((a+b)%18446744073709551616:Nat):Int):=by rw [<- Vv,TX]
theorem wu (a b:Nat) (h:b <= a) (ha:a<18446744073709551616):vq.wrap ((a:Int)-b)=((a-b:Nat):Int):=by rw [Vg];omega
theorem zIr {X c Z r:Nat} (h:X+c=Z+r) (hr:r<18446744073709551616):vq.wrap ((((X%18446744073709551616+c)%18446744073709551616:Nat):Int)-((Z%18446744073709551616:Nat):Int))=(r:Int):=by
 rw [Vg];omega
theorem zEJ (a b s:Nat) (hs:s <= 64) (ha:a*2^s<18446744073709551616) (hb:b<2^s):bits .or vq ((a*2^s:Nat):Int) (b:Int)=((a*2^s+b:Nat):Int):=by
 have h1:b<18446744073709551616:=by
  rcases Nu a with h0 | h0
  ·subst h0
   have:2^s <= 2^64:=QB zO hs;omega
  ·have:2^s <= a*2^s:=Nat.le_mul_of_pos_left _ h0
   omega
 have h:=bits_or_u64_nat (a*2^s) b ha h1;rw [h,Jj a,Nat.two_pow_add_eq_or_of_lt hb]
theorem L5 (a:Nat) (ha:a<18446744073709551616):bits .and vq (a:Int) 4294967295=((a%4294967296:Nat):Int):=by
 have h:=bits_and_u64_nat a 4294967295 ha zO;have e:a &&& 4294967295=a%4294967296:=Nat.and_two_pow_sub_one_eq_mod a 32;rw [e] at h;exact h
theorem iZ {u v Y a b:Nat} (hY:Y=a*4294967296+b) (hb:b<4294967296) (ha:2147483648 <= a) (hu:u<Y) (hv:v<4294967296) (hY2:Y<18446744073709551616) :
  ∃ Q r k0 k0a rh U1 U2 U3:Nat,(Q=(u*4294967296+v) / Y /\ r=(u*4294967296+v)%Y) /\ r<Y /\ Q<4294967296 /\ Q <= k0 /\ k0 <= 4294967297 /\ (k0*a <= u /\ rh=u-k0*a) /\ rh<4294967296 /\
   (u:Int) / (a:Int)=k0 /\ vq.wrap ((k0:Int)*a)=(k0a:Int) /\ vq.wrap ((u:Int)-k0a)=(rh:Int) /\
   vq.wrap ((u:Int)*4294967296)=(U1:Int) /\ vq.wrap ((U1:Int)+v)=(U2:Int) /\ vq.wrap ((Q:Int)*Y)=(U3:Int) /\ vq.wrap ((U2:Int)-U3)=(r:Int):=by
 obtain ⟨t1,t2,t3⟩:=zB1 hY hb ha hu hv;have h1:=Nat.div_mul_le_self u a;have h2:=Ic u (show 0<a by omega)
 have h3:=PB u a;have h4:=Jj a (u / a);have hr:=Ic (u*4294967296+v) (show 0<Y by omega)
 have h5:=PB (u*4294967296+v) Y;rw [Jj Y] at h5;refine ⟨(u*4294967296+v) / Y,(u*4294967296+v)%Y,u / a,u / a*a,u-u / a*a,u*4294967296%18446744073709551616,(u*4294967296%18446744073709551616+v)%18446744073709551616,(u*4294967296+v) / Y*Y%18446744073709551616,
  ⟨rfl,rfl⟩,hr,t3,t1,t2,⟨h1,rfl⟩,zO,rfl,VS _ _ zO,wu _ _ h1 zO,zA8 u 4294967296,zIq _ _,zA8 _ _,zIr h5.symm zO⟩
theorem F9 {u a k r Q:Nat} (hK:k*a <= u /\ r=u-k*a) (ta:Q<k) (hk:k <= 4294967297) (hr:r<4294967296) (_ha:2147483648 <= a) (haT:a<4294967296) :
  ∃ k1 r1:Nat,vq.wrap ((k:Int)-1)=(k1:Int) /\ vq.wrap ((r:Int)+a)=(r1:Int) /\ k=k1+1 /\ r1=r+a :=
 ⟨k-1,r+a,wu k 1 zO zO,US _ _ zO,zO,rfl⟩
theorem YW {u a k r k1 r1 Q:Nat} (hK:k*a <= u /\ r=u-k*a) (h1:k=k1+1) (h2:r1=r+a) (_hlt:Q<k):k1*a <= u /\ r1=u-k1*a:=by
 subst h1;rw [Nat.add_mul k1 1,Nat.one_mul] at hK;omega
theorem G9 {u v Y a b k r k1 r1 Q:Nat} (hY:Y=a*4294967296+b) (hb:b<4294967296) (ha:2147483648 <= a) (hK:k*a <= u /\ r=u-k*a) (hQ:Q=(u*4294967296+v) / Y) (h1:k=k1+1) (h2:r1=r+a) (ta:Q<k) (hk:k <= 4294967297) (hS:4294967296 <= r1):Q=k1:=by
 obtain ⟨g1,g2⟩:=YW hK h1 h2 ta;rw [g2] at hS;have:=zB0 (v:=v) hY hb ha g1 zO hS zO;omega
theorem tS {u v Y a b k r Q:Nat} (hY:Y=a*4294967296+b) (hb:b<4294967296) (ha:2147483648 <= a) (hv:v<4294967296) (hK:k*a <= u /\ r=u-k*a) (hr:r<4294967296) (hQ:Q=(u*4294967296+v) / Y) (hB:k<4294967296) :
  ∃ kb r2 r3:Nat,vq.wrap ((k:Int)*b)=(kb:Int) /\ vq.wrap (4294967296*(r:Int))=(r2:Int) /\ vq.wrap ((r2:Int)+v)=(r3:Int) /\ (r3<kb↔Q<k):=by
 have h1:k*b <= 4294967295*b:=JD _ zO;have h2:=gZ (v:=v) hY ha hK.1;rw [<- hK.2,<- hQ] at h2;exact ⟨k*b,4294967296*r,4294967296*r+v,VS _ _ zO,VS 4294967296 r zO,US _ _ zO,h2⟩
theorem zB5 {h l y s Y:Nat} (hh:h<y) (hl:l<18446744073709551616) (hY:Y=y*2^s) (hs:s <= 64) (hy:Y<18446744073709551616) :
  h*2^s<18446744073709551616 /\ l / 2^(64-s)<2^s /\ h*2^s+l / 2^(64-s)<Y /\
  (h*18446744073709551616+l)*2^s=((h*2^s+l / 2^(64-s))*4294967296+(l*2^s%18446744073709551616) / 4294967296)*4294967296+(l*2^s%18446744073709551616)%4294967296:=by
 have hp:0<2^s:=Nat.pow_pos zO;have e64:2^(64-s)*2^s=18446744073709551616:=by rw [<- Nat.pow_add,show 64-s+s=64 by omega]
 have h1:h*2^s<Y:=by rw [hY];exact (Nat.mul_lt_mul_right hp).2 hh
 have h2:l / 2^(64-s)<2^s:=by rw [Nat.div_lt_iff_lt_mul (Nat.pow_pos zO),Jj,e64];exact hl
 have h3:l*2^s / 18446744073709551616=l / 2^(64-s):=by rw [<- e64,Nat.mul_div_mul_right _ _ hp]
 have h4:h*2^s+l / 2^(64-s)<Y:=by
  have:(h+1)*2^s <= Y:=by rw [hY];exact JD _ hh
  rw [Nat.add_mul h 1] at this;omega
 refine ⟨zO,h2,h4,?_⟩;rw [<- h3,Nat.add_mul (h*18446744073709551616) l,Nat.mul_right_comm];generalize l*2^s=A;generalize h*2^s=C;omega
theorem mZ (h l y:Nat) (w:vv) (hh:h<y) (hl:l<18446744073709551616) (hy:y<18446744073709551616) :
  vA prog 207 #[vd vq h,vd vq l,vd vq y] w fun e w'=>e=vn (.tuple #[vd vq (((h*18446744073709551616+l) / y:Nat):Int),vd vq (((h*18446744073709551616+l)%y:Nat):Int)]) /\ ∃ k,w'=w.drewN k:=by
 have g1:((y:Int) == 0)=false:=by rw [Je];omega
 by_cases hz:h=0
 ·subst hz
  have g0:decide (y=0)=false:=Ib zO;have p1:(0:Int)<y:=by omega
  have p2:¬((y:Int)=0):=by omega
  have q1:vq.wrap ((l:Int) / (y:Int))=((l / y:Nat):Int):=by
   rw [<- Int.natCast_ediv,Kk];have:=Mx l y;omega
  have HH:=zH hh;clear hh;go_enter func207,ntmps207
  go_wp2_with fail
  go_quiet (fail)
  go_wp2
  go_ret2
  refine ⟨?_,_,rfl⟩;rw [Nat.zero_mul,yf]
  rfl
 ·have g3:((h:Int) == 0)=false:=by rw [Je];omega
  have g2:¬(y <= h):=by omega
  obtain ⟨b0,b1,b2⟩:=zBx (y:=y) zO hy;have HL:=zH (fun w=>zD3 (y:Int) w zO zO)
  rw [Dn] at HL;have hs:(64-(Lib.bitLen y:Int))=((64-Lib.bitLen y:Nat):Int):=by omega
  rw [hs] at HL;clear hs;revert HL b1 b2
  generalize hs:64-Lib.bitLen y=s;have tM:s <= 64:=by omega
  clear hs b0;intro b1 b2 HL;obtain ⟨Y,hY⟩:=zEX (y*2^s);rw [<- hY] at b1 b2;have e1:vq.wrap ((y:Int)*2^s)=(Y:Int):=by
   rw [show ((y:Int)*2^s)=((y*2^s:Nat):Int) by rw [Th,Int.natCast_pow];rfl,<- hY,Kk _ b2]
  obtain ⟨s1,s2,s3,s4⟩:=zB5 hh hl hY tM b2;have e4:vq.wrap ((h:Int)*2^s)=((h*2^s:Nat):Int):=by
   rw [show ((h:Int)*2^s)=((h*2^s:Nat):Int) by rw [Th,Int.natCast_pow];rfl,Kk _ s1]
  have e5:bits .or vq ((h*2^s:Nat):Int) ((l:Int) / 2^(64-s))=((h*2^s+l / 2^(64-s):Nat):Int):=by
   rw [show ((l:Int) / 2^(64-s))=((l / 2^(64-s):Nat):Int) by rw [Int.natCast_ediv,Int.natCast_pow];rfl]
   exact zEJ _ _ _ tM s1 s2
  have e6:vq.wrap ((l:Int)*2^s)=((l*2^s%18446744073709551616:Nat):Int):=by
   rw [show ((l:Int)*2^s)=((l*2^s:Nat):Int) by rw [Th,Int.natCast_pow];rfl,TX]
  have HR:Hid (∀ q1 r1 q0 r0,q1=((h*2^s+l / 2^(64-s))*4294967296+(l*2^s%18446744073709551616) / 4294967296) / Y ->
    r1=((h*2^s+l / 2^(64-s))*4294967296+(l*2^s%18446744073709551616) / 4294967296)%Y -> q0=(r1*4294967296+(l*2^s%18446744073709551616)%4294967296) / Y ->
    r0=(r1*4294967296+(l*2^s%18446744073709551616)%4294967296)%Y -> (h*18446744073709551616+l) / y=q1*4294967296+q0 /\ (h*18446744073709551616+l)%y=r0 / 2^s) :=
   fun q1 r1 q0 r0 f1 f2 f3 f4=>zB4 hY zO s4 f1 f2 f3 f4
  clear s1 s2 s4;revert HR e4 e5 e6 s3
  generalize h*2^s=H;generalize H+l / 2^(64-s)=u;have hL:l*2^s%18446744073709551616<18446744073709551616:=Ic _ zO;revert hL
  generalize l*2^s%18446744073709551616=L;intro hL s3 e4 e5 e6 HR;have e7:(L:Int) / 4294967296=((L / 4294967296:Nat):Int):=rfl;have e8:=L5 L hL;have hc:L / 4294967296<4294967296:=by omega
  have hd:L%4294967296<4294967296:=by omega
  revert e7 e8 hc hd HR
  generalize L / 4294967296=c;generalize L%4294967296=d;intro HR e7 e8 hc hd;have e2:(Y:Int) / 4294967296=((Y / 4294967296:Nat):Int):=rfl;have e3:=L5 Y b2;have fM:2147483648 <= Y / 4294967296:=by omega
  have hb:Y%4294967296<4294967296:=by omega
  have qz:=zH (show Y=Y / 4294967296*4294967296+Y%4294967296 by omega)
  revert e2 e3 fM hb qz
  generalize Y / 4294967296=a;generalize Y%4294967296=b;intro e2 e3 fM hb qz;have HY:=zH hY;clear hY hL;have p1:(0:Int)<a:=by omega
  have p2:¬((a:Int)=0):=by omega
  have haT:a<4294967296:=by have:=qz.out;omega
  obtain ⟨Q1,v1,k0,k0a,rh0,U1,U2,U3,jz,jn,hQ1,Xm,Jh,ie,Uf,x1,x2,x3,x4,x5,x6,x7⟩:=iZ qz.out hb fM s3 hc b2;obtain ⟨Q0,v0,l0,l0a,rh1,V1,V2,V3,xB,hw0,hQ0,hq0,oC,uI,hr0,y1,y2,y3,y4,y5,y6,y7⟩:=iZ qz.out hb fM jn hd b2;have HX:=zH (HR.out Q1 v1 Q0 v0 jz.1 jz.2 xB.1 xB.2);obtain ⟨R,hR⟩:=zEX (v0 / 2^s);obtain ⟨M1,hM1⟩:=zEX (Q1*4294967296);obtain ⟨M,hM⟩:=zEX (M1+Q0);have z1:vq.wrap ((Q1:Int)*4294967296)=(M1:Int):=by rw [hM1];exact VS Q1 4294967296 zO
  have z2:vq.wrap ((M1:Int)+Q0)=(M:Int):=by rw [hM];exact US _ _ zO
  have z3:(v0:Int) / 2^s=(R:Int):=by rw [hR,Int.natCast_ediv,Int.natCast_pow];rfl
  rw [<- hR,<- hM1,<- hM] at HX;clear hR hM1 hM;have Xk:=zH hc;have uC:=zH hd;have Hb:=zH hb;have EG:=zH fM;have HaT:=zH haT;replace hQ1:=zH hQ1;replace hQ0:=zH hQ0;replace Jh:=zH Jh;replace oC:=zH oC;replace Uf:=zH Uf;replace hr0:=zH hr0;replace b1:=zH b1;replace b2:=zH b2;have xk1:vq.wrap (k0:Int)=k0:=Kk _ (zQ Jh.out);have xk0:vq.wrap (l0:Int)=l0:=Kk _ (zQ oC.out);clear hc hd hb fM haT;replace jz:=zH jz;replace xB:=zH xB;replace ie:=zH ie;replace uI:=zH uI;clear HR hl hy s3;rw [HX.out.1,HX.out.2];go_enter func207,ntmps207
  go_upto_block 0 with (go_at_call 260;refine (HL.out _).mono ?_;rintro e w1 ⟨rfl,rfl⟩)
  go_cut [15] (fun s15 wx=>s15=vd vq Q1 /\ w1=wx)
  case first =>
   go_wp2_with fail
   go_loop [15,16] (fun x z=>∃ k r:Nat,Hid (k*a <= u /\ r=u-k*a) /\ Q1 <= k /\ k <= 4294967297 /\ r<4294967296 /\ x=vd vq k /\ z=vd vq r)
    (fun x _=>(intOf x).toNat)
   case atStart=>exact ⟨_,_,ie,Xm,Jh.out,Uf.out,rfl,rfl⟩
   case round =>
    obtain ⟨k,r,HK,i1,i2,i3,rfl,rfl⟩:=hrel;have I2:=zH i2;have I3:=zH i3;clear i2 i3;by_cases ta:Q1<k
    ·obtain ⟨k1,r1,m1,m2,Jh,Uf⟩:=F9 (a:=a) HK.out ta I2.out I3.out EG.out HaT.out
     have HN:=zH (YW HK.out Jh Uf ta);have HF:=zH (fun h1=>G9 qz.out Hb.out EG.out HK.out jz.out.1 Jh Uf ta I2.out h1)
     have Xm:Q1 <= k1:=by omega
     have pC:=zH (show k1 <= 4294967297 by have:=I2.out;omega)
     have hkd:k1<k:=by omega
     clear Jh Uf;by_cases hB:4294967296 <= k
     ·have b1:¬((k:Int)<4294967296):=by omega
      by_cases hS:4294967296 <= r1
      ·have HS:=zH hS
       have lJ:decide ((4294967296:Int)<=r1)=true:=Qb zO;have mJ:decide (4294967296 <= r1)=true:=Qb zO;clear hS;go_wp2_with fail
       go_meet
       exact ⟨by rw [HF.out HS.out],rfl⟩
      ·have HS:=zH hS
       have lJ:decide ((4294967296:Int)<=r1)=false:=Ib zO;have mJ:decide (4294967296 <= r1)=false:=Ib zO;clear hS;go_wp2_with fail
       go_round
       case rel=>exact ⟨k1,r1,HN.out,Xm,pC.out,Nat.not_le.1 HS.out,rfl,rfl⟩
       case measure=>simp [intOf];omega
     ·have b2:(k:Int)<4294967296:=by omega
      obtain ⟨kb,r2,r3,n1,n2,n3,hT⟩:=tS qz.out Hb.out EG.out Xk.out HK.out I3.out jz.out.1 zO;have IJ:r3<kb:=hT.2 ta;clear hT;by_cases hS:4294967296 <= r1
      ·have HS:=zH hS
       have lJ:decide ((4294967296:Int)<=r1)=true:=Qb zO;have mJ:decide (4294967296 <= r1)=true:=Qb zO;clear hS;go_wp2_with fail
       go_meet
       exact ⟨by rw [HF.out HS.out],rfl⟩
      ·have HS:=zH hS
       have lJ:decide ((4294967296:Int)<=r1)=false:=Ib zO;have mJ:decide (4294967296 <= r1)=false:=Ib zO;clear hS;go_wp2_with fail
       go_round
       case rel=>exact ⟨k1,r1,HN.out,Xm,pC.out,Nat.not_le.1 HS.out,rfl,rfl⟩
       case measure=>simp [intOf];omega
    ·have e:k=Q1:=by omega
     obtain ⟨kb,r2,r3,n1,n2,n3,hT⟩:=tS qz.out Hb.out EG.out Xk.out HK.out I3.out jz.out.1 (zQ hQ1.out);have IJ:¬(r3<kb):=fun h=>ta (hT.1 h)
     have HE:=zH e;have hB:(k:Int)<4294967296:=by have:=hQ1.out;omega
     have d1:decide ((4294967296:Int)<=k)=false:=Ib zO;have d2:decide (4294967296 <= k)=false:=Ib zO;have f1:decide ((r3:Int)<kb)=false:=Ib zO;have f2:decide (r3<kb)=false:=Ib IJ;clear hT e IJ ta;go_wp2_with fail
     go_meet
     exact ⟨by rw [HE.out],rfl⟩
  case rest =>
   obtain ⟨rfl,rfl⟩:=hcut
   go_upto_block 2 with fail
   go_cut [18] (fun s15 wx=>s15=vd vq Q0 /\ w1=wx)
   case first =>
    go_wp2_with fail
    go_loop [18,16] (fun x z=>∃ k r:Nat,Hid (k*a <= v1 /\ r=v1-k*a) /\ Q0 <= k /\ k <= 4294967297 /\ r<4294967296 /\ x=vd vq k /\ z=vd vq r)
     (fun x _=>(intOf x).toNat)
    case atStart=>exact ⟨_,_,uI,hq0,oC.out,hr0.out,rfl,rfl⟩
    case round =>
     obtain ⟨k,r,HK,i1,i2,i3,rfl,rfl⟩:=hrel;have I2:=zH i2;have I3:=zH i3;clear i2 i3;by_cases ta:Q0<k
     ·obtain ⟨k1,r1,m1,m2,Jh,Uf⟩:=F9 (a:=a) HK.out ta I2.out I3.out EG.out HaT.out
      have HN:=zH (YW HK.out Jh Uf ta);have HF:=zH (fun h1=>G9 qz.out Hb.out EG.out HK.out xB.out.1 Jh Uf ta I2.out h1)
      have Xm:Q0 <= k1:=by omega
      have pC:=zH (show k1 <= 4294967297 by have:=I2.out;omega)
      have hkd:k1<k:=by omega
      clear Jh Uf;by_cases hB:4294967296 <= k
      ·have b1:¬((k:Int)<4294967296):=by omega
       by_cases hS:4294967296 <= r1
       ·have HS:=zH hS
        have lJ:decide ((4294967296:Int)<=r1)=true:=Qb zO;have mJ:decide (4294967296 <= r1)=true:=Qb zO;clear hS;go_wp2_with fail
        go_meet
        exact ⟨by rw [HF.out HS.out],rfl⟩
       ·have HS:=zH hS
        have lJ:decide ((4294967296:Int)<=r1)=false:=Ib zO;have mJ:decide (4294967296 <= r1)=false:=Ib zO;clear hS;go_wp2_with fail
        go_round
        case rel=>exact ⟨k1,r1,HN.out,Xm,pC.out,Nat.not_le.1 HS.out,rfl,rfl⟩
        case measure=>simp [intOf];omega
      ·have b2:(k:Int)<4294967296:=by omega
       obtain ⟨kb,r2,r3,n1,n2,n3,hT⟩:=tS qz.out Hb.out EG.out uC.out HK.out I3.out xB.out.1 zO;have IJ:r3<kb:=hT.2 ta;clear hT;by_cases hS:4294967296 <= r1
       ·have HS:=zH hS
        have lJ:decide ((4294967296:Int)<=r1)=true:=Qb zO;have mJ:decide (4294967296 <= r1)=true:=Qb zO;clear hS;go_wp2_with fail
        go_meet
        exact ⟨by rw [HF.out HS.out],rfl⟩
       ·have HS:=zH hS
        have lJ:decide ((4294967296:Int)<=r1)=false:=Ib zO;have mJ:decide (4294967296 <= r1)=false:=Ib zO;clear hS;go_wp2_with fail
        go_round
        case rel=>exact ⟨k1,r1,HN.out,Xm,pC.out,Nat.not_le.1 HS.out,rfl,rfl⟩
        case measure=>simp [intOf];omega
     ·have e:k=Q0:=by omega
      obtain ⟨kb,r2,r3,n1,n2,n3,hT⟩:=tS qz.out Hb.out EG.out uC.out HK.out I3.out xB.out.1 (zQ hQ0.out);have IJ:¬(r3<kb):=fun h=>ta (hT.1 h)
      have HE:=zH e;have hB:(k:Int)<4294967296:=by have:=hQ0.out;omega
      have d1:decide ((4294967296:Int)<=k)=false:=Ib zO;have d2:decide (4294967296 <= k)=false:=Ib zO;have f1:decide ((r3:Int)<kb)=false:=Ib zO;have f2:decide (r3<kb)=false:=Ib IJ;clear hT e IJ ta;go_wp2_with fail
      go_meet
      exact ⟨by rw [HE.out],rfl⟩
   case rest =>
    obtain ⟨rfl,rfl⟩:=hcut;go_wp2_with fail
    go_ret2
    exact ⟨rfl,0,rfl⟩
structure Wd (R:vv -> vv -> Prop):Prop where
 refl:∀ w,R w w
 trans:∀ a b c,R a b -> R b c -> R a c
theorem zM {R:vv -> vv -> Prop} (M:Wd R) {a b c:vv} (h:R a b) (k:R b c):R a c:=M.trans _ _ _ h k
def yc (w w':vv):Prop:=vz w.1.size w w'
theorem ya:Wd yc:=⟨fun w=>Bb _ w,fun _ _ _ h k=>pa h k⟩
def Kj (g:Nat) (w w':vv):Prop:=w.grownBy w' (vD g)
theorem Gd (g:Nat):Wd (Kj g):=⟨fun w=>Mg w _,fun _ _ _ h k=>RG h k fun _ e=>.inl e⟩
section
variable {P:Program} {ops:Array Oper} {Q:Exit -> Act -> vv -> Prop} {R:vv -> vv -> Prop}
theorem QS {S S':vv -> Prop} (hS:∀ w,S' w -> S w):∀ (fuel:Nat) (Ea:Array Bool) (a:Act) (w:vv),wpAnyH P .any ops Q S' fuel Ea a w -> wpAnyH P .any ops Q S fuel Ea a w
 | 0,_,_,_,h=>h
 | fuel+1,_,_,_,h=>⟨h.1,fun i hi=>wpOp_mono (fun a' w' h'=>⟨hS _ h'.1,QS hS fuel _ a' w' h'.2⟩) (h.2 i hi)⟩
def rn (P:Program) (ops:Array Oper) (Q:Exit -> Act -> vv -> Prop) (R:vv -> vv -> Prop) (fuel:Nat) (Ea:Array Bool) (a:Act) (w:vv):Prop :=
 wpAnyH P .any ops Q (R w) fuel Ea a w
theorem zP {id:Nat} {a:Act} {w:vv} {l:List Oper} (R:vv -> vv -> Prop) (hm:P.follows .mixedOrders=true) (h:rn P l.toArray Q R l.length (List.replicate l.length false).toArray a w.drew):(Code.region id l.toArray true).wp P Q a w:=by
 refine wp_region_held (S:=R w.drew) hm ?_;have e:Array.replicate l.toArray.size false=(List.replicate l.length false).toArray:=by simp
 rw [e]
 simpa [rn] using h
theorem OX {fuel:Nat} {Ea:Array Bool} {a:Act} {w:vv} (hr:Region.ready .any ops Ea=[]) (h:Q .normal a w):rn P ops Q R fuel Ea a w:=wpAnyH_done hr h fuel
end
section
variable {P:Program} {l:List Oper} {Q:Exit -> Act -> vv -> Prop} {R:vv -> vv -> Prop}
theorem qo (i:Nat) {v:vw} {fuel:Nat} {Ea:Array Bool} {a:Act} {w:vv} (M:Wd R) (ta:i<l.length)
  (hs:Region.noSelect l.toArray=true) (hf:Region.free .any l.toArray Ea i=true) (hr:(Region.ready .any l.toArray Ea).contains i=true)
  (hQ:∀ c a w,Q (.panic c) (a.put l[i].dst v) w -> Q (.panic c) a w)
  (hy:(Region.wanted l[i] (yielded l.toArray a.tmps)=true /\ ∀ w',R w w' -> (execOp a.eval l[i]).run P w'= .ok (.value v) w') \/ (Region.wanted l[i] (yielded l.toArray a.tmps)=false /\ v=undef))
  (h:rn P l.toArray Q R fuel (Ea.setIfInBounds i true) (a.put l[i].dst v) w):rn P l.toArray Q R (fuel+1) Ea a w :=
 wpAnyH_take (i:=i) (oi:=l[i]) (by simp [ta]) hs hf hr hQ hy (M.refl w) h
theorem zA4 (i:Nat) {fuel:Nat} {Ea:Array Bool} {a:Act} {w:vv} (M:Wd R) (ta:i<l.length) (hr:Region.ready .any l.toArray Ea=[i])
  (hw:Region.wanted l[i] (yielded l.toArray a.tmps)=true)
  (h:l[i].wp P a w (fun a' w'=>R w w' /\ rn P l.toArray Q R fuel (Ea.setIfInBounds i true) a' w') Q):rn P l.toArray Q R (fuel+1) Ea a w:=by
 refine ⟨fun h0=>absurd (hr ▸ h0) zS,fun j hj=>?_⟩
 rw [hr,zz] at hj;subst hj;unfold wpOp;have hi:l.toArray[j]?=vD l[j]:=by simp [ta]
 simp only [hi,hw,if_true];exact .inl (Oper.wp_mono (fun a' w' h'=>⟨h'.1,QS (fun w2 h2=>M.trans _ _ _ h'.1 h2) _ _ _ _ h'.2⟩) h)
theorem zA2 (i:Nat) {f:FuncId} {vals:Array vw} {fuel:Nat} {Ea:Array Bool} {a:Act} {w:vv} (M:Wd R) (ta:i<l.length) (hr:Region.ready .any l.toArray Ea=[i])
  (hw:Region.wanted l[i] (yielded l.toArray a.tmps)=true)
  (h:vA P f vals w fun e w'=>∃ v,e=vn v /\ R w w' /\ rn P l.toArray Q R fuel (Ea.setIfInBounds i true) (a.put l[i].dst v) w')
  (Rc:∀ w,(execOp a.eval l[i]).run P w= .ok (.enter f vals) w):rn P l.toArray Q R (fuel+1) Ea a w:=by
 refine zA4 i M ta hr hw ?_;unfold Oper.wp;rw [Rc w];refine Calls.mono h ?_;rintro e w' ⟨v,rfl,h1,h2⟩;exact ⟨h1,h2⟩
end
section
variable {P:Program} {l:List Oper} {Q:Exit -> Act -> vv -> Prop} {R:vv -> vv -> Prop}
def WC (P:Program) (l:List Oper) (Q:Exit -> Act -> vv -> Prop) (R:vv -> vv -> Prop) (i:Nat) (fuel:Nat) (Ea:Array Bool) (a:Act) (w:vv):Prop :=
 ∃ (h:i<l.length),Region.wanted l[i] (yielded l.toArray a.tmps)=true /\ l[i].wp P a w (fun a' w'=>R w w' /\ rn P l.toArray Q R fuel (Ea.setIfInBounds i true) a' w') Q
theorem RS {i fuel:Nat} {Ea:Array Bool} {a:Act} {w:vv} (M:Wd R) (h:WC P l Q R i fuel Ea a w):wpOp P l.toArray Q i (fun a' w'=>R w w' /\ wpAnyH P .any l.toArray Q (R w) fuel (Ea.setIfInBounds i true) a' w') a w:=by
 obtain ⟨ta,hw,h⟩:=h;unfold wpOp;have hi:l.toArray[i]?=vD l[i]:=by simp [ta]
 simp only [hi,hw,if_true];exact .inl (Oper.wp_mono (fun a' w' h'=>⟨h'.1,QS (fun w2 h2=>M.trans _ _ _ h'.1 h2) _ _ _ _ h'.2⟩) h)
theorem zA5 (i j:Nat) {fuel:Nat} {Ea:Array Bool} {a:Act} {w:vv} (M:Wd R) (hr:Region.ready .any l.toArray Ea=[i,j])
  (h1:WC P l Q R i fuel Ea a w) (h2:WC P l Q R j fuel Ea a w):rn P l.toArray Q R (fuel+1) Ea a w:=by
 refine ⟨fun h0=>absurd (hr ▸ h0) zS,fun k hk=>?_⟩
 rw [hr] at hk;simp at hk
 rcases hk with rfl | rfl
 ·exact RS M h1
 ·exact RS M h2
theorem zA3 (i:Nat) {fuel:Nat} {Ea:Array Bool} {a:Act} {w:vv} (M:Wd R) (hr:Region.ready .any l.toArray Ea=[i])
  (h1:WC P l Q R i fuel Ea a w):rn P l.toArray Q R (fuel+1) Ea a w:=by
 refine ⟨fun h0=>absurd (hr ▸ h0) zS,fun k hk=>?_⟩
 rw [hr] at hk;simp at hk
 subst hk;exact RS M h1
theorem PX {i:Nat} {f:FuncId} {vals:Array vw} {fuel:Nat} {Ea:Array Bool} {a:Act} {w:vv} (ta:i<l.length) (hw:Region.wanted l[i] (yielded l.toArray a.tmps)=true)
  (h:vA P f vals w fun e w'=>∃ v,e=vn v /\ R w w' /\ rn P l.toArray Q R fuel (Ea.setIfInBounds i true) (a.put l[i].dst v) w')
  (Rc:∀ w,(execOp a.eval l[i]).run P w= .ok (.enter f vals) w):WC P l Q R i fuel Ea a w:=by
 refine ⟨ta,hw,?_⟩;unfold Oper.wp;rw [Rc w];refine Calls.mono h ?_;rintro e w' ⟨v,rfl,h1,h2⟩;exact ⟨h1,h2⟩
end
theorem Fv {P:Program} {o:Oper} {ops:Array Oper} {a:Act} {v:vw} {R:vv -> vv -> Prop} {w:vv} (hw:Region.wanted o (yielded ops a.tmps)=true) (h:∀ w',R w w' -> (execOp a.eval o).run P w'= .ok (.value v) w') :
  (Region.wanted o (yielded ops a.tmps)=true /\ ∀ w',R w w' -> (execOp a.eval o).run P w'= .ok (.value v) w') \/ (Region.wanted o (yielded ops a.tmps)=false /\ v=undef):=.inl ⟨hw,h⟩
theorem zG9 {P:Program} {w:vv} {t e:vy} {size bytes:Nat} {z:vw} (E:Lr P t e size bytes z) (A:Option vx) (n c h:Nat) (hc:h <= c) :
  (Instr.slice t (ve A n c) vB (vD (vd vt h)) vB).run P w= .ok (ve A h c) w:=by
 obtain ⟨ht,⟨i,hi,hz,hs,ey⟩,hzs,db⟩:=E;have he:P.elem t=e:=by simp [Program.elem,ht]
 rw [run_slice_h (P:=P) w t A n c (by rw [he];exact ht) vt (h:Int) zO zO,he]
 cases A <;> simp [sizeOf,typeInfo,hi,sliced,Result.andThen,Addr.add]
def FF (l:List Oper) (hs:List Nat):List Nat -> Array Bool -> Bool
 | [],Ea=>(Region.ready .any l.toArray Ea).isEmpty
 | i :: rest,Ea=>decide (i<l.length)&&Region.free .any l.toArray Ea i&&(Region.ready .any l.toArray Ea).contains i &&
   (!hs.contains i||Region.ready .any l.toArray Ea == [i])&&FF l hs rest (Ea.setIfInBounds i true)
def po (P:Program) (l:List Oper) (hs:List Nat) (Q:Exit -> Act -> vv -> Prop) (R:vv -> vv -> Prop) (order:List Nat) (Ea:Array Bool) (a:Act) (w:vv):Prop :=
 Region.noSelect l.toArray=true -> FF l hs order Ea=true -> rn P l.toArray Q R order.length Ea a w
section
variable {P:Program} {l:List Oper} {hs:List Nat} {Q:Exit -> Act -> vv -> Prop} {R:vv -> vv -> Prop} {rest:List Nat} {i:Nat} {o:Oper} {Ea:Array Bool} {a:Act} {w:vv}
theorem Yc {id:Nat} (R:vv -> vv -> Prop) (hs order:List Nat) (hm:P.follows .mixedOrders=true) (jb:(Region.noSelect l.toArray&&order.length == l.length&&FF l hs order (List.replicate l.length false).toArray)=true)
  (h:po P l hs Q R order (List.replicate l.length false).toArray a w.drew):(Code.region id l.toArray true).wp P Q a w:=by
 simp only [Pd,Qk] at jb;refine zP R hm ?_;rw [<- jb.1.2];have:=h jb.1.1 jb.2
 rwa [jb.1.2] at this |-
theorem aG (M:Wd R) {order:List Nat} (h:∀ W,R w W -> po P l hs Q R order Ea a W):po P l hs Q R order Ea a w:=h w (M.refl w)
theorem Ec (h:Q .normal a w):po P l hs Q R [] Ea a w:=fun _ jb=>OX (by simpa [FF] using jb) h
theorem MO (h:FF l hs (i :: rest) Ea=true):i<l.length /\ Region.free .any l.toArray Ea i=true /\ (Region.ready .any l.toArray Ea).contains i=true /\
  (hs.contains i=true -> Region.ready .any l.toArray Ea=[i]) /\ FF l hs rest (Ea.setIfInBounds i true)=true:=by
 unfold FF at h;simp only [Pd,ZA,uo,Ru,Qk] at h;obtain ⟨⟨⟨⟨h1,h2⟩,h3⟩,h4⟩,h5⟩:=h;refine ⟨h1,h2,h3,fun h6=>?_,h5⟩
 rcases h4 with h4 | h4
 ·rw [h6] at h4;cases h4
 ·exact h4
theorem nw {h:i<l.length} (ho:l[i]?=vD o):l[i]=o:=by
 rw [Dc h] at ho
 injection ho
theorem nI {v:vw} (M:Wd R) (ho:l[i]?=vD o) (hw:Region.wanted o (yielded l.toArray a.tmps)=true) (hQ:∀ c a w,Q (.panic c) (a.put o.dst v) w -> Q (.panic c) a w)
  (Rc:∀ w',R w w' -> (execOp a.eval o).run P w'= .ok (.value v) w') (h:po P l hs Q R rest (Ea.setIfInBounds i true) (a.put o.dst v) w):po P l hs Q R (i :: rest) Ea a w:=by
 intro hn jb;obtain ⟨h1,h2,h3,-,h5⟩:=MO jb;have e:=nw (h:=h1) ho;subst e;exact qo i M h1 hn h2 h3 hQ (.inl ⟨hw,Rc⟩) (h hn h5)
theorem oI (M:Wd R) (ho:l[i]?=vD o) (hw:Region.wanted o (yielded l.toArray a.tmps)=false) (hQ:∀ c a w,Q (.panic c) (a.put o.dst undef) w -> Q (.panic c) a w)
  (h:po P l hs Q R rest (Ea.setIfInBounds i true) (a.put o.dst undef) w):po P l hs Q R (i :: rest) Ea a w:=by
 intro hn jb;obtain ⟨h1,h2,h3,-,h5⟩:=MO jb;have e:=nw (h:=h1) ho;subst e;exact qo i M h1 hn h2 h3 hQ (.inr ⟨hw,rfl⟩) (h hn h5)
theorem Bd (M:Wd R) (hh:hs.contains i=true) (ho:l[i]?=vD o) (hw:Region.wanted o (yielded l.toArray a.tmps)=true)
  (h:o.wp P a w (fun a' w'=>R w w' /\ po P l hs Q R rest (Ea.setIfInBounds i true) a' w') Q):po P l hs Q R (i :: rest) Ea a w:=by
 intro hn jb;obtain ⟨h1,-,-,h4,h5⟩:=MO jb;have e:=nw (h:=h1) ho;subst e;exact zA4 i M h1 (h4 hh) hw (Oper.wp_mono (fun a' w' h'=>⟨h'.1,h'.2 hn h5⟩) h)
theorem mI {f:FuncId} {vals:Array vw} (M:Wd R) (hh:hs.contains i=true) (ho:l[i]?=vD o) (hw:Region.wanted o (yielded l.toArray a.tmps)=true)
  (Rc:∀ w,(execOp a.eval o).run P w= .ok (.enter f vals) w)
  (h:vA P f vals w fun e w'=>∃ v,e=vn v /\ R w w' /\ po P l hs Q R rest (Ea.setIfInBounds i true) (a.put o.dst v) w'):po P l hs Q R (i :: rest) Ea a w:=by
 refine Bd M hh ho hw ?_;unfold Oper.wp;rw [Rc w];refine Calls.mono h ?_;rintro e w' ⟨v,rfl,h1,h2⟩;exact ⟨h1,h2⟩
theorem pd {f:FuncId} {vals:Array vw} (M:Wd R) (hh:hs.contains i=true) (ho:l[i]?=vD o) (hw:Region.wanted o (yielded l.toArray a.tmps)=true) (h:vA P f vals w fun e w'=>∃ v,e=vn v /\ R w w' /\ po P l hs Q R rest (Ea.setIfInBounds i true) (a.put o.dst v) w') (Rc:∀ w,(execOp a.eval o).run P w= .ok (.enter f vals) w:=by (intro _;go_simp <;> rfl)):po P l hs Q R (i :: rest) Ea a w :=
 mI M hh ho hw Rc h
end
theorem wM {w w':vv} (h:yc w.drew w'):∀ b o,b<w.1.size -> w'.cell? ⟨b,o,vB⟩=w.cell? ⟨b,o,vB⟩:=fun b o hb=>Below.cell h (p:=⟨b,o,vB⟩) hb
theorem R6 {g:Nat} {w w':vv} (h:Kj g w w'):∀ b o,b<w.1.size -> b≠g -> w'.cell? ⟨b,o,vB⟩=w.cell? ⟨b,o,vB⟩:=fun b o hb Ua=>by
 have:=h.block b hb (fun e=>Ua (by injection e))
 simp only [World.cell?,this]
theorem zEE {g:Nat} {w w':vv} (h:Kj g w.drew w'):∀ b o,b<w.1.size -> b≠g -> w'.cell? ⟨b,o,vB⟩=w.cell? ⟨b,o,vB⟩:=fun b o hb Ua=>R6 h b o hb Ua
def wN (g i:Nat) (w w':vv):Prop:=w.grownBy w' (vD g) /\ ∀ t cs,Blk w g t cs -> ∃ v,Blk w' g t (cs.setIfInBounds i v)
theorem du (g i:Nat):Wd (wN g i):=by
 refine ⟨fun w=>⟨Mg w _,fun t cs h=>⟨cs.getD i undef,?_⟩⟩,fun a b c h k=>⟨RG h.1 k.1 fun _ e=>.inl e,fun t cs hb=>?_⟩⟩
 ·have e:cs.setIfInBounds i (cs.getD i undef)=cs:=by
   apply Array.ext
   ·simp
   ·intro j h1 h2
    rw [Array.getElem_setIfInBounds]
    ·split
     ·subst_vars
      simp [h2]
     ·rfl
  rw [e];exact h
 ·obtain ⟨v,hv⟩:=h.2 t cs hb
  obtain ⟨u,hu⟩:=k.2 t _ hv;exact ⟨u,by simpa using hu⟩
theorem Q6 {g i:Nat} (w:vv) (v:vw):wN g i w (w.setCell ⟨g,i,vB⟩ v):=⟨tj (p:=⟨g,i,vB⟩) (Mg w _) (.inl rfl) v,fun _ _ hb=>⟨v,hb.set_ i v⟩⟩
theorem O6 {g i:Nat} {w w':vv} (h:wN g i w.drew w'):∀ b o,b<w.1.size -> b≠g -> w'.cell? ⟨b,o,vB⟩=w.cell? ⟨b,o,vB⟩:=fun b o hb Ua=>R6 (w:=w.drew) h.1 b o hb Ua
theorem P6 {g i:Nat} {w w':vv} {t:vy} {cs:Array vw} (h:wN g i w.drew w') (k:Blk w g t cs):∀ j,j≠i -> w'.cell? ⟨g,j,vB⟩=cs[j]?:=fun j hj=>by
 obtain ⟨v,hv⟩:=h.2 t cs k;rw [hv.cell j,Array.getElem?_setIfInBounds,mb (fun e=>hj e.symm)]
theorem Lf {w c:vv} (h:Hid (c=w.drew)):vz w.1.size w c:=by rw [h.out];exact (Bb _ _).drew
def Imp (a b:Prop):Prop:=a -> b
theorem Imp.via {a b c:Prop} (f:b -> c) (h:Imp a b):Imp a c:=fun x=>f (h x)
theorem Imp.rfl' {a:Prop}:Imp a a:=id
theorem zPU {a b:Prop} (h:a) (s:Imp a b:=by
 (try simp only [vF,zLa,zLb,zLc])
 exact Imp.rfl'):b:=s h
theorem Lk {a b:Prop} (h:a) (s:Imp a b:=by
 (repeat ((first | (apply Imp.via (oI (Gd _) rfl rfl (fun _ _ _ h=>h))) | (apply Imp.via (nI (v:=?_) (Gd _) rfl rfl (fun _ _ _ h=>h) ?hr);case hr=>(intro w' hR;(first | have Yq:=zEE ((Gd _).trans _ _ _ da hR) | skip);go_simp;try with_reducible rfl)));simp only [vF,zLa,zLb,zLc]))
 exact Imp.rfl'):b:=s h
theorem dc {a b:Prop} (h:a) (s:Imp a b:=by
 (repeat ((first | (apply Imp.via (oI (ya) rfl rfl (fun _ _ _ h=>h))) | (apply Imp.via (nI (v:=?_) (ya) rfl rfl (fun _ _ _ h=>h) ?hr);case hr=>(intro w' hR;(first | have Yq:=wM ((ya).trans _ _ _ da hR) | skip);go_simp;try with_reducible rfl)));simp only [vF,zLa,zLb,zLc]))
 exact Imp.rfl'):b:=s h
theorem tc {p:Nat} (h:jc p=true):17 <= p /\ p<18446744073709551616:=by
 rcases BC h with rfl | rfl | rfl | rfl | rfl | rfl | rfl <;> omega
theorem GC (p a b:Nat) (w:vv) (hp:jc p=true) :
  vA prog 35 #[vd vq p,vd vq a,vd vq b] w fun e w'=>e=vn (vd vq ((a+b)%p:Nat)) /\ vz w.1.size w w':=by
 obtain ⟨h1,h2⟩:=tc hp;have HO:=zH hp;have p1:(0:Int)<p:=by omega
 have p2:¬((p:Int)=0):=by omega
 have ha:a%p<p:=Ic _ zO;have hb:b%p<p:=Ic _ zO;have HE:=zH (Nat.add_mod a b p);have e1:(a:Int)%(p:Int)=((a%p:Nat):Int):=rfl;have e2:(b:Int)%(p:Int)=((b%p:Nat):Int):=rfl;rw [HE.out];clear HE;revert e1 e2 ha hb
 generalize a%p=x;generalize b%p=y;intro ha hb e1 e2;have e3:vq.wrap ((p:Int)-y)=((p-y:Nat):Int):=wu p y zO h2;have hz:p-y <= p:=by omega
 have Gg:p-y=p-y:=rfl;obtain ⟨z,hzz⟩:=zEX (p-y);rw [<- hzz] at e3;have HX:=zH (show z <= x /\ x+y<36893488147419103232 -> True from fun _=>trivial)
 by_cases hc:z <= x
 ·have e4:vq.wrap ((x:Int)-z)=((x-z:Nat):Int):=wu x z hc zO
  obtain ⟨r,hr⟩:=zEX (x-z);rw [<- hr] at e4;have HR:=zH (show (x+y)%p=r by rw [hr,hzz,Nat.mod_eq_sub_mod zO,Om zO];omega)
  have d1:decide ((z:Int)<=x)=true:=Qb zO;clear hr hzz hz Gg h1 h2 ha hb hp;rw [HR.out];go_enter func35,ntmps35
  go_wp2_with (go_at_call 91;refine (tq p _ (tc HO.out).2).mono ?_;rintro e w1 ⟨rfl,La⟩;rw [HO.out])
  go_quiet (fail)
  go_wp2;go_ret
  exact ⟨rfl,IN La _⟩
 ·have e4:vq.wrap ((x:Int)+y)=((x+y:Nat):Int):=US x y zO
  obtain ⟨r,hr⟩:=zEX (x+y);rw [<- hr] at e4;have HR:=zH (show (x+y)%p=r by rw [hr,Om zO])
  have d1:decide ((z:Int)<=x)=false:=Ib zO;clear hr hzz hz Gg h1 h2 ha hb hp;rw [HR.out];go_enter func35,ntmps35
  go_wp2_with (go_at_call 91;refine (tq p _ (tc HO.out).2).mono ?_;rintro e w1 ⟨rfl,La⟩;rw [HO.out])
  go_quiet (fail)
  go_wp2;go_ret
  exact ⟨rfl,IN La _⟩
theorem RA (p a b:Nat) (w:vv) (hp:jc p=true) :
  vA prog 122 #[vd vq p,vd vq a,vd vq b] w fun e w'=>e=vn (vd vq (a*b%p:Nat)) /\ vz w.1.size w w':=by
 obtain ⟨h1,h2⟩:=tc hp;have HO:=zH hp;have p1:(0:Int)<p:=by omega
 have p2:¬((p:Int)=0):=by omega
 have p3:¬(p=0):=by omega
 have ha:a%p<p:=Ic _ zO;have hb:b%p<p:=Ic _ zO;have e1:(a:Int)%(p:Int)=((a%p:Nat):Int):=rfl;have e2:(b:Int)%(p:Int)=((b%p:Nat):Int):=rfl;have e3:(a:Int).tmod (p:Int)=((a%p:Nat):Int):=rfl;have e4:(b:Int).tmod (p:Int)=((b%p:Nat):Int):=rfl;rw [Nat.mul_mod a b p];revert e1 e2 e3 e4 ha hb
 generalize a%p=x;generalize b%p=y;intro ha hb e1 e2 e3 e4;have HX:=zH (show x<18446744073709551616 /\ y<18446744073709551616 by omega)
 have BE:x*y / 18446744073709551616<p:=by
  have:x*y <= p*18446744073709551615:=Nat.mul_le_mul zO zO;rw [Nat.div_lt_iff_lt_mul zO];omega
 have Gw:x*y%18446744073709551616<18446744073709551616:=Ic _ zO;have Lz:=PB (x*y) 18446744073709551616;rw [Jj 18446744073709551616] at Lz;have HM:=zH (fun w=>P5 x y w HX.out.1 HX.out.2)
 revert BE Gw Lz HM
 generalize x*y / 18446744073709551616=hi;generalize x*y%18446744073709551616=lo;intro BE Gw Lz HM;have HD:=zH (fun w=>mZ hi lo p w BE Gw h2)
 rw [Lz] at HD;clear h1 h2 ha hb BE Gw Lz hp;revert HD
 generalize x*y / p=q;generalize x*y%p=r;intro HD;go_enter func122,ntmps122
 go_wp2_with (go_at_call 91;refine (tq p _ (tc HO.out).2).mono ?_;rintro e w1 ⟨rfl,La⟩;rw [HO.out])
 refine Yc (yc) [6] [0,1,2,3,4,5,6,7,8,9,10,11] zK zK ?_;refine aG (ya) ?_;intro Wc da;refine dc ?_;refine pd ya rfl rfl rfl ((HM.out _).mono ?_);rintro e w2 ⟨rfl,rfl⟩;refine ⟨_,rfl,ya.refl _,?_⟩;replace da:=zM ya da (ya.refl _);refine zPU ?_;refine dc ?_;refine Ec ?_;go_wp2_with (go_at_call 207;refine (HD.out _).mono ?_;rintro e w3 ⟨rfl,k,rfl⟩)
 go_ret
 exact ⟨rfl,IN (pa La.drew da) _⟩
def ye (bars:List Nat) (Ea:Array Bool):Bool:=bars.any fun b=>Ea.getD b true
theorem WH {bars:List Nat} {Ea:Array Bool} {j:Nat} (h:j ∉ bars):ye bars (Ea.setIfInBounds j true)=ye bars Ea:=by
 unfold ye
 induction bars with
 | nil=>rfl
 | cons b r ih =>
  simp only [Ij,not_or] at h;simp only [List.any_cons];rw [getD_set_ne true h.1,ih h.2]
section
variable {P:Program} {ops:Array Oper} {Q:Exit -> Act -> vv -> Prop} {bars:List Nat} {S:vv -> Prop}
def YF (P:Program) (ops:Array Oper) (Q:Exit -> Act -> vv -> Prop) (bars:List Nat) (S:vv -> Prop):Nat -> Array Bool -> Act -> vv -> Prop
 | 0,Ea,a,w=>Region.ready .any ops Ea=[] /\ Q .normal a w
 | fuel+1,Ea,a,w =>
  (Region.ready .any ops Ea=[] -> Q .normal a w) /\
  ∀ i∈Region.ready .any ops Ea,wpOp P ops Q i (fun a' w'=>(ye bars (Ea.setIfInBounds i true)=false -> S w') /\ YF P ops Q bars S fuel (Ea.setIfInBounds i true) a' w') a w
theorem JX:∀ (fuel:Nat) (Ea:Array Bool) (a:Act) (w:vv),YF P ops Q bars S fuel Ea a w -> wpAny P .any ops Q fuel Ea a w
 | 0,_,_,_,h=>h
 | fuel+1,_,_,_,h=>⟨h.1,fun i hi=>wpOp_mono (fun a' w' h'=>JX fuel _ a' w' h'.2) (h.2 i hi)⟩
theorem IX {S':vv -> Prop} (hS:∀ w,S' w -> S w):∀ (fuel:Nat) (Ea:Array Bool) (a:Act) (w:vv),YF P ops Q bars S' fuel Ea a w -> YF P ops Q bars S fuel Ea a w
 | 0,_,_,_,h=>h
 | fuel+1,_,_,_,h=>⟨h.1,fun i hi=>wpOp_mono (fun a' w' h'=>⟨fun hp=>hS _ (h'.1 hp),IX hS fuel _ a' w' h'.2⟩) (h.2 i hi)⟩
theorem QO {Ea:Array Bool} {i:Nat} (h:ye bars Ea=true):ye bars (Ea.setIfInBounds i true)=true:=by
 unfold ye at *;rw [List.any_eq_true] at *;obtain ⟨b,hb,h1⟩:=h;refine ⟨b,hb,?_⟩;by_cases e:i=b
 ·subst e
  rcases Mm i Ea.size with h2 | h2
  ·simp [h2]
  ·simp [Nat.not_lt.2 h2]
 ·rw [getD_set_ne true e];exact h1
theorem GX {S':vv -> Prop}:∀ (fuel:Nat) (Ea:Array Bool) (a:Act) (w:vv),ye bars Ea=true -> YF P ops Q bars S' fuel Ea a w -> YF P ops Q bars S fuel Ea a w
 | 0,_,_,_,_,h=>h
 | fuel+1,_,_,_,hp,h=>⟨h.1,fun i hi=>wpOp_mono (fun a' w' h'=>⟨fun mA=>(by rw [QO hp] at mA;cases mA),GX fuel _ a' w' (QO hp) h'.2⟩) (h.2 i hi)⟩
theorem pL {T:vv -> Prop} {i:Nat} {oi:Oper} {v:vw} (hi:ops[i]?=vD oi) (Se:∀ (j:Nat) (o:Oper) cs b,ops[j]?=vD o -> o.op≠.select cs b)
  (hQ:∀ c a w,Q (.panic c) (a.put oi.dst v) w -> Q (.panic c) a w) (Bw:i ∉ bars)
  (hT:(∀ w,T w) \/ ((∀ w,S w -> T w) /\ ∀ b∈bars,∀ ob,ops[b]?=vD ob -> ∃ e∈ob.after,Region.binds .any e=true /\ e.on=i)) :
  ∀ (fuel:Nat) (Ea:Array Bool) (a:Act) (w:vv),((∀ w,T w) \/ ye bars Ea=false) ->
   (∀ j oj,ops[j]?=vD oj -> j≠i -> Ea.getD j true=false -> (∀ e∈oj.after,Region.binds .any e=true -> e.on≠i) -> oi.apart ops oj=true) ->
   i∈Region.ready .any ops Ea -> YieldsIf P ops T oi v a -> T w -> (ye bars Ea=false -> S w) ->
   YF P ops Q bars S fuel (Ea.setIfInBounds i true) (a.put oi.dst v) w -> YF P ops Q bars S (fuel+1) Ea a w:=by
 intro fuel
 induction fuel with
 | zero =>
  intro Ea a w Og _ hr hy hTw hS H;refine ⟨fun h=>(by rw [h] at hr;cases hr),fun j hj=>?_⟩
  by_cases yj:j=i
  ·subst yj;exact hy.wpOp hi hTw ⟨fun hp=>hS (by rwa [WH Bw] at hp),H⟩
  ·have:=ready_mono hj yj
   rw [H.1] at this;cases this
 | succ fuel ih =>
  intro Ea a w Og gH hr hy hTw hS H;refine ⟨fun h=>(by rw [h] at hr;cases hr),fun j hj=>?_⟩
  by_cases yj:j=i
  ·subst yj;exact hy.wpOp hi hTw ⟨fun hp=>hS (by rwa [WH Bw] at hp),H⟩
  ·have h1:=H.2 j (ready_mono hj yj)
   obtain ⟨pH,oj,mi,Dg⟩:=mem_ready.1 hj;have gK:∀ e∈oj.after,Region.binds .any e=true -> e.on≠i:=fun e he hb heq=>by
    have h1:=Dg e he hb;have h0:=(mem_ready.1 hr).1;rw [heq] at h1;rcases Mm i Ea.size with h' | h'
    ·simp [h'] at h0 h1;rw [h0] at h1;cases h1
    ·simp [Array.getElem?_eq_none h'] at h1
   have h2:=wpOp_putIf mi (gH j oj mi yj pH gK) (fun cs b=>Se i oi cs b hi) (fun cs b=>Se j oj cs b mi) hQ hy h1
   have pO:∀ k ok,ops[k]?=vD ok -> k≠i -> (Ea.setIfInBounds j true).getD k true=false ->
     (∀ e∈ok.after,Region.binds .any e=true -> e.on≠i) -> oi.apart ops ok=true:=fun k ok hk hki FH Iw=>by
    refine gH k ok hk hki ?_ Iw;by_cases oH:j=k
    ·subst oH;exact pH
    ·rw [getD_set_ne true oH] at FH;exact FH
   have my:ye bars ((Ea.setIfInBounds i true).setIfInBounds j true)=ye bars (Ea.setIfInBounds j true):=by
    rw [Array.setIfInBounds_comm _ _ (Ne.symm yj),WH Bw]
   refine wpOp_mono (fun a' w' h3=>?_) h2
   have Zx:ye bars (Ea.setIfInBounds j true)=false -> S w':=fun hp=>h3.2.1 (by rw [my];exact hp)
   have T0:((∀ w,T w) \/ ye bars (Ea.setIfInBounds j true)=false) /\ T w':=by
    rcases hT with hT | ⟨hST,SU⟩
    ·exact ⟨.inl hT,hT w'⟩
    ·rcases Og with Og | Og
     ·exact ⟨.inl Og,Og w'⟩
     ·have hjb:j ∉ bars:=fun hb=>by
       obtain ⟨e,he,se,hei⟩:=SU j hb oj mi;exact gK e he se hei
      have mA:ye bars (Ea.setIfInBounds j true)=false:=by rw [WH hjb];exact Og
      exact ⟨.inr mA,hST _ (Zx mA)⟩
   refine ⟨Zx,ih (Ea.setIfInBounds j true) a' w' T0.1 pO (ready_mono hr (Ne.symm yj)) h3.1 T0.2 Zx ?_⟩;rw [Array.setIfInBounds_comm _ _ yj];exact h3.2.2
end
def wpB (P:Program) (ops:Array Oper) (Q:Exit -> Act -> vv -> Prop) (bars:List Nat) (R:vv -> vv -> Prop) (fuel:Nat) (Ea:Array Bool) (a:Act) (w:vv):Prop :=
 YF P ops Q bars (R w) fuel Ea a w
def aN (l:List Oper) (b i:Nat):Bool:=match l[b]? with | some o=>o.after.any fun e=>Region.binds .any e&&e.on == i | none=>true
def IA (l:List Oper) (hs bars:List Nat):List Nat -> Array Bool -> Bool
 | [],Ea=>(Region.ready .any l.toArray Ea).isEmpty
 | i :: rest,Ea=>decide (i<l.length)&&(Region.ready .any l.toArray Ea).contains i &&
   (if hs.contains i then Region.ready .any l.toArray Ea == [i] else Region.free .any l.toArray Ea i&&!bars.contains i&&(ye bars Ea||bars.all fun b=>aN l b i))&&IA l hs bars rest (Ea.setIfInBounds i true)
def Iy (P:Program) (l:List Oper) (hs bars:List Nat) (Q:Exit -> Act -> vv -> Prop) (R:vv -> vv -> Prop) (order:List Nat) (Ea:Array Bool) (a:Act) (w:vv):Prop :=
 Region.noSelect l.toArray=true -> IA l hs bars order Ea=true -> wpB P l.toArray Q bars R order.length Ea a w
section
variable {P:Program} {l:List Oper} {hs bars:List Nat} {Q:Exit -> Act -> vv -> Prop} {R:vv -> vv -> Prop} {rest:List Nat} {i:Nat} {o:Oper} {Ea:Array Bool} {a:Act} {w:vv}
theorem XC {id:Nat} (R:vv -> vv -> Prop) (hs bars order:List Nat) (hm:P.follows .mixedOrders=true) (jb:(Region.noSelect l.toArray&&order.length == l.length&&IA l hs bars order (List.replicate l.length false).toArray)=true)
  (h:Iy P l hs bars Q R order (List.replicate l.length false).toArray a w.drew):(Code.region id l.toArray true).wp P Q a w:=by
 simp only [Pd,Qk] at jb;refine wp_region_any hm (JX (bars:=bars) (S:=R w.drew) _ _ _ _ ?_);have h2:=h jb.1.1 jb.2;have e:Array.replicate l.toArray.size false=(List.replicate l.length false).toArray:=by simp
 rw [jb.1.2] at h2;rw [e]
 simpa [wpB] using h2
theorem aD (M:Wd R) {order:List Nat} (h:∀ W,Hid (W=w) -> R w W -> Iy P l hs bars Q R order Ea a W):Iy P l hs bars Q R order Ea a w:=h w rfl (M.refl w)
theorem YC (h:Q .normal a w):Iy P l hs bars Q R [] Ea a w:=fun _ jb=>⟨by simpa [IA] using jb,h⟩
theorem IM (h:IA l hs bars (i :: rest) Ea=true):i<l.length /\ (Region.ready .any l.toArray Ea).contains i=true /\
  (hs.contains i=true -> Region.ready .any l.toArray Ea=[i]) /\
  (hs.contains i=false -> Region.free .any l.toArray Ea i=true /\ i ∉ bars /\ (ye bars Ea=true \/ ∀ b∈bars,aN l b i=true)) /\ IA l hs bars rest (Ea.setIfInBounds i true)=true:=by
 unfold IA at h;simp only [Pd,Ru] at h;obtain ⟨⟨⟨h1,h2⟩,h3⟩,h4⟩:=h;refine ⟨h1,h2,fun h6=>?_,fun h6=>?_,h4⟩
 ·rw [Gb h6] at h3
  simpa using h3
 ·rw [mb (by rw [h6];exact Bool.noConfusion)] at h3
  simp only [Pd,uo,ZA,Wg] at h3;refine ⟨h3.1.1,fun hm=>?_,h3.2⟩
  have:=h3.1.2;simp [hm] at this
theorem EX {b:Nat} {ob:Oper} (hb:l.toArray[b]?=vD ob) (h:aN l b i=true):∃ e∈ob.after,Region.binds .any e=true /\ e.on=i:=by
 unfold aN at h;rw [im] at hb;rw [hb] at h;simp only [Array.any_eq_true] at h;obtain ⟨k,hk,he⟩:=h;simp only [Pd,Qk] at he;exact ⟨ob.after[k],Array.getElem_mem hk,he.1,he.2⟩
theorem QX {v:vw} (M:Wd R) (hh:hs.contains i=false) (ho:l[i]?=vD o) (hw:Region.wanted o (yielded l.toArray a.tmps)=true) (hQ:∀ c a w,Q (.panic c) (a.put o.dst v) w -> Q (.panic c) a w)
  (Rc:∀ w',(ye bars Ea=false -> R w w') -> (execOp a.eval o).run P w'= .ok (.value v) w') (h:Iy P l hs bars Q R rest (Ea.setIfInBounds i true) (a.put o.dst v) w):Iy P l hs bars Q R (i :: rest) Ea a w:=by
 intro hn jb;obtain ⟨h1,h2,-,h4,h5⟩:=IM jb;obtain ⟨f1,f2,f3⟩:=h4 hh;have Vk:l.toArray[i]?=vD o:=by rw [im];exact ho
 cases hp:ye bars Ea
 ·refine pL (T:=R w) Vk (Nr hn) hQ f2 (.inr ⟨fun _ h=>h,fun b hb ob hob=>EX hob ?_⟩) _ _ _ _ (.inr hp) (Region.free_spec Vk f1) (by simpa using h2) (.inl ⟨hw,fun w' hR=>Rc w' fun _=>hR⟩) (M.refl w) (fun _=>M.refl w) (h hn h5)
  rcases f3 with f3 | f3
  ·rw [hp] at f3;cases f3
  ·exact f3 b hb
 ·exact pL (T:=fun _=>True) Vk (Nr hn) hQ f2 (.inl fun _=>trivial) _ _ _ _ (.inl fun _=>trivial) (Region.free_spec Vk f1) (by simpa using h2) (.inl ⟨hw,fun w' _=>Rc w' fun h=>by rw [hp] at h;cases h⟩) trivial (fun _=>M.refl w) (h hn h5)
theorem RX (M:Wd R) (hh:hs.contains i=false) (ho:l[i]?=vD o) (hw:Region.wanted o (yielded l.toArray a.tmps)=false) (hQ:∀ c a w,Q (.panic c) (a.put o.dst undef) w -> Q (.panic c) a w)
  (h:Iy P l hs bars Q R rest (Ea.setIfInBounds i true) (a.put o.dst undef) w):Iy P l hs bars Q R (i :: rest) Ea a w:=by
 intro hn jb;obtain ⟨h1,h2,-,h4,h5⟩:=IM jb;obtain ⟨f1,f2,f3⟩:=h4 hh;have Vk:l.toArray[i]?=vD o:=by rw [im];exact ho
 exact pL (T:=fun _=>True) Vk (Nr hn) hQ f2 (.inl fun _=>trivial) _ _ _ _ (.inl fun _=>trivial) (Region.free_spec Vk f1) (by simpa using h2) (.inr ⟨hw,rfl⟩) trivial (fun _=>M.refl w) (h hn h5)
theorem yi {a b:Prop} (h:a) (s:Imp a b:=by
 (repeat ((first | (apply Imp.via (RX (ya) rfl rfl rfl (fun _ _ _ h=>h))) | (apply Imp.via (QX (v:=?_) (ya) rfl rfl rfl (fun _ _ _ h=>h) ?hr);case hr=>(intro w' hR;(first | have Yq:=wM ((ya).trans _ _ _ da (hR rfl)) | skip);clear hR;go_simp;try with_reducible rfl)));simp only [vF,zLa,zLb,zLc]))
 exact Imp.rfl'):b:=s h
theorem Jk (M:Wd R) (hh:hs.contains i=true) (ho:l[i]?=vD o) (hw:Region.wanted o (yielded l.toArray a.tmps)=true)
  (h:o.wp P a w (fun a' w'=>(ye bars (Ea.setIfInBounds i true)=false -> R w w') /\ Iy P l hs bars Q R rest (Ea.setIfInBounds i true) a' w') Q):Iy P l hs bars Q R (i :: rest) Ea a w:=by
 intro hn jb;obtain ⟨h1,h2,h3,-,h5⟩:=IM jb;have hr:=h3 hh;refine ⟨fun h0=>absurd (hr ▸ h0) zS,fun j hj=>?_⟩
 rw [hr,zz] at hj;subst hj;unfold wpOp;have hi:l.toArray[j]?=vD o:=by rw [im];exact ho
 simp only [hi,hw,if_true];refine .inl (Oper.wp_mono (fun a' w' h'=>⟨h'.1,?_⟩) h)
 have hk:=h'.2 hn h5;cases hp:ye bars (Ea.setIfInBounds j true)
 ·exact IX (fun w2 h2=>M.trans _ _ _ (h'.1 hp) h2) _ _ _ _ hk
 ·exact GX _ _ _ _ hp hk
theorem Ej {f:FuncId} {vals:Array vw} (M:Wd R) (hh:hs.contains i=true) (ho:l[i]?=vD o) (hw:Region.wanted o (yielded l.toArray a.tmps)=true)
  (Rc:∀ w,(execOp a.eval o).run P w= .ok (.enter f vals) w)
  (h:vA P f vals w fun e w'=>∃ v,e=vn v /\ (ye bars (Ea.setIfInBounds i true)=false -> R w w') /\ Iy P l hs bars Q R rest (Ea.setIfInBounds i true) (a.put o.dst v) w'):Iy P l hs bars Q R (i :: rest) Ea a w:=by
 refine Jk M hh ho hw ?_;unfold Oper.wp;rw [Rc w];refine Calls.mono h ?_;rintro e w' ⟨v,rfl,h1,h2⟩;exact ⟨h1,h2⟩
end
def Gp (g N:Nat) (w w':vv):Prop:=w'.os=w.os /\ w'.tape=w.tape /\ w'.output=w.output /\ w.1.size <= w'.1.size /\ ∀ b,b<N -> b≠g -> w'.1[b]?=w.1[b]?
theorem Tb (g N:Nat):Wd (Gp g N):=⟨fun _=>⟨rfl,rfl,rfl,zR,fun _ _ _=>rfl⟩,fun _ _ _ h k=>⟨k.1.trans h.1,k.2.1.trans h.2.1,k.2.2.1.trans h.2.2.1,Cb h.2.2.2.1 k.2.2.2.1,fun b h1 h2=>(k.2.2.2.2 b h1 h2).trans (h.2.2.2.2 b h1 h2)⟩⟩
theorem I0 {g N:Nat} {w w':vv} (h:Gp g N w.drew w'):∀ b o,b<N -> b≠g -> w'.cell? ⟨b,o,vB⟩=w.cell? ⟨b,o,vB⟩:=fun b o hb Ua=>by
 have:=h.2.2.2.2 b hb Ua;simp only [World.cell?,this]
 rfl
theorem yu {a b:Prop} (h:a) (s:Imp a b:=by
 (repeat ((first | (apply Imp.via (oI (Tb _ _) rfl rfl (fun _ _ _ h=>h))) | (apply Imp.via (nI (v:=?_) (Tb _ _) rfl rfl (fun _ _ _ h=>h) ?hr);case hr=>(intro w' hR;(first | have Yq:=I0 ((Tb _ _).trans _ _ _ da hR) | skip);go_simp;try with_reducible rfl)));simp only [vF,zLa,zLb,zLc]))
 exact Imp.rfl'):b:=s h
theorem Tl {a b:Prop} (h:a) (s:Imp a b:=by
 (repeat ((first | (apply Imp.via (RX (Tb _ _) rfl rfl rfl (fun _ _ _ h=>h))) | (apply Imp.via (QX (v:=?_) (Tb _ _) rfl rfl rfl (fun _ _ _ h=>h) ?hr);case hr=>(intro w' hR;(first | have Yq:=I0 ((Tb _ _).trans _ _ _ da (hR rfl)) | skip);clear hR;go_simp;try with_reducible rfl)));simp only [vF,zLa,zLb,zLc]))
 exact Imp.rfl'):b:=s h
theorem Mf {g N B:Nat} {w w':vv} (h:vz B w w') (hN:N <= B):Gp g N w w':=⟨h.os,h.tape,h.output,h.size,fun b hb _=>h.block b zO⟩
theorem YL {g N:Nat} {w w':vv} (h:w.grownBy w' (vD g)) (hN:N <= w.1.size):Gp g N w w':=⟨h.os,h.tape,h.output,h.size,fun b hb Ua=>h.block b zO (fun e=>Ua (Pb e))⟩
theorem Xx {g N:Nat} {w w':vv} {row:Option Nat} (h:w.grownBy w' row) (hN:N <= w.1.size) (hr:∀ k,row=vD k -> N <= k):Gp g N w w':=⟨h.os,h.tape,h.output,h.size,fun b hb _=>h.block b zO (fun e=>by have:=hr b e.symm;omega)⟩
theorem Pk {B:Nat} {w0 w1 w2:vv} (h1:vz B w0 w1) (h2:vz w1.1.size w1 w2) (hB:B <= w1.1.size:=by omega):vz B w0 w2:=h1.trans (h2.mono hB)
theorem IY {w w':vv} {p:vx} {v:vw} (h:vz w.drew.1.size w.drew w') (hc:w.cell? p=vD v):w'.cell? p=vD v:=(Below.cell h (Af _ _ hc)).trans hc
theorem ig (w:vv) (t1 t2:vy) (pc Hc:Array vw) :
  Blk ((w.alloc (.cells pc t1)).alloc (.cells Hc t2)) w.1.size t1 pc /\ Blk ((w.alloc (.cells pc t1)).alloc (.cells Hc t2)) (w.1.size+1) t2 Hc /\ vz w.1.size w ((w.alloc (.cells pc t1)).alloc (.cells Hc t2)) /\ ((w.alloc (.cells pc t1)).alloc (.cells Hc t2)).1.size=w.1.size+2:=by
 refine ⟨(Blk.new w t1 pc).alloc _,?_,((Bb _ w).alloc zR _).alloc zS _,zS⟩;have:=Blk.new (w.alloc (.cells pc t1)) t2 Hc
 simpa using this
theorem Tp (w:vv) (t1 t2 t3:vy) (pc Hc Jd:Array vw) :
  Blk (((w.alloc (.cells pc t1)).alloc (.cells Hc t2)).alloc (.cells Jd t3)) w.1.size t1 pc /\ Blk (((w.alloc (.cells pc t1)).alloc (.cells Hc t2)).alloc (.cells Jd t3)) (w.1.size+1) t2 Hc /\ Blk (((w.alloc (.cells pc t1)).alloc (.cells Hc t2)).alloc (.cells Jd t3)) (w.1.size+1+1) t3 Jd /\
   vz w.1.size w (((w.alloc (.cells pc t1)).alloc (.cells Hc t2)).alloc (.cells Jd t3)) /\ (((w.alloc (.cells pc t1)).alloc (.cells Hc t2)).alloc (.cells Jd t3)).1.size=w.1.size+3:=by
 obtain ⟨h1,h2,h3,h4⟩:=ig w t1 t2 pc Hc;refine ⟨h1.alloc _,h2.alloc _,?_,h3.alloc h3.size _,zS⟩;have:=Blk.new ((w.alloc (.cells pc t1)).alloc (.cells Hc t2)) t3 Jd
 rwa [h4] at this
theorem zp {w:vv} {g:Nat} {t:vy} {y0 y1 y2:vw} (k:Blk w g t #[y0,y1,y2]) (x0 x1 x2:vw):Blk (((w.setCell ⟨g,0,vB⟩ x0).setCell ⟨g,1,vB⟩ x1).setCell ⟨g,2,vB⟩ x2) g t #[x0,x1,x2]:=by
 have h:=(((k.set_ 0 x0).set_ 1 x1).set_ 2 x2)
 simpa using h
theorem Cp {w:vv} {g:Nat} (x0 x1 x2:vw):w.grownBy (((w.setCell ⟨g,0,vB⟩ x0).setCell ⟨g,1,vB⟩ x1).setCell ⟨g,2,vB⟩ x2) (vD g):=by
 iterate 3 refine tj ?_ (.inl rfl) _
 exact Mg w _
theorem Po {g B:Nat} {a w:vv} (h:a.grownBy w (vD g)) (hB:B <= a.1.size) (hg:B <= g):vz B a w:=ND h B hB fun _ e=>by have:=Pb e;omega
theorem Qe {g:Nat} {a b c:vv} (h:vz a.1.size a b) (k:b.grownBy c (vD g)) (e:a.1.size <= g:=by omega):vz a.1.size a c:=h.trans (Po k h.size e)
section
variable {P:Program} {ops:Array Oper} {Q:Exit -> Act -> vv -> Prop} {R:vv -> vv -> Prop}
def PureRun (P:Program) (R:vv -> vv -> Prop) (W:vv) (ρ:Operand -> vw) (o:Oper) (v:vw):Prop :=
 (∀ w,R W w -> (execOp ρ o).run P w= .ok (.value v) w) \/ ∃ f vals,(∀ w,(execOp ρ o).run P w= .ok (.enter f vals) w) /\ ∀ w,R W w -> vA P f vals w fun e w'=>e=vn v /\ R w w'
def PureAt (P:Program) (ops:Array Oper) (R:vv -> vv -> Prop) (W:vv) (o:Oper) (v:vw) (a:Act):Prop :=
 (Region.wanted o (yielded ops a.tmps)=true /\ PureRun P R W a.eval o v) \/ (Region.wanted o (yielded ops a.tmps)=false /\ v=undef)
theorem PureRun.later (M:Wd R) {W W':vv} {ρ:Operand -> vw} {o:Oper} {v:vw} (h:PureRun P R W ρ o v) (hR:R W W'):PureRun P R W' ρ o v:=by
 rcases h with h | ⟨f,vals,h1,h2⟩
 ·exact .inl fun w hw=>h w (M.trans _ _ _ hR hw)
 ·exact .inr ⟨f,vals,h1,fun w hw=>h2 w (M.trans _ _ _ hR hw)⟩
theorem PureAt.later (M:Wd R) {W W':vv} {o:Oper} {v:vw} {a:Act} (h:PureAt P ops R W o v a) (hR:R W W'):PureAt P ops R W' o v a :=
 h.imp (fun h=>⟨h.1,h.2.later M hR⟩) id
theorem PureAt.same {W:vv} {o:Oper} {v:vw} {a a':Act} (h:PureAt P ops R W o v a) (he:execOp a'.eval o=execOp a.eval o) (hw:Region.wanted o (yielded ops a'.tmps)=Region.wanted o (yielded ops a.tmps)):PureAt P ops R W o v a':=by
 unfold PureAt PureRun at *;rw [he,hw];exact h
theorem PureAt.op {W w:vv} {i:Nat} {o:Oper} {v:vw} {a:Act} {K:Act -> vv -> Prop} (M:Wd R) (hi:ops[i]?=vD o) (h:PureAt P ops R W o v a) (hR:R W w) (hK:∀ w',R w w' -> K (a.put o.dst v) w'):wpOp P ops Q i K a w:=by
 unfold wpOp;simp only [hi];rcases h with ⟨hw,h | ⟨f,vals,h1,h2⟩⟩ | ⟨hw,rfl⟩
 ·simp only [hw,if_true,Oper.wp,h w hR,Oper.upon]
  exact .inl (hK w (M.refl w))
 ·simp only [hw,if_true,Oper.wp,h1 w,Oper.upon]
  refine .inl (Calls.mono (h2 w hR) ?_);rintro e w' ⟨rfl,h3⟩;exact hK w' h3
 ·simp only [hw,Bool.false_eq_true,if_false]
  exact hK w (M.refl w)
theorem zIj {Pi:Act -> Prop} {j:Nat} {oi oj:Oper} {v:vw} (hj:ops[j]?=vD oj) (Yu:oi.apart ops oj=true)
  (rA:∀ cs b,oi.op≠.select cs b) (rC:∀ cs b,oj.op≠.select cs b)
  (hPi:∀ a a',Pi a -> execOp a'.eval oi=execOp a.eval oi -> Region.wanted oi (yielded ops a'.tmps)=Region.wanted oi (yielded ops a.tmps) -> Pi a')
  (hQ:∀ c a w,Q (.panic c) (a.put oi.dst v) w -> Q (.panic c) a w) {K:Act -> vv -> Prop} {a:Act} {w:vv}
  (hy:Pi a) (h:wpOp P ops Q j K (a.put oi.dst v) w):wpOp P ops Q j (fun a' w'=>Pi a' /\ K (a'.put oi.dst v) w') a w:=by
 obtain ⟨h1,h2,h3⟩:=Oper.apart_spec Yu;have keep:∀ u,Pi (a.put oj.dst u):=fun u=>hPi a _ hy (execOp_put oi rA a oj.dst u h3) (wanted_put oi a oj.dst u h3)
 unfold wpOp at *;simp only [hj] at *;rw [wanted_put oj a oi.dst v h1] at h;split
 ·rename_i hw
  simp only [hw,if_true] at h;rcases h with h | ⟨S0,hlets⟩
  case inr=>exact .inr ⟨by unfold Oper.asks at *;rw [execOp_put oj rC a oi.dst v h1] at S0;exact S0,hlets⟩
  refine .inl ?_;unfold Oper.wp at *;rw [execOp_put oj rC a oi.dst v h1] at h;generalize (execOp a.eval oj).run P w=r at *;rcases r with ⟨n,w'⟩ | ⟨x,w'⟩
  ·cases n <;> simp only [Oper.upon] at h |-
   case value u=>exact ⟨keep u,by rw [<- Act.put_comm a v u h2];exact h⟩
   case skip=>exact ⟨keep _,by rw [<- Act.put_comm a v undef h2];exact h⟩
   case defer d =>
    refine ⟨hPi _ _ (hPi a { a with defers:=d :: a.defers } hy rfl rfl) (execOp_put oi rA _ oj.dst _ h3) (wanted_put oi _ oj.dst _ h3),?_⟩
    rw [<- Act.put_comm _ v undef h2,<- Act.put_defers];exact h
   case enter f args =>
    refine Calls.mono h fun e Dp he=>?_
    rcases e with u | c | _
    ·exact ⟨keep u,by rw [<- Act.put_comm a v u h2];exact he⟩
    ·exact hQ _ _ _ he
    ·exact he
   case row row args=>exact Rows.mono h fun u Dp he=>⟨keep u,by rw [<- Act.put_comm a v u h2];exact he⟩
  ·cases x <;> simp only [Oper.upon] at h |-
   case panic u=>exact hQ _ _ _ h
 ·rename_i hw
  simp only [hw] at h;exact ⟨keep _,by rw [<- Act.put_comm a v undef h2];exact h⟩
def May (bars:List Nat) (R:vv -> vv -> Prop) (Ea:Array Bool) (w w1:vv):Prop:=if ye bars Ea=true then w1=w else R w w1
theorem May.refl (M:Wd R) (bars:List Nat) (Ea:Array Bool) (w:vv):May bars R Ea w w:=by
 unfold May;split
 ·rfl
 ·exact M.refl w
theorem May.of {bars:List Nat} {Ea:Array Bool} {w w1:vv} (hp:ye bars Ea=false) (h:R w w1):May bars R Ea w w1:=by
 unfold May;rw [mb (by rw [hp];exact Bool.noConfusion)]
 exact h
theorem May.out {bars:List Nat} {Ea:Array Bool} {w w1:vv} (hp:ye bars Ea=false) (h:May bars R Ea w w1):R w w1:=by
 unfold May at h
 rwa [mb (by rw [hp];exact Bool.noConfusion)] at h
theorem May.eq {bars:List Nat} {Ea:Array Bool} {w w1:vv} (hp:ye bars Ea=true) (h:May bars R Ea w w1):w1=w:=by
 unfold May at h
 rwa [Gb hp] at h
def ZF (P:Program) (ops:Array Oper) (Q:Exit -> Act -> vv -> Prop) (bars:List Nat) (R:vv -> vv -> Prop):Nat -> Array Bool -> Act -> vv -> Prop
 | 0,Ea,a,w=>Region.ready .any ops Ea=[] /\ ∀ w1,May bars R Ea w w1 -> Q .normal a w1
 | fuel+1,Ea,a,w=>∀ w1,May bars R Ea w w1 -> (Region.ready .any ops Ea=[] -> Q .normal a w1) /\
   ∀ i∈Region.ready .any ops Ea,wpOp P ops Q i (fun a' w'=>(ye bars (Ea.setIfInBounds i true)=false -> R w1 w') /\ ZF P ops Q bars R fuel (Ea.setIfInBounds i true) a' w') a w1
theorem zAZ (M:Wd R) {bars:List Nat}:∀ (fuel:Nat) (Ea:Array Bool) (a:Act) (w w2:vv),ye bars Ea=false -> R w w2 -> ZF P ops Q bars R fuel Ea a w -> ZF P ops Q bars R fuel Ea a w2
 | 0,_,_,_,_,hp,hR,h=>⟨h.1,fun w1 h1=>h.2 w1 (.of hp (M.trans _ _ _ hR (h1.out hp)))⟩
 | _+1,_,_,_,_,hp,hR,h=>fun w1 h1=>h w1 (.of hp (M.trans _ _ _ hR (h1.out hp)))
theorem zAW (M:Wd R) {bars:List Nat}:∀ (fuel:Nat) (Ea:Array Bool) (a:Act) (w:vv),ZF P ops Q bars R fuel Ea a w -> wpAny P .any ops Q fuel Ea a w
 | 0,_,_,w,h=>⟨h.1,h.2 w (.refl M _ _ w)⟩
 | fuel+1,_,_,w,h=>⟨(h w (.refl M _ _ w)).1,fun i hi=>wpOp_mono (fun a' w' h'=>zAW M fuel _ a' w' h'.2) ((h w (.refl M _ _ w)).2 i hi)⟩
theorem zIc (M:Wd R) {bars:List Nat} {i:Nat} {oi:Oper} {v:vw} (hi:ops[i]?=vD oi) (Se:∀ (j:Nat) (o:Oper) cs b,ops[j]?=vD o -> o.op≠.select cs b)
  (hQ:∀ c a w,Q (.panic c) (a.put oi.dst v) w -> Q (.panic c) a w) (Bw:i ∉ bars) (SU:∀ b∈bars,∀ ob,ops[b]?=vD ob -> ∃ e∈ob.after,Region.binds .any e=true /\ e.on=i) :
  ∀ (fuel:Nat) (Ea:Array Bool) (a:Act) (w:vv),ye bars Ea=false ->
   (∀ j oj,ops[j]?=vD oj -> j≠i -> Ea.getD j true=false -> (∀ e∈oj.after,Region.binds .any e=true -> e.on≠i) -> oi.apart ops oj=true) ->
   i∈Region.ready .any ops Ea -> PureAt P ops R w oi v a -> ZF P ops Q bars R fuel (Ea.setIfInBounds i true) (a.put oi.dst v) w -> ZF P ops Q bars R (fuel+1) Ea a w:=by
 intro fuel
 induction fuel with
 | zero =>
  intro Ea a w hp _ hr hy H w1 jn;have mA:ye bars (Ea.setIfInBounds i true)=false:=by rw [WH Bw];exact hp
  have FJ:=jn.out hp;refine ⟨fun h=>(by rw [h] at hr;cases hr),fun j hj=>?_⟩
  by_cases yj:j=i
  ·subst yj
   exact hy.op M hi FJ fun w' h'=>⟨fun _=>h',zAZ M _ _ _ _ _ mA (M.trans _ _ _ FJ h') H⟩
  ·have:=ready_mono hj yj
   rw [H.1] at this;cases this
 | succ fuel ih =>
  intro Ea a w hp gH hr hy H w1 jn;have mA:ye bars (Ea.setIfInBounds i true)=false:=by rw [WH Bw];exact hp
  have FJ:=jn.out hp;refine ⟨fun h=>(by rw [h] at hr;cases hr),fun j hj=>?_⟩
  by_cases yj:j=i
  ·subst yj
   exact hy.op M hi FJ fun w' h'=>⟨fun _=>h',zAZ M _ _ _ _ _ mA (M.trans _ _ _ FJ h') H⟩
  ·have h1:=(H w1 (.of mA FJ)).2 j (ready_mono hj yj)
   obtain ⟨pH,oj,mi,Dg⟩:=mem_ready.1 hj;have gK:∀ e∈oj.after,Region.binds .any e=true -> e.on≠i:=fun e he hb heq=>by
    have h1:=Dg e he hb;have h0:=(mem_ready.1 hr).1;rw [heq] at h1;rcases Mm i Ea.size with h' | h'
    ·simp [h'] at h0 h1;rw [h0] at h1;cases h1
    ·simp [Array.getElem?_eq_none h'] at h1
   have hjb:j ∉ bars:=fun hb=>by
    obtain ⟨e,he,se,hei⟩:=SU j hb oj mi;exact gK e he se hei
   have hpj:ye bars (Ea.setIfInBounds j true)=false:=by rw [WH hjb];exact hp
   have hpij:ye bars ((Ea.setIfInBounds i true).setIfInBounds j true)=false:=by rw [WH hjb];exact mA
   have h2:=zIj (Pi:=PureAt P ops R w1 oi v) mi (gH j oj mi yj pH gK) (fun cs b=>Se i oi cs b hi) (fun cs b=>Se j oj cs b mi) (fun _ _ h he hw=>h.same he hw) hQ (hy.later M FJ) h1
   have pO:∀ k ok,ops[k]?=vD ok -> k≠i -> (Ea.setIfInBounds j true).getD k true=false ->
     (∀ e∈ok.after,Region.binds .any e=true -> e.on≠i) -> oi.apart ops ok=true:=fun k ok hk hki FH Iw=>by
    refine gH k ok hk hki ?_ Iw;by_cases oH:j=k
    ·subst oH;exact pH
    ·rw [getD_set_ne true oH] at FH;exact FH
   refine wpOp_mono (fun a' w' h3=>?_) h2
   have hRw:=h3.2.1 hpij;refine ⟨fun _=>hRw,ih (Ea.setIfInBounds j true) a' w' hpj pO (ready_mono hr (Ne.symm yj)) (h3.1.later M hRw) ?_⟩
   rw [Array.setIfInBounds_comm _ _ yj];exact h3.2.2
theorem zId {bars:List Nat} {i:Nat} {oi:Oper} {v:vw} (hi:ops[i]?=vD oi) (Se:∀ (j:Nat) (o:Oper) cs b,ops[j]?=vD o -> o.op≠.select cs b)
  (hQ:∀ c a w,Q (.panic c) (a.put oi.dst v) w -> Q (.panic c) a w) :
  ∀ (fuel:Nat) (Ea:Array Bool) (a:Act) (w:vv),ye bars Ea=true ->
   (∀ j oj,ops[j]?=vD oj -> j≠i -> Ea.getD j true=false -> (∀ e∈oj.after,Region.binds .any e=true -> e.on≠i) -> oi.apart ops oj=true) ->
   i∈Region.ready .any ops Ea -> YieldsIf P ops (fun _=>True) oi v a -> ZF P ops Q bars R fuel (Ea.setIfInBounds i true) (a.put oi.dst v) w -> ZF P ops Q bars R (fuel+1) Ea a w:=by
 intro fuel;have Iw:∀ {Ea:Array Bool} {j:Nat} {w w':vv},ye bars Ea=true -> ye bars (Ea.setIfInBounds j true)=false -> R w w':=fun h h'=>by
  rw [QO h] at h';cases h'
 induction fuel with
 | zero =>
  intro Ea a w hp _ hr hy H w1 jn;obtain rfl:=jn.eq hp;refine ⟨fun h=>(by rw [h] at hr;cases hr),fun j hj=>?_⟩
  by_cases yj:j=i
  ·subst yj
   exact hy.wpOp hi trivial ⟨Iw hp,H⟩
  ·have:=ready_mono hj yj
   rw [H.1] at this;cases this
 | succ fuel ih =>
  intro Ea a w hp gH hr hy H w1 jn;obtain rfl:=jn.eq hp;refine ⟨fun h=>(by rw [h] at hr;cases hr),fun j hj=>?_⟩
  by_cases yj:j=i
  ·subst yj
   exact hy.wpOp hi trivial ⟨Iw hp,H⟩
  ·have h1:=(H w1 (by unfold May;rw [Gb (QO hp)])).2 j (ready_mono hj yj)
   obtain ⟨pH,oj,mi,Dg⟩:=mem_ready.1 hj;have gK:∀ e∈oj.after,Region.binds .any e=true -> e.on≠i:=fun e he hb heq=>by
    have h1:=Dg e he hb;have h0:=(mem_ready.1 hr).1;rw [heq] at h1;rcases Mm i Ea.size with h' | h'
    ·simp [h'] at h0 h1;rw [h0] at h1;cases h1
    ·simp [Array.getElem?_eq_none h'] at h1
   have h2:=wpOp_putIf mi (gH j oj mi yj pH gK) (fun cs b=>Se i oi cs b hi) (fun cs b=>Se j oj cs b mi) hQ hy h1
   have pO:∀ k ok,ops[k]?=vD ok -> k≠i -> (Ea.setIfInBounds j true).getD k true=false ->
     (∀ e∈ok.after,Region.binds .any e=true -> e.on≠i) -> oi.apart ops ok=true:=fun k ok hk hki FH Iw=>by
    refine gH k ok hk hki ?_ Iw;by_cases oH:j=k
    ·subst oH;exact pH
    ·rw [getD_set_ne true oH] at FH;exact FH
   refine wpOp_mono (fun a' w' h3=>⟨Iw hp,ih (Ea.setIfInBounds j true) a' w' (QO hp) pO (ready_mono hr (Ne.symm yj)) h3.1 ?_⟩) h2
   rw [Array.setIfInBounds_comm _ _ yj];exact h3.2.2
end
def Ep (P:Program) (l:List Oper) (hs bars:List Nat) (Q:Exit -> Act -> vv -> Prop) (R:vv -> vv -> Prop) (order:List Nat) (Ea:Array Bool) (a:Act) (w:vv):Prop :=
 Region.noSelect l.toArray=true -> IA l hs bars order Ea=true -> ZF P l.toArray Q bars R order.length Ea a w
section
variable {P:Program} {l:List Oper} {hs bars:List Nat} {Q:Exit -> Act -> vv -> Prop} {R:vv -> vv -> Prop} {rest:List Nat} {i:Nat} {o:Oper} {Ea:Array Bool} {a:Act} {w:vv}
theorem Oh {id:Nat} (R:vv -> vv -> Prop) (M:Wd R) (hs bars order:List Nat) (hm:P.follows .mixedOrders=true) (jb:(Region.noSelect l.toArray&&order.length == l.length&&IA l hs bars order (List.replicate l.length false).toArray)=true)
  (h:Ep P l hs bars Q R order (List.replicate l.length false).toArray a w.drew):(Code.region id l.toArray true).wp P Q a w:=by
 simp only [Pd,Qk] at jb;refine wp_region_any hm (zAW (R:=R) (bars:=bars) M _ _ _ _ ?_);have h2:=h jb.1.1 jb.2;have e:Array.replicate l.toArray.size false=(List.replicate l.length false).toArray:=by simp
 rw [jb.1.2] at h2;rw [e]
 simpa using h2
theorem Ph (M:Wd R) {order:List Nat} (h:∀ W,R w W -> Ep P l hs bars Q R order Ea a W):Ep P l hs bars Q R order Ea a w:=h w (M.refl w)
theorem ox (hp:ye bars Ea=false) (h:∀ w1,R w w1 -> Q .normal a w1):Ep P l hs bars Q R [] Ea a w:=fun _ jb=>⟨by simpa [IA] using jb,fun w1 h1=>h w1 (h1.out hp)⟩
theorem Fp (hp:ye bars Ea=true) (h:Q .normal a w):Ep P l hs bars Q R [] Ea a w:=fun _ jb=>⟨by simpa [IA] using jb,fun w1 h1=>by rw [h1.eq hp];exact h⟩
theorem MX {v:vw} (M:Wd R) (hh:hs.contains i=false) (hp:ye bars Ea=false) (ho:l[i]?=vD o) (hQ:∀ c a w,Q (.panic c) (a.put o.dst v) w -> Q (.panic c) a w)
  (hpu:PureAt P l.toArray R w o v a) (h:Ep P l hs bars Q R rest (Ea.setIfInBounds i true) (a.put o.dst v) w):Ep P l hs bars Q R (i :: rest) Ea a w:=by
 intro hn jb;obtain ⟨h1,h2,-,h4,h5⟩:=IM jb;obtain ⟨f1,f2,f3⟩:=h4 hh;have Vk:l.toArray[i]?=vD o:=by rw [im];exact ho
 refine zIc M Vk (Nr hn) hQ f2 (fun b hb ob hob=>EX hob ?_) _ _ _ _ hp (Region.free_spec Vk f1) (by simpa using h2) hpu (h hn h5)
 rcases f3 with f3 | f3
 ·rw [hp] at f3;cases f3
 ·exact f3 b hb
theorem zAX {v:vw} (M:Wd R) (hh:hs.contains i=false) (hp:ye bars Ea=false) (ho:l[i]?=vD o) (hw:Region.wanted o (yielded l.toArray a.tmps)=true) (hQ:∀ c a w,Q (.panic c) (a.put o.dst v) w -> Q (.panic c) a w)
  (Rc:∀ w',R w w' -> (execOp a.eval o).run P w'= .ok (.value v) w') (h:Ep P l hs bars Q R rest (Ea.setIfInBounds i true) (a.put o.dst v) w):Ep P l hs bars Q R (i :: rest) Ea a w :=
 MX M hh hp ho hQ (.inl ⟨hw, .inl Rc⟩) h
theorem zAY (M:Wd R) (hh:hs.contains i=false) (hp:ye bars Ea=false) (ho:l[i]?=vD o) (hw:Region.wanted o (yielded l.toArray a.tmps)=false) (hQ:∀ c a w,Q (.panic c) (a.put o.dst undef) w -> Q (.panic c) a w)
  (h:Ep P l hs bars Q R rest (Ea.setIfInBounds i true) (a.put o.dst undef) w):Ep P l hs bars Q R (i :: rest) Ea a w :=
 MX M hh hp ho hQ (.inr ⟨hw,rfl⟩) h
theorem Hg {a b:Prop} (h:a) (s:Imp a b:=by
 (repeat ((first | (apply Imp.via (zAY (ya) rfl rfl rfl rfl (fun _ _ _ h=>h))) | (apply Imp.via (zAX (v:=?_) (ya) rfl rfl rfl rfl (fun _ _ _ h=>h) ?hr);case hr=>(intro w' hR;(first | have Yq:=wM ((ya).trans _ _ _ da hR) | skip);go_simp;try with_reducible rfl)));simp only [vF,zLa,zLb,zLc]))
 exact Imp.rfl'):b:=s h
theorem zIa {v:vw} {f:FuncId} {vals:Array vw} (M:Wd R) (hh:hs.contains i=false) (hp:ye bars Ea=false) (ho:l[i]?=vD o) (hw:Region.wanted o (yielded l.toArray a.tmps)=true) (hQ:∀ c a w,Q (.panic c) (a.put o.dst v) w -> Q (.panic c) a w)
  (Rc:∀ w,(execOp a.eval o).run P w= .ok (.enter f vals) w) (hc:∀ w',R w w' -> vA P f vals w' fun e Dp=>e=vn v /\ R w' Dp)
  (h:Ep P l hs bars Q R rest (Ea.setIfInBounds i true) (a.put o.dst v) w):Ep P l hs bars Q R (i :: rest) Ea a w :=
 MX M hh hp ho hQ (.inl ⟨hw, .inr ⟨f,vals,Rc,hc⟩⟩) h
theorem Fe {v:vw} {f:FuncId} {vals:Array vw} (M:Wd R) (hh:hs.contains i=false) (hp:ye bars Ea=false) (ho:l[i]?=vD o) (hw:Region.wanted o (yielded l.toArray a.tmps)=true) (hc:∀ w',R w w' -> vA P f vals w' fun e Dp=>e=vn v /\ R w' Dp) (h:Ep P l hs bars Q R rest (Ea.setIfInBounds i true) (a.put o.dst v) w) (hQ:∀ c a w,Q (.panic c) (a.put o.dst v) w -> Q (.panic c) a w:=by exact fun _ _ _ h=>h) (Rc:∀ w,(execOp a.eval o).run P w= .ok (.enter f vals) w:=by (intro _;go_simp <;> rfl)):Ep P l hs bars Q R (i :: rest) Ea a w :=
 zIa M hh hp ho hw hQ Rc hc h
theorem zIb {v:vw} (hh:hs.contains i=false) (hp:ye bars Ea=true) (ho:l[i]?=vD o) (hw:Region.wanted o (yielded l.toArray a.tmps)=true) (hQ:∀ c a w,Q (.panic c) (a.put o.dst v) w -> Q (.panic c) a w)
  (Rc:∀ w',(execOp a.eval o).run P w'= .ok (.value v) w') (h:Ep P l hs bars Q R rest (Ea.setIfInBounds i true) (a.put o.dst v) w):Ep P l hs bars Q R (i :: rest) Ea a w:=by
 intro hn jb;obtain ⟨h1,h2,-,h4,h5⟩:=IM jb;have Vk:l.toArray[i]?=vD o:=by rw [im];exact ho
 exact zId Vk (Nr hn) hQ _ _ _ _ hp (Region.free_spec Vk (h4 hh).1) (by simpa using h2) (.inl ⟨hw,fun w' _=>Rc w'⟩) (h hn h5)
theorem Te {a b:Prop} (h:a) (s:Imp a b:=by
 (repeat ((first | (apply Imp.via (zAY (ya) rfl rfl rfl rfl (fun _ _ _ h=>h))) | (apply Imp.via (zAX (v:=?_) (ya) rfl rfl rfl rfl (fun _ _ _ h=>h) ?hr);case hr=>(intro w' hR;(first | have Yq:=wM ((ya).trans _ _ _ da hR) | skip);go_simp;try with_reducible rfl)) | (apply Imp.via (zIb (v:=?_) rfl rfl rfl rfl (fun _ _ _ h=>h) ?hr);case hr=>(intro w';go_simp;try with_reducible rfl)));simp only [vF,zLa,zLb,zLc]))
 exact Imp.rfl'):b:=s h
theorem oo (hh:hs.contains i=true) (hp:ye bars Ea=false) (ho:l[i]?=vD o) (hw:Region.wanted o (yielded l.toArray a.tmps)=true)
  (h:∀ w1,R w w1 -> o.wp P a w1 (fun a' w'=>(ye bars (Ea.setIfInBounds i true)=false -> R w1 w') /\ Ep P l hs bars Q R rest (Ea.setIfInBounds i true) a' w') Q):Ep P l hs bars Q R (i :: rest) Ea a w:=by
 intro hn jb;obtain ⟨h1,-,h3,-,h5⟩:=IM jb;have hr:=h3 hh;intro w1 jn;refine ⟨fun h0=>absurd (hr ▸ h0) zS,fun j hj=>?_⟩
 rw [hr,zz] at hj;subst hj;unfold wpOp;have hi:l.toArray[j]?=vD o:=by rw [im];exact ho
 simp only [hi,hw,if_true];exact .inl (Oper.wp_mono (fun a' w' h'=>⟨h'.1,h'.2 hn h5⟩) (h w1 (jn.out hp)))
end
def ren25:Go.Shelf.Ren:=⟨fun | 25=>276 | n=>n,fun | 22=>22 | n=>n,fun n=>n⟩
theorem lays25:Go.Proofs.Lays7.n25 prog ren25:={ mixed:=by kernel_rfl,f25:=by kernel_rfl,t22:=by kernel_rfl,a22:=fun _=>zK,z22:=fun _=>zK,v22:=fun _=>zK,i22:=by kernel_rfl }
theorem zG8 (x y:Nat) (w:vv):(callFunc 276 #[vd vq x,vd vq y,vd vq 0]).run prog w =
  .ok (.value (.tuple #[vd vq (((x+y)%18446744073709551616:Nat):Int),vd vq (((x+y) / 18446744073709551616:Nat):Int)])) w :=
 Any7.bits_Add64 lays25 x y 0 zO w
def fv (p:Nat):vw:=vf #[vd vq p]
theorem Tu (p:Nat) (w:vv) (hp:jc p=true) :
  vA prog 222 #[fv p] w fun e w'=>e=vn (.bool true) /\ vz w.1.size w w':=by
 unfold fv;rcases BC hp with rfl | rfl | rfl | rfl | rfl | rfl | rfl <;>
 ·go_enter func222,ntmps222
  go_wp2_with fail
  go_ret
  exact ⟨rfl,(Bb _ _).alloc zR _⟩
theorem RZ (p:Nat) (w:vv) (hp:jc p=true) :
  vA prog 230 #[fv p] w fun e w'=>e=vn (.tuple #[vd vq ((Vc p).1:Int),vd vt ((Vc p).2.1:Int),vd vq ((Vc p).2.2:Int)]) /\ vz w.1.size w w':=by
 unfold fv;rcases BC hp with rfl | rfl | rfl | rfl | rfl | rfl | rfl <;>
 ·go_enter func230,ntmps230
  go_wp2_with fail
  go_ret3
  exact ⟨rfl,(Bb _ _).alloc zR _⟩
theorem PZ (p:Nat) (w:vv) (hp:jc p=true) :
  vA prog 157 #[fv p] w fun e w'=>e=vn (vd vq ((Vc p).1:Int)) /\ vz w.1.size w w':=by
 have H:=zH (fun w=>RZ p w hp)
 clear hp;unfold fv at *;generalize Vc p=r at *;obtain ⟨a,b,c⟩:=r;go_enter func157,ntmps157
 go_wp2_with (go_at_call 230;refine (H.out _).mono ?_;rintro e w1 ⟨rfl,hb⟩)
 go_ret
 exact ⟨rfl,pa ((Bb _ _).alloc zR _) hb⟩
theorem zCs (p:Nat) (w:vv) (hp:jc p=true) :
  vA prog 290 #[fv p] w fun e w'=>e=vn (vd vq ((Vc p).2.2:Int)) /\ vz w.1.size w w':=by
 have H:=zH (fun w=>RZ p w hp)
 clear hp;unfold fv at *;generalize Vc p=r at *;obtain ⟨a,b,c⟩:=r;go_enter func290,ntmps290
 go_wp2_with (go_at_call 230;refine (H.out _).mono ?_;rintro e w1 ⟨rfl,hb⟩)
 go_ret
 exact ⟨rfl,pa ((Bb _ _).alloc zR _) hb⟩
theorem ZD (p n:Nat) (w:vv) (hp:0<p) :
  vA prog 238 #[fv p,vd vq n] w fun e w'=>e=vn (vd vq ((n%p:Nat):Int)) /\ vz w.1.size w w':=by
 unfold fv;have p1:(0:Int)<p:=by omega
 have e1:(n:Int)%(p:Int)=((n%p:Nat):Int):=rfl;have e2:(n:Int).tmod (p:Int)=((n%p:Nat):Int):=rfl;by_cases h:p <= n
 ·have g:(p:Int)<=n:=by omega
  revert e1 e2
  generalize n%p=r;intro e1 e2;go_enter func238,ntmps238
  go_wp2_with fail
  go_ret
  exact ⟨rfl,(Bb _ _).alloc zR _⟩
 ·have g:¬((p:Int)<=n):=by omega
  have HE:=zH (Om (show n<p by omega))
  clear e1 e2;rw [HE.out];go_enter func238,ntmps238
  go_wp2_with fail
  go_ret
  exact ⟨rfl,(Bb _ _).alloc zR _⟩
theorem DQ (p a b:Nat) (w:vv) (hp:jc p=true) (ha:a<p) (hb:b<p) :
  vA prog 237 #[fv p,vd vq a,vd vq b] w fun e w'=>e=vn (vd vq ((a*b%p:Nat):Int)) /\ vz w.1.size w w':=by
 obtain ⟨h1,h2⟩:=tc hp;unfold fv;have BE:a*b / 18446744073709551616<p:=by
  have:a*b <= p*18446744073709551615:=Nat.mul_le_mul zO zO;rw [Nat.div_lt_iff_lt_mul zO];omega
 have Gw:a*b%18446744073709551616<18446744073709551616:=Ic _ zO;have Lz:=PB (a*b) 18446744073709551616;rw [Jj 18446744073709551616] at Lz;have HM:=zH (fun w=>P5 a b w zO zO)
 revert BE Gw Lz HM
 generalize a*b / 18446744073709551616=hi;generalize a*b%18446744073709551616=lo;intro BE Gw Lz HM;have HD:=zH (fun w=>mZ hi lo p w BE Gw h2)
 rw [Lz] at HD;clear h1 h2 ha hb BE Gw Lz hp;revert HD
 generalize a*b / p=q;generalize a*b%p=r;intro HD;go_enter func237,ntmps237
 go_wp2_with fail
 refine (HM.out _).mono ?_;rintro e w1 ⟨rfl,rfl⟩;go_wp2_with fail
 refine (HD.out _).mono ?_;rintro e w3 ⟨rfl,k,rfl⟩;go_wp2;go_ret
 exact ⟨rfl,IN ((Bb _ _).alloc zR _) _⟩
theorem SZ (p a b:Nat) (w:vv) (hp:jc p=true) (ha:a<p) (hb:b<p) :
  vA prog 256 #[fv p,vd vq a,vd vq b] w fun e w'=>e=vn (vd vq (((a+b)%p:Nat):Int)) /\ vz w.1.size w w':=by
 obtain ⟨h1,h2⟩:=tc hp;unfold fv;have Rc:=zG8 a b;obtain ⟨s,hs⟩:=zEX ((a+b)%18446744073709551616);obtain ⟨c,hc⟩:=zEX ((a+b) / 18446744073709551616);rw [<- hs,<- hc] at Rc;by_cases z:c=0
 ·have d1:((c:Int) != 0)=false:=by rw [fw];omega
  have d1':(c:Int)=0:=by omega
  by_cases hge:p <= s
  ·have d2:(p:Int)<=s:=by omega
   have e:vq.wrap ((s:Int)-p)=(((a+b)%p:Nat):Int):=by
    rw [wu s p hge zO]
    congr 1
    have e1:s=a+b:=by omega
    rw [e1,Nat.mod_eq_sub_mod zO,Om zO]
   generalize (a+b)%p=r at *;clear hs hc hp z ha hb h1 h2 d1';go_enter func256,ntmps256
   go_wp2_with fail
   go_ret
   exact ⟨rfl,(Bb _ _).alloc zR _⟩
  ·have d2:¬((p:Int)<=s):=by omega
   have e:s=(a+b)%p:=by
    have e1:s=a+b:=by omega
    rw [e1,Om zO]
   have HE:=zH e;clear hs hc hp z ha hb h1 h2 d1' e;rw [<- HE.out];go_enter func256,ntmps256
   go_wp2_with fail
   go_ret
   exact ⟨rfl,(Bb _ _).alloc zR _⟩
 ·have d1:((c:Int) != 0)=true:=by rw [Fh];omega
  have e:vq.wrap ((s:Int)-p)=(((a+b)%p:Nat):Int):=by
   have e1:(a+b)%p=a+b-p:=by rw [Nat.mod_eq_sub_mod zO,Om zO]
   rw [e1,Vg];omega
  generalize (a+b)%p=r at *;clear hs hc hp z ha hb h1 h2;go_enter func256,ntmps256
  go_wp2_with fail
  go_ret
  exact ⟨rfl,(Bb _ _).alloc zR _⟩
theorem AQ (p n:Nat) (w:vv) (hp:jc p=true) :
  vA prog 228 #[fv p,vd vq n] w fun e w'=>e=vn (vd vq ((n%p:Nat):Int)) /\ vz w.1.size w w':=by
 have HV:=zH (fun w=>Tu p w hp)
 have HR:=zH (fun w=>ZD p n w (zQ (tc hp)))
 clear hp;unfold fv at *;generalize n%p=r at *;obtain ⟨kf,ba⟩:=zN w 250 #[vd vq p];go_enter func228,ntmps228
 go_wp2_with fail
 refine (HV.out _).mono ?_;rintro e w1 ⟨rfl,La⟩;replace kf:=ma kf La;replace ba:=pa ba La;clear La;have cf:=kf.cell;go_wp2_with fail
 refine (HR.out _).mono ?_;rintro e w2 ⟨rfl,Da⟩;go_wp2;go_ret
 exact ⟨rfl,pa ba Da⟩
theorem Su (p a b:Nat) (w:vv) (hp:jc p=true) :
  vA prog 195 #[fv p,vd vq a,vd vq b] w fun e w'=>e=vn (vd vq (((a+b)%p:Nat):Int)) /\ vz w.1.size w w':=by
 have Kh:0<p:=by have:=tc hp;omega
 have HV:=zH (fun w=>Tu p w hp)
 have HA:=zH (fun w=>ZD p a w Kh)
 have HB:=zH (fun w=>ZD p b w Kh)
 have HS:=zH (fun w=>SZ p (a%p) (b%p) w hp (Ic _ Kh) (Ic _ Kh))
 rw [<- Nat.add_mod] at HS;clear hp Kh;unfold fv at *;generalize (a+b)%p=r at *;generalize a%p=x at *;generalize b%p=y at *;obtain ⟨kf,ba⟩:=zN w 250 #[vd vq p];go_enter func195,ntmps195
 go_wp2_with fail
 refine (HV.out _).mono ?_;rintro e w1 ⟨rfl,La⟩;replace kf:=ma kf La;replace ba:=pa ba La;clear La;have cf:=kf.cell;have lf:=kf.lt;go_wp2_with fail
 refine Oh (yc) (ya) [] [] [0,1,2,3,4,5,6,7,8] zK zK ?_;refine Ph (ya) ?_;intro Wc da;refine Hg ?_;refine Fe ya rfl rfl rfl rfl (fun w' hR=>HA.out _) ?_
 refine zPU ?_;refine Hg ?_;refine Fe ya rfl rfl rfl rfl (fun w' hR=>HB.out _) ?_
 refine zPU ?_;refine Hg ?_;refine Fe ya rfl rfl rfl rfl (fun w' hR=>HS.out _) ?_
 refine zPU ?_;refine Hg ?_;refine ox rfl ?_;intro wd mf;replace da:=zM ya da mf;clear mf;go_wp2;go_ret
 exact ⟨rfl,pa ba.drew da⟩
theorem Y7 (p r a e n:Nat) (h:r*a^e%p=n) (he:e%2=1):(r*a%p)*(a*a%p)^(e / 2)%p=n:=by
 have h2:e=2*(e / 2)+1:=by omega
 rw [<- h,Nat.mul_mod,Nat.mod_mod,<- Nat.pow_mod,<- Nat.mul_mod]
 conv=>rhs;rw [h2,qj,Nat.pow_mul,Nat.pow_two,Jj _ a,<- Nat.mul_assoc]
theorem W7 (p r a e n:Nat) (h:r*a^e%p=n) (he:e%2=0):r*(a*a%p)^(e / 2)%p=n:=by
 have h2:e=2*(e / 2):=by omega
 rw [<- h,Nat.mul_mod,<- Nat.pow_mod,<- Nat.mul_mod]
 conv=>rhs;rw [h2,Nat.pow_mul,Nat.pow_two]
theorem BU (p a e:Nat) (w:vv) (hp:jc p=true) (ha:a<p) (he:e<18446744073709551616) :
  vA prog 269 #[fv p,vd vq a,vd vq e] w fun e' w'=>e'=vn (vd vq ((a^e%p:Nat):Int)) /\ vz w.1.size w w':=by
 have Kh:1<p:=by have:=tc hp;omega
 have HM:=zH (fun a b w (h1:a<p) (h2:b<p)=>DQ p a b w hp h1 h2)
 obtain ⟨n,hn⟩:=zEX (a^e%p);rw [<- hn];have HI:=zH (show 1*a^e%p=n by rw [Nat.one_mul,hn])
 have HP:=zH Kh;clear hn hp Kh;unfold fv at *;obtain ⟨kf,ba⟩:=zN w 250 #[vd vq p];go_enter func269,ntmps269
 go_wp2_with fail
 generalize w.alloc _=w0 at ba kf |-;go_loopw [1,2,7] (fun x y z wr=>∃ a' e' r:Nat,x=vd vq a' /\ y=vd vq e' /\ z=vd vq r /\ a'<p /\ r<p /\ e'<18446744073709551616 /\ Hid (r*a'^e'%p=n) /\ vz w0.1.size w0 wr) (fun _ y _ _=>(intOf y).toNat)
 case atStart=>exact ⟨a,e,1,rfl,rfl,rfl,ha,HP.out,he,HI.out,Bb _ _⟩
 case round =>
  obtain ⟨a',e',r,rfl,rfl,rfl,Wq,iq,he',H,Wa⟩:=hrel;have Qw:=ma kf Wa;have cf:=Qw.cell;by_cases h0:e'=0
  ·subst h0
   have HE:=zH (show r=n by have:=H.out;rw [Nat.pow_zero,Nat.mul_one,Om iq] at this;exact this)
   go_wp2;go_ret
   exact ⟨by rw [HE.out];rfl,ba.trans (Wa.mono ba.size)⟩
  ·have g1:(0:Int)<e':=by omega
   obtain ⟨f,hf⟩:=zEX (e' / 2);have e1:(e':Int) / 2=(f:Int):=by omega
   have eb:bits BinOp.and vq (e':Int) 1=((e'%2:Nat):Int):=by
    have:=bits_and_u64_nat e' 1 he' zO;rw [Nat.and_one_is_mod] at this;exact this
   rcases (show e'%2=1 \/ e'%2=0 by omega) with Gi | Gi
   ·rw [Gi] at eb
    have HF:=zH hf;have og:=zH (fun w=>HM.out r a' w iq Wq)
    have HX:=Y7 p r a' e' n H.out Gi;rw [<- hf] at HX;have Pg:r*a'%p<p:=Ic _ (zQ HP.out);generalize r*a'%p=s at *;have PI:=fun (Yp:f=0)=>show s*a'^f%p=n by rw [Yp,Nat.pow_zero] at HX |-;exact HX
    replace HX:=zH HX;replace PI:=zH PI;clear Gi hf;go_wp2_with fail
    refine (og.out _).mono ?_;rintro e w1 ⟨rfl,La⟩;replace Qw:=Qw.below La Qw.lt;replace Wa:=Pk Wa La Wa.size;clear cf La;have cf:=Qw.cell;by_cases Yp:f=0
    ·have d3:decide (0<f)=false:=Ib zO
     have Im:=zH Yp;clear Yp;go_wp2_with fail
     go_roundw
     case rel=>exact ⟨a',f,s,rfl,rfl,rfl,Wq,Pg,by have:=HF.out;omega,PI.out Im.out,Wa⟩
     case measure=>have:=HF.out;simp [intOf];omega
    ·have g3:(0:Int)<f:=by omega
     have HQ:=zH (fun w=>HM.out a' a' w Wq Wq)
     have Ot:a'*a'%p<p:=Ic _ (zQ HP.out);have yx:=zH HX.out;generalize a'*a'%p=q at *;go_wp2_with fail
     refine (HQ.out _).mono ?_;rintro e w2 ⟨rfl,Da⟩;replace Wa:=Pk Wa Da Wa.size;go_wp2
     go_roundw
     case rel=>exact ⟨q,f,s,rfl,rfl,rfl,Ot,Pg,by have:=HF.out;omega,yx.out,Wa⟩
     case measure=>have:=HF.out;simp [intOf];omega
   ·rw [Gi] at eb
    have HF:=zH hf;have HX:=W7 p r a' e' n H.out Gi;rw [<- hf] at HX;have PI:=fun (Yp:f=0)=>show r*a'^f%p=n by rw [Yp,Nat.pow_zero] at HX |-;exact HX
    replace HX:=zH HX;replace PI:=zH PI;clear Gi hf;by_cases Yp:f=0
    ·have d3:decide (0<f)=false:=Ib zO
     have Im:=zH Yp;clear Yp;go_wp2_with fail
     go_roundw
     case rel=>exact ⟨a',f,r,rfl,rfl,rfl,Wq,iq,by have:=HF.out;omega,PI.out Im.out,Wa⟩
     case measure=>have:=HF.out;simp [intOf];omega
    ·have g3:(0:Int)<f:=by omega
     have HQ:=zH (fun w=>HM.out a' a' w Wq Wq)
     have Ot:a'*a'%p<p:=Ic _ (zQ HP.out);have yx:=zH HX.out;generalize a'*a'%p=q at *;go_wp2_with fail
     refine (HQ.out _).mono ?_;rintro e w2 ⟨rfl,Da⟩;replace Wa:=Pk Wa Da Wa.size;go_wp2
     go_roundw
     case rel=>exact ⟨q,f,r,rfl,rfl,rfl,Ot,iq,by have:=HF.out;omega,yx.out,Wa⟩
     case measure=>have:=HF.out;simp [intOf];omega
theorem YD (p a b:Nat) (w:vv) (hp:jc p=true) :
  vA prog 168 #[fv p,vd vq a,vd vq b] w fun e w'=>e=vn (vd vq ((a*b%p:Nat):Int)) /\ vz w.1.size w w':=by
 have Kh:0<p:=by have:=tc hp;omega
 have HV:=zH (fun w=>Tu p w hp)
 have HA:=zH (fun w=>ZD p a w Kh)
 have HB:=zH (fun w=>ZD p b w Kh)
 have HS:=zH (fun w=>DQ p (a%p) (b%p) w hp (Ic _ Kh) (Ic _ Kh))
 rw [<- Nat.mul_mod] at HS;clear hp Kh;generalize a*b%p=r at *;generalize a%p=x at *;generalize b%p=y at *;unfold fv at *;obtain ⟨kf,ba⟩:=zN w 250 #[vd vq p];go_enter func168,ntmps168
 go_wp2_with fail
 refine (HV.out _).mono ?_;rintro e' w1 ⟨rfl,La⟩;replace kf:=ma kf La;replace ba:=pa ba La;clear La;have cf:=kf.cell;have lf:=kf.lt;go_wp2_with fail
 refine Oh (yc) (ya) [] [] [0,1,2,3,4,5,6,7,8] zK zK ?_;refine Ph (ya) ?_;intro Wc da;refine Hg ?_;refine Fe ya rfl rfl rfl rfl (fun w' hR=>HA.out _) ?_
 refine zPU ?_;refine Hg ?_;refine Fe ya rfl rfl rfl rfl (fun w' hR=>HB.out _) ?_
 refine zPU ?_;refine Hg ?_;refine Fe ya rfl rfl rfl rfl (fun w' hR=>HS.out _) ?_
 refine zPU ?_;refine Hg ?_;refine ox rfl ?_;intro wd mf;replace da:=zM ya da mf;clear mf;go_wp2;go_ret
 exact ⟨rfl,pa ba.drew da⟩
theorem zCu (p a n:Nat) (w:vv) (hp:jc p=true) (hn:n<18446744073709551616) :
  vA prog 291 #[fv p,vd vq a,vd vq n] w fun e w'=>e=vn (vd vq ((a^n%p:Nat):Int)) /\ vz w.1.size w w':=by
 have Kh:0<p:=by have:=tc hp;omega
 have HV:=zH (fun w=>Tu p w hp)
 have HA:=zH (fun w=>ZD p a w Kh)
 have HS:=zH (fun w=>BU p (a%p) n w hp (Ic _ Kh) hn)
 rw [<- Nat.pow_mod] at HS;clear hp Kh hn;generalize a^n%p=r at *;generalize a%p=x at *;unfold fv at *;obtain ⟨kf,ba⟩:=zN w 250 #[vd vq p];go_enter func291,ntmps291
 go_wp2_with fail
 refine (HV.out _).mono ?_;rintro e' w1 ⟨rfl,La⟩;replace kf:=ma kf La;replace ba:=pa ba La;clear La;have cf:=kf.cell;have lf:=kf.lt;go_wp2_with fail
 refine Oh (yc) (ya) [] [] [0,1,2,3,4,5,6] zK zK ?_;refine Ph (ya) ?_;intro Wc da;refine Hg ?_;refine Fe ya rfl rfl rfl rfl (fun w' hR=>HA.out _) ?_
 refine zPU ?_;refine Hg ?_;refine Fe ya rfl rfl rfl rfl (fun w' hR=>HS.out _) ?_
 refine zPU ?_;refine Hg ?_;refine ox rfl ?_;intro wd mf;replace da:=zM ya da mf;clear mf;go_wp2;go_ret
 exact ⟨rfl,pa ba.drew da⟩
theorem QZ (p a:Nat) (w:vv) (hp:jc p=true) :
  vA prog 240 #[fv p,vd vq a] w fun e w'=>e=vn (vd vq ((a^(p-2)%p:Nat):Int)) /\ vz w.1.size w w':=by
 obtain ⟨Lc,Nb⟩:=tc hp;have HV:=zH (fun w=>Tu p w hp)
 have HA:=zH (fun w=>ZD p a w zO)
 have HS:=zH (fun w=>BU p (a%p) (p-2) w hp (Ic _ zO) zO)
 have e1:vq.wrap ((p:Int)-2)=((p-2:Nat):Int):=wu p 2 zO Nb;have e2:(p:Int)-2=((p-2:Nat):Int):=by omega
 have e3:vq.wrap ((p-2:Nat):Int)=((p-2:Nat):Int):=Kk _ zO;rw [<- Nat.pow_mod] at HS;clear hp Lc Nb;generalize a^(p-2)%p=r at *;generalize a%p=x at *;generalize p-2=m at *;unfold fv at *;obtain ⟨kf,ba⟩:=zN w 250 #[vd vq p];go_enter func240,ntmps240
 go_wp2_with fail
 refine (HV.out _).mono ?_;rintro e' w1 ⟨rfl,La⟩;replace kf:=ma kf La;replace ba:=pa ba La;clear La;have cf:=kf.cell;have lf:=kf.lt;go_wp2_with fail
 refine Oh (yc) (ya) [] [] [0,1,2,3,4,5,6,7,8] zK zK ?_;refine Ph (ya) ?_;intro Wc da;refine Hg ?_;refine Fe ya rfl rfl rfl rfl (fun w' hR=>HA.out _) ?_
 refine zPU ?_;refine Hg ?_;refine Fe ya rfl rfl rfl rfl (fun w' hR=>HS.out _) ?_
 refine zPU ?_;refine Hg ?_;refine ox rfl ?_;intro wd mf;replace da:=zM ya da mf;clear mf;go_wp2;go_ret
 exact ⟨rfl,pa ba.drew da⟩
def Qf (p a:Nat):Nat:=if a%p=0 then 0 else p-a%p
theorem zCt (p a:Nat) (w:vv) (hp:jc p=true) :
  vA prog 173 #[fv p,vd vq a] w fun e w'=>e=vn (vd vq (Qf p a:Int)) /\ vz w.1.size w w':=by
 obtain ⟨Lc,Nb⟩:=tc hp;have HA:=zH (fun w=>AQ p a w hp)
 have hx:a%p<p:=Ic _ zO;have HN:=zH (show Qf p a=if a%p=0 then 0 else p-a%p from rfl)
 clear hp;generalize Qf p a=r at *;generalize a%p=x at *;by_cases h0:x=0
 ·have HR:=zH (show r=0 by rw [HN.out,Gb h0])
  subst h0;unfold fv at *;obtain ⟨kf,ba⟩:=zN w 250 #[vd vq p];go_enter func173,ntmps173
  go_wp2_with fail
  refine (HA.out _).mono ?_;rintro e' w1 ⟨rfl,La⟩;go_wp2;go_ret
  exact ⟨by rw [HR.out];rfl,pa ba La⟩
 ·have HR:=zH (show r=p-x by rw [HN.out,mb h0])
  have d1:((x:Int) == 0)=false:=by rw [Je];omega
  have e1:vq.wrap ((p:Int)-x)=((p-x:Nat):Int):=wu p x zO Nb;rw [HR.out];clear hx Lc Nb h0 HR HN;generalize p-x=z at *;unfold fv at *;obtain ⟨kf,ba⟩:=zN w 250 #[vd vq p];go_enter func173,ntmps173
  go_wp2_with fail
  refine (HA.out _).mono ?_;rintro e' w1 ⟨rfl,La⟩;replace kf:=ma kf La;have cf:=kf.cell;go_wp2;go_ret
  exact ⟨rfl,pa ba La⟩
theorem tU (p a b:Nat) (w:vv) (hp:jc p=true) :
  vA prog 226 #[fv p,vd vq a,vd vq b] w fun e w'=>e=vn (vd vq (((a+Qf p b)%p:Nat):Int)) /\ vz w.1.size w w':=by
 have HN:=zH (fun w=>zCt p b w hp)
 have HS:=zH (fun w=>Su p a (Qf p b) w hp)
 clear hp;generalize (a+Qf p b)%p=r at *;generalize Qf p b=x at *;unfold fv at *;obtain ⟨kf,ba⟩:=zN w 250 #[vd vq p];go_enter func226,ntmps226
 have cf:=kf.cell;have lf:=kf.lt;go_wp2_with fail
 refine Oh (yc) (ya) [] [] [0,1,2,3,4,5,6] zK zK ?_;refine Ph (ya) ?_;intro Wc da;refine Hg ?_;refine Fe ya rfl rfl rfl rfl (fun w' hR=>HN.out _) ?_
 refine zPU ?_;refine Hg ?_;refine Fe ya rfl rfl rfl rfl (fun w' hR=>HS.out _) ?_
 refine zPU ?_;refine Hg ?_;refine ox rfl ?_;intro wd mf;replace da:=zM ya da mf;clear mf;go_wp2;go_ret
 exact ⟨rfl,pa ba.drew da⟩
structure St where
 a:Nat
 b:Nat
 c:Nat
def St.val (s:St):vw:=vf #[vd vq s.a,vd vq s.b,vd vq s.c]
def St.cs (s:St):Array vw:=#[vd vq s.a,vd vq s.b,vd vq s.c]
def St.ok (s:St):Prop:=s.a<18446744073709551616 /\ s.b<18446744073709551616 /\ s.c<18446744073709551616
def Bv (k:Nat):Nat:=k*11400714819323198485%18446744073709551616
def Bt (p r i:Nat):Nat:=Bv (3*r+i+1)%p
def mq (p:Nat) (s:St):Nat:=((s.a+s.b)%p+s.c)%p
def tF (p:Nat) (s:St):St:=⟨(s.a+mq p s)%p,(s.b+mq p s)%p,(s.c+mq p s)%p⟩
theorem zE9 (p r i:Nat) (w:vv) (hp:jc p=true) (hr:r<8) (hi:i<3) :
  vA prog 292 #[vd vq p,vd vt r,vd vt i] w fun e w'=>e=vn (vd vq (Bt p r i:Int)) /\ vz w.1.size w w':=by
 have HR:=zH (fun w=>AQ p (Bv (3*r+i+1)) w hp)
 have HC:=zH (show Bt p r i=Bv (3*r+i+1)%p from rfl)
 rw [HC.out];clear HC hp;obtain ⟨k,hk⟩:=zEX (3*r+i+1);rw [<- hk] at HR |-;have g1:(r:Int)<8:=by omega
 have g2:(i:Int) <= 2:=by omega
 have e1:3*(r:Int)+i+1=(k:Int):=by omega
 have e2:vq.wrap (k:Int)=k:=Kk _ zO;have e3:vq.wrap ((k:Int)*11400714819323198485)=(Bv k:Int):=by
  rw [Vg];have:((k:Int)*11400714819323198485)=((k*11400714819323198485:Nat):Int):=by rw [Th];rfl
  rw [this]
  rfl
 clear hk hr hi;generalize Bv k%p=m at *;generalize Bv k=z at *;unfold fv at *;go_enter func292,ntmps292
 go_wp2_with fail
 refine (HR.out _).mono ?_;rintro e w1 ⟨rfl,hb⟩;go_wp2;go_ret
 exact ⟨rfl,hb⟩
theorem zFd (p:Nat) (s:St) (w:vv) (hp:jc p=true) :
  vA prog 293 #[vd vq p,s.val] w fun e w'=>e=vn (tF p s).val /\ vz w.1.size w w':=by
 obtain ⟨a,b,c⟩:=s;have H1:=zH (fun w=>Su p a b w hp)
 have H2:=zH (fun w=>Su p ((a+b)%p) c w hp)
 have H3:=zH (fun w=>Su p a (mq p ⟨a,b,c⟩) w hp)
 have H4:=zH (fun w=>Su p b (mq p ⟨a,b,c⟩) w hp)
 have H5:=zH (fun w=>Su p c (mq p ⟨a,b,c⟩) w hp)
 have HM:=zH (show (tF p ⟨a,b,c⟩).val=vf #[vd vq (((a+mq p ⟨a,b,c⟩)%p:Nat):Int),vd vq (((b+mq p ⟨a,b,c⟩)%p:Nat):Int),vd vq (((c+mq p ⟨a,b,c⟩)%p:Nat):Int)] from rfl)
 rw [HM.out];have HS:=zH (show ((a+b)%p+c)%p=mq p ⟨a,b,c⟩ from rfl)
 rw [HS.out] at H2;clear HM HS hp;generalize (a+mq p ⟨a,b,c⟩)%p=x at *;generalize (b+mq p ⟨a,b,c⟩)%p=y at *;generalize (c+mq p ⟨a,b,c⟩)%p=z at *;generalize mq p ⟨a,b,c⟩=m at *;generalize (a+b)%p=ab at *;unfold St.val;unfold fv at *;simp only;obtain ⟨k1,k2,k3,ba,db⟩:=Tp w 275 275 250 #[vd vq a,vd vq b,vd vq c] #[vd vq 0,vd vq 0,vd vq 0] #[vd vq p];go_enter func293,ntmps293
 go_wp2_with fail
 generalize ((w.alloc _).alloc _).alloc _=w0 at k1 k2 k3 ba db |-;have c1:=k1.cell;have c3:=k3.cell;have l1:=k1.lt;have l3:=k3.lt;refine Oh (yc) (ya) [] [] [0,1,2,3,4,5,6,7,8,9,10] zK zK ?_;refine Ph (ya) ?_;intro Wc da;refine Hg ?_;refine Fe ya rfl rfl rfl rfl (fun w' hR=>H1.out _) ?_
 refine zPU ?_;refine Hg ?_;refine Fe ya rfl rfl rfl rfl (fun w' hR=>H2.out _) ?_
 refine zPU ?_;refine Hg ?_;refine ox rfl ?_;intro wd mf;replace da:=zM ya da mf;clear mf;replace k1:=k1.drew.below da k1.lt;replace k2:=k2.drew.below da k2.lt;replace k3:=k3.drew.below da k3.lt;replace ba:=pa ba.drew da;have tC:w.1.size+1<wd.1.size:=k2.lt;clear c1 c3 l1 l3 da db H1 H2;have c1:=k1.cell;have c3:=k3.cell;have l1:=k1.lt;have l3:=k3.lt;go_wp2_with fail
 refine Oh (yc) (ya) [16] [16] [0,1,2,3,4,5,6,7,8,9,10,11,12,13,14,15,16] zK zK ?_;refine Ph (ya) ?_;intro Wc da;refine Te ?_;refine Fe ya rfl rfl rfl rfl (fun w' hR=>H3.out _) ?_
 refine zPU ?_;refine Te ?_;refine Fe ya rfl rfl rfl rfl (fun w' hR=>H4.out _) ?_
 refine zPU ?_;refine Te ?_;refine Fe ya rfl rfl rfl rfl (fun w' hR=>H5.out _) ?_
 refine zPU ?_;refine Te ?_;refine oo rfl rfl rfl rfl ?_;intro wh Md;replace da:=zM ya da Md;replace k2:=k2.drew.below da k2.lt;replace ba:=pa ba.drew da;have c2:=k2.cell;have f2:=k2.frozen;have l2:=k2.lt;go_simp;refine ⟨fun h=>Bool.noConfusion h,?_⟩
 have hg:=Cp (w:=wh) (g:=w.1.size+1) (vd vq x) (vd vq y) (vd vq z);have kz:=zp k2 (vd vq x) (vd vq y) (vd vq z);clear c2 f2 k2;generalize ((vE wh _ _).setCell _ _).setCell _ _=Wf at hg kz |-;have cz:=kz.cell;refine Fp rfl ?_;go_wp2;exact Tc (v:=vf #[vd vq x,vd vq y,vd vq z]) (by simp [results,results293,go_sem,cz]) rfl ⟨rfl,ba.trans (Po hg zO zO)⟩
def ou (p r i x:Nat):Nat:=((x+Bt p r i)%p)^(Vc p).2.2%p
def St.at_ (s:St) (i:Nat):Nat:=if i=0 then s.a else if i=1 then s.b else s.c
def Hy (f:Nat -> Nat -> Nat) (s:St):Nat -> St
 | 0=>s
 | 1=>⟨f 0 s.a,s.b,s.c⟩
 | 2=>⟨f 0 s.a,f 1 s.b,s.c⟩
 | _=>⟨f 0 s.a,f 1 s.b,f 2 s.c⟩
def roundP (p r:Nat) (s:St):St:=tF p (Hy (ou p r) s 3)
def Hs (p:Nat) (s:St):Nat -> St
 | 0=>s
 | r+1=>roundP p r (Hs p s r)
def ku (p:Nat) (s:St):St:=Hs p s 8
theorem St.cs_at (s:St) {i:Nat} (h:i<3):s.cs[i]?=vD (vd vq (s.at_ i:Int)):=by
 rcases (show i=0 \/ i=1 \/ i=2 by omega) with rfl | rfl | rfl <;> rfl
theorem zAh (f:Nat -> Nat -> Nat) (s:St) {i:Nat} (h:i<3):(Hy f s i).at_ i=s.at_ i:=by
 rcases (show i=0 \/ i=1 \/ i=2 by omega) with rfl | rfl | rfl <;> rfl
theorem zAi (f:Nat -> Nat -> Nat) (s:St) {i:Nat} (h:i<3):(Hy f s i).cs.setIfInBounds i (vd vq (f i (s.at_ i):Int))=(Hy f s (i+1)).cs:=by
 rcases (show i=0 \/ i=1 \/ i=2 by omega) with rfl | rfl | rfl <;> simp [Hy,St.cs,St.at_]
theorem I9 {p:Nat} (h:jc p=true):(Vc p).1<18446744073709551616 /\ (Vc p).2.2<18446744073709551616:=by
 rcases BC h with rfl | rfl | rfl | rfl | rfl | rfl | rfl <;> exact ⟨zD,zD⟩
theorem zFj (p:Nat) (s:St) (w:vv) (hp:jc p=true) :
  vA prog 279 #[vd vq p,s.val] w fun e w'=>e=vn (ku p s).val /\ vz w.1.size w w':=by
 have HV:=zH (fun w=>Tu p w hp)
 have HE:=zH (fun w=>zCs p w hp)
 have HC:=zH (fun r i w hr hi=>zE9 p r i w hp hr hi)
 have HA:=zH (fun a b w=>Su p a b w hp)
 have HP:=zH (fun a n w hn=>zCu p a n w hp hn)
 have HM:=zH (fun s w=>zFd p s w hp)
 have Sf:=(I9 hp).2;have HSB:=zH (show ∀ r i x,ou p r i x=((x+Bt p r i)%p)^(Vc p).2.2%p from fun _ _ _=>rfl)
 clear hp;unfold fv at *;generalize (Vc p).2.2=ex at *;have Sy:=zH Sf;clear Sf;obtain ⟨k1,k2,k3,ba,db⟩:=Tp w 275 275 250 s.cs #[vd vq 0,vd vq 0,vd vq 0] #[vd vq p];have iz:=zH (show (ku p s).val=(Hs p s 8).val from rfl)
 rw [iz.out];clear iz;unfold St.cs at k1 k2 k3 ba db;have ev:s.val=vf #[vd vq s.a,vd vq s.b,vd vq s.c]:=rfl;rw [ev];clear ev;go_enter func279,ntmps279
 go_wp2_with fail
 generalize ((w.alloc _).alloc _).alloc _=w0 at k1 k2 k3 ba db |-;refine (HV.out _).mono ?_;rintro e w1 ⟨rfl,La⟩;replace k1:=ma k1 La;replace k2:=ma k2 La;replace k3:=ma k3 La;replace ba:=pa ba La;clear La db;have c3:=k3.cell;go_wp2_with fail
 refine (HE.out _).mono ?_;rintro e w2 ⟨rfl,Da⟩;replace k1:Blk w2 w.1.size 275 (Hs p s 0).cs:=ma k1 Da;replace k2:=ma k2 Da;replace k3:=ma k3 Da;replace ba:=pa ba Da;clear Da c3 HV HE;go_wp2_with fail
 go_loopw [17] (fun i wr=>∃ r:Nat,r <= 8 /\ i=vd vt r /\ Blk wr w.1.size 275 (Hs p s r).cs /\ Blk wr (w.1.size+1) 275 #[vd vq 0,vd vq 0,vd vq 0] /\ Blk wr (w.1.size+1+1) 250 #[vd vq p] /\ vz w.1.size w wr) (fun i _=>8-(intOf i).toNat)
 case atStart=>exact ⟨0,Rb _,rfl,k1,k2,k3,ba⟩
 case round =>
  clear k1 k2 k3 ba;obtain ⟨r,hr,rfl,k1,k2,k3,ba⟩:=hrel;by_cases ta:r<8
  ·have g1:(r:Int)<8:=by omega
   obtain ⟨t,ht⟩:=zEX (Hs p s r);rw [<- ht] at k1;have HT:=zH (show Hs p s (r+1)=tF p (Hy (ou p r) t 3) by rw [Hs,<- ht];rfl)
   clear ht;go_wp2_with fail
   go_loopw [20] (fun i wr=>∃ m:Nat,m <= 3 /\ i=vd vt m /\ Blk wr w.1.size 275 (Hy (ou p r) t m).cs /\ Blk wr (w.1.size+1) 275 #[vd vq 0,vd vq 0,vd vq 0] /\ Blk wr (w.1.size+1+1) 250 #[vd vq p] /\ vz w.1.size w wr) (fun i _=>3-(intOf i).toNat)
   case atStart=>exact ⟨0,Rb _,rfl,k1,k2,k3,ba⟩
   case round =>
    clear k1 k2 k3 ba;obtain ⟨m,hm,rfl,k1,k2,k3,ba⟩:=hrel;by_cases Bm:m<3
    ·have g2:(m:Int)<3:=by omega
     have cm:=k1.cell m;rw [St.cs_at _ Bm,zAh _ _ Bm] at cm;have oN:=zH (zAi (ou p r) t Bm);have xG:=zH (HSB.out r m (t.at_ m));have Bu:=zH (fun w=>HC.out r m w ta Bm)
     have ie:=zH (fun w=>HA.out (t.at_ m) (Bt p r m) w)
     have oD:=zH (fun w=>HP.out ((t.at_ m+Bt p r m)%p) ex w Sy.out)
     rw [<- xG.out] at oD;clear xG;generalize ou p r m (t.at_ m)=sv at *;generalize (t.at_ m+Bt p r m)%p=av at *;generalize Bt p r m=cv at *;generalize t.at_ m=xv at *;have c3:=k3.cell;have l1:=k1.lt;have l3:=k3.lt;go_wp2_with fail
     refine Oh (yc) (ya) [14] [14] [0,1,2,3,4,5,6,7,8,9,10,11,12,13,14] zK zK ?_;refine Ph (ya) ?_;intro Wc da;refine Te ?_;refine Fe ya rfl rfl rfl rfl (fun w' hR=>Bu.out _) ?_
     refine zPU ?_;refine Te ?_;refine Fe ya rfl rfl rfl rfl (fun w' hR=>ie.out _) ?_
     refine zPU ?_;refine Te ?_;refine Fe ya rfl rfl rfl rfl (fun w' hR=>oD.out _) ?_
     refine zPU ?_;refine Te ?_;refine oo rfl rfl rfl rfl ?_;intro wh Md;replace da:=zM ya da Md;replace k1:=k1.drew.below da k1.lt;replace k2:=k2.drew.below da k2.lt;replace k3:=k3.drew.below da k3.lt;replace ba:=pa ba.drew da;have f1:=k1.frozen m;have Ux:wh.cell? ⟨w.1.size,m,vB⟩=vD (vd vq xv):=IY da cm;clear c3 l1 l3 cm;go_simp;refine ⟨fun h=>Bool.noConfusion h,?_⟩
     have hg:wh.grownBy (wh.setCell ⟨w.1.size,m,vB⟩ (vd vq sv)) (vD w.1.size):=tj (p:=⟨w.1.size,m,vB⟩) (Mg wh _) (.inl rfl) _;replace k1:=k1.set_ m (vd vq sv);rw [oN.out] at k1;replace k2:=k2.grown hg (fun e=>by have:=Pb e;omega)
     replace k3:=k3.grown hg (fun e=>by have:=Pb e;omega)
     replace ba:=ba.trans (Po hg ba.size zR);clear hg f1 Ux;generalize wh.setCell _ _=Wf at k1 k2 k3 ba |-;refine Fp rfl ?_;go_wp2
     go_roundw
     case rel=>exact ⟨m+1,zO,by go_num,k1,k2,k3,ba⟩
     case measure=>simp [intOf];omega
    ·obtain rfl:m=3:=by omega
     obtain ⟨q,hq⟩:=zEX (Hy (ou p r) t 3);rw [<- hq] at k1 HT;clear hq;have Zk:Blk wr w.1.size 275 #[vd vq q.a,vd vq q.b,vd vq q.c]:=k1;obtain ⟨z,hz⟩:=zEX (tF p q);rw [<- hz] at HT;have og:=zH (show ∀ w,vA prog 293 #[vd vq p,vf #[vd vq q.a,vd vq q.b,vd vq q.c]] w fun e w'=>e=vn (vf #[vd vq z.a,vd vq z.b,vd vq z.c]) /\ vz w.1.size w w' from fun w=>by rw [hz];exact HM.out q w)
     clear hz k1;have c1:=Zk.cell;go_wp2_with fail
     refine (og.out _).mono ?_;rintro e w5 ⟨rfl,Lb⟩;replace Zk:=Zk.below Lb Zk.lt;replace k2:=ma k2 Lb;replace k3:=ma k3 Lb;replace ba:=pa ba Lb;clear Lb c1;have c1:=Zk.cell;have f1:=Zk.frozen;go_wp2_with fail
     have hg:=Cp (w:=w5) (g:=w.1.size) (vd vq z.a) (vd vq z.b) (vd vq z.c);have kz:=zp Zk (vd vq z.a) (vd vq z.b) (vd vq z.c);replace k2:=k2.grown hg (fun e=>by have:=Pb e;omega)
     replace k3:=k3.grown hg (fun e=>by have:=Pb e;omega)
     replace ba:=ba.trans (Po hg ba.size zR);clear hg c1 f1 Zk;generalize ((vE w5 _ _).setCell _ _).setCell _ _=Wf at kz k2 k3 ba |-
     go_roundw
     case rel=>exact ⟨r+1,zO,by go_num,by rw [HT.out];exact kz,k2,k3,ba⟩
     case measure=>simp [intOf];omega
  ·obtain rfl:r=8:=by omega
   obtain ⟨q,hq⟩:=zEX (Hs p s 8);rw [<- hq] at k1;have HQ:=zH hq;clear hq;have Zk:Blk wr w.1.size 275 #[vd vq q.a,vd vq q.b,vd vq q.c]:=k1;have c1:=Zk.cell;have c2:=k2.cell;have f2:=k2.frozen;go_wp2_with fail
   have hg:=Cp (w:=wr) (g:=w.1.size+1) (vd vq q.a) (vd vq q.b) (vd vq q.c);have kz:=zp k2 (vd vq q.a) (vd vq q.b) (vd vq q.c);clear c1 c2 f2 k2;generalize ((vE wr _ _).setCell _ _).setCell _ _=Wf at hg kz |-;have cz:=kz.cell;have hs:=ba.size;exact Tc (v:=vf #[vd vq q.a,vd vq q.b,vd vq q.c]) (by simp [results,results279,go_sem,cz]) rfl ⟨by rw [<- HQ.out];rfl,ba.trans (Po hg hs zO)⟩
def Yt (p:Nat) (n:Int) (l:List (Int × Nat)) (i:Nat):Bool :=
 decide ((l.getD i (0,0)).1<0)||decide (n <= (l.getD i (0,0)).1)||(decide (0<i)&&decide ((l.getD i (0,0)).1 <= (l.getD (i-1) (0,0)).1))||(l.getD i (0,0)).2 == 0||decide (p <= (l.getD i (0,0)).2)
def Xi (p:Nat) (n:Int) (l:List (Int × Nat)):Bool:=(List.range l.length).all fun i=>!Yt p n l i
theorem EA {p:Nat} {n:Int} {l:List (Int × Nat)} {j:Nat} (hj:j<l.length) (h:Yt p n l j=true):Xi p n l=false:=by
 unfold Xi;rw [List.all_eq_false];exact ⟨j,by simpa using hj,by simp [h]⟩
theorem C5 {p:Nat} {n:Int} {l:List (Int × Nat)} (h:∀ k<l.length,Yt p n l k=false):Xi p n l=true:=by
 unfold Xi;rw [Wg];intro k hk;simp [h k (by simpa using hk)]
theorem oU {f:Nat -> Bool} {j:Nat} (h:∀ k<j,f k=false) (hj:f j=false):∀ k<j+1,f k=false:=fun k hk=>by
 rcases Mm k j with h1 | h1
 ·exact h k h1
 ·have e:k=j:=by omega
  rw [e];exact hj
theorem RLin.at_ {w:vv} {b q:Nat} {l:List (Int × Nat)} (h:RdL w 2 DT (vD ⟨b,q,vB⟩) l) {i:Nat} (hi:i<l.length) :
  w.cell? ⟨b,q+i*2,vB⟩=vD (vd vt (l.getD i (0,0)).1) /\ w.cell? ⟨b,q+i*2+1,vB⟩=vD (vd vq ((l.getD i (0,0)).2:Int)):=by
 obtain ⟨cs,hl,hc,rfl,-,-⟩:=h.get hi;have h0:=hc 0 zO;have h1:=hc 1 zO;simp [hi] at h0 h1 |-
 exact ⟨h0,h1⟩
theorem OM (p:Nat) (n:Int) (A:Option vx) (len c:Nat) (l:List (Int × Nat)) (w:vv) (hl:RLin w [ve A len c] l) (_hp:p<18446744073709551616) :
  vA prog 243 #[vd vq p,ve A len c,vd vt n] w fun e w'=>e=vn (.bool (Xi p n l)) /\ vz w.1.size w w':=by
 obtain ⟨A',n',c',he,hlen,Ce,Eg,Ka⟩:=hl;simp at he
 obtain ⟨rfl,rfl,rfl⟩:=he;subst hlen;go_enter func243,ntmps243
 go_wp2_with fail
 go_loopw [7] (fun i wr=>∃ j:Nat,j <= l.length /\ i=vd vt j /\ vz w.1.size w wr /\ Hid (∀ k<j,Yt p n l k=false))
  (fun i _=>l.length-(intOf i).toNat)
 case atStart=>exact ⟨0,Rb _,rfl,Bb _ _,fun k hk=>zO⟩
 case round =>
  obtain ⟨j,hj,rfl,hb,HB⟩:=hrel;by_cases ta:j<l.length
  ·have HL:=zH ta
   obtain ⟨b,q,rfl⟩:=Ka.base zO zO;have RE:=Ka.below fF hb;obtain ⟨c1,c2⟩:=RLin.at_ RE ta;have g0:(l.length:Int) <= 9223372036854775807:=by
    have h3:=Ce;have h4:=Eg;simp [maxLen] at h4
    omega
   have g1:(0:Int)<=j:=by omega
   have g2:(j:Int)<l.length:=by omega
   have HD:Hid (Yt p n l j=(decide ((l.getD j (0,0)).1<0)||decide (n <= (l.getD j (0,0)).1)||(decide (0<j)&&decide ((l.getD j (0,0)).1 <= (l.getD (j-1) (0,0)).1))||(l.getD j (0,0)).2 == 0||decide (p <= (l.getD j (0,0)).2))):=rfl
   have HC:=zH (fun (h0:0<j)=>(RLin.at_ RE (show j-1<l.length by omega)).1)
   revert c1 c2 HD HC
   generalize (l.getD j (0,0)).1=x;generalize (l.getD j (0,0)).2=y;generalize (l.getD (j-1) (0,0)).1=z;intro c1 c2 HD HC;clear Ka RE;by_cases z1:x<0
   ·have d1:=Qb z1
    go_wp2_with fail
    go_quiet (fail)
    go_wp2;go_ret
    exact ⟨by rw [EA HL.out (HD.out.trans (by simp [*]))];rfl,by first | exact below_drewN hb _ | exact hb⟩
   ·have d1:=Ib z1
    by_cases z2:n <= x
    ·have d2:=Qb z2
     go_wp2_with fail
     go_quiet (fail)
     go_wp2;go_ret
     exact ⟨by rw [EA HL.out (HD.out.trans (by simp [*]))];rfl,by first | exact below_drewN hb _ | exact hb⟩
    ·have d2:=Ib z2
     rcases Nu j with z3 | z3
     ·subst z3
      simp only [Nat.zero_mul,ot] at c1 c2;by_cases z4:y=0
      ·subst z4
       go_wp2_with fail
       go_quiet (fail)
       go_wp2;go_ret
       exact ⟨by rw [EA HL.out (HD.out.trans (by simp [*]))];rfl,by first | exact below_drewN hb _ | exact hb⟩
      ·have d4:((y:Int) == 0)=false:=by rw [Je];omega
       by_cases z5:p <= y
       ·have d5:decide ((p:Int)<=y)=true:=Qb zO
        go_wp2_with fail
        go_quiet (fail)
        go_wp2;go_ret
        exact ⟨by rw [EA HL.out (HD.out.trans (by simp [*]))];rfl,by first | exact below_drewN hb _ | exact hb⟩
       ·have d5:decide ((p:Int)<=y)=false:=Ib zO
        go_wp2_with fail
        go_quiet (fail)
        go_wp2
        go_roundw
        case rel=>exact ⟨0+1,zO,by go_num,by first | exact below_drewN hb _ | exact hb,oU HB.out (HD.out.trans (by simp [*]))⟩
        case measure=>simp [intOf];omega
     ·have d3:decide ((0:Int)<j)=true:=Qb zO
      have c3:=HC.out z3;have i1:(0:Int)<=j-1:=by omega
      have i2:(j:Int)-1<(l.length:Int):=by omega
      have i3:((j:Int)-1).toNat=j-1:=by omega
      by_cases z6:x <= z
      ·have d6:=Qb z6
       go_wp2_with fail
       go_quiet (fail)
       go_wp2;go_ret
       exact ⟨by rw [EA HL.out (HD.out.trans (by simp [*]))];rfl,by first | exact below_drewN hb _ | exact hb⟩
      ·have d6:=Ib z6
       by_cases z4:y=0
       ·subst z4
        go_wp2_with fail
        go_quiet (fail)
        go_wp2;go_ret
        exact ⟨by rw [EA HL.out (HD.out.trans (by simp [*]))];rfl,by first | exact below_drewN hb _ | exact hb⟩
       ·have d4:((y:Int) == 0)=false:=by rw [Je];omega
        by_cases z5:p <= y
        ·have d5:decide ((p:Int)<=y)=true:=Qb zO
         go_wp2_with fail
         go_quiet (fail)
         go_wp2;go_ret
         exact ⟨by rw [EA HL.out (HD.out.trans (by simp [*]))];rfl,by first | exact below_drewN hb _ | exact hb⟩
        ·have d5:decide ((p:Int)<=y)=false:=Ib zO
         go_wp2_with fail
         go_quiet (fail)
         go_wp2
         go_roundw
         case rel=>exact ⟨j+1,zO,by go_num,by first | exact below_drewN hb _ | exact hb,oU HB.out (HD.out.trans (by simp [*]))⟩
         case measure=>simp [intOf];omega
  ·go_wp2
   go_ret
   have e:j=l.length:=by omega
   subst e;exact ⟨by rw [C5 HB.out];rfl,hb⟩
def slc (v:vw):Prop:=∃ A n c,v=ve A n c
theorem RSl.slc {α:Type} {R:vv -> List vw -> α -> Prop} {sz:Nat} {w:vv} {v:vw} {l:List α} (h:RSl sz R w [v] l):slc v:=by
 obtain ⟨A,n,c,e,-⟩:=h;simp at e
 exact ⟨A,n,c,e⟩
def Kc (p:Nat) (pub vars:Int) (rows:vw):vw:=vf #[vd vq p,vd vt pub,vd vt vars,rows]
def xp (p:Nat) (n:Int) (r:Ya):Bool:=Xi p n r.a&&Xi p n r.b&&Xi p n r.c
theorem AX {w w1:vv} {t1 t2:vy} {pc Hc:Array vw} (hb:vz ((w.alloc (.cells pc t1)).alloc (.cells Hc t2)).1.size ((w.alloc (.cells pc t1)).alloc (.cells Hc t2)) w1) :
  Blk w1 w.1.size t1 pc /\ Blk w1 (w.1.size+1) t2 Hc /\ vz w.1.size w w1:=by
 refine ⟨((Blk.new w t1 pc).alloc _).below hb zT,?_,pa (((Bb _ w).alloc zR _).alloc zS _) hb⟩;have:=(Blk.new (w.alloc (.cells pc t1)) t2 Hc).below hb zS
 simpa using this
theorem W8 (p:Nat) (pub vars:Int) (rows:vw) (r:Ya) (x y z:vw) (w:vv) (hx:RLin w [x] r.a) (hy:RLin w [y] r.b) (hz:RLin w [z] r.c) (hp:p<18446744073709551616) :
  vA prog 176 #[Kc p pub vars rows,vf #[x,y,z]] w fun e w'=>e=vn (.bool (xp p vars r)) /\ vz w.1.size w w':=by
 obtain ⟨A1,n1,c1,rfl⟩:=RSl.slc hx;obtain ⟨A2,n2,c2,rfl⟩:=RSl.slc hy;obtain ⟨A3,n3,c3,rfl⟩:=RSl.slc hz;unfold Kc;cases b1:Xi p vars r.a
 ·have E:=zH (show xp p vars r=false by simp [xp,b1])
  have B1:=zH b1;clear b1;go_enter func176,ntmps176
  go_wp2_with (first | (go_at_call 243;refine (OM p vars _ _ _ r.a _ (mn _ _ _ _ (((Bb _ w).alloc zR _).alloc zS _) hx) hp).mono ?_;rintro e w1 ⟨rfl,hb⟩;rw [B1.out];obtain ⟨K1,K2,La⟩:=AX hb;have t0:w1.cell? ⟨w.1.size,0,vB⟩=vD (vd vq p):=K1.cell 0;have t2:w1.cell? ⟨w.1.size,2,vB⟩=vD (vd vt vars):=K1.cell 2;have y1:w1.cell? ⟨w.1.size+1,1,vB⟩=vD (ve A2 n2 c2):=K2.cell 1;have y2:w1.cell? ⟨w.1.size+1,2,vB⟩=vD (ve A3 n3 c3):=K2.cell 2;clear hb))
  go_ret
  exact ⟨by rw [E.out];rfl,La⟩
 have B1:=zH b1;cases b2:Xi p vars r.b
 ·have E:=zH (show xp p vars r=false by simp [xp,b1,b2])
  have B2:=zH b2;clear b1 b2;go_enter func176,ntmps176
  go_wp2_with (first | (go_at_call 243;refine (OM p vars _ _ _ r.b _ (mn _ _ _ _ La hy) hp).mono ?_;rintro e w2 ⟨rfl,Da⟩;rw [B2.out];clear t0 t2 y1 y2;have t0:w2.cell? ⟨w.1.size,0,vB⟩=vD (vd vq p):=(ma K1 Da).cell 0;have t2:w2.cell? ⟨w.1.size,2,vB⟩=vD (vd vt vars):=(ma K1 Da).cell 2;have y2:w2.cell? ⟨w.1.size+1,2,vB⟩=vD (ve A3 n3 c3):=(ma K2 Da).cell 2) | (go_at_call 243;refine (OM p vars _ _ _ r.a _ (mn _ _ _ _ (((Bb _ w).alloc zR _).alloc zS _) hx) hp).mono ?_;rintro e w1 ⟨rfl,hb⟩;rw [B1.out];obtain ⟨K1,K2,La⟩:=AX hb;have t0:w1.cell? ⟨w.1.size,0,vB⟩=vD (vd vq p):=K1.cell 0;have t2:w1.cell? ⟨w.1.size,2,vB⟩=vD (vd vt vars):=K1.cell 2;have y1:w1.cell? ⟨w.1.size+1,1,vB⟩=vD (ve A2 n2 c2):=K2.cell 1;have y2:w1.cell? ⟨w.1.size+1,2,vB⟩=vD (ve A3 n3 c3):=K2.cell 2;clear hb))
  go_ret
  exact ⟨by rw [E.out];rfl,pa La Da⟩
 have B2:=zH b2;have E:=zH (show xp p vars r=Xi p vars r.c by simp [xp,b1,b2])
 clear b1 b2;go_enter func176,ntmps176
 go_wp2_with (first | (go_at_call 243;refine (OM p vars _ _ _ r.c _ (mn _ _ _ _ (pa La Da) hz) hp).mono ?_;rintro e w3 ⟨rfl,Ta⟩) | (go_at_call 243;refine (OM p vars _ _ _ r.b _ (mn _ _ _ _ La hy) hp).mono ?_;rintro e w2 ⟨rfl,Da⟩;rw [B2.out];clear t0 t2 y1 y2;have t0:w2.cell? ⟨w.1.size,0,vB⟩=vD (vd vq p):=(ma K1 Da).cell 0;have t2:w2.cell? ⟨w.1.size,2,vB⟩=vD (vd vt vars):=(ma K1 Da).cell 2;have y2:w2.cell? ⟨w.1.size+1,2,vB⟩=vD (ve A3 n3 c3):=(ma K2 Da).cell 2) | (go_at_call 243;refine (OM p vars _ _ _ r.a _ (mn _ _ _ _ (((Bb _ w).alloc zR _).alloc zS _) hx) hp).mono ?_;rintro e w1 ⟨rfl,hb⟩;rw [B1.out];obtain ⟨K1,K2,La⟩:=AX hb;have t0:w1.cell? ⟨w.1.size,0,vB⟩=vD (vd vq p):=K1.cell 0;have t2:w1.cell? ⟨w.1.size,2,vB⟩=vD (vd vt vars):=K1.cell 2;have y1:w1.cell? ⟨w.1.size+1,1,vB⟩=vD (ve A2 n2 c2):=K2.cell 1;have y2:w1.cell? ⟨w.1.size+1,2,vB⟩=vD (ve A3 n3 c3):=K2.cell 2;clear hb))
 go_ret
 exact ⟨by rw [E.out];rfl,pa (pa La Da) Ta⟩
theorem ry {w w':vv} {p:vx} {v:vw} (hR:yc w w') (h:w.cell? p=vD v):w'.cell? p=vD v:=(Below.cell hR (Af _ _ h)).trans h
def Ad (p:Nat) (pub vars:Int) (rows:List Ya):Bool :=
 jc p&&!decide (pub<0)&&!decide (vars <= pub)&&!decide (65536<vars)&&!decide ((16384:Int)<rows.length)&&rows.all (xp p vars)
theorem pS (p:Nat) (pub vars:Int) (A:Option vx) (n c:Nat) (rows:List Ya) (w:vv) (hr:RSl 3 Ue w [ve A n c] rows) (hp:p<18446744073709551616) :
  vA prog 86 #[Kc p pub vars (ve A n c)] w fun e w'=>e=vn (.bool (Ad p pub vars rows)) /\ vz w.1.size w w':=by
 obtain ⟨A',n',c',he,hlen,Ce,Eg,Ka⟩:=hr;simp at he
 obtain ⟨rfl,rfl,rfl⟩:=he;subst hlen;unfold Kc;cases b1:jc p
 ·have E:=zH (show Ad p pub vars rows=false by simp [Ad,b1])
  have B1:=zH b1;clear b1;go_enter func86,ntmps86
  go_wp2_with (go_at_call 91;refine (tq p _ hp).mono ?_;rintro e w1 ⟨rfl,hb⟩;rw [B1.out];have hB:=(Blk.new w _ _).below hb zS;have La:vz w.1.size w w1:=pa ((Bb _ w).alloc zR _) hb;have t1:w1.cell? ⟨w.1.size,1,vB⟩=vD (vd vt pub):=hB.cell 1;have t2:w1.cell? ⟨w.1.size,2,vB⟩=vD (vd vt vars):=hB.cell 2;have t3:w1.cell? ⟨w.1.size,3,vB⟩=vD (ve A rows.length c):=hB.cell 3;clear hb)
  go_ret
  exact ⟨by rw [E.out];rfl,La⟩
 have B1:=zH b1;by_cases z1:pub<0
 ·have E:=zH (show Ad p pub vars rows=false by unfold Ad;rw [Qb z1];simp)
  have d1:=Qb z1;clear b1;go_enter func86,ntmps86
  go_wp2_with (go_at_call 91;refine (tq p _ hp).mono ?_;rintro e w1 ⟨rfl,hb⟩;rw [B1.out];have hB:=(Blk.new w _ _).below hb zS;have La:vz w.1.size w w1:=pa ((Bb _ w).alloc zR _) hb;have t1:w1.cell? ⟨w.1.size,1,vB⟩=vD (vd vt pub):=hB.cell 1;have t2:w1.cell? ⟨w.1.size,2,vB⟩=vD (vd vt vars):=hB.cell 2;have t3:w1.cell? ⟨w.1.size,3,vB⟩=vD (ve A rows.length c):=hB.cell 3;clear hb)
  go_ret
  exact ⟨by rw [E.out];rfl,La⟩
 have d1:=Ib z1;by_cases z2:vars <= pub
 ·have E:=zH (show Ad p pub vars rows=false by unfold Ad;rw [Qb z2];simp)
  have d2:=Qb z2;clear b1;go_enter func86,ntmps86
  go_wp2_with (go_at_call 91;refine (tq p _ hp).mono ?_;rintro e w1 ⟨rfl,hb⟩;rw [B1.out];have hB:=(Blk.new w _ _).below hb zS;have La:vz w.1.size w w1:=pa ((Bb _ w).alloc zR _) hb;have t1:w1.cell? ⟨w.1.size,1,vB⟩=vD (vd vt pub):=hB.cell 1;have t2:w1.cell? ⟨w.1.size,2,vB⟩=vD (vd vt vars):=hB.cell 2;have t3:w1.cell? ⟨w.1.size,3,vB⟩=vD (ve A rows.length c):=hB.cell 3;clear hb)
  go_ret
  exact ⟨by rw [E.out];rfl,La⟩
 have d2:=Ib z2;by_cases z3:65536<vars
 ·have E:=zH (show Ad p pub vars rows=false by unfold Ad;rw [Qb z3];simp)
  have d3:=Qb z3;clear b1;go_enter func86,ntmps86
  go_wp2_with (go_at_call 91;refine (tq p _ hp).mono ?_;rintro e w1 ⟨rfl,hb⟩;rw [B1.out];have hB:=(Blk.new w _ _).below hb zS;have La:vz w.1.size w w1:=pa ((Bb _ w).alloc zR _) hb;have t1:w1.cell? ⟨w.1.size,1,vB⟩=vD (vd vt pub):=hB.cell 1;have t2:w1.cell? ⟨w.1.size,2,vB⟩=vD (vd vt vars):=hB.cell 2;have t3:w1.cell? ⟨w.1.size,3,vB⟩=vD (ve A rows.length c):=hB.cell 3;clear hb)
  go_ret
  exact ⟨by rw [E.out];rfl,La⟩
 have d3:=Ib z3;by_cases z4:(16384:Int)<rows.length
 ·have E:=zH (show Ad p pub vars rows=false by unfold Ad;rw [Qb z4];simp)
  have d4:=Qb z4;clear b1;go_enter func86,ntmps86
  go_wp2_with (go_at_call 91;refine (tq p _ hp).mono ?_;rintro e w1 ⟨rfl,hb⟩;rw [B1.out];have hB:=(Blk.new w _ _).below hb zS;have La:vz w.1.size w w1:=pa ((Bb _ w).alloc zR _) hb;have t1:w1.cell? ⟨w.1.size,1,vB⟩=vD (vd vt pub):=hB.cell 1;have t2:w1.cell? ⟨w.1.size,2,vB⟩=vD (vd vt vars):=hB.cell 2;have t3:w1.cell? ⟨w.1.size,3,vB⟩=vD (ve A rows.length c):=hB.cell 3;clear hb)
  go_ret
  exact ⟨by rw [E.out];rfl,La⟩
 have d4:=Ib z4;have E:=zH (show Ad p pub vars rows=rows.all (xp p vars) by unfold Ad;rw [b1,d1,d2,d3,d4];simp)
 clear b1;go_enter func86,ntmps86
 go_wp2_with (go_at_call 91;refine (tq p _ hp).mono ?_;rintro e w1 ⟨rfl,hb⟩;rw [B1.out];have hB:=(Blk.new w _ _).below hb zS;have La:vz w.1.size w w1:=pa ((Bb _ w).alloc zR _) hb;have t1:w1.cell? ⟨w.1.size,1,vB⟩=vD (vd vt pub):=hB.cell 1;have t2:w1.cell? ⟨w.1.size,2,vB⟩=vD (vd vt vars):=hB.cell 2;have t3:w1.cell? ⟨w.1.size,3,vB⟩=vD (ve A rows.length c):=hB.cell 3;clear hb)
 go_loopw [3] (fun i wr=>∃ j:Nat,j <= rows.length /\ i=vd vt j /\ vz w1.1.size w1 wr /\ Hid (∀ k<j,∀ h:k<rows.length,xp p vars rows[k]=true))
  (fun i _=>rows.length-(intOf i).toNat)
 case atStart=>exact ⟨0,Rb _,rfl,Bb _ _,fun k hk=>zO⟩
 case round =>
  obtain ⟨j,hj,rfl,Wa,HB⟩:=hrel;have s3:wr.cell? ⟨w.1.size,3,vB⟩=vD (ve A rows.length c):=(ma hB Wa).cell 3;by_cases ta:j<rows.length
  ·have fC:Blk wr.drew w.1.size 25 _:=hB.below Wa.drew hB.lt
   have te:vz w.1.size w wr.drew:=pa La Wa.drew;obtain ⟨b,q,rfl⟩:=Ka.base zO zO;obtain ⟨cs,-,hc,x,y,z,rfl,Zc,ff,Zd⟩:=(Ka.below Qg te).get ta;have h0:wr.drew.cell? ⟨b,q+j*3,vB⟩=vD x:=hc 0 zO;have h1:wr.drew.cell? ⟨b,q+j*3+1,vB⟩=vD y:=hc 1 zO;have h2:wr.drew.cell? ⟨b,q+j*3+2,vB⟩=vD z:=hc 2 zO;have HL:=zH ta;have i1:(0:Int)<=j:=by omega
   have i2:(j:Int)<rows.length:=by omega
   clear hc;cases bo:xp p vars rows[j]
   ·have HO:=zH bo
    clear bo;go_wp2_with fail
    refine zP yc zK ?_;refine qo 0 (v:=Kc p pub vars (ve (vD ⟨b,q,vB⟩) rows.length c)) ya zD zK zK zK (fun _ _ _ h=>h) (Fv (by rfl) ?_) ?_;· ( intro w' hR;simp only [Uh,Xg];unfold Kc;have q0:=(ma fC hR).cell 0;have q1:=(ma fC hR).cell 1;have q2:=(ma fC hR).cell 2;have q3:=(ma fC hR).cell 3;simp at q0 q1 q2 q3;go_simp )
    simp only [vF,Uh,Xg,Ga,Ia,Ha];refine qo 1 (v:=?_) ya zD zK zK zK (fun _ _ _ h=>h) (Fv (by rfl) ?_) ?_;rotate_left;· ( intro w' hR;simp only [Uh,Xg];go_simp;try with_reducible rfl )
    simp only [vF,Uh,Xg,Ga,Ia,Ha];refine qo 2 (v:=ve (vD ⟨b,q,vB⟩) rows.length c) ya zD zK zK zK (fun _ _ _ h=>h) (Fv (by rfl) ?_) ?_;· ( intro w' hR;simp only [Uh,Xg];have q3:=(ma fC hR).cell 3;simp at q3;go_simp )
    simp only [vF,Uh,Xg,Ga,Ia,Ha];refine qo 3 (v:=?_) ya zD zK zK zK (fun _ _ _ h=>h) (Fv (by rfl) ?_) ?_;rotate_left;· ( intro w' hR;simp only [Uh,Xg];go_simp;try with_reducible rfl )
    simp only [vF,Uh,Xg,Ga,Ia,Ha];refine qo 4 (v:=?_) ya zD zK zK zK (fun _ _ _ h=>h) (Fv (by rfl) ?_) ?_;rotate_left;· ( intro w' hR;simp only [Uh,Xg];go_simp;try with_reducible rfl )
    simp only [vF,Uh,Xg,Ga,Ia,Ha];refine qo 5 (v:=vf #[x,y,z]) ya zD zK zK zK (fun _ _ _ h=>h) (Fv (by rfl) ?_) ?_;· ( intro w' hR;simp only [Uh,Xg];have r0:=ry hR h0;have r1:=ry hR h1;have r2:=ry hR h2;go_simp )
    simp only [vF,Uh,Xg,Ga,Ia,Ha];refine zA2 6 ya zD zK (by rfl) ((W8 p pub vars (ve (vD ⟨b,q,vB⟩) rows.length c) rows[j] x y z _ Zc ff Zd hp).mono ?_) (fun _=>by simp only [Uh,Xg];go_simp)
    rintro e w3 ⟨rfl,Ta⟩;rw [HO.out];refine ⟨_,rfl,Ta,?_⟩;simp only [vF,Uh,Xg,Ga,Ia,Ha];refine qo 7 (v:=?_) ya zD zK zK zK (fun _ _ _ h=>h) (Fv (by rfl) ?_) ?_;rotate_left;· ( intro w' hR;simp only [Uh,Xg];go_simp;try with_reducible rfl )
    simp only [vF,Uh,Xg,Ga,Ia,Ha];refine OX zK ?_;go_wp2;go_ret
    refine ⟨by rw [E.out,List.all_eq_false.2 ⟨rows[j],pg HL.out,fun h=>Bool.noConfusion (HO.out.symm.trans h)⟩];rfl,pa te Ta⟩
   ·have HO:=zH bo
    clear bo;go_wp2_with fail
    refine zP yc zK ?_;refine qo 0 (v:=Kc p pub vars (ve (vD ⟨b,q,vB⟩) rows.length c)) ya zD zK zK zK (fun _ _ _ h=>h) (Fv (by rfl) ?_) ?_;· ( intro w' hR;simp only [Uh,Xg];unfold Kc;have q0:=(ma fC hR).cell 0;have q1:=(ma fC hR).cell 1;have q2:=(ma fC hR).cell 2;have q3:=(ma fC hR).cell 3;simp at q0 q1 q2 q3;go_simp )
    simp only [vF,Uh,Xg,Ga,Ia,Ha];refine qo 1 (v:=?_) ya zD zK zK zK (fun _ _ _ h=>h) (Fv (by rfl) ?_) ?_;rotate_left;· ( intro w' hR;simp only [Uh,Xg];go_simp;try with_reducible rfl )
    simp only [vF,Uh,Xg,Ga,Ia,Ha];refine qo 2 (v:=ve (vD ⟨b,q,vB⟩) rows.length c) ya zD zK zK zK (fun _ _ _ h=>h) (Fv (by rfl) ?_) ?_;· ( intro w' hR;simp only [Uh,Xg];have q3:=(ma fC hR).cell 3;simp at q3;go_simp )
    simp only [vF,Uh,Xg,Ga,Ia,Ha];refine qo 3 (v:=?_) ya zD zK zK zK (fun _ _ _ h=>h) (Fv (by rfl) ?_) ?_;rotate_left;· ( intro w' hR;simp only [Uh,Xg];go_simp;try with_reducible rfl )
    simp only [vF,Uh,Xg,Ga,Ia,Ha];refine qo 4 (v:=?_) ya zD zK zK zK (fun _ _ _ h=>h) (Fv (by rfl) ?_) ?_;rotate_left;· ( intro w' hR;simp only [Uh,Xg];go_simp;try with_reducible rfl )
    simp only [vF,Uh,Xg,Ga,Ia,Ha];refine qo 5 (v:=vf #[x,y,z]) ya zD zK zK zK (fun _ _ _ h=>h) (Fv (by rfl) ?_) ?_;· ( intro w' hR;simp only [Uh,Xg];have r0:=ry hR h0;have r1:=ry hR h1;have r2:=ry hR h2;go_simp )
    simp only [vF,Uh,Xg,Ga,Ia,Ha];refine zA2 6 ya zD zK (by rfl) ((W8 p pub vars (ve (vD ⟨b,q,vB⟩) rows.length c) rows[j] x y z _ Zc ff Zd hp).mono ?_) (fun _=>by simp only [Uh,Xg];go_simp)
    rintro e w3 ⟨rfl,Ta⟩;rw [HO.out];refine ⟨_,rfl,Ta,?_⟩;simp only [vF,Uh,Xg,Ga,Ia,Ha];refine qo 7 (v:=?_) ya zD zK zK zK (fun _ _ _ h=>h) (Fv (by rfl) ?_) ?_;rotate_left;· ( intro w' hR;simp only [Uh,Xg];go_simp;try with_reducible rfl )
    simp only [vF,Uh,Xg,Ga,Ia,Ha];refine OX zK ?_;go_wp2
    go_roundw
    case rel =>
     refine ⟨j+1,zO,by go_num,pa Wa.drew Ta,fun k hk h=>?_⟩
     rcases Mm k j with h5 | h5
     ·exact HB.out k h5 h
     ·have e:k=j:=by omega
      subst e;exact HO.out
    case measure=>simp [intOf];omega
  ·go_wp2
   go_ret
   have e:j=rows.length:=by omega
   refine ⟨by rw [E.out,Wg.2 (fun r hr=>by obtain ⟨k,hk,rfl⟩:=jt hr;exact HB.out k zO hk)];rfl,pa La Wa⟩
def UT (p:Nat) (vars:Int) (l:List Nat):Bool:=!((l.length:Int) != vars)&&!((l.length:Int) == 0)&&!(((l.getD 0 0:Nat):Int) != 1)&&l.all fun x=>decide (x<p)
theorem RWd.at_ {w:vv} {A:Option vx} {l:List Nat} (h:Rd w 1 A l.length (Qa l)) {i:Nat} (hi:i<l.length):∃ ad,A=vD ad /\ w.cell? (ad.add i)=vD (vd vq ((l.getD i 0:Nat):Int)):=by
 obtain ⟨ad,u,rfl,hu,hc⟩:=h.at_ hi;rw [bJ hi] at hu
 injection hu with hu
 subst hu;exact ⟨ad,rfl,by simpa [hi] using hc⟩
theorem zAO (n k:Nat) (w:vv) (hn:n <= 1000000000) (hk:0<k) (Cw:k <= 1000000000) :
  vA prog 95 #[vd vt n,vd vt k] w fun e w'=>e=vn (vd vt (((n+k-1) / k:Nat):Int)) /\ w'=w:=by
 obtain ⟨m,rfl⟩:∃ m,k=m+1:=⟨k-1,zO⟩;have e1:Hid (((n+(m+1)-1) / (m+1):Nat)=(n+m) / (m+1)):=rfl;go_enter func95,ntmps95
 go_wp2_with fail
 go_ret
 refine ⟨?_,rfl⟩;show Ending.returned (vd vt (((n:Int)+((m:Int)+1)-1) / ((m:Int)+1)))=_
 rw [show (n:Int)+((m:Int)+1)-1=((n+(m+1)-1:Nat):Int) from by omega]
 rfl
theorem MC {w:vv} {A:Option vx} {n:Nat} {xs:List vw} (h:Rd w 1 A n xs) (hn:0<n):∃ b q,A=vD ⟨b,q,vB⟩ /\ b<w.1.size /\ ∀ k,k<n -> w.cell? ⟨b,q+k,vB⟩=xs[k]?:=by
 obtain ⟨ad,rfl,hc⟩:=h.2 hn;have hl:=h.len1;have h0:=hc 0 _ (Dc zO);obtain ⟨b,q,rfl⟩:∃ b q,ad=⟨b,q,vB⟩:=by
  have hs:=World.cell?_spot h0;rw [gY] at hs;obtain ⟨b,q,s⟩:=ad;simp at hs
  subst hs;exact ⟨b,q,rfl⟩
 refine ⟨b,q,rfl,Af _ _ (by rw [gY] at h0;exact h0),fun k hk=>?_⟩
 rw [<- yt,hc k _ (Dc zO),Dc zO]
def FA (p:Nat) (ws:List Nat) (s:Nat) (t:Int × Nat):Nat:=if 0 <= t.1 /\ t.1<(ws.length:Int) then (s+t.2*ws.getD t.1.toNat 0%p)%p else s
def Bj (p:Nat) (l:List (Int × Nat)) (ws:List Nat):Nat:=l.foldl (FA p ws) 0
theorem D5 (p:Nat) (l:List (Int × Nat)) (ws:List Nat) (j:Nat) (h:j<l.length):Bj p (l.take (j+1)) ws=FA p ws (Bj p (l.take j) ws) (l.getD j (0,0)):=by
 unfold Bj;rw [ID h,List.foldl_append];simp [h]
theorem zGK (p:Nat) (A B:Option vx) (len c n d:Nat) (l:List (Int × Nat)) (ws:List Nat) (w:vv) (hl:RLin w [ve A len c] l) (hw:RWd w [ve B n d] ws) (hp:jc p=true) :
  vA prog 88 #[vd vq p,ve A len c,ve B n d] w fun e w'=>e=vn (vd vq (Bj p l ws:Nat)) /\ vz w.1.size w w':=by
 obtain ⟨A',n',c',he,hlen,Ce,Eg,Ka⟩:=hl;simp at he
 obtain ⟨rfl,rfl,rfl⟩:=he;subst hlen;obtain ⟨B',m',d',he,Jt,hmy,Zm,jy⟩:=hw;simp at he
 obtain ⟨rfl,rfl,rfl⟩:=he;have hm:ws.length=n:=by have:=Zm.len1;rwa [pF] at this
 subst hm;have g0:(l.length:Int) <= 9223372036854775807:=by
  simp [maxLen] at Eg
  omega
 go_enter func88,ntmps88
 go_wp2_with fail
 go_loopw [7,8] (fun s i wr=>∃ j:Nat,j <= l.length /\ i=vd vt j /\ s=vd vq (Bj p (l.take j) ws:Nat) /\ vz w.1.size w wr)
  (fun _ i _=>l.length-(intOf i).toNat)
 case atStart=>exact ⟨0,Rb _,rfl,rfl,Bb _ _⟩
 case round =>
  obtain ⟨j,hj,rfl,rfl,hb⟩:=hrel;by_cases ta:j<l.length
  ·have HS:=zH (D5 p l ws j ta)
   revert HS
   generalize Bj p (l.take j) ws=s;intro HS;obtain ⟨b,q,rfl⟩:=Ka.base zO zO;have RE:=Ka.below fF hb;obtain ⟨c1,c2⟩:=RLin.at_ RE ta;have Zb:=Af _ _ c1;have HL:=zH ta;have g1:(0:Int)<=j:=by omega
   have g2:(j:Int)<l.length:=by omega
   have HW:=zH (fun (k:Nat) (hk:k<ws.length)=>(MC (Zm.below hb) zO).imp fun b' h=>h.imp fun q' h=>(⟨h.1,h.2.1,(h.2.2 k hk).trans (bJ hk)⟩:_ /\ _ /\ _=vD (vd vq (ws[k]:Int))))
   revert c1 c2 HS
   generalize hx:(l.getD j (0,0))=t;obtain ⟨x,y⟩:=t;clear hx;simp only;intro HS c1 c2;clear Ka RE Zm;by_cases z1:x<0
   ·have d1:decide (0 <= x)=false:=Ib zO
    have HE:=zH (show Bj p (l.take (j+1)) ws=s by rw [HS.out,FA,mb zT])
    go_wp2_with fail
    go_roundw
    case rel=>exact ⟨j+1,zO,by go_num,by rw [HE.out],hb⟩
    case measure=>simp [intOf];omega
   ·obtain ⟨k,rfl⟩:=Zl (show 0 <= x by omega)
    by_cases z2:k<ws.length
    ·have d1:decide ((0:Int)<=k)=true:=Qb zO
     have d2:decide ((k:Int)<ws.length)=true:=Qb zO;obtain ⟨b',q',rfl,Un,c3⟩:=HW.out k z2;have HE:=zH (show Bj p (l.take (j+1)) ws=(s+y*ws[k]%p)%p by rw [HS.out,FA,Gb zT];show (s+y*ws.getD ((k:Int)).toNat 0%p)%p=_;rw [Dn,Gc,Dc z2,Option.getD_some])
     clear HW HS;revert c3 HE
     generalize ws[k]=v;have HM:=zH (fun w=>RA p y v w hp)
     revert HM
     generalize y*v%p=m;intro HM c3 HE;have i1:(0:Int)<=k:=by omega
     have i2:(k:Int)<ws.length:=by omega
     go_wp2_with fail
     refine Yc (yc) [16,17] [0,1,2,3,4,5,6,7,8,9,10,11,12,13,14,15,16,17,18] zK zK ?_;refine aG (ya) ?_;intro Wc da;refine dc ?_;refine pd ya rfl rfl rfl ((HM.out _).mono ?_);rintro e w2 ⟨rfl,Da⟩;refine ⟨_,rfl,Da,?_⟩;replace da:=zM ya da (Da);refine zPU ?_;refine dc ?_;refine pd ya rfl rfl rfl ((GC p s m _ hp).mono ?_);rintro e w3 ⟨rfl,Ta⟩;refine ⟨_,rfl,Ta,?_⟩;replace da:=zM ya da (Ta);refine zPU ?_;refine dc ?_;refine Ec ?_;go_wp2
     go_roundw
     case rel=>exact ⟨j+1,zO,by go_num,by rw [HE.out];rfl,pa hb.drew da⟩
     case measure=>simp [intOf];omega
    ·have d1:decide ((0:Int)<=k)=true:=Qb zO
     have d2:decide ((k:Int)<ws.length)=false:=Ib zO;have HE:=zH (show Bj p (l.take (j+1)) ws=s by rw [HS.out,FA,mb zT])
     go_wp2_with fail
     go_roundw
     case rel=>exact ⟨j+1,zO,by go_num,by rw [HE.out],hb⟩
     case measure=>simp [intOf];omega
  ·go_wp2
   go_ret
   have e:j=l.length:=by omega
   subst e;exact ⟨by rw [List.take_length];rfl,hb⟩
def zBc (e:Ending):Prop:=∃ b,e=vn (.bool b)
def rowOkV (p:Nat) (r:Ya) (ws:List Nat):Bool:=decide (Bj p r.a ws*Bj p r.b ws%p=Bj p r.c ws)
def satB (p:Nat) (rows:List Ya) (ws:List Nat):Bool:=rows.all fun r=>rowOkV p r ws
theorem uP {p:Nat} {pub vars:Int} {rows:List Ya} (h:Ad p pub vars rows=true):jc p=true:=by
 unfold Ad at h;simp only [Pd] at h;exact h.1.1.1.1.1
theorem Mb {w:vv} {A:Option vx} {n c:Nat} {l:List Nat} (h:RWd w [ve A n c] l):n=l.length /\ n <= c /\ c <= maxLen /\ (∀ x∈l,x<18446744073709551616) /\ Rd w 1 A n (Qa l):=by
 obtain ⟨A',n',c',he,h1,h2,h3,h4⟩:=h;simp at he
 obtain ⟨rfl,rfl,rfl⟩:=he;have:=h3.len1;rw [pF] at this;exact ⟨this.symm,h1,h2,h4,h3⟩
theorem Ve {w:vv} {A:Option vx} {l:List Nat} (h:Rd w 1 A l.length (Qa l)) {j:Nat} (hj:j<l.length):∃ b q,A=vD ⟨b,q,vB⟩ /\ b<w.1.size /\ w.cell? ⟨b,q+j,vB⟩=vD (vd vq ((l.getD j 0:Nat):Int)):=by
 obtain ⟨b,q,e,hb,hc⟩:=MC h zO;refine ⟨b,q,e,hb,?_⟩;rw [hc j hj,bJ hj,Gc,Dc hj]
 rfl
theorem Mh {n c:Nat} (h1:n <= c) (h2:c <= maxLen):(n:Int) <= 9223372036854775807:=by
 simp [maxLen] at h2
 omega
theorem qF {l:List Nat} {B:Nat} (h:∀ x∈l,x<B) {k:Nat} (hk:k<l.length):l.getD k 0<B:=by
 rw [Gc,Dc hk];exact h _ (pg _)
theorem yC (l:List Nat) (k:Nat) (h:k<l.length):l.take (k+1)=l.take k++[l.getD k 0]:=by
 rw [ID h,Gc,Dc h]
 rfl
theorem zD2 {β:Type} (f:β -> Nat -> β) (b:β) (l:List Nat) (k:Nat) (h:k<l.length):(l.take (k+1)).foldl f b=f ((l.take k).foldl f b) (l.getD k 0):=by
 rw [yC l k h,List.foldl_append]
 rfl
theorem Yf {w:vv} {base:Nat} {e:vy} {A:Option vx} {c n:Nat} {l:List Nat} (h:w.ownsRow base e 1 (ve A n c) n (Qa l)) (hl:∀ x∈l,x<18446744073709551616):RWd w [ve A n c] l:=by
 obtain ⟨A',c',he,h1,h2,h3,-⟩:=mc h;simp at he
 obtain ⟨rfl,rfl⟩:=he;exact ⟨A,n,c,rfl,h1,h2,h3,hl⟩
theorem Ee {W W':vv} {B:Nat} {e:vy} {size:Nat} {v:vw} {n:Nat} {xs:List vw} (h:W.ownsRow B e size v n xs) (hg:W.grownBy W' v.ownBlock) (hB:B <= W.1.size):vz B W W' :=
 ND hg B hB fun g e=>(h.lt g e).1
theorem Ii {w:vv} {B m:Nat} {t:vy} {v:vw} {a b c:List Nat} (h:w.ownsRow B t 1 v m (Qa a++Qa b)) (e:a++b=c):w.ownsRow B t 1 v m (Qa c):=by
 rw [<- e,zBd];exact h
theorem TH {w:vv} {g:Nat} {t:vy} {l:List Nat} (h:Blk w g t (Qa l).toArray) (hl:∀ x∈l,x<18446744073709551616) (hm:l.length <= maxLen):RWd w [ve (vD ⟨g,0,vB⟩) l.length l.length] l:=by
 refine ⟨_,_,_,rfl,zR,hm,⟨by rw [pF,Nat.mul_one],fun _=>⟨_,rfl,fun j u hu=>?_⟩⟩,hl⟩
 rw [yt,yf,h.cell]
 simpa using hu
theorem RW (p a e:Nat) (w:vv) (hp:jc p=true) (he:e<18446744073709551616) :
  vA prog 271 #[vd vq p,vd vq a,vd vq e] w fun e' w'=>e'=vn (vd vq ((a^e%p:Nat):Int)) /\ vz w.1.size w w':=by
 obtain ⟨Lc,Nb⟩:=tc hp;have HO:=zH (fun w=>by have:=tq p w Nb;rw [hp] at this;exact this)
 have HM:=zH (fun a b w=>RA p a b w hp)
 obtain ⟨n,hn⟩:=zEX (a^e%p);rw [<- hn];have HI:=zH (show 1*(a%p)^e%p=n by rw [Nat.one_mul,<- Nat.pow_mod,hn])
 have HP:=zH Lc;have p1:(0:Int)<p:=by omega
 have e1:(a:Int)%(p:Int)=((a%p:Nat):Int):=rfl;have e2:(a:Int).tmod (p:Int)=((a%p:Nat):Int):=rfl;have p3:¬(p=0):=by omega
 clear hn hp Lc Nb;generalize a%p=a0 at *;go_enter func271,ntmps271
 go_wp2_with fail
 refine (HO.out _).mono ?_;rintro e' w1 ⟨rfl,ba⟩;go_wp2_with fail
 clear e1 e2;go_loopw [1,2,7] (fun x y z wr=>∃ a' e' r:Nat,x=vd vq a' /\ y=vd vq e' /\ z=vd vq r /\ r<p /\ e'<18446744073709551616 /\ Hid (r*a'^e'%p=n) /\ vz w.1.size w wr) (fun _ y _ _=>(intOf y).toNat)
 case atStart=>exact ⟨a0,e,1,rfl,rfl,rfl,by have:=HP.out;omega,he,HI.out,ba⟩
 case round =>
  clear ba;obtain ⟨a',e',r,rfl,rfl,rfl,iq,he',H,Wa⟩:=hrel;by_cases h0:e'=0
  ·subst h0
   have HE:=zH (show r=n by have:=H.out;rw [Nat.pow_zero,Nat.mul_one,Om iq] at this;exact this)
   go_wp2;go_ret
   exact ⟨by rw [HE.out];rfl,Wa⟩
  ·have g1:(0:Int)<e':=by omega
   obtain ⟨f,hf⟩:=zEX (e' / 2);have e1:(e':Int) / 2=(f:Int):=by omega
   have e2:(e':Int).tdiv 2=(f:Int):=by rw [Int.tdiv_eq_ediv_of_nonneg zO];exact e1
   have HQ:=zH (fun w=>HM.out a' a' w)
   rcases (show e'%2=1 \/ e'%2=0 by omega) with Gi | Gi
   ·have eb:(e':Int)%2=1:=by omega
    have ec:(e':Int).tmod 2=1:=by rw [Ex zO];exact eb
    have HF:=zH hf;have og:=zH (fun w=>HM.out r a' w)
    have HX:=Y7 p r a' e' n H.out Gi;rw [<- hf] at HX;have Pg:r*a'%p<p:=Ic _ (zQ HP.out);generalize r*a'%p=s at *;generalize a'*a'%p=q at *;replace HX:=zH HX;clear Gi hf;go_wp2_with fail
    refine (og.out _).mono ?_;rintro e w1 ⟨rfl,La⟩;replace Wa:=Pk Wa La Wa.size;clear La;go_wp2_with fail
    refine (HQ.out _).mono ?_;rintro e w2 ⟨rfl,Da⟩;replace Wa:=Pk Wa Da Wa.size;go_wp2
    go_roundw
    case rel=>exact ⟨q,f,s,rfl,rfl,rfl,Pg,by have:=HF.out;omega,HX.out,Wa⟩
    case measure=>have:=HF.out;simp [intOf];omega
   ·have eb:(e':Int)%2=0:=by omega
    have ec:(e':Int).tmod 2=0:=by rw [Ex zO];exact eb
    have HF:=zH hf;have HX:=W7 p r a' e' n H.out Gi;rw [<- hf] at HX;generalize a'*a'%p=q at *;replace HX:=zH HX;clear Gi hf;go_wp2_with fail
    refine (HQ.out _).mono ?_;rintro e w2 ⟨rfl,Da⟩;replace Wa:=Pk Wa Da Wa.size;go_wp2
    go_roundw
    case rel=>exact ⟨q,f,r,rfl,rfl,rfl,iq,by have:=HF.out;omega,HX.out,Wa⟩
    case measure=>have:=HF.out;simp [intOf];omega
theorem zDs {w:vv} {a b c:vw}:(Instr.index 275 (vf #[a,b,c]) (vd vt 2)).run prog w= .ok c w :=
 fP (i:=2) underlying275 OT mX zO rfl
theorem zGg (p:Nat) (w:vv) (hp:jc p=true) :
  vA prog 273 #[vd vq p] w fun e w'=>e=vn (vd vq ((Vc p).2.2:Int)) /\ vz w.1.size w w':=by
 have HR:=zH (ZW p w (tc hp).2);clear hp;unfold QM at HR;generalize (Vc p).1=a at *;generalize (Vc p).2.1=b at *;generalize (Vc p).2.2=c at *;go_enter func273,ntmps273
 go_wp2_with (go_at_call 177;refine HR.out.mono ?_;rintro e w1 ⟨rfl,hb⟩)
 rw [zDs,Result.andThen,Oper.upon_value];go_wp2;go_ret
 exact ⟨rfl,hb⟩
theorem I8 (p:Nat) (w:vv) (hp:jc p=true) :
  vA prog 183 #[vd vq p] w fun e w'=>e=vn (vd vq ((Vc p).1:Int)) /\ vz w.1.size w w':=by
 have HR:=zH (ZW p w (tc hp).2);clear hp;unfold QM at HR;generalize (Vc p).1=a at *;generalize (Vc p).2.1=b at *;generalize (Vc p).2.2=c at *;go_enter func183,ntmps183
 go_wp2_with (go_at_call 177;refine HR.out.mono ?_;rintro e w1 ⟨rfl,hb⟩)
 rw [C3,Result.andThen,Oper.upon_value];go_wp2;go_ret
 exact ⟨rfl,hb⟩
def BS (p:Nat) (l:List Nat):Nat:=l.foldl (fun s x=>(s+x)%p) 0
theorem zGJ (p:Nat) (A:Option vx) (n c:Nat) (l:List Nat) (w:vv) (hp:jc p=true) (hl:RWd w [ve A n c] l) :
  vA prog 289 #[vd vq p,ve A n c] w fun e w'=>e=vn (vd vq (BS p l:Int)) /\ vz w.1.size w w':=by
 obtain ⟨rfl,h1,h2,ta,Ka⟩:=Mb hl;have gm:=Mh h1 h2;have HA:=zH (fun a b w=>GC p a b w hp)
 have HS:=zH (show BS p l=l.foldl (fun s x=>(s+x)%p) 0 from rfl)
 rw [HS.out];clear HS hl h1 h2 hp ta;go_enter func289,ntmps289
 go_wp2_with fail
 go_loopw [5,6] (fun y i wr=>∃ k:Nat,k <= l.length /\ i=vd vt k /\ y=vd vq (((l.take k).foldl (fun s x=>(s+x)%p) 0:Nat):Int) /\ vz w.1.size w wr) (fun _ i _=>l.length-(intOf i).toNat)
 case atStart=>exact ⟨0,Rb _,rfl,rfl,Bb _ _⟩
 case round =>
  obtain ⟨k,hk,rfl,rfl,Wa⟩:=hrel;by_cases ta:k<l.length
  ·obtain ⟨b,q,rfl,Zb,hc⟩:=Ve (Ka.below Wa) ta
   have HF:=zH (zD2 (fun s x=>(s+x)%p) 0 l k ta)
   generalize l.getD k 0=y at *;generalize (l.take k).foldl (fun s x=>(s+x)%p) 0=s at *
   have ie:=zH (fun w=>HA.out s y w)
   have Eo:=zH (show (l.take (k+1)).foldl (fun s x=>(s+x)%p) 0=(s+y)%p from HF.out)
   clear HF;generalize (s+y)%p=z at *;have g1:(0:Int)<=k:=by omega
   have g2:(k:Int)<l.length:=by omega
   go_wp2_with fail
   refine (ie.out _).mono ?_;rintro e w1 ⟨rfl,La⟩;replace Wa:=Pk Wa La Wa.size;clear hc La;go_wp2
   go_roundw
   case rel=>exact ⟨k+1,zO,by go_num,by rw [Eo.out],Wa⟩
   case measure=>simp [intOf];omega
  ·obtain rfl:k=l.length:=by omega
   rw [List.take_length];go_wp2;go_ret
   exact ⟨rfl,Wa⟩
theorem zGc (p r i:Nat) (w:vv) (hp:jc p=true) (hr:r<8) (hi:i<3) :
  vA prog 272 #[vd vq p,vd vt r,vd vt i] w fun e w'=>e=vn (vd vq (Bt p r i:Int)) /\ vz w.1.size w w':=by
 obtain ⟨Lc,Nb⟩:=tc hp;have HO:=zH (fun w=>by have:=tq p w Nb;rw [hp] at this;exact this)
 have HC:=zH (show Bt p r i=Bv (3*r+i+1)%p from rfl)
 rw [HC.out];clear HC hp;obtain ⟨k,hk⟩:=zEX (3*r+i+1);rw [<- hk];have g1:(r:Int) <= 7:=by omega
 have g2:(i:Int) <= 2:=by omega
 have e1:3*(r:Int)+i+1=(k:Int):=by omega
 have e2:vq.wrap (k:Int)=k:=Kk _ zO;have e3:vq.wrap ((k:Int)*11400714819323198485)=(Bv k:Int):=by
  rw [Vg];have:((k:Int)*11400714819323198485)=((k*11400714819323198485:Nat):Int):=by rw [Th];rfl
  rw [this]
  rfl
 have e4:(Bv k:Int)%(p:Int)=((Bv k%p:Nat):Int):=rfl;have e5:(Bv k:Int).tmod (p:Int)=((Bv k%p:Nat):Int):=rfl;have p1:(0:Int)<p:=by omega
 have p3:¬(p=0):=by omega
 clear hk hr hi;generalize Bv k%p=m at *;generalize Bv k=z at *;go_enter func272,ntmps272
 go_wp2_with fail
 refine (HO.out _).mono ?_;rintro e w1 ⟨rfl,hb⟩;go_wp2;go_ret
 exact ⟨rfl,hb⟩
def DC (f:Nat -> Nat) (s:St):Nat -> St
 | 0=>⟨0,0,0⟩
 | 1=>⟨f s.a,0,0⟩
 | 2=>⟨f s.a,f s.b,0⟩
 | _=>⟨f s.a,f s.b,f s.c⟩
theorem zEN (f:Nat -> Nat) (s:St) {i:Nat} (h:i<3):(DC f s i).cs.setIfInBounds i (vd vq (f (s.at_ i):Int))=(DC f s (i+1)).cs:=by
 rcases (show i=0 \/ i=1 \/ i=2 by omega) with rfl | rfl | rfl <;> simp [DC,St.cs,St.at_]
theorem sum3 (p:Nat) (s:St):BS p [s.a,s.b,s.c]=mq p s:=by
 simp [BS,mq]
theorem St.lit (s:St):(Qa [s.a,s.b,s.c]).toArray=s.cs:=rfl
theorem zGn (p:Nat) (s:St) (w:vv) (hp:jc p=true) (hs:s.ok) :
  vA prog 274 #[vd vq p,s.val] w fun e w'=>e=vn (tF p s).val /\ vz w.1.size w w':=by
 have HA:=zH (fun a b w=>GC p a b w hp)
 have HR:=zH (show tF p s=DC (fun x=>(x+mq p s)%p) s 3 from rfl)
 rw [HR.out];obtain ⟨k1,k2,k3,ba,db⟩:=Tp w 275 275 22 #[vd vq s.a,vd vq s.b,vd vq s.c] #[vd vq 0,vd vq 0,vd vq 0] #[vd vq s.a,vd vq s.b,vd vq s.c];have G1:RWd _ [ve (vD ⟨w.1.size+1+1,0,vB⟩) 3 3] [s.a,s.b,s.c]:=TH (l:=[s.a,s.b,s.c]) k3 (fun x hx=>by
  simp at hx
  rcases hx with rfl | rfl | rfl
  ·exact hs.1
  ·exact hs.2.1
  ·exact hs.2.2) (by simp [maxLen])
 have uD:=zH (zGJ p _ 3 3 [s.a,s.b,s.c] _ hp G1);rw [sum3] at uD;clear HR G1 hp hs k3;generalize hm:mq p s=m at *;clear hm;have ev:s.val=vf #[vd vq s.a,vd vq s.b,vd vq s.c]:=rfl;rw [ev];clear ev;go_enter func274,ntmps274
 go_wp2_with fail
 generalize ((w.alloc _).alloc _).alloc _=w0 at k1 k2 ba db uD |-;refine uD.out.mono ?_;rintro e w1 ⟨rfl,La⟩;replace k1:=ma k1 La;replace k2:=ma k2 La;replace ba:=pa ba La;have Nc:=La.size;clear La uD;obtain ⟨k4,ja⟩:=zN w1 275 #[vd vq 0,vd vq 0,vd vq 0];replace k1:=ma k1 ja;replace k2:=ma k2 ja;replace ba:=pa ba ja;have jH:w.1.size+1<w1.1.size:=by omega
 clear ja
 go_upto_block 0 with fail
 generalize w1.alloc _=w2 at k1 k2 k4 ba |-;generalize w1.1.size=g at k4 jH |-;clear Nc;have k4':Blk w2 g 275 (DC (fun x=>(x+m)%p) s 0).cs:=k4
 have Zk:Blk w2 w.1.size 275 s.cs:=k1;clear k1 k4;go_wp2_with fail
 go_loopw [7] (fun i wr=>∃ k:Nat,k <= 3 /\ i=vd vt k /\ Blk wr w.1.size 275 s.cs /\ Blk wr (w.1.size+1) 275 #[vd vq 0,vd vq 0,vd vq 0] /\ Blk wr g 275 (DC (fun x=>(x+m)%p) s k).cs /\ vz w.1.size w wr) (fun i _=>3-(intOf i).toNat)
 case atStart=>exact ⟨0,Rb _,rfl,Zk,k2,k4',ba⟩
 case round =>
  clear Zk k2 k4' ba;obtain ⟨k,hk,rfl,k1,k2,k4,ba⟩:=hrel;by_cases ta:k<3
  ·have g1:(k:Int)<3:=by omega
   have cm:=k1.cell k;rw [St.cs_at _ ta] at cm;obtain ⟨y,hy⟩:=zEX ((s.at_ k+m)%p);have oN:=zH (show (DC (fun x=>(x+m)%p) s k).cs.setIfInBounds k (vd vq y)=(DC (fun x=>(x+m)%p) s (k+1)).cs from by rw [hy];exact zEN (fun x=>(x+m)%p) s ta)
   have ie:=zH (fun w=>HA.out (s.at_ k) m w)
   rw [<- hy] at ie;clear hy;have cz:=k4.cell k;rw [St.cs_at _ ta] at cz;generalize (DC (fun x=>(x+m)%p) s k).at_ k=old at cz
   generalize s.at_ k=x at *;go_wp2_with fail
   refine (ie.out _).mono ?_;rintro e w3 ⟨rfl,Ta⟩;have cz3:w3.cell? ⟨g,k,vB⟩=vD (vd vq old):=(Below.cell Ta (Af _ _ cz)).trans cz;replace k1:=ma k1 Ta;replace k2:=ma k2 Ta;replace k4:=ma k4 Ta;replace ba:=pa ba Ta;have f4:=k4.frozen k;clear cz cm Ta;go_wp2_with fail
   have hg:w3.grownBy (w3.setCell ⟨g,k,vB⟩ (vd vq y)) (vD g):=tj (p:=⟨g,k,vB⟩) (Mg w3 _) (.inl rfl) _;replace k4:=k4.set_ k (vd vq y);rw [oN.out] at k4;replace k1:=k1.grown hg (fun e=>by have:=Pb e;omega)
   replace k2:=k2.grown hg (fun e=>by have:=Pb e;omega)
   replace ba:=Qe ba hg;clear hg f4 cz3;generalize w3.setCell _ _=Wf at k1 k2 k4 ba |-
   go_roundw
   case rel=>exact ⟨k+1,zO,by go_num,k1,k2,k4,ba⟩
   case measure=>simp [intOf];omega
  ·obtain rfl:k=3:=by omega
   obtain ⟨q,hq⟩:=zEX (DC (fun x=>(x+m)%p) s 3)
   rw [<- hq] at k4;have HQ:=zH hq;clear hq;have k4':Blk wr g 275 #[vd vq q.a,vd vq q.b,vd vq q.c]:=k4;have c4:=k4'.cell;have c2:=k2.cell;have f2:=k2.frozen;go_wp2_with fail
   have hg:=Cp (w:=wr) (g:=w.1.size+1) (vd vq q.a) (vd vq q.b) (vd vq q.c);have kz:=zp k2 (vd vq q.a) (vd vq q.b) (vd vq q.c);clear c4 c2 f2 k2;generalize ((vE wr _ _).setCell _ _).setCell _ _=Wf at hg kz |-;have cz:=kz.cell;have hs:=ba.size;exact Tc (v:=vf #[vd vq q.a,vd vq q.b,vd vq q.c]) (by simp [results,results274,go_sem,cz]) rfl ⟨by rw [<- HQ.out];rfl,ba.trans (Po hg hs zO)⟩
theorem St.ok_of_lt {s:St} {p:Nat} (hp:p<18446744073709551616) (h1:s.a<p) (h2:s.b<p) (h3:s.c<p):s.ok:=⟨zO,zO,zO⟩
theorem zHj {p:Nat} (h1:0<p) (r i x:Nat):ou p r i x<p:=Ic _ h1
def Fb (n:Nat) (f:Nat -> Nat):Array vw:=((List.range n).map fun k=>vd vq (f k:Int)).toArray
def ui (f:Nat -> Nat) (k v:Nat):Nat -> Nat:=fun i=>if i=k then v else f i
theorem Pn {n k:Nat} (f:Nat -> Nat) (h:k<n):(Fb n f)[k]?=vD (vd vq (f k:Int)):=by simp [Fb,h]
theorem aE {n:Nat} {f g:Nat -> Nat} (h:∀ i,i<n -> f i=g i):Fb n f=Fb n g:=by
 unfold Fb
 congr 1
 exact NB fun i hi=>by rw [h i (Lm.1 hi)]
theorem bE {n:Nat} (f:Nat -> Nat) (k v:Nat):(Fb n f).setIfInBounds k (vd vq v)=Fb n (ui f k v):=by
 apply Array.ext
 ·simp [Fb]
 ·intro i h1 h2
  simp [Fb] at h1 h2
  rw [Array.getElem_setIfInBounds (by simpa [Fb] using h1)]
  simp only [Fb,ui];split
  ·subst_vars;simp
  ·rename_i Ua
   simp [show ¬i=k from fun e=>Ua e.symm]
theorem NG (n:Nat) (f:Nat -> Nat):Fb n f=(Qa ((List.range n).map f)).toArray:=by simp [Fb,Qa]
theorem UL {w:vv} {g n:Nat} {t:vy} {f:Nat -> Nat} (h:Blk w g t (Fb n f)) (hf:∀ i,i<n -> f i<18446744073709551616) (hn:n <= maxLen):RWd w [ve (vD ⟨g,0,vB⟩) n n] ((List.range n).map f):=by
 rw [NG] at h;have:=TH h (fun x hx=>by
  obtain ⟨i,hi,rfl⟩:=Ie.1 hx;exact hf i (Lm.1 hi)) (by simpa using hn)
 simpa using this
theorem lW {P:Program} {t e:vy} {size bytes:Nat} {z:vw} (E:Lr P t e size bytes z) (n:Nat) (hb:bytes*n <= 281474976710656) (hn:(n:Int) <= 9223372036854775807) (w:vv) :
  (Instr.makeSlice t (vd vt n) (vd vt n)).run P w= .ok (ve (vD ⟨w.1.size,0,vB⟩) n n) (w.alloc (.cells (madeCells z.cells (n*size)) e)):=by
 obtain ⟨ht,⟨i,hi,hz,hs,ey⟩,hzs,db⟩:=E;have:=run_make (P:=P) w t e i z ht hi hz vt vt (n:Int) (n:Int) zO (Int.le_refl _) (by rw [ey,<- Th];exact Int.ofNat_le.2 hb) hn
 rw [Dn,hs] at this;exact this
theorem zD7 (n:Nat):madeCells (vd vq 0).cells (n*1)=Fb n fun _=>0:=by
 apply Array.toList_inj.1
 rw [show (vd vq 0).cells=#[vd vq 0] from rfl,toList_madeCells_one]
 exact List.ext_getElem (by simp [Fb]) fun i h1 h2=>by simp [Fb]
theorem info_w:(prog.info? 22).map (fun i=>(i.zero,i.size,i.bytes))=vD (vD (vd vq 0),1,8):=by kernel_rfl
theorem Ag:Lr prog 28 22 1 8 (vd vq 0):=by
 obtain ⟨i0,hi,Wj,Zd,Gg⟩:=info_parts info_w;exact ⟨Bz,⟨i0,hi,Wj,Zd,Gg⟩,rfl,zO⟩
theorem zC (n:Nat) (hn:n <= 1000000) (w:vv) :
  (Instr.makeSlice 28 (vd vt n) (vd vt n)).run prog w= .ok (ve (vD ⟨w.1.size,0,vB⟩) n n) (w.alloc (.cells (Fb n fun _=>0) 22)):=by
 have:=lW (P:=prog) Ag n zO zO w;rw [zD7] at this;exact this
def lX (rows:List Ya):Prop:=∀ r∈rows,r.a.length <= 100000 /\ r.b.length <= 100000 /\ r.c.length <= 100000
def eI (rows:List Ya):Nat:=(rows.map fun r=>r.a.length+r.b.length+r.c.length).sum
def DL (rows:List Ya):Prop:=lX rows -> rows.length+eI rows <= 400
def SmallB (rows:List Ya) (e:Ending):Prop:=∃ b,e=vn (.bool b) /\ (b=true -> DL rows)
theorem zHL (rows:List Ya) {j:Nat} (h:j<rows.length):eI (rows.take (j+1))=eI (rows.take j)+(rows[j].a.length+rows[j].b.length+rows[j].c.length):=by
 unfold eI;rw [ID h,List.map_append,List.sum_append];simp
theorem RLin.open_ {w:vv} {v:vw} {l:List (Int × Nat)} (h:RLin w [v] l):∃ A n c,v=ve A n c /\ n <= maxLen /\ l.length=n:=by
 obtain ⟨A,n,c,e,h0,h1,h2,-⟩:=h;simp at e
 exact ⟨A,n,c,e,zO,h0⟩
theorem zGG (p:Nat) (pub vars:Int) (A:Option vx) (n c:Nat) (rows:List Ya) (w:vv) (hr:RSl 3 Ue w [ve A n c] rows) :
  vA prog 56 #[Kc p pub vars (ve A n c)] w fun e w'=>SmallB rows e /\ vz w.1.size w w':=by
 obtain ⟨A',n',c',he,hlen,Ce,Eg,Ka⟩:=hr;simp at he
 obtain ⟨rfl,rfl,rfl⟩:=he;subst hlen;unfold Kc;have gm:(rows.length:Int) <= 9223372036854775807:=by
  have h3:=Ce;have h4:=Eg;simp [maxLen] at h4
  omega
 obtain ⟨w0,hw0⟩:=zEX (w.alloc (.cells #[vd vq p,vd vt pub,vd vt vars,ve A rows.length c] 25));have ba:vz w.1.size w w0:=by rw [hw0];exact (Bb _ w).alloc zR _
 have hB:Blk w0 w.1.size 25 #[vd vq p,vd vt pub,vd vt vars,ve A rows.length c]:=by rw [hw0];exact Blk.new w _ _
 go_enter func56,ntmps56
 go_wp2_with fail
 rw [<- hw0];have HW:=zH hw0;clear hw0;go_loopw [3,4] (fun s i wr=>∃ (j kk:Nat) (t:Int),j <= rows.length /\ i=vd vt j /\ s=vd vt t /\ wr=w0.drewN kk /\ Hid (lX rows -> t=(rows.length:Int)+(eI (rows.take j):Int)))
  (fun _ i _=>rows.length-(intOf i).toNat)
 case atStart=>exact ⟨0,0,rows.length,Rb _,rfl,rfl,rfl,fun _=>by simp [eI]⟩
 case round =>
  obtain ⟨j,kk,t,hj,rfl,rfl,rfl,HT⟩:=hrel;have s3:(w0.drewN kk).cell? ⟨w.1.size,3,vB⟩=vD (ve A rows.length c):=(hB.drewN kk).cell 3;by_cases ta:j<rows.length
  ·by_cases z1:t <= 400
   ·have d1:=Qb z1
    obtain ⟨b,q,rfl⟩:=Ka.base zO zO;obtain ⟨cs,-,hc,x,y,z,rfl,Zc,ff,Zd⟩:=(Ka.below Qg (below_drewN ba kk)).get ta;obtain ⟨A1,n1,c1,rfl,m1,u1⟩:=RLin.open_ Zc;obtain ⟨A2,n2,c2,rfl,m2,u2⟩:=RLin.open_ ff;obtain ⟨A3,n3,c3,rfl,m3,u3⟩:=RLin.open_ Zd;have HU:=zH (And.intro ta (And.intro u1 (And.intro u2 u3)));clear u1 u2 u3;have h0:(w0.drewN kk).cell? ⟨b,q+j*3,vB⟩=vD _:=hc 0 zO;have h1:(w0.drewN kk).cell? ⟨b,q+j*3+1,vB⟩=vD _:=hc 1 zO;have h2:(w0.drewN kk).cell? ⟨b,q+j*3+2,vB⟩=vD _:=hc 2 zO;have i1:(0:Int)<=j:=by omega
    have i2:(j:Int)<rows.length:=by omega
    simp [maxLen] at m1 m2 m3 h0 h1 h2
    clear hc Zc ff Zd;simp at s3
    go_wp2_with fail
    go_quiet (fail)
    go_wp2
    go_roundw
    case rel =>
     refine ⟨j+1,_,_,zO,by go_num,rfl,rfl,fun hs=>?_⟩
     obtain ⟨hl,u1,u2,u3⟩:=HU.out;have h1:=HT.out hs;have h2:=hs rows[j] (pg hl);rw [zHL rows hl];unfold wrap64;omega
    case measure=>simp [intOf];omega
   ·have d1:=Ib z1
    go_wp2;go_ret
    exact ⟨⟨_,rfl,fun h=>by simp at h⟩,below_drewN ba _⟩
  ·obtain rfl:j=rows.length:=by omega
   go_wp2;go_ret
   refine ⟨⟨_,rfl,fun h hs=>?_⟩,below_drewN ba _⟩
   have h1:=HT.out hs;rw [List.take_length] at h1;simp at h
   omega
theorem zCM (n:Nat) (w:vv) (hn:n <= 4096) :
  vA prog 94 #[vd vt n] w fun e w'=>∃ k,e=vn (vd vt ((2^k:Nat):Int)) /\ n <= 2^k /\ 2^k <= 2*n+1 /\ (1 <= n -> 2^k<2*n) /\ w'=w:=by
 go_enter func94,ntmps94
 go_wp2_with fail
 go_loopw [3] (fun i wr=>∃ (k m:Nat),i=vd vt m /\ Hid (m=2^k) /\ 0<m /\ m <= 2*n+1 /\ Hid (1 <= n -> m<2*n) /\ wr=w)
  (fun i _=>2*n+1-(intOf i).toNat)
 case atStart=>exact ⟨0,1,rfl,rfl,zO,zO,(fun _=>zO),zS⟩
 case round =>
  obtain ⟨k,m,rfl,HM,hm0,Pf,HL,rfl⟩:=hrel;by_cases ta:m<n
  ·go_wp2
   go_roundw
   case rel =>
    refine ⟨k+1,2*m,by go_num,?_,zO,zO,(fun _=>zO),zS⟩
    show 2*m=2^(k+1)
    rw [HM.out,qj,Jj]
   case measure=>simp [intOf];omega
  ·go_wp2
   go_ret
   refine ⟨k,?_,?_,?_,?_,rfl⟩
   ·rw [<- HM.out];rfl
   ·rw [<- HM.out];omega
   ·rw [<- HM.out];omega
   ·rw [<- HM.out];exact HL.out
structure Xa where
 p:Nat
 block:Nat
 queries:Nat
 k:Nat
 n:Nat
 secret:Nat
 rows:Nat
 a:Nat
 b:Nat
def Eb (l:Xa):Array vw:=#[vd vq l.p,vd vt l.block,vd vt l.queries,vd vt l.k,vd vt l.n,vd vt l.secret,vd vt l.rows,vd vt l.a,vd vt l.b,vd vt l.b,vd vt l.b]
def Xf:Array vw:=#[vd vq 0,vd vt 0,vd vt 0,vd vt 0,vd vt 0,vd vt 0,vd vt 0,vd vt 0,vd vt 0,vd vt 0,vd vt 0]
structure ed (l:Xa):Prop where
 p:jc l.p=true
 b1:2 <= l.block
 b2:l.block <= 256
 q1:1 <= l.queries
 q2:l.queries <= 64
 k:l.k=l.block+l.queries
 n:∃ j,l.n=2^j
 n2:l.n <= 1024
 s:l.secret <= 65536
 r:l.rows <= 16384
 a:l.a <= 100000
 b:l.b <= 100000
 bj:l.block &&& (l.block-1)=0
 bd:(l.p-1)%l.block=0
 nd:(l.p-1)%l.n=0
 nl:l.n<l.p-1
 nk:2*l.k <= l.n
 ae:l.a=(l.secret+l.block-1) / l.block
 be:l.b=(l.rows+l.block-1) / l.block
def VL (n:Nat):Nat:=2^((n-1).log2+1)
theorem zCJ {n m:Nat} (hn:2 <= n) (h:∃ k,m=2^k) (h1:n <= m) (h2:m<2*n):m=VL n:=by
 obtain ⟨k,rfl⟩:=h;cases k with
 | zero=>simp at h1;omega
 | succ k =>
  unfold VL;rw [qj] at h1 h2;have:(n-1).log2=k:=(Nat.log2_eq_iff zO).2 ⟨zO,by rw [qj];omega⟩
  rw [this]
structure NewIn where
 p:Nat
 pub:Int
 vars:Int
 nr:Nat
 bl:Int
 bw:Int
 qs:Int
def NewIn.n (x:NewIn):Nat:=x.bw.toNat*VL (2*(x.bl.toNat+x.qs.toNat))
def Uw (x:NewIn):Int :=
 if x.bl<2 \/ 256<x.bl \/ x.bl.toNat &&& (x.bl.toNat-1)≠0 \/ x.qs<1 \/ 64<x.qs \/ (x.bw≠1 /\ x.bw≠2 /\ x.bw≠4 /\ x.bw≠8) then 1
 else if (x.p-1)%x.bl.toNat≠0 \/ (x.p-1)%x.n≠0 \/ x.p-1 <= x.n then 7
 else if 1024<x.n then 3 else 0
def DR (x:NewIn):Xa:=⟨x.p,x.bl.toNat,x.qs.toNat,x.bl.toNat+x.qs.toNat,x.n,(x.vars-1-x.pub).toNat,x.nr,((x.vars-1-x.pub).toNat+x.bl.toNat-1) / x.bl.toNat,(x.nr+x.bl.toNat-1) / x.bl.toNat⟩
structure aw (L:Xa) (x:NewIn):Prop where
 p:L.p=x.p
 eq:L=DR x
 err:Uw x=0
 pub:0 <= x.pub
 vars:x.pub<x.vars
theorem zAz {w w1:vv} {t1 t2 t3:vy} {pc Hc Jd:Array vw} (hb:vz (((w.alloc (.cells pc t1)).alloc (.cells Hc t2)).alloc (.cells Jd t3)).1.size (((w.alloc (.cells pc t1)).alloc (.cells Hc t2)).alloc (.cells Jd t3)) w1) :
  Blk w1 w.1.size t1 pc /\ Blk w1 (w.1.size+1) t2 Hc /\ Blk w1 (w.1.size+1+1) t3 Jd /\ vz w.1.size w w1:=by
 refine ⟨(((Blk.new w t1 pc).alloc _).alloc _).below hb zT,?_,?_,pa ((((Bb _ w).alloc zR _).alloc zS _).alloc zT _) hb⟩
 ·have:=((Blk.new (w.alloc (.cells pc t1)) t2 Hc).alloc (.cells Jd t3)).below hb zS
  simpa using this
 ·have:=(Blk.new ((w.alloc (.cells pc t1)).alloc (.cells Hc t2)) t3 Jd).below hb zS
  simpa using this
section
variable {w w0:vv} {g B:Nat} {t:vy} {cs:Array vw}
theorem zHq {y0 y1 y2 y3 y4 y5 y6 y7 y8 y9 xu:vw} (k:Blk w g t #[y0,y1,y2,y3,y4,y5,y6,y7,y8,y9,xu]) (x0 x1 x2 x3 x4 x5 x6 x7 x8 x9 bD:vw) :
  Blk (((((((((((w.setCell ⟨g,0,vB⟩ x0).setCell ⟨g,1,vB⟩ x1).setCell ⟨g,2,vB⟩ x2).setCell ⟨g,3,vB⟩ x3).setCell ⟨g,4,vB⟩ x4).setCell ⟨g,5,vB⟩ x5).setCell ⟨g,6,vB⟩ x6).setCell ⟨g,7,vB⟩ x7).setCell ⟨g,8,vB⟩ x8).setCell ⟨g,9,vB⟩ x9).setCell ⟨g,10,vB⟩ bD) g t #[x0,x1,x2,x3,x4,x5,x6,x7,x8,x9,bD]:=by
 have h:=((((((((((k.set_ 0 x0).set_ 1 x1).set_ 2 x2).set_ 3 x3).set_ 4 x4).set_ 5 x5).set_ 6 x6).set_ 7 x7).set_ 8 x8).set_ 9 x9).set_ 10 bD
 simpa using h
theorem zHp (h:vz B w0 w) (hg:B <= g) (x0 x1 x2 x3 x4 x5 x6 x7 x8 x9 bD:vw) :
  vz B w0 (((((((((((w.setCell ⟨g,0,vB⟩ x0).setCell ⟨g,1,vB⟩ x1).setCell ⟨g,2,vB⟩ x2).setCell ⟨g,3,vB⟩ x3).setCell ⟨g,4,vB⟩ x4).setCell ⟨g,5,vB⟩ x5).setCell ⟨g,6,vB⟩ x6).setCell ⟨g,7,vB⟩ x7).setCell ⟨g,8,vB⟩ x8).setCell ⟨g,9,vB⟩ x9).setCell ⟨g,10,vB⟩ bD) :=
 ((((((((((h.setCell hg x0).setCell hg x1).setCell hg x2).setCell hg x3).setCell hg x4).setCell hg x5).setCell hg x6).setCell hg x7).setCell hg x8).setCell hg x9).setCell hg bD
theorem SM {y0 y1 y2 y3 y4 y5 y6 y7 y8 y9 xu:vw} (k:Blk w g t #[y0,y1,y2,y3,y4,y5,y6,y7,y8,y9,xu]) (h:vz B w0 w) (x0 x1 x2 x3 x4 x5 x6 x7 x8 x9 bD:Int) (hg:B <= g:=by omega):∃ wf,(((((((((((w.setCell ⟨g,0,vB⟩ (vd vq x0)).setCell ⟨g,1,vB⟩ (vd vt x1)).setCell ⟨g,2,vB⟩ (vd vt x2)).setCell ⟨g,3,vB⟩ (vd vt x3)).setCell ⟨g,4,vB⟩ (vd vt x4)).setCell ⟨g,5,vB⟩ (vd vt x5)).setCell ⟨g,6,vB⟩ (vd vt x6)).setCell ⟨g,7,vB⟩ (vd vt x7)).setCell ⟨g,8,vB⟩ (vd vt x8)).setCell ⟨g,9,vB⟩ (vd vt x9)).setCell ⟨g,10,vB⟩ (vd vt bD))=wf /\ Blk wf g t #[vd vq x0,vd vt x1,vd vt x2,vd vt x3,vd vt x4,vd vt x5,vd vt x6,vd vt x7,vd vt x8,vd vt x9,vd vt bD] /\ vz B w0 wf :=
 ⟨_,rfl,zHq k _ _ _ _ _ _ _ _ _ _ _,zHp h hg _ _ _ _ _ _ _ _ _ _ _⟩
theorem Ey {y0 y1 y2 y3 y4 y5 y6 y7 y8 y9 xu:vw} (k:Blk w g t #[y0,y1,y2,y3,y4,y5,y6,y7,y8,y9,xu]) (h:vz B w0 w) (hg:B <= g:=by omega):type_of% (SM k h 0 0 0 0 0 0 0 0 0 0 0 hg):=SM k h 0 0 0 0 0 0 0 0 0 0 0 hg
theorem setL11 {y0 y1 y2 y3 y4 y5 y6 y7 y8 y9 xu:vw} (k:Blk w g t #[y0,y1,y2,y3,y4,y5,y6,y7,y8,y9,xu]) (h:vz B w0 w) (L:Xa) (hg:B <= g:=by omega):type_of% (SM k h L.p L.block L.queries L.k L.n L.secret L.rows L.a L.b L.b L.b hg):=SM k h L.p L.block L.queries L.k L.n L.secret L.rows L.a L.b L.b L.b hg
end
theorem fQ:∀ b:Fin 257,2 <= b.val -> bits .and vt (b.val:Int) ((b.val:Int)-1)=((b.val &&& (b.val-1):Nat):Int):=by decide +kernel
section
variable (p:Nat) (pub vars:Int) (A:Option vx) (n c:Nat) (rows:List Ya) (bl bw qs:Int) (w:vv)
def pq:Array vw:=#[Kc p pub vars (ve A n c),vf #[vd vt bl,vd vt bw,vd vt qs]]
end
theorem zGp (p:Nat) (pub vars:Int) (A:Option vx) (n c:Nat) (rows:List Ya) (bl bw qs:Int) (w:vv) (hr:RSl 3 Ue w [ve A n c] rows) (ht:Ad p pub vars rows=true)
  (h:bl<2 \/ 256<bl \/ bl.toNat &&& (bl.toNat-1)≠0 \/ qs<1 \/ 64<qs \/ (bw≠1 /\ bw≠2 /\ bw≠4 /\ bw≠8)) :
  vA prog 38 (pq p pub vars A n c bl bw qs) w fun e w'=>e=vn (.tuple #[vf Xf,vd vt 1]) /\ vz w.1.size w w':=by
 have jb:=uP ht;have hp:=(tc jb).2;have HV:=zH (fun w' (hb:vz w.1.size w w')=>pS p pub vars A n c rows w' (jg Qg _ _ _ _ hb hr) hp)
 rw [ht] at HV;clear ht jb hp;obtain ⟨A',n',c',he,hlen,-,-,-⟩:=hr;simp at he
 obtain ⟨rfl,rfl,rfl⟩:=he;subst hlen;unfold pq Kc;have ba:vz w.1.size w (((w.alloc (.cells #[vd vq p,vd vt pub,vd vt vars,ve A rows.length c] 25)).alloc (.cells #[vd vt bl,vd vt bw,vd vt qs] 27)).alloc (.cells Xf 38)):=(((Bb _ w).alloc zR _).alloc zS _).alloc zT _;unfold Xf at ba;have key:decide (bl<2)=true \/ decide (bl<2)=false /\ (decide (256<bl)=true \/ decide (256<bl)=false /\ ∃ b:Nat,bl=b /\ (1:Int) <= b /\ (b:Int) <= 256 /\ (0:Int)<=b-1 /\ ∃ r:Nat,bits .and vt (b:Int) ((b:Int)-1)=(r:Int) /\ (((r:Int) != 0)=true \/ r=0 /\ (decide (qs<1)=true \/ decide (qs<1)=false /\ (decide (64<qs)=true \/ decide (64<qs)=false /\ (bw != 1)=true /\ (bw != 2)=true /\ (bw != 4)=true /\ (bw != 8)=true)))):=by
  by_cases h0:bl<2
  ·exact .inl (Qb h0)
  refine .inr ⟨Ib h0,?_⟩;by_cases h1:256<bl
  ·exact .inl (Qb h1)
  refine .inr ⟨Ib h1,?_⟩;obtain ⟨b,rfl⟩:=Zl (show 0 <= bl by omega)
  rw [Dn] at h;refine ⟨b,rfl,zO,zO,zO,_,fQ ⟨b,zO⟩ (by show 2 <= b;omega),?_⟩
  by_cases h2:b &&& (b-1)=0
  ·refine .inr ⟨h2,?_⟩
   by_cases h3:qs<1
   ·exact .inl (Qb h3)
   refine .inr ⟨Ib h3,?_⟩;by_cases h4:64<qs
   ·exact .inl (Qb h4)
   refine .inr ⟨Ib h4,?_⟩;simp only [Fh];omega
  ·exact .inl (by rw [Fh];exact fun e=>h2 (Int.ofNat.inj e))
 clear h;rcases key with d1 | ⟨d1,d2 | ⟨d2,b,rfl,i1,i3,i2,r,hand,d3 | ⟨rfl,d4 | ⟨d4,d5 | ⟨d5,e1,e2,e4,e8⟩⟩⟩⟩⟩
 all_goals
  go_enter func38,ntmps38
  go_wp2_with (go_at_call 86;refine (HV.out _ ba).mono ?_;rintro e w1 ⟨rfl,hb⟩;obtain ⟨k2,k3,k4,te⟩:=zAz hb;have p0:w1.cell? ⟨w.1.size+1,0,vB⟩=vD (vd vt _):=k3.cell 0;have p1:w1.cell? ⟨w.1.size+1,1,vB⟩=vD (vd vt bw):=k3.cell 1;have p2:w1.cell? ⟨w.1.size+1,2,vB⟩=vD (vd vt qs):=k3.cell 2;have c4:=k4.cell;have f4:=k4.frozen;unfold Xf at c4;clear hb)
  obtain ⟨wf,Nd,kW,hW⟩:=Ey k4 te;rw [Nd];clear Nd c4 f4 p0 p1 p2 k2 k3 k4;have c4:=kW.cell;exact Tc (v:=.tuple #[vf Xf,vd vt 1]) (by simp [results,results38,go_sem,c4,Xf]) rfl ⟨rfl,hW⟩
theorem Sl (x:Int) (h1:-9223372036854775808 <= x) (h2:x <= 9223372036854775807):vt.wrap x=x:=by rw [pj];omega
theorem Ud (x:Int) (a:-9223372036854775808 <= x:=by omega) (b:x <= 9223372036854775807:=by omega):vt.wrap x=x:=Sl x a b
theorem zCS (n:Nat) (w:vv) (hn:n <= 4096):vA prog 94 #[vd vt n] w fun e w'=>∃ m,((∃ k,m=2^k) /\ n <= m /\ (1 <= n -> m<2*n)) /\ m <= 2*n+1 /\ e=vn (vd vt m) /\ w'=w :=
 (zCM n w hn).mono fun _ _ ⟨k,he,hl,hm,hs,hw⟩=>⟨2^k,⟨⟨k,rfl⟩,hl,hs⟩,hm,he,hw⟩
def XI (x:NewIn) (e:Ending):Prop:=∃ (lcs:Array vw) (er:Int),e=vn (.tuple #[vf lcs,vd vt er]) /\ ((er≠0 /\ lcs=Xf /\ er=Uw x) \/ (er=0 /\ ∃ L,ed L /\ aw L x /\ lcs=Eb L))
theorem X5 {p U V nr b q bw pm N NN:Nat} (h0:2 <= b) (h1:b <= 256) (h2:b &&& (b-1)=0) (h3:1 <= q) (h4:q <= 64) (hw:bw=1 \/ bw=2 \/ bw=4 \/ bw=8) (hp:pm=p-1) (hN:(∃ k,N=2^k) /\ 2*(b+q) <= N /\ (1 <= 2*(b+q) -> N<2*(2*(b+q)))) (um:NN=bw*N) :
  NN=NewIn.n ⟨p,U,V,nr,b,bw,q⟩ /\ Uw ⟨p,U,V,nr,b,bw,q⟩=if pm%b≠0 \/ pm%NN≠0 \/ pm <= NN then 7 else if 1024<NN then 3 else 0:=by
 have e:=zCJ zO hN.1 hN.2.1 (hN.2.2 zO);have e2:NN=NewIn.n ⟨p,U,V,nr,b,bw,q⟩:=by
  show NN=(bw:Int).toNat*VL (2*((b:Int).toNat+(q:Int).toNat))
  rw [um,e]
  rfl
 refine ⟨e2,?_⟩;unfold Uw;rw [<- e2,mb]
 ·simp only [Dn,hp]
 ·simp only [Dn]
  omega
theorem zGq (p U V:Nat) (A:Option vx) (n c:Nat) (rows:List Ya) (b q:Nat) (x:Int) (w:vv) (hr:RSl 3 Ue w [ve A n c] rows) (ht:Ad p U V rows=true)
  (h0:2 <= b) (h1:b <= 256) (h2:b &&& (b-1)=0) (h3:1 <= q) (h4:q <= 64) (hx:x=1 \/ x=2 \/ x=4 \/ x=8) :
  vA prog 38 (pq p U V A n c b x q) w fun e w'=>XI ⟨p,U,V,rows.length,b,x,q⟩ e /\ vz w.1.size w w':=by
 obtain ⟨B,t,dh,hBt⟩:∃ B t:Nat,((x=1 /\ B=1) \/ (x=2 /\ B=2) \/ (x=4 /\ B=4) \/ (x=8 /\ B=8)) /\ B=2^t:=by
  rcases hx with rfl | rfl | rfl | rfl
  ·exact ⟨1,0,zS⟩
  ·exact ⟨2,1,zS⟩
  ·exact ⟨4,2,zS⟩
  ·exact ⟨8,3,zS⟩
 obtain ⟨X,hX⟩:∃ X:NewIn,X=⟨p,U,V,rows.length,b,x,q⟩:=⟨_,rfl⟩;rw [<- hX];have HX:=zH hX;have hX2:X=⟨p,U,V,rows.length,b,(B:Int),q⟩:=by rw [hX,show x=(B:Int) by omega]
 clear hX;obtain ⟨f,hf⟩:∃ f:Nat -> Nat,∀ N,f N=B*N:=⟨_,fun _=>rfl⟩
 have oB:=zH hf;have HBN:=zH (show ∀ N:Nat,x*(N:Int)=((f N:Nat):Int) from fun N=>by rw [hf,Th,show x=(B:Int) by omega])
 have HBT:=zH hBt;have jb:=uP ht;obtain ⟨Lc,hp⟩:=tc jb;have HV:=zH (fun w' (hb:vz w.1.size w w')=>pS p U V A n c rows w' (jg Qg _ _ _ _ hb hr) hp)
 rw [ht] at HV;have hand:=fQ ⟨b,zO⟩ (by show 2 <= b;omega)
 simp only at hand;rw [h2] at hand;have htt:U<V /\ V <= 65536 /\ rows.length <= 16384:=by
  unfold Ad at ht;simp only [Pd,uo,XB] at ht;omega
 obtain ⟨t1,t2,t3⟩:=htt;obtain ⟨A',n',c',he,hlen,Ce,Eg,-⟩:=hr;simp at he
 obtain ⟨rfl,rfl,rfl⟩:=he;subst hlen;unfold pq Kc;have ba:vz w.1.size w (((w.alloc (.cells #[vd vq p,vd vt U,vd vt V,ve A rows.length c] 25)).alloc (.cells #[vd vt b,vd vt x,vd vt q] 27)).alloc (.cells Xf 38)):=(((Bb _ w).alloc zR _).alloc zS _).alloc zT _;unfold Xf at ba;have d1:decide ((b:Int)<2)=false:=Ib zO;have d2:decide ((256:Int)<b)=false:=Ib zO;have d4:decide ((q:Int)<1)=false:=Ib zO;have d5:decide ((64:Int)<q)=false:=Ib zO;have i1:(1:Int)<=b:=by omega
 have i2:(0:Int)<=b-1:=by omega
 have i3:(b:Int) <= 256:=by omega
 have i4:(1:Int)<=q:=by omega
 have i5:(q:Int) <= 64:=by omega
 obtain ⟨k,hk⟩:=zEX (b+q);have ek:(b:Int)+q=(k:Int):=by omega
 obtain ⟨s,hs⟩:=zEX (V-1-U);have es:(V:Int)-1-(U:Int)=s:=by omega
 have i6:(V:Int) <= 65536:=by omega
 have i7:(1:Int)<=V:=by omega
 have i8:(k:Int) <= 320:=by omega
 have i9:(0:Int)<=k:=by omega
 obtain ⟨pm,Ml⟩:=zEX (p-1);have ep:vq.wrap ((p:Int)-1)=(pm:Int):=by rw [Ml];exact wu p 1 zO hp
 have HF:=zH (fun w=>zCS (2*k) w zO)
 have UD:(2:Int)*k=((2*k:Nat):Int):=by omega
 obtain ⟨kk,pC⟩:=zEX (2*k);rw [<- pC] at HF UD;have ek3:=Ud kk;have j1:kk <= 640:=by omega
 have HB:=zH (And.intro h0 h1);have HQ:=zH (And.intro h3 h4);have HK:=zH hk;have HS:=zH hs;have HT:=zH (And.intro jb (And.intro t1 (And.intro t2 t3)));have gm:(rows.length:Int) <= 16384:=by omega
 have HP:=zH (show pm=p-1 /\ 17 <= p from ⟨Ml,Lc⟩)
 have hb256:vq.wrap (b:Int)=b:=Kk b zO;have HG:Hid (∀ N NN,((∃ k,N=2^k) /\ 2*(b+q) <= N /\ (1 <= 2*(b+q) -> N<2*(2*(b+q)))) -> NN=B*N -> NN=X.n /\ Uw X=if pm%b≠0 \/ pm%NN≠0 \/ pm <= NN then 7 else if 1024<NN then 3 else 0):=zH (by rw [hX2];exact fun N NN hN um=>X5 h0 h1 h2 h3 h4 zO Ml hN um)
 have oc:=zH h2;have HKK:=zH (show kk=2*(b+q) by omega)
 clear h0 h1 h2 h3 h4 hk hs pC jb hp Lc ht t1 t2 t3 Ml hX2 hf hBt hx;rcases dh with ⟨rfl,rfl⟩ | ⟨rfl,rfl⟩ | ⟨rfl,rfl⟩ | ⟨rfl,rfl⟩
 all_goals
  go_enter func38,ntmps38
  go_upto_region 4 with (go_at_call 86;refine (HV.out _ ba).mono ?_;rintro e w1 ⟨rfl,hb⟩;obtain ⟨k2,k3,k4,te⟩:=zAz hb;have p0:w1.cell? ⟨w.1.size+1,0,vB⟩=vD (vd vt b):=k3.cell 0;have p1:w1.cell? ⟨w.1.size+1,1,vB⟩=vD (vd vt _):=k3.cell 1;have p2:w1.cell? ⟨w.1.size+1,2,vB⟩=vD (vd vt q):=k3.cell 2;have c2:=k2.cell;clear hb)
  have k2l:=k2.alloc (.cells #[vd vq p,vd vt b,vd vt q,vd vt k,vd vt 0,vd vt s,vd vt rows.length,vd vt 0,vd vt 0,vd vt 0,vd vt 0] 38);have k3l:=k3.alloc (.cells #[vd vq p,vd vt b,vd vt q,vd vt k,vd vt 0,vd vt s,vd vt rows.length,vd vt 0,vd vt 0,vd vt 0,vd vt 0] 38);have k4l:=k4.alloc (.cells #[vd vq p,vd vt b,vd vt q,vd vt k,vd vt 0,vd vt s,vd vt rows.length,vd vt 0,vd vt 0,vd vt 0,vd vt 0] 38);have k6:=Blk.new w1 38 #[vd vq p,vd vt b,vd vt q,vd vt k,vd vt 0,vd vt s,vd vt rows.length,vd vt 0,vd vt 0,vd vt 0,vd vt 0];have Zb:=te.alloc te.size (.cells #[vd vq p,vd vt b,vd vt q,vd vt k,vd vt 0,vd vt s,vd vt rows.length,vd vt 0,vd vt 0,vd vt 0,vd vt 0] 38);have hg:=k4.lt;clear p0 p1 p2 k2 k3 k4 te c2;revert k2l k3l k4l k6 Zb
  generalize w1.alloc _=wl;generalize w1.1.size=g at *;intro k2 k3 k4 k6 Zb;have p0:wl.cell? ⟨w.1.size,0,vB⟩=vD (vd vq p):=k2.cell 0;have p1:wl.cell? ⟨w.1.size+1,1,vB⟩=vD (vd vt _):=k3.cell 1;have c6:=k6.cell;have f6:=k6.frozen;have n1:w.1.size+1≠g:=by omega
  have l1:=k3.lt;refine Yc (wN g 4) [5,8] [0,1,2,3,4,5,6,7,8] zK zK ?_;refine aG (du g 4) ?_;intro Wc da
  repeat ((first | refine oI (du g 4) rfl rfl (fun _ _ _ h=>h) ?_ | (refine nI (v:=?_) (du g 4) rfl rfl (fun _ _ _ h=>h) ?_ ?_;rotate_left;(· (intro w' hR;(first | have Yq:=O6 (zM (du g 4) da hR) | skip);have oa:=P6 (zM (du g 4) da hR) k6;go_simp;try with_reducible rfl))));refine zPU ?_)
  refine pd (du g 4) rfl rfl rfl ((HF.out _).mono ?_);rintro e w2 ⟨N,HN,ef,rfl,rfl⟩;refine ⟨_,rfl,(du g 4).refl _,?_⟩;replace da:=zM (du g 4) da ((du g 4).refl _);refine zPU ?_;have hN3:N <= 1281:=by omega
  obtain ⟨NN,um⟩:=zEX (f N);rw [oB.out] at um;have eN2:=Ud NN;have eN1:=HBN.out N;rw [oB.out,<- um] at eN1
  try simp only [Int.one_mul] at eN1
  clear HBN;clear oB;rw [HKK.out] at HN;replace HG:=zH (HG.out _ _ HN um);replace HN:=zH HN;replace um:=zH um
  repeat ((first | refine oI (du g 4) rfl rfl (fun _ _ _ h=>h) ?_ | (refine nI (v:=?_) (du g 4) rfl rfl (fun _ _ _ h=>h) ?_ ?_;rotate_left;(· (intro w' hR;(first | have Yq:=O6 (zM (du g 4) da hR) | skip);have oa:=P6 (zM (du g 4) da hR) k6;go_simp;try with_reducible rfl))));refine zPU ?_)
  have hNN2:NN <= 10248:=by omega
  obtain ⟨v,kv⟩:=da.2 _ _ k6.drew;have cv:=kv.cell;have fv:=kv.frozen;refine Bd (du g 4) rfl rfl rfl ?_;go_simp;refine ⟨Q6 _ _,?_⟩;replace da:=zM (du g 4) da (Q6 w2 (vd vt NN));replace kv:=kv.set_ 4 (vd vt NN);simp at kv
  refine Ec ?_;have n2:w.1.size+1+1≠g:=by omega
  have YJ:w.1.size <= g:=by omega
  have n0:w.1.size≠g:=by omega
  have Vo:=da.1;have wK:=k2.drew.grown Vo zT;have k4':=k4.drew.grown Vo zT;have Un:=Zb.drew.trans (ND Vo w.1.size (by simp;exact Zb.size) (fun x hx=>by injection hx;omega))
  clear k2 k3 k4 Zb Vo da p0 p1 c6 f6 cv fv k6 l1 eN2 ek UD ek3 es hand ep i1 i2 d1 d2 d4 d5 j1 hg n0 n1
  try clear eN1
  revert kv wK k4' Un
  generalize w2.setCell _ _=wl;intro kv k2 k4 Zb;have p0:wl.cell? ⟨w.1.size,0,vB⟩=vD (vd vq p):=k2.cell 0;have c6:=kv.cell;have f6:=kv.frozen;have c4:=k4.cell;have f4:=k4.frozen;have rm:0<NN:=by
   obtain ⟨⟨z,hz⟩,-⟩:=HN.out;have:0<2^z:=Nat.pow_pos zO;have:=um.out;omega
  have ep:vq.wrap ((p:Int)-1)=(pm:Int):=by rw [HP.out.1];exact wu p 1 (zQ HP.out.2) (tc HT.out.1).2
  have eN:vq.wrap (NN:Int)=NN:=Kk _ zO;have q1:(0:Int)<b:=by have:=HB.out;omega
  have q2:¬((b:Int)=0):=by omega
  have q3:¬(b=0):=by omega
  have q4:(0:Int)<NN:=by omega
  have q5:¬((NN:Int)=0):=by omega
  have q6:¬(NN=0):=by omega
  have r1:(pm:Int)%(b:Int)=((pm%b:Nat):Int):=rfl;have r2:(pm:Int)%(NN:Int)=((pm%NN:Nat):Int):=rfl;have r3:(pm:Int).tmod (b:Int)=((pm%b:Nat):Int):=rfl;have r4:(pm:Int).tmod (NN:Int)=((pm%NN:Nat):Int):=rfl;have Ty:Hid (∀ {er:Int},(if pm%b≠0 \/ pm%NN≠0 \/ pm <= NN then (7:Int) else if 1024<NN then 3 else 0)=er -> er=Uw X):=fun h=>h.symm.trans (HG.out.2).symm
  obtain ⟨x1,Zc⟩:=zEX (pm%b);obtain ⟨x2,dh⟩:=zEX (pm%NN);rw [<- Zc] at r1 r3;rw [<- dh] at r2 r4;have Iu:=zH Zc.symm;have ik:=zH dh.symm;clear Zc dh;by_cases z1:x1=0
  ·subst z1
   by_cases z2:x2=0
   ·subst z2
    by_cases z3:pm <= NN
    ·have y1:decide ((pm:Int)<=NN)=true:=Qb zO
     have y2:decide (pm <= NN)=true:=Qb z3;go_wp2_with fail
     obtain ⟨wf,Nd,kW,hW⟩:=Ey k4 Zb;rw [Nd];clear Nd c4 f4 c6 f6 p0 k4 kv;have c4:=kW.cell;exact Tc (v:=.tuple #[vf Xf,vd vt 7]) (by simp [results,results38,go_sem,c4,Xf]) rfl ⟨⟨_,_,rfl, .inl ⟨zD,rfl,Ty.out (by rw [Gb (.inr (.inr z3))])⟩⟩,hW⟩
    ·have y1:decide ((pm:Int)<=NN)=false:=Ib zO
     have y2:decide (pm <= NN)=false:=Ib z3;by_cases z4:1024<NN
     ·have y3:decide ((1024:Int)<NN)=true:=Qb zO
      have y4:decide (1024<NN)=true:=Qb z4;go_wp2_with fail
      obtain ⟨wf,Nd,kW,hW⟩:=Ey k4 Zb;rw [Nd];clear Nd c4 f4 c6 f6 p0 k4 kv;have c4:=kW.cell;exact Tc (v:=.tuple #[vf Xf,vd vt 3]) (by simp [results,results38,go_sem,c4,Xf]) rfl ⟨⟨_,_,rfl, .inl ⟨zD,rfl,Ty.out (by rw [mb (by rw [Iu.out,ik.out];omega),Gb z4])⟩⟩,hW⟩
     ·have y3:decide ((1024:Int)<NN)=false:=Ib zO
      have y4:decide (1024<NN)=false:=Ib z4;have HU:=zH (fun w=>zAO rows.length b w (zQ HT.out) zO zO)
      have Dx:=zH (fun w=>zAO s b w (by have:=HT.out;have:=HS.out;omega) zO zO)
      have u1:(rows.length+b-1) / b <= 100000:=Cb (Mx _ _) zO;have u2:(s+b-1) / b <= 100000:=Cb (Mx _ _) (by have:=HT.out;have:=HS.out;omega)
      revert HU Dx u1 u2
      obtain ⟨ub,rK⟩:=zEX ((rows.length+b-1) / b);obtain ⟨ua,qK⟩:=zEX ((s+b-1) / b);rw [<- rK,<- qK];have HUB:=zH rK;have HUA:=zH qK;clear rK qK;intro HU Dx u1 u2;go_wp2_with fail
      refine (HU.out _).mono ?_;rintro e w5 ⟨rfl,rfl⟩;go_wp2_with fail
      refine (Dx.out _).mono ?_;rintro e w6 ⟨rfl,rfl⟩;go_wp2_with fail
      have k5:=(((k4.far (p:=⟨g,7,vB⟩) n2 (vd vt ua)).far (p:=⟨g,8,vB⟩) n2 (vd vt ub)).far (p:=⟨g,9,vB⟩) n2 (vd vt ub)).far (p:=⟨g,10,vB⟩) n2 (vd vt ub);have Lb:=(((Zb.setCell (p:=⟨g,7,vB⟩) YJ (vd vt ua)).setCell (p:=⟨g,8,vB⟩) YJ (vd vt ub)).setCell (p:=⟨g,9,vB⟩) YJ (vd vt ub)).setCell (p:=⟨g,10,vB⟩) YJ (vd vt ub);obtain ⟨wf,Nd,kW,hW⟩:=SM k5 Lb p b q k NN s rows.length ua ub ub ub;rw [Nd];clear Nd c4 f4 c6 f6 p0 k4 kv k5 Lb;have c4:=kW.cell;have HL:ed ⟨p,b,q,k,NN,s,rows.length,ua,ub⟩:=by
       have hB:=HB.out;have hQ:=HQ.out;have hT:=HT.out;obtain ⟨⟨z,hz⟩,Gg,-⟩:=HN.out;refine ⟨hT.1,hB.1,hB.2,hQ.1,hQ.2,HK.out,⟨z+t,?_⟩,by show NN <= 1024;omega,by have:=HS.out;show s <= 65536;omega,hT.2.2.2,u2,u1,oc.out,?_,?_,?_,?_,HUA.out,HUB.out⟩
       ·show NN=2^(z+t)
        rw [um.out,hz,Nat.pow_add,<- HBT.out,Jj]
       ·show (p-1)%b=0
        rw [<- HP.out.1];exact Iu.out
       ·show (p-1)%NN=0
        rw [<- HP.out.1];exact ik.out
       ·show NN<p-1
        rw [<- HP.out.1];omega
       ·show 2*k <= NN
        have:=um.out;have:=HK.out;omega
      have Eo:aw ⟨p,b,q,k,NN,s,rows.length,ua,ub⟩ X:=by
       have e1:((V:Int)-1-(U:Int)).toNat=s:=by have:=HS.out;omega
       have e5:=HG.out.1.symm;have e6:=Ty.out (by rw [mb (by rw [Iu.out,ik.out];omega),mb z4])
       rw [HX.out] at e5 e6 |-;refine ⟨rfl,?_,e6.symm,by show (0:Int) <= U;omega,by have:=HT.out;show (U:Int)<V;omega⟩
       unfold DR;simp only [Dn,e1];rw [e5,HK.out,HUA.out,HUB.out]
      exact Tc (v:=.tuple #[vf (Eb ⟨p,b,q,k,NN,s,rows.length,ua,ub⟩),vd vt 0]) (by simp [results,results38,go_sem,c4,Eb]) rfl ⟨⟨_,_,rfl, .inr ⟨rfl,_,HL,Eo,rfl⟩⟩,hW⟩
   ·have y1:((x2:Int) != 0)=true:=by rw [Fh];omega
    have y2:(x2 != 0)=true:=by rw [Fh];exact z2
    go_wp2_with fail
    obtain ⟨wf,Nd,kW,hW⟩:=Ey k4 Zb;rw [Nd];clear Nd c4 f4 c6 f6 p0 k4 kv;have c4:=kW.cell;exact Tc (v:=.tuple #[vf Xf,vd vt 7]) (by simp [results,results38,go_sem,c4,Xf]) rfl ⟨⟨_,_,rfl, .inl ⟨zD,rfl,Ty.out (by rw [Gb (.inr (.inl (by rw [ik.out];exact z2)))])⟩⟩,hW⟩
  ·have y1:((x1:Int) != 0)=true:=by rw [Fh];omega
   have y2:(x1 != 0)=true:=by rw [Fh];exact z1
   go_wp2_with fail
   obtain ⟨wf,Nd,kW,hW⟩:=Ey k4 Zb;rw [Nd];clear Nd c4 f4 c6 f6 p0 k4 kv;have c4:=kW.cell;exact Tc (v:=.tuple #[vf Xf,vd vt 7]) (by simp [results,results38,go_sem,c4,Xf]) rfl ⟨⟨_,_,rfl, .inl ⟨zD,rfl,Ty.out (by rw [Gb (.inl (by rw [Iu.out];exact z1))])⟩⟩,hW⟩
def S (l:List Nat):ByteArray:=⟨(l.map fun n=>UInt8.ofNat n).toArray⟩
theorem S_size (l:List Nat):(S l).size=l.length:=by simp [S,ByteArray.size]
theorem zHb {P:Program} {w:vv} {src e dst:vy} {A:Option vx} {n c:Nat} {l:List Nat} (hs:P.underlying src=vD (.slice e)) (he:P.underlying e=vD (.int vu)) (hd:P.underlying dst=vD .string)
  (h:Rd w 1 A n (U8 l)):(convert src dst (ve A n c)).run P w= .ok (.string (S l)) w:=by
 have hl:l.length=n:=by have:=h.len1;rwa [R4] at this
 rcases Nu n with h0 | h0
 ·subst h0
  obtain rfl:l=[]:=List.eq_nil_of_length_eq_zero hl;rcases A with _ | ad
  ·rw [run_convert_bytes_nil w src e hs he _ _ dst hd]
   rfl
  ·rw [run_convert_bytes_string w src dst e _ 0 c hs he hd,run_bytesToString w ad 0 c [] (by simpa using run_loadCells_list (P:=P) w ad [] (fun j v hj=>by simp at hj))]
   rfl
 ·obtain ⟨ad,rfl,hc⟩:=h.2 h0
  have hlc:=run_loadCells_list (P:=P) w ad (U8 l) hc;rw [R4,hl] at hlc;rw [run_convert_bytes_string w src dst e _ n c hs he hd,run_bytesToString w ad n c (l.map fun x:Nat=>(x:Int)) (by rw [hlc];simp [U8,Function.comp_def]),foldl_push_bytes]
  simp [S,ByteArray.empty,ByteArray.emptyWithCapacity,Function.comp_def]
  rfl
theorem zHi {l1 l2:List Nat} {k:Nat} (h:l1.take k=l2.take k) (h1:k<l1.length) (h2:k<l2.length) (e:l1.getD k 0=l2.getD k 0):l1.take (k+1)=l2.take (k+1):=by
 rw [yC l1 k h1,yC l2 k h2,h,e]
theorem zHh {l1 l2:List Nat} {k:Nat} (e:l1.getD k 0≠l2.getD k 0):decide (l1=l2)=false:=Ib fun h=>e (by rw [h])
def Ye (w:vv) (cs:List vw) (l:List (List Nat)):Prop:=RSl 1 RWd w cs l
theorem zDH:xz Ye:=jg xC
theorem Fm {w w1:vv} {v:List vw} {l:List (List Nat)} (h:vz w.1.size w w1) (r:Ye w v l):Ye w1 v l:=zDH _ _ _ _ h r
theorem Ki {w:vv} {A:Option vx} {n c:Nat} {l:List (List Nat)} (h:Ye w [ve A n c] l):l.length=n /\ n <= c /\ c <= maxLen /\ RdL w 1 RWd A l:=by
 obtain ⟨A',n',c',he,h1,h2,h3,h4⟩:=h;simp at he
 obtain ⟨rfl,rfl,rfl⟩:=he;exact ⟨h1,h2,h3,h4⟩
theorem zHy {w:vv} {A:Option vx} {l:List (List Nat)} (h:RdL w 1 RWd A l) (hl:0<l.length):∃ b q,A=vD ⟨b,q,vB⟩:=by
 obtain ⟨a,cs,e,h1,hc,-⟩:=h 0 hl;have h0:=hc 0 zO;rw [Dc zO] at h0;have hs:=World.cell?_spot h0;obtain ⟨b,q,s⟩:=a;cases s with
 | none=>exact ⟨b,q,e⟩
 | some x=>simp [Addr.add] at hs
theorem yp {w:vv} {A:Option vx} {l:List (List Nat)} (h:RdL w 1 RWd A l) {i:Nat} (hi:i<l.length) :
  ∃ b q A1 n1 c1,A=vD ⟨b,q,vB⟩ /\ b<w.1.size /\ w.cell? ⟨b,q+i,vB⟩=vD (ve A1 n1 c1) /\ RWd w [ve A1 n1 c1] l[i]:=by
 obtain ⟨a,cs,e,hl,hc,hr⟩:=h i hi;have iq:=hr;obtain ⟨A1,n1,c1,rfl,-⟩:=iq;obtain ⟨b,q,ha⟩:=zHy h zO;rw [e] at ha;obtain rfl:=Pb ha;have h0:=hc 0 zO;have e0:(⟨b,q,vB⟩:vx).add (i*1+0)=⟨b,q+i,vB⟩:=by rw [yt];simp
 rw [e0] at h0;exact ⟨b,q,A1,n1,c1,e,Af _ _ h0,h0,hr⟩
def Bi (N:Nat) (gb:Option Nat) (w:vv) (v:vw) (l:List Nat):Prop:=∀ u:vv,(∀ b,N <= b -> b<w.1.size -> vD b≠gb -> u.1[b]?=w.1[b]?) -> RWd u [v] l
def qh (N:Nat) (w:vv) (v:vw) (cs:List vw) (l:List (List Nat)):Prop:=cs.length=l.length /\ ∀ (i:Nat) (h1:i<cs.length) (h2:i<l.length),Bi N v.ownBlock w cs[i] l[i]
theorem wJ (N:Nat) (w:vv) (v:vw):qh N w v [] []:=⟨rfl,fun i h=>by simp at h⟩
theorem nu {N:Nat} {gb:Option Nat} {w w':vv} {v:vw} {l:List Nat} (h:Bi N gb w v l) (hs:w.1.size <= w'.1.size) (hw:∀ b,N <= b -> b<w.1.size -> vD b≠gb -> w'.1[b]?=w.1[b]?):Bi N gb w' v l :=
 fun u hu=>h u fun b h1 h2 h3=>(hu b h1 zO h3).trans (hw b h1 h2 h3)
theorem cO {N:Nat} {w w':vv} {v:vw} {cs:List vw} {l:List (List Nat)} (h:qh N w v cs l) (hs:w.1.size <= w'.1.size) (hw:∀ b,N <= b -> b<w.1.size -> vD b≠v.ownBlock -> w'.1[b]?=w.1[b]?):qh N w' v cs l :=
 ⟨h.1,fun i h1 h2=>nu (h.2 i h1 h2) hs hw⟩
theorem Bg {N:Nat} {w w':vv} {v:vw} {cs:List vw} {l:List (List Nat)} (h:qh N w v cs l) (hb:vz w.1.size w w'):qh N w' v cs l :=
 cO h hb.size fun b _ h2 _=>hb.block b h2
theorem eM {N g:Nat} {w w':vv} {v:vw} {cs:List vw} {l:List (List Nat)} (h:qh N w v cs l) (hg:w.grownBy w' (vD g)) (hN:g<N):qh N w' v cs l :=
 cO h hg.size fun b h1 h2 _=>hg.block b h2 fun e=>by have:=Pb e;omega
theorem OC {N base n:Nat} {w:vv} {gb:Option Nat} {e:vy} {x:vw} {l:List Nat} (h:w.ownsRow base e 1 x n (Qa l)) (hl:∀ y∈l,y<18446744073709551616) (hN:N <= base) (hg:∀ q,gb=vD q -> q<base):Bi N gb w x l:=by
 intro u hu;have ho:=own_agree' h fun b h1 h2=>hu b zO h2 fun e=>by have:=hg b e.symm;omega
 obtain ⟨A,c,rfl,-⟩:=mc ho;exact Yf ho hl
where
 own_agree' {w u:vv} {base:Nat} {e:vy} {size:Nat} {v:vw} {n:Nat} {xs:List vw} (h:w.ownsRow base e size v n xs) (ha:∀ b,base <= b -> b<w.1.size -> u.1[b]?=w.1[b]?):u.ownsRow base e size v n xs:=by
  obtain ⟨h1,h2⟩:=h;refine ⟨h1,?_⟩;rcases h2 with h2 | ⟨g,cap,cur,hv,Vo,hh,r⟩
  ·exact Or.inl h2
  ·exact Or.inr ⟨g,cap,cur,hv,Vo,by rw [ha g Vo (Ky.1 hh).1];exact hh,r⟩
theorem eE {N:Nat} {w w':vv} {v v' x:vw} {cs:List vw} {l:List (List Nat)} {y:List Nat} (h:qh N w v cs l) (hx:Bi N v.ownBlock w x y) (hg:w.grownBy w' v.ownBlock) (hv:v'.ownBlock=v.ownBlock \/ v'.ownBlock=vD w.1.size):qh N w' v' (cs++[x]) (l++[y]):=by
 have key:∀ {z:vw} {m:List Nat},Bi N v.ownBlock w z m -> Bi N v'.ownBlock w' z m:=fun {z m} hz u hu=>by
  refine hz u fun b h1 h2 h3=>?_
  refine (hu b h1 (zQ hg.size) ?_).trans (hg.block b h2 (fun e=>h3 e))
  rcases hv with e | e
  ·rw [e];exact h3
  ·rw [e];intro e2;have:=Pb e2;omega
 refine ⟨by simp [h.1],fun i h1 h2=>?_⟩
 by_cases hi:i<cs.length
 ·rw [yz hi,yz (zQ h.1)]
  exact key (h.2 i hi _)
 ·have e1:i=cs.length:=by simp at h1;omega
  have e2:(cs++[x])[i]=x:=by subst e1;simp
  have e3:(l++[y])[i]=y:=by
   have:i=l.length:=by rw [e1,h.1]
   subst this;simp
  rw [e2,e3];exact key hx
theorem vJ {N base n:Nat} {w:vv} {e:vy} {v:vw} {cs:List vw} {l:List (List Nat)} (h:qh N w v cs l) (ho:w.ownsRow base e 1 v n cs):Ye w [v] l:=by
 obtain ⟨A,c,rfl,h1,h2,hr,-⟩:=mc ho;have hn:cs.length=n:=by have:=ho.1;omega
 refine ⟨A,n,c,rfl,by rw [<- h.1,hn],h1,h2,fun i hi=>?_⟩
 have Ih:i<cs.length:=by rw [h.1];exact hi
 obtain ⟨b,q,hA,hb,hc⟩:=MC hr zO;refine ⟨_,[cs[i]],hA,rfl,fun j hj=>?_,h.2 i Ih hi w fun _ _ _ _=>rfl⟩
 obtain rfl:j=0:=by omega
 rw [yt,show q+(i*1+0)=q+i by omega,hc i zO,Dc Ih]
 rfl
theorem Td {P:Program} {l:List Oper} {hs:List Nat} {Q:Exit -> Act -> vv -> Prop} {R:vv -> vv -> Prop} {Ea:Array Bool} {a:Act} {w:vv} (M:Wd R) {order:List Nat} (h:∀ W,Hid (W=w) -> R w W -> po P l hs Q R order Ea a W):po P l hs Q R order Ea a w:=h w rfl (M.refl w)
theorem CC {g:Nat} {w w':vv} (h:vz w.1.size w w'):Kj g w w':=Um (Mg w _) h zR
abbrev My:=(Nat -> vw) -> (Nat -> Prop) -> vv -> Prop
structure Qp where
 i:Nat
 deps:List Nat
 eat:List Nat
def Me (l:List Oper) (j:Nat):Option Tmp:=(l[j]?).bind (·.dst)
def Rg (l:List Oper) (vs:Nat -> vw) (a:Act) (js:List Nat):Act:=js.foldl (fun a j=>a.put (Me l j) (vs j)) a
def UK:List (Nat × My) -> Nat -> My
 | [],_=>fun _ _ _=>True
 | (k,p) :: r,j=>if Nat.beq k j then p else UK r j
theorem MW (l:List Oper) (vs:Nat -> vw) (d:Option Tmp) (v:vw):∀ (js:List Nat) (a:Act),(∀ j∈js,∀ t,d=vD t -> Me l j≠vD t) -> Rg l vs (a.put d v) js=(Rg l vs a js).put d v
 | [],_,_=>rfl
 | j :: js,a,h=>by
  show Rg l vs ((a.put d v).put (Me l j) (vs j)) js=_
  rw [Act.put_comm a v (vs j) (h j zS)];exact MW l vs d v js _ fun k hk=>h k (by simp [hk])
theorem s8 (l:List Oper) {vs us:Nat -> vw}:∀ (js:List Nat) (a:Act),(∀ j∈js,vs j=us j) -> Rg l vs a js=Rg l us a js
 | [],_,_=>rfl
 | j :: js,a,h=>by
  show Rg l vs (a.put (Me l j) (vs j)) js=Rg l us (a.put (Me l j) (us j)) js
  rw [h j zS];exact s8 l js _ fun k hk=>h k (by simp [hk])
def yq (vs:Nat -> vw) (i:Nat) (v:vw):Nat -> vw:=fun j=>if j=i then v else vs j
theorem zAR (vs:Nat -> vw) (i:Nat) (v:vw):yq vs i v i=v:=Gb rfl
theorem BX {vs:Nat -> vw} {i j:Nat} {v:vw} (h:j≠i):yq vs i v j=vs j:=mb h
theorem PW (l:List Oper) (vs:Nat -> vw) (i:Nat) (v:vw) (f f':Nat -> Bool):∀ (js:List Nat) (a:Act),js.Nodup -> i∈js -> f i=false -> f' i=true -> (∀ j∈js,j≠i -> f' j=f j) ->
  (∀ j∈js,j≠i -> ∀ t,Me l i=vD t -> Me l j≠vD t) -> Rg l (yq vs i v) a (js.filter f')=(Rg l vs a (js.filter f)).put (Me l i) v
 | [],_,_,h,_,_,_,_=>by cases h
 | j :: js,a,hn,hi,h0,h1,h2,h3=>by
  obtain ⟨hj,KE⟩:=List.nodup_cons.1 hn;by_cases e:j=i
  ·subst e
   have hf:js.filter f'=js.filter f:=List.filter_congr fun k hk=>h2 k (by simp [hk]) (by rintro rfl;exact hj hk)
   rw [WI h1,VI (by rw [h0];exact Ss),hf]
   show Rg l (yq vs j v) (a.put (Me l j) (yq vs j v j)) _=_
   rw [zAR,MW _ _ _ _ _ _ (fun k hk=>h3 k (by simp [(zl.1 hk).1]) (by rintro rfl;exact hj (zl.1 hk).1))]
   rw [s8 l _ a fun k hk=>BX (by rintro rfl;exact hj (zl.1 hk).1)]
  ·have Yz:i∈js:=by
    rcases Ij.1 hi with h | h
    ·exact absurd h.symm e
    ·exact h
   have key:=fun a=>PW l vs i v f f' js a KE Yz h0 h1 (fun k hk=>h2 k (by simp [hk])) fun k hk=>h3 k (by simp [hk])
   have e2:=h2 j zS e;cases hfj:f j
   ·rw [VI (by rw [e2,hfj];exact Ss),VI (by rw [hfj];exact Ss)]
    exact key a
   ·rw [WI (by rw [e2,hfj]),WI hfj]
    show Rg l (yq vs i v) (a.put (Me l j) (yq vs i v j)) _=(Rg l vs (a.put (Me l j) (vs j)) _).put _ _
    rw [BX e];exact key _
theorem iS (l:List Oper) (vs:Nat -> vw) (t:Tmp):∀ (js:List Nat) (a:Act),(∀ j∈js,Me l j≠vD t) -> (Rg l vs a js).eval (.tmp t)=a.eval (.tmp t)
 | [],_,_=>rfl
 | j :: js,a,h=>by
  show (Rg l vs (a.put (Me l j) (vs j)) js).eval _=_
  rw [iS l vs t js _ fun k hk=>h k (by simp [hk])]
  exact Act.eval_put fun d hd he=>h j zS (by rw [hd];injection he with he;rw [he])
theorem NW (l:List Oper) (vs:Nat -> vw) (t:Tmp) (j:Nat) (hd:Me l j=vD t):∀ (js:List Nat) (a:Act),j∈js -> (∀ k∈js,k≠j -> Me l k≠vD t) -> (Rg l vs a js).eval (.tmp t)=if t<a.tmps.size then vs j else undef
 | [],_,h,_=>by cases h
 | k :: js,a,h,Ua=>by
  show (Rg l vs (a.put (Me l k) (vs k)) js).eval _=_
  by_cases hj:j∈js
  ·rw [NW l vs t j hd js _ hj fun m hm=>Ua m (by simp [hm])]
   have e:(a.put (Me l k) (vs k)).tmps.size=a.tmps.size:=by cases h:Me l k <;> simp [vF]
   rw [e]
  ·obtain rfl:j=k:=by
    rcases Ij.1 h with h | h
    ·exact h
    ·exact absurd h hj
   rw [iS l vs t js _ fun m hm=>Ua m (by simp [hm]) fun e=>hj (e ▸ hm),hd]
   by_cases ht:t<a.tmps.size <;> simp [Act.eval,vF,ht]
def Us (B:Nat) (X:Nat -> Prop) (w w':vv):Prop:=w'.os=w.os /\ w'.tape=w.tape /\ w'.output=w.output /\ w.1.size <= w'.1.size /\ ∀ b,b<B -> ¬X b -> w'.1[b]?=w.1[b]?
theorem zCg {B:Nat} {X:Nat -> Prop} {a b c:vv} (h:Us B X a b) (k:Us B X b c):Us B X a c :=
 ⟨k.1.trans h.1,k.2.1.trans h.2.1,k.2.2.1.trans h.2.2.1,Cb h.2.2.2.1 k.2.2.2.1,fun g h1 h2=>(k.2.2.2.2 g h1 h2).trans (h.2.2.2.2 g h1 h2)⟩
theorem zCf (B:Nat) (X:Nat -> Prop) (w:vv):Us B X w w:=⟨rfl,rfl,rfl,zR,fun _ _ _=>rfl⟩
def Nx (B:Nat) (X:Nat -> Prop) (own:Nat -> Nat) (w:vv) (i:Nat):Nat -> Prop:=fun b=>b<w.1.size /\ (B <= b \/ X b) /\ own b=i
def Ly (P:Program) (x:Sem Next) (w:vv) (K:vw -> vv -> Prop):Prop :=
 (∃ v w',x.run P w= .ok (.value v) w' /\ K v w') \/ (∃ w',x.run P w= .ok .skip w' /\ K undef w') \/ (∃ f vals,x.run P w= .ok (.enter f vals) w /\ vA P f vals w fun e w'=>∃ v,e=vn v /\ K v w')
theorem zB7 {P:Program} {o:Oper} {a:Act} {w:vv} {K:Act -> vv -> Prop} {Q:Exit -> Act -> vv -> Prop} (h:Ly P (execOp a.eval o) w fun v w'=>K (a.put o.dst v) w'):o.wp P a w K Q:=by
 unfold Oper.wp;rcases h with ⟨v,w',h1,h2⟩ | ⟨w',h1,h2⟩ | ⟨f,vals,h1,h2⟩
 ·rw [h1];exact h2
 ·rw [h1];exact h2
 ·rw [h1]
  refine Calls.mono h2 ?_;rintro e w' ⟨v,rfl,h3⟩;exact h3
theorem jU {P:Program} {x:Sem Next} {w w':vv} {K:vw -> vv -> Prop} {v:vw} (h:x.run P w= .ok (.value v) w') (hK:K v w'):Ly P x w K:=.inl ⟨v,w',h,hK⟩
def TD (l:List Oper) (i j:Nat):Bool:=match l[i]? with | some o=>(o.after.any fun e=>Region.binds .any e&&e.on == j) | none=>false
def JR (l:List Oper) (i:Nat):List Tmp:=match l[i]? with | some o=>(o.op.operands.toList.filterMap fun | .tmp t=>vD t | _=>vB) | none=>[]
def QK (l:List Oper) (L0:Array Bool):List Nat -> List Nat -> Bool
 | _,[]=>true
 | pre,i :: rest=>(match l[i]? with | some o=>o.guard.isNone&&!L0.getD i true&&o.after.all (fun e=>!Region.binds .any e||L0.getD e.on false||(pre.contains e.on&&decide (e.on<l.length))) | none=>true)&&QK l L0 (i :: pre) rest
def GR (l:List Oper) (T:List Qp) (L0:Array Bool):Bool :=
 L0.size == l.length&&(T.map (·.i)).Nodup&&QK l L0 [] (T.map (·.i)) &&
 (T.all fun s=>T.all fun t=>s.i == t.i||(Me l s.i).isNone||Me l s.i != Me l t.i) &&
 (T.all fun s=>(JR l s.i).all fun x=>T.all fun t=>Me l t.i != vD x||s.deps.contains t.i) &&
 (T.all fun s=>s.deps.all fun j=>(T.any fun t=>t.i == j)&&(decide (l.length <= j)||TD l s.i j)) &&
 (T.all fun s=>s.eat.all fun j=>s.deps.contains j&&T.all fun t=>t.i == s.i||!t.deps.contains j) &&
 ((List.range l.length).all fun i=>L0.getD i true||(T.any fun t=>t.i == i)||((T.all fun t=>decide (l.length <= t.i)||TD l i t.i)||(List.range l.length).any fun j=>!L0.getD j true&&!(T.any fun t=>t.i == j)&&TD l i j))
def bQ (P:Program) (l:List Oper) (p:Nat -> My) (B:Nat) (X:Nat -> Prop) (w0:vv) (a0:Act) (s:Qp):Prop :=
 ∀ (o:Oper),l[s.i]?=vD o -> ∀ (w:vv) (vs:Nat -> vw) (F:Nat -> Nat -> Prop),Us B X w0 w -> (∀ j∈s.deps,p j vs (F j) w /\ ∀ b,F j b -> b<w.1.size /\ (B <= b \/ X b)) -> (∀ j k b,j≠k -> F j b -> ¬F k b) ->
  Ly P (execOp (Rg l vs a0 (s.deps.filter (·<l.length))).eval o) w fun v w'=>Us B X w w' /\ (∀ b,b<w.1.size -> (∀ j∈s.eat,¬F j b) -> w'.1[b]?=w.1[b]?) /\ p s.i (yq vs s.i v) (fun b=>(w.1.size <= b /\ b<w'.1.size) \/ ∃ j∈s.eat,F j b) w'
def EL (p:Nat -> My) (B:Nat) (X:Nat -> Prop) (w0:vv) (s:Qp):Prop :=
 ∀ (vs us:Nat -> vw) (F:Nat -> Prop) (w w':vv),Us B X w0 w -> Us B X w w' -> (∀ m∈s.i :: s.deps,us m=vs m) -> (∀ b,F b -> b<w.1.size) -> (∀ b,F b -> w'.1[b]?=w.1[b]?) -> p s.i vs F w -> p s.i us F w'
section
variable {P:Program} {l:List Oper} {Q:Exit -> Act -> vv -> Prop} {R:vv -> vv -> Prop} {T:List Qp} {p:Nat -> My} {B:Nat} {X:Nat -> Prop} {w0:vv} {a0:Act} {L0:Array Bool}
structure XP (l:List Oper) (T:List Qp) (p:Nat -> My) (B:Nat) (X:Nat -> Prop) (w0:vv) (a0:Act) (L0 L:Array Bool) (vs:Nat -> vw) (own:Nat -> Nat) (a:Act) (w:vv):Prop where
 size:L.size=l.length
 old:∀ i:Nat,L0.getD i true=true -> L.getD i true=true
 new:∀ i:Nat,L.getD i true=true -> L0.getD i true=true \/ ∃ t∈T,t.i=i
 eff:Us B X w0 w
 act:a=Rg l vs a0 ((T.map (·.i)).filter fun j=>L.getD j true&&!L0.getD j true)
 facts:∀ s∈T,L.getD s.i true=true -> (∀ k∈T,s.i∈k.eat -> L.getD k.i true=false) -> p s.i vs (Nx B X own w s.i) w
theorem vZ {i j:Nat} (h:TD l i j=true):∃ o,l[i]?=vD o /\ ∃ e∈o.after,Region.binds .any e=true /\ e.on=j:=by
 unfold TD at h;split at h
 ·rename_i o ho
  simp only [Array.any_eq_true] at h;obtain ⟨k,hk,he⟩:=h;simp only [Pd,Qk] at he;exact ⟨o,ho,o.after[k],Array.getElem_mem hk,he.1,he.2⟩
 ·cases h
theorem RK:∀ (js pre:List Nat),QK l L0 pre js=true -> ∀ i∈js,∀ o,l[i]?=vD o -> o.guard=vB /\ L0.getD i true=false
 | [],_,_,i,hi,_,_=>by cases hi
 | j :: js,pre,h,i,hi,o,ho=>by
  unfold QK at h;rw [Pd] at h;rcases Ij.1 hi with rfl | hi
  ·have h1:=h.1
   rw [ho] at h1;simp only [Pd,uo,Option.isNone_iff_eq_none] at h1;exact ⟨h1.1.1,h1.1.2⟩
  ·exact RK js _ h.2 i hi o ho
theorem N6 {L:Array Bool} (hs:L.size=l.length) (h0:∀ i:Nat,L0.getD i true=true -> L.getD i true=true) (db:L0.size=l.length):∀ (js pre:List Nat),QK l L0 pre js=true -> (∀ i∈pre,L.getD i true=true) -> (∃ i∈js,L.getD i true=false) -> ∃ i∈js,i∈Region.ready .any l.toArray L
 | [],_,_,_,⟨i,hi,_⟩=>by cases hi
 | j :: js,pre,h,hp,hx=>by
  unfold QK at h;rw [Pd] at h;cases hj:L.getD j true
  ·refine ⟨j,zS,?_⟩
   have ta:j<l.length:=by
    rcases Mm j l.length with h | h
    ·exact h
    ·rw [<- hs] at h
     simp [Nat.not_lt.2 h] at hj
   have ho:l[j]?=vD l[j]:=Dc ta;have h1:=h.1;rw [ho] at h1;simp only [Pd] at h1;have h2:=h1.2;rw [Array.all_eq_true] at h2;refine mem_ready.2 ⟨hj,l[j],by rw [im];exact ho,fun e he hb=>?_⟩
   obtain ⟨k,hk,rfl⟩:=Array.getElem_of_mem he;have h3:=h2 k hk;rw [hb] at h3;simp only [Bool.not_true,Bool.false_or,ZA] at h3;have key:∀ n:Nat,n<l.length -> L.getD n true=true -> L.getD n false=true:=fun n hn h=>by
    rw [<- hs] at hn
    simpa [hn] using h
   rcases h3 with h3 | h3
   ·have hn:l.toArray[j].after[k].on<l.length:=by
     rcases Mm (l[j].after[k].on) l.length with h | h
     ·exact h
     ·rw [<- db] at h
      have h3':L0.getD (l[j].after[k].on) false=true:=h3;simp [Nat.not_lt.2 h] at h3'
    refine key _ hn (h0 _ ?_);rw [<- db] at hn;have h3':L0.getD (l[j].after[k].on) false=true:=h3;have KE:l[j].after[k].on<L0.size:=hn;simp [KE] at h3' |-
    exact h3'
   ·rw [Pd,Ru,ED] at h3
    exact key _ h3.2 (hp _ h3.1)
  ·obtain ⟨i,hi,h'⟩:=hx
   have Ua:i∈js:=by
    rcases Ij.1 hi with rfl | hi
    ·rw [hj] at h';cases h'
    ·exact hi
   obtain ⟨k,hk,hr⟩:=N6 hs h0 db js (j :: pre) h.2 (by intro i hi;rcases Ij.1 hi with rfl | hi;exact hj;exact hp i hi) ⟨i,Ua,h'⟩
   exact ⟨k,by simp [hk],hr⟩
theorem pZ {P:Program} {x:Sem Next} {w:vv} {K K':vw -> vv -> Prop} (h:∀ v w',K v w' -> K' v w') (hd:Ly P x w K):Ly P x w K':=by
 rcases hd with ⟨v,w',h1,h2⟩ | ⟨w',h1,h2⟩ | ⟨f,vals,h1,h2⟩
 ·exact .inl ⟨v,w',h1,h _ _ h2⟩
 ·exact .inr (.inl ⟨w',h1,h _ _ h2⟩)
 ·exact .inr (.inr ⟨f,vals,h1,h2.mono fun e w' ⟨v,he,hk⟩=>⟨v,he,h _ _ hk⟩⟩)
structure VP (l:List Oper) (T:List Qp) (L0:Array Bool):Prop where
 size:L0.size=l.length
 nodup:(T.map (·.i)).Nodup
 topo:QK l L0 [] (T.map (·.i))=true
 dst:∀ s∈T,∀ t∈T,s.i≠t.i -> ∀ x,Me l s.i=vD x -> Me l t.i≠vD x
 opers:∀ s∈T,∀ x∈JR l s.i,∀ t∈T,Me l t.i=vD x -> t.i∈s.deps
 deps:∀ s∈T,∀ j∈s.deps,(∃ t∈T,t.i=j) /\ (l.length <= j \/ TD l s.i j=true)
 eat:∀ s∈T,∀ j∈s.eat,j∈s.deps /\ ∀ t∈T,t.i≠s.i -> j ∉ t.deps
 tail:∀ i,i<l.length -> L0.getD i true=false -> (∀ t∈T,t.i≠i) -> (∀ t∈T,l.length <= t.i \/ TD l i t.i=true) \/ ∃ j,j<l.length /\ L0.getD j true=false /\ (∀ t∈T,t.i≠j) /\ TD l i j=true
theorem L6 (h:GR l T L0=true):VP l T L0:=by
 unfold GR at h;simp only [Pd,Wg,List.any_eq_true,ZA,Qk,Ru,ED,Fh,ne_eq,uo,Option.isNone_iff_eq_none] at h;obtain ⟨⟨⟨⟨⟨⟨⟨h1,h2⟩,h3⟩,h4⟩,h5⟩,h6⟩,h7⟩,h8⟩:=h;refine ⟨h1,h2,h3,?_,?_,?_,?_,?_⟩
 ·intro s hs t ht Ua x hx
  rcases h4 s hs t ht with (e | e) | e
  ·exact absurd e Ua
  ·rw [e] at hx;cases hx
  ·rw [hx] at e;exact fun e'=>e e'.symm
 ·intro s hs x hx t ht e
  rcases h5 s hs x hx t ht with h | h
  ·exact absurd e h
  ·exact h
 ·intro s hs j hj
  exact h6 s hs j hj
 ·intro s hs j hj
  obtain ⟨h,h'⟩:=h7 s hs j hj;refine ⟨h,fun t ht Ua hd=>?_⟩
  rcases h' t ht with e | e
  ·exact Ua e
  ·rw [<- Bool.not_eq_true,ED] at e
   exact e hd
 ·intro i hi h0 hT
  rcases h8 i (Lm.2 hi) with (h | ⟨t,ht,e⟩) | h | ⟨j,hj,h⟩
  ·rw [h0] at h;cases h
  ·exact absurd e (hT t ht)
  ·exact .inl h
  ·refine .inr ⟨j,Lm.1 hj,h.1.1,fun t ht e=>?_,h.2⟩
   have:=h.1.2;rw [<- Bool.not_eq_true,List.any_eq_true] at this;exact this ⟨t,ht,by rw [Qk];exact e⟩
theorem zC8 {L:Array Bool} {i:Nat} (h:i<L.size) (a b:Bool):L.getD i a=L.getD i b:=by simp [h]
theorem Dv {L:Array Bool} {i j:Nat}:(L.setIfInBounds i true).getD j true=true↔L.getD j true=true \/ j=i:=by
 by_cases e:i=j
 ·subst e
  by_cases h:i<L.size <;> simp [h]
 ·rw [getD_set_ne true e]
  exact ⟨.inl,fun h=>h.resolve_right fun h=>e h.symm⟩
theorem zAb {L:Array Bool} {i j:Nat} (h:(L.setIfInBounds i true).getD j true=false):L.getD j true=false:=by
 cases hj:L.getD j true
 ·rfl
 ·have:=Dv (i:=i).2 (.inl hj)
  rw [h] at this;cases this
def TK (own:Nat -> Nat) (w:vv) (s:Qp):Nat -> Nat:=fun b=>if b<w.1.size /\ own b ∉ s.eat then own b else s.i
structure CT (l:List Oper) (T:List Qp) (L:Array Bool) (own:Nat -> Nat) (w:vv):Prop where
 own:∀ b,b<w.1.size -> L.getD (own b) true=true
 deps:∀ t∈T,L.getD t.i true=true -> ∀ j∈t.deps,L.getD j true=true
theorem zEO (ok:VP l T L0) {L:Array Bool} {vs:Nat -> vw} {own:Nat -> Nat} {a:Act} {w:vv} (Se:Region.noSelect l.toArray=true) (I:XP l T p B X w0 a0 L0 L vs own a w) {s:Qp} (hs:s∈T) {o:Oper} (ho:l[s.i]?=vD o) (hd:∀ j∈s.deps,L.getD j true=true) :
  execOp a.eval o=execOp (Rg l vs a0 (s.deps.filter (·<l.length))).eval o:=by
 refine execOp_congr o (fun cs b=>Nr Se s.i o cs b (by rw [im];exact ho)) fun x hx=>?_
 cases x with
 | tmp t =>
  have ht:t∈JR l s.i:=by
   unfold JR;rw [ho];exact List.mem_filterMap.2 ⟨.tmp t,by simpa using hx,rfl⟩
  have hTs:∀ j∈T.map (·.i),Me l j=vD t -> j∈s.deps:=fun j hj e=>by
   obtain ⟨u,hu,rfl⟩:=Ie.1 hj;exact ok.opers s hs t ht u hu e
  have hdd:∀ j∈s.deps,j∈T.map (·.i):=fun j hj=>by
   obtain ⟨⟨u,hu,e⟩,-⟩:=ok.deps s hs j hj;exact Ie.2 ⟨u,hu,e⟩
  have huni:∀ j∈T.map (·.i),∀ k∈T.map (·.i),k≠j -> Me l j=vD t -> Me l k≠vD t:=fun j hj k hk Ua e=>by
   obtain ⟨u,hu,rfl⟩:=Ie.1 hj;obtain ⟨v,hv,rfl⟩:=Ie.1 hk;exact ok.dst u hu v hv (fun e=>Ua e.symm) t e
  have hlen:∀ j,Me l j=vD t -> j<l.length:=fun j e=>by
   rcases Mm j l.length with h | h
   ·exact h
   ·unfold Me at e;rw [Kx h] at e;cases e
  rw [I.act];by_cases hex:∃ j∈s.deps,Me l j=vD t
  ·obtain ⟨j,hj,e⟩:=hex
   have hjT:=hdd j hj;have h0:L0.getD j true=false:=by
    obtain ⟨u,hu,rfl⟩:=Ie.1 hjT;exact (RK _ _ ok.topo _ hjT _ (Dc (hlen _ e))).2
   rw [NW l vs t j e _ _ (zl.2 ⟨hjT,by rw [hd j hj,h0];rfl⟩) fun k hk Ua=>huni j hjT k (zl.1 hk).1 Ua e,
    NW l vs t j e _ _ (zl.2 ⟨hj,by simpa using hlen j e⟩) fun k hk Ua=>huni j hjT k (hdd k (zl.1 hk).1) Ua e]
  ·rw [iS l vs t _ _ fun j hj e=>hex ⟨j,hTs j (zl.1 hj).1 e,e⟩,iS l vs t _ _ fun j hj e=>hex ⟨j,(zl.1 hj).1,e⟩]
 | _=>rfl
theorem zEY (ok:VP l T L0) {L:Array Bool} {vs:Nat -> vw} {own:Nat -> Nat} {a:Act} {w:vv} (I:XP l T p B X w0 a0 L0 L vs own a w) (J:CT l T L own w) (hB:B <= w0.1.size)
  (Kf:∀ s∈T,EL p B X w0 s) {s:Qp} (hs:s∈T) {o:Oper} (ho:l[s.i]?=vD o) (hL:L.getD s.i true=false) (hd:∀ j∈s.deps,L.getD j true=true) {v:vw} {w':vv}
  (he:Us B X w w') (hk:∀ b,b<w.1.size -> (∀ j∈s.eat,¬Nx B X own w j b) -> w'.1[b]?=w.1[b]?)
  (hp:p s.i (yq vs s.i v) (fun b=>(w.1.size <= b /\ b<w'.1.size) \/ ∃ j∈s.eat,Nx B X own w j b) w') :
  XP l T p B X w0 a0 L0 (L.setIfInBounds s.i true) (yq vs s.i v) (TK own w s) (a.put o.dst v) w' /\ CT l T (L.setIfInBounds s.i true) (TK own w s) w':=by
 have rA:s.i<l.length:=(List.getElem?_eq_some_iff.1 ho).1;have hoi:Me l s.i=o.dst:=by simp [Me,ho]
 have hsT:s.i∈T.map (·.i):=Ie.2 ⟨s,hs,rfl⟩
 have hL0:L0.getD s.i true=false:=(RK _ _ ok.topo _ hsT _ ho).2;have Ua:∀ b,b<w.1.size -> own b≠s.i:=fun b hb e=>by
  have:=J.own b hb;rw [e,hL] at this;cases this
 have L2:∀ t∈T,t.i=s.i -> t=s:=fun t ht e=>by
  have hn:=ok.nodup;obtain ⟨i,hi,rfl⟩:=jt ht;obtain ⟨j,hj,rfl⟩:=jt hs;have:=(List.getElem_inj (h₀:=by simpa using hi) (h₁:=by simpa using hj) hn).1 (by simpa using e)
  subst this
  rfl
 refine ⟨⟨by simp [I.size],fun i h=>Dv.2 (.inl (I.old i h)),fun i h=>?_,zCg I.eff he,?_,?_⟩,⟨fun b hb=>?_,fun t ht h j hj=>?_⟩⟩
 ·rcases Dv.1 h with h | rfl
  ·exact I.new i h
  ·exact .inr ⟨s,hs,rfl⟩
 ·rw [I.act,<- hoi]
  refine (PW l vs s.i v _ _ _ a0 ok.nodup hsT (by rw [hL];rfl) (by rw [Dv.2 (.inr rfl),hL0];rfl) (fun j _ Ua=>?_) (fun j hj Ua t e=>?_)).symm
  ·have:(L.setIfInBounds s.i true).getD j true=L.getD j true:=getD_set_ne true fun e=>Ua e.symm
   rw [this]
  ·obtain ⟨u,hu,rfl⟩:=Ie.1 hj
   exact ok.dst s hs u hu (fun e=>Ua e.symm) t e
 ·intro t ht hLt hea
  by_cases e:t.i=s.i
  ·obtain rfl:=L2 t ht e
   have e2:Nx B X (TK own w t) w' t.i=(fun b=>(w.1.size <= b /\ b<w'.1.size) \/ ∃ j∈t.eat,Nx B X own w j b):=by
    funext b
    apply propext
    unfold Nx TK;constructor
    ·rintro ⟨h1,h2,h3⟩
     rcases Mm b w.1.size with h | h
     ·by_cases hm:own b∈t.eat
      ·exact .inr ⟨own b,hm,h,h2,rfl⟩
      ·rw [Gb ⟨h,hm⟩] at h3
       exact absurd h3 (Ua b h)
     ·exact .inl ⟨h,h1⟩
    ·rintro (⟨h1,h2⟩ | ⟨j,hj,h1,h2,rfl⟩)
     ·exact ⟨h2, .inl (Cb hB (Cb I.eff.2.2.2.1 h1)),mb fun h=>zO⟩
     ·exact ⟨Be h1 he.2.2.2.1,h2,mb fun h=>h.2 hj⟩
   rw [e2];exact hp
  ·have hLt':L.getD t.i true=true:=(Dv.1 hLt).resolve_right e
   have hte:t.i ∉ s.eat:=fun h=>by
    have:=hea s hs h;rw [Dv.2 (.inr rfl)] at this;cases this
   have hf:=I.facts t ht hLt' fun k hk h=>zAb (hea k hk h)
   have e2:Nx B X (TK own w s) w' t.i=Nx B X own w t.i:=by
    funext b
    apply propext
    unfold Nx TK;constructor
    ·rintro ⟨h1,h2,h3⟩
     by_cases hm:b<w.1.size /\ own b ∉ s.eat
     ·rw [Gb hm] at h3
      exact ⟨hm.1,h2,h3⟩
     ·rw [mb hm] at h3
      exact absurd h3.symm e
    ·rintro ⟨h1,h2,h3⟩
     rw [<- h3] at hte;exact ⟨Be h1 he.2.2.2.1,h2,by rw [Gb ⟨h1,hte⟩];exact h3⟩
   rw [e2];refine Kf t ht vs _ _ w w' I.eff he (fun m hm=>BX fun e=>?_) (fun b hb=>hb.1) (fun b hb=>?_) hf
   ·subst e
    rcases Ij.1 hm with h | h
    ·exact ‹¬t.i=s.i› h.symm
    ·have:=J.deps t ht hLt' _ h
     rw [hL] at this;cases this
   ·refine hk b hb.1 fun j hj hO=>?_
    have:=hO.2.2;rw [hb.2.2] at this;exact hte (this ▸ hj)
 ·unfold TK
  split
  ·rename_i h
   exact Dv.2 (.inl (J.own b h.1))
  ·exact Dv.2 (.inr rfl)
 ·rcases Dv.1 h with h | h
  ·exact Dv.2 (.inl (J.deps t ht h j hj))
  ·obtain rfl:=L2 t ht h
   exact Dv.2 (.inl (hd j hj))
def Sx (T:List Qp) (L0:Array Bool):Array Bool:=T.foldl (fun L s=>L.setIfInBounds s.i true) L0
theorem mY:∀ (T:List Qp) (L0:Array Bool) (j:Nat),(Sx T L0).getD j true=true↔L0.getD j true=true \/ ∃ t∈T,t.i=j
 | [],L0,j=>by simp [Sx]
 | s :: T,L0,j=>by
  show (Sx T (L0.setIfInBounds s.i true)).getD j true=true↔_
  rw [mY T,Dv];constructor
  ·rintro ((h | rfl) | ⟨t,ht,e⟩)
   ·exact .inl h
   ·exact .inr ⟨s,zS,rfl⟩
   ·exact .inr ⟨t,by simp [ht],e⟩
  ·rintro (h | ⟨t,ht,e⟩)
   ·exact .inl (.inl h)
   ·rcases Ij.1 ht with rfl | ht
    ·exact .inl (.inr e.symm)
    ·exact .inr ⟨t,ht,e⟩
theorem nY:∀ (T:List Qp) (L0:Array Bool),(Sx T L0).size=L0.size
 | [],_=>rfl
 | s :: T,L0=>by
  show (Sx T (L0.setIfInBounds s.i true)).size=_
  rw [nY T];simp
theorem zEP (M:Wd R) (Se:Region.noSelect l.toArray=true) (ok:VP l T L0) (hB:B <= w0.1.size) (hR:∀ w',Us B X w0 w' -> R w0 w') (Kf:∀ s∈T,EL p B X w0 s) (yO:∀ s∈T,bQ P l p B X w0 a0 s) {fr:Nat}
  (Uo:∀ (w:vv) (vs:Nat -> vw) (F:Nat -> Nat -> Prop),Us B X w0 w -> (∀ s∈T,(∀ k∈T,s.i ∉ k.eat) -> p s.i vs (F s.i) w /\ ∀ b,F s.i b -> b<w.1.size /\ (B <= b \/ X b)) -> (∀ j k b,j≠k -> F j b -> ¬F k b) ->
   rn P l.toArray Q R fr (Sx T L0) (Rg l vs a0 ((T.map (·.i)).filter (·<l.length))) w) :
  ∀ (n:Nat) (L:Array Bool) (vs:Nat -> vw) (own:Nat -> Nat) (a:Act) (w:vv),(T.filter fun s=>!L.getD s.i true).length=n -> XP l T p B X w0 a0 L0 L vs own a w -> CT l T L own w -> wpAnyH P .any l.toArray Q (R w0) (n+fr) L a w:=by
 intro n
 induction n with
 | zero =>
  intro L vs own a w hn I J;have hup:∀ t∈T,L.getD t.i true=true:=fun t ht=>by
   have:=List.eq_nil_of_length_eq_zero hn;rw [List.filter_eq_nil_iff] at this
   simpa using this t ht
  have hLe:L=Sx T L0:=by
   apply Array.ext
   ·rw [nY,I.size,ok.size]
   ·intro i h1 h2
    have e1:L.getD i true=L[i]:=by simp [h1]
    have e2:(Sx T L0).getD i true=(Sx T L0)[i]:=by simp [h2]
    rw [<- e1,<- e2,Bool.eq_iff_iff,mY];constructor
    ·exact I.new i
    ·rintro (h | ⟨t,ht,rfl⟩)
     ·exact I.old i h
     ·exact hup t ht
  have hact:a=Rg l vs a0 ((T.map (·.i)).filter (·<l.length)):=by
   rw [I.act]
   congr 1
   refine List.filter_congr fun j hj=>?_
   obtain ⟨t,ht,rfl⟩:=Ie.1 hj;rw [hup t ht,Bool.true_and];rcases Mm t.i l.length with h | h
   ·rw [(RK _ _ ok.topo _ hj _ (Dc h)).2]
    simp [h]
   ·have:L0.getD t.i true=true:=by rw [<- ok.size] at h;simp [Nat.not_lt.2 h]
    rw [this];simp [Nat.not_lt.2 h]
  have hf:=Uo w vs (Nx B X own w) I.eff (fun s hs Ua=>⟨I.facts s hs (hup s hs) fun k hk h=>absurd h (Ua k hk),fun b hb=>⟨hb.1,hb.2.1⟩⟩) (fun j k b Ua h1 h2=>Ua (h1.2.2.symm.trans h2.2.2))
  rw [yf,hLe,hact];exact QS (fun w2 h2=>M.trans _ _ _ (hR _ I.eff) h2) _ _ _ _ hf
 | succ n ih =>
  intro L vs own a w hn I J;have hex:∃ s∈T,L.getD s.i true=false:=by
   cases h:T.filter (fun s=>!L.getD s.i true) with
   | nil=>rw [h] at hn;cases hn
   | cons s r =>
    have:s∈T.filter (fun s=>!L.getD s.i true):=by rw [h];simp
    obtain ⟨h1,h2⟩:=zl.1 this;exact ⟨s,h1,by simpa using h2⟩
  rw [show n+1+fr=(n+fr)+1 by omega]
  refine ⟨fun h=>?_,fun i hi=>?_⟩
  ·obtain ⟨s,hs,h'⟩:=hex
   obtain ⟨i,-,hi⟩:=N6 I.size I.old ok.size _ _ ok.topo zS ⟨s.i,Ie.2 ⟨s,hs,rfl⟩,h'⟩;rw [h] at hi;cases hi
  ·obtain ⟨hLi,o,ho,Dg⟩:=mem_ready.1 hi
   rw [im] at ho;have bA:i<l.length:=(List.getElem?_eq_some_iff.1 ho).1;have aV:∀ j,TD l i j=true -> L.getD j true=true:=fun j h=>by
    obtain ⟨o',uH,e,he,hb,rfl⟩:=vZ h;rw [ho] at uH;obtain rfl:=Pb uH;have:=Dg e he hb;rcases Mm e.on L.size with h | h
    ·rw [zC8 h true false];exact this
    ·simp [Nat.not_lt.2 h]
   have hT:∃ s∈T,s.i=i:=by
    refine rI fun Iw=>?_
    have h0:L0.getD i true=false:=by
     cases h:L0.getD i true
     ·rfl
     ·have:=I.old i h;rw [hLi] at this;cases this
    rcases ok.tail i bA h0 (fun t ht e=>Iw ⟨t,ht,e⟩) with h | ⟨j,hj,h1,h2,h3⟩
    ·obtain ⟨s,hs,h'⟩:=hex
     rcases h s hs with h | h
     ·rw [<- I.size] at h
      simp [Nat.not_lt.2 h] at h'
     ·rw [aV _ h] at h';cases h'
    ·have h4:=aV _ h3
     rcases I.new j h4 with h | ⟨t,ht,e⟩
     ·rw [h1] at h;cases h
     ·exact h2 t ht e
   obtain ⟨s,hs,rfl⟩:=hT;have hd:∀ j∈s.deps,L.getD j true=true:=fun j hj=>by
    rcases (ok.deps s hs j hj).2 with h | h
    ·rw [<- I.size] at h;simp [Nat.not_lt.2 h]
    ·exact aV _ h
   have hg:=(RK _ _ ok.topo s.i (Ie.2 ⟨s,hs,rfl⟩) o ho).1;unfold wpOp;rw [im,ho];simp only [Region.wanted,hg,if_true];refine .inl (zB7 ?_);rw [zEO ok Se I hs ho hd];refine pZ ?_ (yO s hs o ho w vs (Nx B X own w) I.eff (fun j hj=>⟨?_,fun b hb=>⟨hb.1,hb.2.1⟩⟩) fun j k b Ua h1 h2=>Ua (h1.2.2.symm.trans h2.2.2))
   ·rintro v w' ⟨he,hk,hp⟩
    obtain ⟨I',J'⟩:=zEY ok I J hB Kf hs ho hLi hd he hk hp;refine ⟨hR _ I'.eff,ih _ _ _ _ _ ?_ I' J'⟩;have e1:(T.filter fun t=>!(L.setIfInBounds s.i true).getD t.i true)=(T.filter fun t=>!L.getD t.i true).filter fun t=>t.i != s.i:=by
     rw [List.filter_filter];refine List.filter_congr fun t ht=>?_
     rw [Bool.eq_iff_iff];simp only [uo,Pd,Fh,ne_eq];constructor
     ·intro h
      refine ⟨fun e=>?_,zAb h⟩
      rw [Dv.2 (.inr e)] at h;cases h
     ·rintro ⟨h1,h2⟩
      cases h:(L.setIfInBounds s.i true).getD t.i true
      ·rfl
      ·rcases Dv.1 h with h | h
       ·rw [h2] at h;cases h
       ·exact absurd h h1
    rw [e1];have:=p6 (T.filter fun t=>!L.getD t.i true) s.i ((List.Sublist.map _ List.filter_sublist).nodup ok.nodup) ⟨s,zl.2 ⟨hs,by rw [hLi];rfl⟩,rfl⟩
    omega
   ·obtain ⟨⟨t,ht,rfl⟩,-⟩:=ok.deps s hs j hj
    refine I.facts t ht (hd _ hj) fun k hk h=>?_
    by_cases e:k.i=s.i
    ·rw [e];exact hLi
    ·exact absurd hj ((ok.eat k hk _ h).2 s hs fun e'=>e e'.symm)
where
 p6:∀ (T:List Qp) (i:Nat),(T.map (·.i)).Nodup -> (∃ s∈T,s.i=i) -> (T.filter fun t=>t.i != i).length+1=T.length
  | [],_,_,⟨_,h,_⟩=>by cases h
  | t :: T,i,hn,⟨s,hs,e⟩=>by
   obtain ⟨h1,h2⟩:=List.nodup_cons.1 hn;by_cases ht:t.i=i
   ·rw [VI (by simp [ht])]
    have:T.filter (fun t=>t.i != i)=T:=List.filter_eq_self.2 fun u hu=>by
     rw [Fh];intro e';exact h1 (Ie.2 ⟨u,hu,e'.trans ht.symm⟩)
    rw [this];rfl
   ·rw [WI (by simpa using ht)]
    have:=p6 T i h2 (by
     rcases Ij.1 hs with rfl | hs
     ·exact absurd e ht
     ·exact ⟨s,hs,e⟩)
    simp only [pk];omega
theorem zIk (M:Wd R) (Se:Region.noSelect l.toArray=true) (jb:GR l T L0=true) (hB:B <= w0.1.size) (hR:∀ w',Us B X w0 w' -> R w0 w') (vs0:Nat -> vw) (kh:Nat -> Nat) (jA:∀ b,b<w0.1.size -> l.length <= kh b)
  (h0:∀ s∈T,l.length <= s.i -> p s.i vs0 (Nx B X kh w0 s.i) w0) (Kf:∀ s∈T,EL p B X w0 s) (yO:∀ s∈T,bQ P l p B X w0 a0 s) {fr n:Nat} (hn:(T.filter (fun s=>!L0.getD s.i true)).length+fr=n)
  (Uo:∀ (w:vv) (vs:Nat -> vw) (F:Nat -> Nat -> Prop),Us B X w0 w -> (∀ s∈T,(∀ k∈T,s.i ∉ k.eat) -> p s.i vs (F s.i) w /\ ∀ b,F s.i b -> b<w.1.size /\ (B <= b \/ X b)) -> (∀ j k b,j≠k -> F j b -> ¬F k b) ->
   rn P l.toArray Q R fr (Sx T L0) (Rg l vs a0 ((T.map (·.i)).filter (·<l.length))) w):rn P l.toArray Q R n L0 a0 w0:=by
 have ok:=L6 jb;have hge:∀ j,l.length <= j -> L0.getD j true=true:=fun j h=>by rw [<- ok.size] at h;simp [Nat.not_lt.2 h]
 have hlow:∀ s∈T,L0.getD s.i true=true -> l.length <= s.i:=fun s hs h=>by
  rcases Mm s.i l.length with h1 | h1
  ·rw [(RK _ _ ok.topo _ (Ie.2 ⟨s,hs,rfl⟩) _ (Dc h1)).2] at h;cases h
  ·exact h1
 subst hn;refine zEP M Se ok hB hR Kf yO Uo _ L0 vs0 kh a0 w0 rfl ⟨ok.size,fun _ h=>h,fun _ h=>.inl h,zCf _ _ _,?_,fun s hs h _=>h0 s hs (hlow s hs h)⟩ ⟨fun b hb=>hge _ (jA b hb),fun t ht h j hj=>?_⟩
 ·have:(T.map (·.i)).filter (fun j=>L0.getD j true&&!L0.getD j true)=[]:=List.filter_eq_nil_iff.2 fun j _=>by cases L0.getD j true <;> simp
  rw [this]
  rfl
 ·rcases (ok.deps t ht j hj).2 with h' | h'
  ·exact hge j h'
  ·obtain ⟨o,ho,-⟩:=vZ h'
   have:=hlow t ht h;rw [Kx this] at ho;cases ho
end
end Go.Proofs.YtodmnanljoaocaaGreat
