/- A part of the proof. No condition. -/
import Derived.Deep.RegionLaw
import Derived.Laws.CopyOwn
import Derived.Lib.Hide
import Derived.Maps.AppendAt
import Derived.OpenShut
import Derived.ProofKit
import Derived.Test.YteoghgbnielkpaaGreatProg
import Derived.WalkKit
import Derived.WalkLawsBesides
import Derived.WalkSpells
import Derived.ChangeOld
import Derived.Deep.Slices
import Derived.BigQuiet
import Derived.Deep.QuietTactic

set_option maxRecDepth 100000
set_option maxHeartbeats 8000000
set_option linter.unusedVariables false
set_option linter.unusedSimpArgs false
namespace Go.Proofs.YteoghgbnielkpaaGreat
open Go.RowKit
open Tryz
open Go renaming World->vw, Value->vx, Addr->vy, TypeId->vz, Calls->vB
open Go.Value renaming int->vd, slice->ve, agg->vf
open Go.IntKind renaming u64->vn, i64->vq, u8->vu
open Go.Ending renaming returned->vl
open Go.RowKit renaming Below->vA
open Go.World renaming setCell->vF
open Option renaming none->vD, some->vE
theorem zLa {α:Type _} (l:List α) (i:Nat) (a:α):l.toArray.setIfInBounds i a=(l.set i a).toArray:=List.setIfInBounds_toArray l i a
theorem zLb {α:Type _} (x:α) (xs:List α) (a:α):(x :: xs).set 0 a=a :: xs:=List.set_cons_zero
theorem zLc {α:Type _} (x:α) (xs:List α) (i:Nat) (a:α):(x :: xs).set (i+1) a=x :: xs.set i a:=List.set_cons_succ
theorem zR {n:Nat}:n≤n:=Nat.le_refl n
theorem zH {P:Prop} (h:P):Hid P:=Lib.hid h
theorem zEX {α:Sort _} (a:α):∃ x,x=a:=⟨_,rfl⟩
theorem aa:type_of% @Lib.hid:=@Lib.hid
theorem oa:type_of% @Nat.le_refl:=@Nat.le_refl
theorem ya:type_of% @if_neg:=@if_neg
theorem Ca:type_of% @Below.refl:=@Below.refl
theorem Da:type_of% @List.setIfInBounds_toArray:=@List.setIfInBounds_toArray
theorem Fa:type_of% @List.set_cons_succ:=@List.set_cons_succ
theorem Ga:type_of% @List.set_cons_zero:=@List.set_cons_zero
theorem Na:type_of% @if_pos:=@if_pos
theorem Za:type_of% @Option.some.inj:=@Option.some.inj
theorem db:type_of% @decide_eq_false:=@decide_eq_false
theorem tb:type_of% @decide_eq_true:=@decide_eq_true
theorem xb:type_of% @Nat.le_trans:=@Nat.le_trans
theorem Cb:type_of% @List.getD_eq_getElem?_getD:=@List.getD_eq_getElem?_getD
theorem Mb:type_of% @Nat.zero_le:=@Nat.zero_le
theorem Xb:type_of% @List.getElem?_eq_getElem:=@List.getElem?_eq_getElem
theorem ic:type_of% @Nat.mod_lt:=@Nat.mod_lt
theorem mc:type_of% @Bool.and_eq_true:=@Bool.and_eq_true
theorem Kc:type_of% @Nat.lt_of_lt_of_le:=@Nat.lt_of_lt_of_le
theorem Tc:type_of% @bodyPost_ret:=@bodyPost_ret
theorem Ed:type_of% @List.mem_map:=@List.mem_map
theorem Gd:type_of% @beq_eq_false_iff_ne:=@beq_eq_false_iff_ne
theorem fe:type_of% @List.all_eq_true:=@List.all_eq_true
theorem ze:type_of% @Nat.mul_comm:=@Nat.mul_comm
theorem zf:type_of% @List.getElem_mem:=@List.getElem_mem
theorem Bf:type_of% @bne_iff_ne:=@bne_iff_ne
theorem Hf:type_of% @List.forall_mem_cons:=@List.forall_mem_cons
theorem If:type_of% @Nat.pow_succ:=@Nat.pow_succ
theorem Jf:type_of% @World.block_lt_of_cell?:=@World.block_lt_of_cell?
theorem Uf:type_of% @Int.natCast_mul:=@Int.natCast_mul
theorem ug:type_of% @Below.heap_setCell:=@Below.heap_setCell
theorem wg:type_of% @List.getElem_cons_zero:=@List.getElem_cons_zero
theorem xg:type_of% @List.length_cons:=@List.length_cons
theorem Ig:type_of% @List.getElem_cons_succ:=@List.getElem_cons_succ
theorem Sg:type_of% @Nat.lt_or_ge:=@Nat.lt_or_ge
theorem Ch:type_of% @Int.pow_mul:=@Int.pow_mul
theorem Dh:type_of% @List.mem_cons:=@List.mem_cons
theorem qi:type_of% @beq_iff_eq:=@beq_iff_eq
theorem Ni:type_of% @List.length_append:=@List.length_append
theorem Oi:type_of% @List.mem_range:=@List.mem_range
theorem jj:type_of% @Int.pow_succ:=@Int.pow_succ
theorem pj:type_of% @IntKind.wrap_u64:=@IntKind.wrap_u64
theorem Jj:type_of% @Int.mul_comm:=@Int.mul_comm
theorem Kj:type_of% @Nat.mod_eq_of_lt:=@Nat.mod_eq_of_lt
theorem Lj:type_of% @Nat.zero_add:=@Nat.zero_add
theorem Bk:type_of% @Int.toNat_natCast:=@Int.toNat_natCast
theorem Xk:type_of% @Bool.not_eq_true':=@Bool.not_eq_true'
theorem Zk:type_of% @Int.eq_ofNat_of_zero_le:=@Int.eq_ofNat_of_zero_le
theorem fl:type_of% @List.drop_drop:=@List.drop_drop
theorem il:type_of% @Nat.lt_trans:=@Nat.lt_trans
theorem Ml:type_of% @Int.natCast_add:=@Int.natCast_add
theorem Nl:type_of% @List.mem_filter:=@List.mem_filter
theorem Hm:type_of% @List.getElem_of_mem:=@List.getElem_of_mem
theorem Im:type_of% @List.length_drop:=@List.length_drop
theorem Jm:type_of% @List.length_map:=@List.length_map
theorem Kn:type_of% @Int.one_mul:=@Int.one_mul
theorem Ln:type_of% @List.getElem?_toArray:=@List.getElem?_toArray
theorem Ao:type_of% @Int.mul_assoc:=@Int.mul_assoc
theorem Bo:type_of% @Int.natCast_pow:=@Int.natCast_pow
theorem Co:type_of% @List.getElem?_eq_none:=@List.getElem?_eq_none
theorem Eo:type_of% @List.length_range:=@List.length_range
theorem Fo:type_of% @List.mem_singleton:=@List.mem_singleton
theorem Ho:type_of% @Nat.eq_zero_or_pos:=@Nat.eq_zero_or_pos
theorem Io:type_of% @Nat.pow_le_pow_right:=@Nat.pow_le_pow_right
theorem Oo:type_of% @decide_eq_true_eq:=@decide_eq_true_eq
theorem Np:type_of% @List.mem_append:=@List.mem_append
theorem Pp:type_of% @Nat.mul_one:=@Nat.mul_one
theorem Iq:type_of% @List.getElem_append_left:=@List.getElem_append_left
theorem Zr:type_of% @List.take_length:=@List.take_length
theorem ss:type_of% @Nat.add_zero:=@Nat.add_zero
theorem Ds:type_of% @below_drewN:=@below_drewN
theorem Nt:type_of% @Array.getElem?_eq_some_iff:=@Array.getElem?_eq_some_iff
theorem Wt:type_of% @IntKind.wrap_i64:=@IntKind.wrap_i64
theorem Yt:type_of% @List.getElem?_append_right:=@List.getElem?_append_right
theorem Zt:type_of% @List.getElem?_map:=@List.getElem?_map
theorem bu:type_of% @Nat.div_add_mod:=@Nat.div_add_mod
theorem iu:type_of% @bne_eq_false_iff_eq:=@bne_eq_false_iff_eq
theorem mu:type_of% @decide_eq_false_iff_not:=@decide_eq_false_iff_not
theorem Ru:type_of% @List.length_take:=@List.length_take
theorem Su:type_of% @List.take_succ_eq_append_getElem:=@List.take_succ_eq_append_getElem
theorem Uu:type_of% @Region.noSelect_spec:=@Region.noSelect_spec
theorem zx:type_of% @List.append_assoc:=@List.append_assoc
theorem Bx:type_of% @List.getElem_append_right:=@List.getElem_append_right
theorem Cx:type_of% @Tryz.underlying3:=@Tryz.underlying3
theorem Qy:type_of% @Bool.false_ne_true:=@Bool.false_ne_true
theorem jz:type_of% @List.all_eq_false:=@List.all_eq_false
theorem mz:type_of% @List.ext_getElem:=@List.ext_getElem
theorem oz:type_of% @List.getElem?_range:=@List.getElem?_range
theorem pz:type_of% @List.map_congr_left:=@List.map_congr_left
theorem qz:type_of% @Nat.div_le_self:=@Nat.div_le_self
theorem rz:type_of% @Nat.log2_two_pow:=@Nat.log2_two_pow
theorem oB:type_of% @List.forall_mem_nil:=@List.forall_mem_nil
theorem pB:type_of% @List.getElem?_append_left:=@List.getElem?_append_left
theorem bE:type_of% @List.contains_iff_mem:=@List.contains_iff_mem
theorem dE:type_of% @Nat.mul_le_mul_right:=@Nat.mul_le_mul_right
theorem UG:type_of% @List.filter_cons_of_neg:=@List.filter_cons_of_neg
theorem VG:type_of% @List.filter_cons_of_pos:=@List.filter_cons_of_pos
theorem WG:type_of% @List.take_of_length_le:=@List.take_of_length_le
theorem XG:type_of% @Nat.add_sub_cancel_left:=@Nat.add_sub_cancel_left
theorem YG:type_of% @Nat.shiftRight_eq_div_pow:=@Nat.shiftRight_eq_div_pow
theorem yJ:type_of% @Classical.byContradiction:=@Classical.byContradiction
theorem CJ:type_of% @Int.tdiv_eq_ediv_of_nonneg:=@Int.tdiv_eq_ediv_of_nonneg
theorem DJ:type_of% @List.eq_nil_of_length_eq_zero:=@List.eq_nil_of_length_eq_zero
def U8 (l:List Nat):List vx:=l.map (fun n:Nat=>vd vu n)
def Oa (l:List Nat):List vx:=l.map (fun n:Nat=>vd vn n)
def Yk (l:List Int):List vx:=l.map (fun n:Int=>vd vq n)
theorem TI (l:List Nat):(U8 l).length=l.length:=by simp [U8]
theorem tt (l:List Nat):(Oa l).length=l.length:=by simp [Oa]
theorem E3 (l:List Int):(Yk l).length=l.length:=by simp [Yk]
theorem dH (l m:List Nat):U8 (l++m)=U8 l++U8 m:=by simp [U8]
theorem tX (l m:List Nat):Oa (l++m)=Oa l++Oa m:=by simp [Oa]
theorem one_U8 (l:List Nat):∀ u∈U8 l,u.oneCell'=true:=by
 intro u hu;obtain ⟨n,_,rfl⟩:=Ed.1 hu
 rfl
theorem oq (l:List Nat):∀ u∈Oa l,u.oneCell'=true:=by
 intro u hu;obtain ⟨n,_,rfl⟩:=Ed.1 hu
 rfl
theorem zEY (l:List Int):∀ u∈Yk l,u.oneCell'=true:=by
 intro u hu;obtain ⟨n,_,rfl⟩:=Ed.1 hu
 rfl
theorem at_U8 {l:List Nat} {j:Nat} (h:j<l.length):(U8 l)[j]?=vE (vd vu (l[j]:Int)):=by simp [U8,h]
theorem yB {l:List Nat} {j:Nat} (h:j<l.length):(Oa l)[j]?=vE (vd vn (l[j]:Int)):=by simp [Oa,h]
theorem nS (a:vy) (n:Nat):(a.add n).block=a.block:=by
 unfold Addr.add;split <;> rfl
theorem YR (a:vy) (i j:Nat):(a.add i).add j=a.add (i+j):=by
 unfold Addr.add;by_cases hi:i=0 <;> by_cases hj:j=0 <;> simp [hi,hj,Nat.add_assoc]
theorem yX (a:vy):a.add 0=a:=by simp [Addr.add]
def Rd (w:vw) (size:Nat) (A:Option vy) (n:Nat) (xs:List vx):Prop :=
 xs.length=n*size /\ (0<n -> ∃ ad,A=vE ad /\ ∀ j u,xs[j]?=vE u -> w.cell? (ad.add j)=vE u)
section
variable {w w':vw} {size n:Nat} {A:Option vy} {xs:List vx}
theorem Rd.nil (w:vw) (size:Nat) (A:Option vy):Rd w size A 0 []:=⟨by simp,fun h=>absurd h (by omega)⟩
theorem Rd.len1 (h:Rd w 1 A n xs):xs.length=n:=by have:=h.1;omega
theorem Rd.at_ {k:Nat} (h:Rd w 1 A n xs) (hk:k<n):∃ ad u,A=vE ad /\ xs[k]?=vE u /\ w.cell? (ad.add k)=vE u:=by
 obtain ⟨ad,e,hc⟩:=h.2 (by omega)
 have hl:k<xs.length:=by rw [h.len1];exact hk
 exact ⟨ad,xs[k],e,Xb hl,hc k _ (Xb hl)⟩
theorem Rd.keep (h:Rd w size A n xs) (hk:∀ p:vy,p.block<w.1.size -> w'.cell? p=w.cell? p):Rd w' size A n xs :=
 ⟨h.1,fun hn=>by
  obtain ⟨ad,e,hc⟩:=h.2 hn;exact ⟨ad,e,fun j u hu=>(hk _ (Jf _ _ (hc j u hu))).trans (hc j u hu)⟩⟩
theorem Rd.below (h:Rd w size A n xs) (hb:vA w.1.size w w'):Rd w' size A n xs:=h.keep fun _ hp=>hb.cell hp
theorem Rd.drew (h:Rd w size A n xs):Rd w.drew size A n xs:=h
theorem Rd.drewN (h:Rd w size A n xs) (k:Nat):Rd (w.drewN k) size A n xs:=h
theorem Rd.alloc (h:Rd w size A n xs) (o:Obj):Rd (w.alloc o) size A n xs:=h.keep fun p hp=>World.cell?_alloc_lt w o p hp
theorem Rd.grown (h:Rd w size A n xs) {row:Option Nat} (hg:w.grownBy w' row) (hr:∀ ad,A=vE ad -> vE ad.block≠row):Rd w' size A n xs :=
 ⟨h.1,fun hn=>by
  obtain ⟨ad,e,hc⟩:=h.2 hn;refine ⟨ad,e,fun j u hu=>?_⟩
  exact hg.cell (hc j u hu) (by rw [nS];exact hr ad e)⟩
theorem Rd.cut (h:Rd w size A n xs) {k cap:Nat} (hk:k <= n) (hc:n <= cap) :
  Rd w size (if cap=k then A else A.map (·.add (k*size))) (n-k) (xs.drop (k*size)):=by
 refine ⟨by rw [Im,h.1,Nat.sub_mul],fun hn=>?_⟩
 obtain ⟨ad,rfl,Ss⟩:=h.2 (by omega)
 rw [ya (by omega)]
 refine ⟨ad.add (k*size),rfl,fun j u hu=>?_⟩
 rw [YR];exact Ss _ u (by rw [<- hu,List.getElem?_drop])
theorem Rd.take (h:Rd w size A n xs) {k:Nat} (hk:k <= n):Rd w size A k (xs.take (k*size)):=by
 refine ⟨by rw [Ru,h.1];exact Nat.min_eq_left (dE _ hk),fun hn=>?_⟩
 obtain ⟨ad,e,Ss⟩:=h.2 (by omega)
 refine ⟨ad,e,fun j u hu=>Ss j u ?_⟩
 rw [List.getElem?_take] at hu;split at hu
 ·exact hu
 ·cases hu
theorem Rd.of_own {base:Nat} {e:vz} {c:Nat} (h:w.ownsRow base e size (ve A n c) n xs):Rd w size A n xs:=by
 refine ⟨h.1,fun hn=>?_⟩
 rcases h.2 with ⟨_,h0⟩ | ⟨g,cap,cur,hv,_⟩
 ·omega
 ·have hA:A=vE ⟨g,0,vD⟩:=by injection hv
  subst hA;exact ⟨_,rfl,h.cells (g:=g) rfl⟩
end
theorem de {w:vw} {base:Nat} {e:vz} {size:Nat} {v:vx} {n:Nat} {xs:List vx} (h:w.ownsRow base e size v n xs) :
  ∃ A c,v=ve A n c /\ n <= c /\ c <= maxLen /\ Rd w size A n xs /\ (∀ ad,A=vE ad -> base <= ad.block /\ ad.block<w.1.size):=by
 have h2:=h;rcases h.2 with ⟨rfl,rfl⟩ | ⟨g,cap,cur,rfl,hb,hh,hn,hm,_⟩
 ·exact ⟨vD,0,rfl,zR,by simp [maxLen],Rd.of_own h2,fun ad h=>by cases h⟩
 ·refine ⟨vE ⟨g,0,vD⟩,cap,rfl,hn,hm,Rd.of_own h2,fun ad h=>?_⟩
  injection h with h
  subst h;exact ⟨hb,(Nt.1 hh).1⟩
theorem Mc {w w':vw} {base B:Nat} {e:vz} {size:Nat} {v:vx} {n:Nat} {xs:List vx} (h:w.ownsRow base e size v n xs) (hb:vA B w w') (hB:w.1.size <= B):w'.ownsRow base e size v n xs:=by
 obtain ⟨h1,h2⟩:=h;refine ⟨h1,?_⟩;rcases h2 with h2 | ⟨g,cap,cur,hv,hg,hh,r⟩
 ·exact Or.inl h2
 ·exact Or.inr ⟨g,cap,cur,hv,hg,by rw [hb.block g (by have:=(Nt.1 hh).1;omega)];exact hh,r⟩
theorem tA {w:vw} {base jY:Nat} {e:vz} {size:Nat} {v:vx} {n:Nat} {xs:List vx} (h:w.ownsRow base e size v n xs) (hB:jY <= base):w.ownsRow jY e size v n xs:=by
 obtain ⟨h1,h2⟩:=h;refine ⟨h1,?_⟩;rcases h2 with h2 | ⟨g,cap,cur,hv,hg,r⟩
 ·exact Or.inl h2
 ·exact Or.inr ⟨g,cap,cur,hv,xb hB hg,r⟩
theorem c7 {w:vw} {base:Nat} {e:vz} {size:Nat} {v:vx} {n:Nat} {xs:List vx} (h:w.ownsRow base e size v n xs):∀ g,v.ownBlock=vE g -> base <= g /\ g<w.1.size:=h.lt
theorem pa {w0 w1 w2:vw} (h1:vA w0.1.size w0 w1) (h2:vA w1.1.size w1 w2):vA w0.1.size w0 w2:=h1.trans (h2.mono h1.size)
theorem zL {B:Nat} {a w:vw} (h:vA B a w) (n:Nat):vA B a (w.drewN n):=⟨h.os,h.tape,h.output,h.size,h.block⟩
theorem Ee (w:vw) (row:Option Nat):w.grownBy w row:=⟨rfl,rfl,rfl,zR,fun _ _ _=>rfl⟩
theorem IZ {a w:vw} {row:Option Nat} (h:a.grownBy w row) (o:Obj):a.grownBy (w.alloc o) row :=
 ⟨h.os,h.tape,h.output,xb h.size (by simp),fun i hi Ta=>(Below.heap_alloc w o i (Kc hi h.size)).trans (h.block i hi Ta)⟩
theorem JZ {a w:vw} {row:Option Nat} (h:a.grownBy w row) (n:Nat):a.grownBy (w.drewN n) row:=⟨h.os,h.tape,h.output,h.size,h.block⟩
theorem Wg {a w:vw} {row:Option Nat} (h:a.grownBy w row) {p:vy} (hp:row=vE p.block \/ a.1.size <= p.block) (u:vx):a.grownBy (w.setCell p u) row :=
 ⟨h.os,h.tape,h.output,by simpa [vF] using h.size,fun i hi Ta=>(ug w p u i (by
  rintro rfl;rcases hp with hp | hp
  ·exact Ta hp.symm
  ·omega)).trans (h.block i hi Ta)⟩
theorem Pq {a w w':vw} {row row':Option Nat} (h:a.grownBy w row) (hg:w.grownBy w' row') (hr:∀ g,row'=vE g -> row=vE g \/ a.1.size <= g):a.grownBy w' row :=
 ⟨hg.os.trans h.os,hg.tape.trans h.tape,hg.output.trans h.output,xb h.size hg.size,fun i hi Ta=>(hg.block i (Kc hi h.size) (fun e=>by
  rcases hr i e.symm with h1 | h1
  ·exact Ta h1.symm
  ·omega)).trans (h.block i hi Ta)⟩
theorem Nf {a w w':vw} {row:Option Nat} {B:Nat} (h:a.grownBy w row) (hb:vA B w w') (hB:a.1.size <= B):a.grownBy w' row :=
 ⟨hb.os.trans h.os,hb.tape.trans h.tape,hb.output.trans h.output,xb h.size hb.size,fun i hi Ta=>(hb.block i (Kc hi hB)).trans (h.block i hi Ta)⟩
theorem Es {a w:vw} {row:Option Nat} (h:a.grownBy w row) (B:Nat) (hB:B <= a.1.size) (hr:∀ g,row=vE g -> B <= g):vA B a w :=
 ⟨h.os,h.tape,h.output,h.size,fun k hk=>h.block k (by omega) (fun e=>by have:=hr k e.symm;omega)⟩
def zq (P:Program) (t e:vz) (size bytes:Nat) (z:vx):Prop :=
 P.underlying t=vE (.slice e) /\ (∃ i,P.info? e=vE i /\ i.zero=vE z /\ i.size=size /\ i.bytes=bytes) /\ z.cells.size=size /\ 0<size
theorem Ew (w:vw) (x:vx) (t:vz):Rd (w.alloc (.cells #[x] t)) 1 (vE ⟨w.1.size,0,vD⟩) 1 [x] :=
 ⟨rfl,fun _=>⟨_,rfl,cell_one_new w x t⟩⟩
theorem KM (w:vw) (e:vz) {base:Nat} (hb:base <= w.1.size):(w.alloc (.cells #[] e)).ownsRow base e 1 (ve (vE ⟨w.1.size,0,vD⟩) 0 0) 0 [] :=
 World.ownsRow_made w #[] 0 hb (by simp [maxLen]) rfl
section
variable {P:Program} {w:vw} {base size bytes:Nat} {t e:vz} {z v:vx} {n:Nat} {xs:List vx}
theorem zG9 (E:zq P t e size bytes z) (ty:vz) (Aa:w.ownsRow base e size v n xs) {A:Option vy} {m c:Nat} {news:List vx} (hr:Rd w size A m news)
  (h1:∀ u∈news,u.oneCell'=true) (eK:(n+m)*(bytes+1) <= 140737488355328) (cy:base <= w.1.size) :
  ∃ v' w',(Builtin.append_ #[t,t] ty #[v,ve A m c]).run P w= .ok v' w' /\ w'.ownsRow base e size v' (n+m) (xs++news) /\ w.grownBy w' v.ownBlock /\ (v'.ownBlock=v.ownBlock \/ v'.ownBlock=vE w.1.size):=by
 obtain ⟨ht,⟨i,hi,hz,hs,Wl⟩,JI,ib⟩:=E;have hb:(n+m)*bytes <= 140737488355328:=xb (Nat.mul_le_mul_left _ (Nat.le_succ _)) eK;have hl:n+m <= maxLen:=by
  have:=xb (Nat.le_mul_of_pos_right (n+m) (Nat.succ_pos bytes)) eK;simp only [maxLen];omega
 rcases A with _ | ad
 ·have hm:m=0:=by
   rcases Ho m with h0 | h0
   ·exact h0
   ·obtain ⟨ad,h,_⟩:=hr.2 h0
    cases h
  subst hm;have hn:news=[]:=DJ (by simpa using hr.1)
  subst hn;refine ⟨v,w,?_,by simpa using Aa,Ee w _, .inl rfl⟩
  rcases Aa.2 with ⟨rfl,rfl⟩ | ⟨g,cap,cur,rfl,_,_,Ld,_⟩
  ·simp [Builtin.append_,run_underlying ht,sizeOf,typeInfo,hi,Builtin.lenOf,Builtin.firstCells]
  ·simp [Builtin.append_,run_underlying ht,sizeOf,typeInfo,hi,Builtin.lenOf,Builtin.firstCells,Ld,storeCells]
 ·have Rn:∀ j u,news[j]?=vE u -> w.cell? (ad.add j)=vE u:=by
   intro j u hu;rcases Ho m with h0 | h0
   ·subst h0
    have hn:news=[]:=DJ (by simpa using hr.1)
    subst hn;simp at hu
   ·obtain ⟨ad',h,hc⟩:=hr.2 h0
    injection h with h
    subst h;exact hc j u hu
  obtain ⟨v',w',Uc,h2,h3,_,h5⟩:=run_append_own_at (P:=P) w base t ty e i z size bytes ht hi hz hs Wl JI ib v n xs Aa ad m c news hr.1 Rn h1 hl hb cy;exact ⟨v',w',Uc,h2,h3,h5⟩
theorem Mw {o:Oper} {a:Act} {K:Act -> vw -> Prop} {Q:Exit -> Act -> vw -> Prop} (s x:Operand)
  (ho:o.op= .call { callee:=.builtin .append,args:=#[s,x],argTypes:=#[t,t] })
  (E:zq P t e size bytes z) (hs:a.eval s=v) (Aa:w.ownsRow base e size v n xs)
  {A:Option vy} {m c:Nat} {news:List vx} (hx:a.eval x=ve A m c) (hr:Rd w size A m news) (h1:∀ u∈news,u.oneCell'=true)
  (eK:(n+m)*(bytes+1) <= 140737488355328) (cy:base <= w.1.size)
  (h:∀ v' w',w'.ownsRow base e size v' (n+m) (xs++news) -> w.grownBy w' v.ownBlock -> (v'.ownBlock=v.ownBlock \/ v'.ownBlock=vE w.1.size) -> K (a.put o.dst v') w'):o.wp P a w K Q:=by
 obtain ⟨v',w',Uc,h2,h3,h4⟩:=zG9 (P:=P) (c:=c) E o.type Aa hr h1 eK cy;unfold Oper.wp execOp;simp only [ho,resolve,invoke,builtin,Sem.run_bind,Sem.run_pure,Result.andThen_ok,List.map_toArray,List.map_cons,List.map_nil,hs,hx,Uc];exact h v' w' h2 h3 h4
theorem uk {ops:Array Oper} {rest:List Oper} {o:Oper} {a:Act} {Q:Exit -> Act -> vw -> Prop} (hgd:o.guard=vD) (s x:Operand)
  (ho:o.op= .call { callee:=.builtin .append,args:=#[s,x],argTypes:=#[t,t] })
  (E:zq P t e size bytes z) (hs:a.eval s=v) (Aa:w.ownsRow base e size v n xs)
  {A:Option vy} {m c:Nat} {news:List vx} (hx:a.eval x=ve A m c) (hr:Rd w size A m news) (h1:∀ u∈news,u.oneCell'=true)
  (eK:(n+m)*(bytes+1) <= 140737488355328) (cy:base <= w.1.size)
  (h:∀ v' w',w'.ownsRow base e size v' (n+m) (xs++news) -> w.grownBy w' v.ownBlock -> (v'.ownBlock=v.ownBlock \/ v'.ownBlock=vE w.1.size) -> wpList P ops Q rest (a.put o.dst v') w'):wpList P ops Q (o :: rest) a w :=
 wpList_plain hgd fun _ hK=>Mw s x ho E hs Aa hx hr h1 eK cy fun v' w' h2 h3 h4=>hK _ _ (h v' w' h2 h3 h4)
end
theorem fV {a w w':vw} {row:Option Nat} {u u':vx} (h:a.grownBy w row) (hu:∀ g,u.ownBlock=vE g -> row=vE g \/ a.1.size <= g) (hg:w.grownBy w' u.ownBlock)
  (Tj:u'.ownBlock=u.ownBlock \/ ∃ g,u'.ownBlock=vE g /\ w.1.size <= g):a.grownBy w' row /\ ∀ g,u'.ownBlock=vE g -> row=vE g \/ a.1.size <= g:=by
 refine ⟨Pq h hg hu,fun g Sm=>?_⟩
 rcases Tj with e | ⟨g',e,hle⟩
 ·exact hu g (e ▸ Sm)
 ·rw [e] at Sm
  injection Sm with Sm
  subst Sm;exact .inr (xb h.size hle)
def Blk (w:vw) (g:Nat) (t:vz) (cs:Array vx):Prop:=w.1[g]?=vE (.cells cs t (0,0))
section
variable {w w':vw} {g:Nat} {t:vz} {cs:Array vx}
theorem Blk.lt (h:Blk w g t cs):g<w.1.size:=(Nt.1 h).1
theorem Blk.cell (h:Blk w g t cs) (i:Nat):w.cell? ⟨g,i,vD⟩=cs[i]?:=cell_of_row w g i cs t (0,0) h
theorem Blk.frozen (h:Blk w g t cs) (i:Nat):w.frozen? ⟨g,i,vD⟩=false:=by
 unfold Blk at h;simp [World.frozen?,h]
theorem Blk.new (w:vw) (t:vz) (cs:Array vx):Blk (w.alloc (.cells cs t)) w.1.size t cs:=heap_alloc_new w _
theorem Blk.drew (h:Blk w g t cs):Blk w.drew g t cs:=h
theorem Blk.drewN (h:Blk w g t cs) (n:Nat):Blk (w.drewN n) g t cs:=h
theorem Blk.alloc (h:Blk w g t cs) (o:Obj):Blk (w.alloc o) g t cs:=(Below.heap_alloc w o g h.lt).trans h
theorem Blk.set_ (h:Blk w g t cs) (i:Nat) (u:vx):Blk (w.setCell ⟨g,i,vD⟩ u) g t (cs.setIfInBounds i u):=by
 unfold Blk at h |-;simp [vF,Array.getElem?_modify,h]
theorem Blk.far (h:Blk w g t cs) {p:vy} (hp:g≠p.block) (u:vx):Blk (w.setCell p u) g t cs:=(ug w p u g hp).trans h
theorem Blk.below {B:Nat} (h:Blk w g t cs) (hb:vA B w w') (hg:g<B):Blk w' g t cs:=(hb.block g hg).trans h
theorem ja {w w1:vw} {g:Nat} {t:vz} {cs:Array vx} (k:Blk w g t cs) (h:vA w.1.size w w1):Blk w1 g t cs:=k.below h k.lt
theorem Blk.grown {row:Option Nat} (h:Blk w g t cs) (hb:w.grownBy w' row) (hg:vE g≠row):Blk w' g t cs:=(hb.block g h.lt hg).trans h
theorem Ce {w w1:vw} {g i:Nat} {t:vz} {cs:Array vx} (k:Blk w g t cs) (h:w.grownBy w1 (vE i)) (e:vE g≠vE i:=by intro e;have:=Za e;first | omega | (apply absurd this;assumption) | (apply absurd this.symm;assumption)):Blk w1 g t cs:=k.grown h e
end
theorem Rd.set_ {w:vw} {size n:Nat} {A:Option vy} {xs:List vx} (h:Rd w size A n xs) {p:vy} (hp:∀ ad,A=vE ad -> ad.block≠p.block) (u:vx):Rd (w.setCell p u) size A n xs :=
 ⟨h.1,fun hn=>by
  obtain ⟨ad,e,hc⟩:=h.2 hn;refine ⟨ad,e,fun j x hj=>?_⟩
  rw [World.cell?_setCell_other w p _ u (fun e2=>hp ad e (by rw [e2,nS]))]
  exact hc j x hj⟩
section
open Go.ChangeShapes Go.WideShapes Go.ChangeAt
def Fits (P:Program) (w:vw) (t:vz) (cs:List vx):Prop :=
 ∃ (H:Type) (enc:vz × vx -> H) (base:Nat) (spare:Nat -> Bool) (held:Bool) (fuel:Nat) (x:DataW H × List MemPlace),DataW.trod enc P w base spare held fuel t cs=vE x
section
variable {P:Program} {w:vw} {t e:vz} {cs:List vx}
theorem Fits.of_trod {H:Type} {enc:vz × vx -> H} {base:Nat} {spare:Nat -> Bool} {held:Bool} {v:vx} {d:DataW H} {ps:List MemPlace} (h:DataW.Trod enc P w base spare held t v d ps):Fits P w t v.cells.toList:=by
 obtain ⟨fuel,hf⟩:=h;exact ⟨H,enc,base,spare,held,fuel,_,hf⟩
theorem vZ {k:IntKind} (ht:P.underlying t=vE (.int k)) (h:Fits P w t cs):∃ n,cs=[.int k n] /\ (Lit.int k n).wf=true:=by
 obtain ⟨H,enc,base,spare,held,fuel,x,hf⟩:=h;obtain ⟨n,h1,_,h3⟩:=DataW.trod_int ht hf;exact ⟨n,h1,h3⟩
theorem XL (ht:P.underlying t=vE (.int vn)) (h:Fits P w t cs):∃ n:Nat,cs=[vd vn n] /\ n<18446744073709551616:=by
 obtain ⟨n,rfl,hw⟩:=vZ ht h;have hx:0 <= n /\ n <= 18446744073709551615:=by simpa [Lit.wf,IntKind.min,IntKind.max,IntKind.signed,IntKind.bits] using hw
 obtain ⟨m,rfl⟩:=Zk hx.1;exact ⟨m,rfl,by omega⟩
theorem TJ (ht:P.underlying t=vE (.int vq)) (h:Fits P w t cs):∃ n:Int,cs=[vd vq n] /\ -9223372036854775808 <= n /\ n <= 9223372036854775807:=by
 obtain ⟨n,rfl,hw⟩:=vZ ht h;have hx:-9223372036854775808 <= n /\ n <= 9223372036854775807:=by simpa [Lit.wf,IntKind.min,IntKind.max,IntKind.signed,IntKind.bits] using hw
 exact ⟨n,rfl,hx⟩
theorem zC5 (ht:P.underlying t=vE .bool) (h:Fits P w t cs):∃ b,cs=[.bool b]:=by
 obtain ⟨H,enc,base,spare,held,fuel,x,hf⟩:=h;cases fuel with
 | zero=>simp [DataW.trod] at hf
 | succ n =>
  unfold DataW.trod at hf;rw [ht] at hf;split at hf <;> simp_all
theorem xZ (ht:P.underlying t=vE (.slice e)) (h:Fits P w t cs):∃ A n c,cs=[ve A n c] /\ n <= c /\ c <= maxLen /\
  ∀ i,i<n -> ∃ a Nj,A=vE a /\ Nj.length=P.cellsOf e /\ (∀ j,j<P.cellsOf e -> w.cell? (a.add (i*P.cellsOf e+j))=Nj[j]?) /\ Fits P w e Nj:=by
 obtain ⟨H,enc,base,spare,held,fuel,x,hf⟩:=h;rcases Deep.open_slice ht hf with ⟨rfl,_⟩ | ⟨a,len,cap,m,k,D,Pl,rfl,hb,hl,hm,hmm,hx,hi⟩
 ·exact ⟨vD,0,0,rfl,zR,by simp [maxLen],fun i h=>absurd h (by omega)⟩
 ·refine ⟨vE a,len,cap,rfl,hl,hm,fun i Rc=>?_⟩
  have dC:i<m:=by rw [hmm];split <;> omega
  obtain ⟨Nj,hc,ht'⟩:=hi i dC;obtain ⟨_,Wh,Tj⟩:=World.cells?_some hc;exact ⟨a,Nj,rfl,Wh,fun j hj=>by rw [<- YR];exact Tj j hj,H,enc,base,spare,held,k,_,ht'⟩
theorem yZ {fs:Array Field} (ht:P.underlying t=vE (.struct fs)) (h:Fits P w t cs):cs.length=P.cellsOf t /\
  ∀ (i:Nat) (f:Field),fs[i]?=vE f -> Fits P w f.type ((cs.drop f.offset).take (P.cellsOf f.type)):=by
 obtain ⟨H,enc,base,spare,held,fuel,x,hf⟩:=h;obtain ⟨xs,n,_,_,hl,GC,hi⟩:=DataW.trod_struct ht hf;refine ⟨hl,fun i f hif=>?_⟩
 have ta:i<xs.length:=by rw [GC];exact (Nt.1 hif).1
 exact ⟨H,enc,base,spare,held,n,_,(hi i f hif).trans (Xb ta)⟩
theorem mY {p:Nat -> Nat -> Prop}:∀ n,(∀ i,i<n -> ∃ u,p i u) -> ∃ l:List Nat,l.length=n /\ ∀ i (h:i<l.length),p i l[i]
 | 0,_=>⟨[],rfl,fun i h=>by simp at h⟩
 | n+1,h=>by
  obtain ⟨l,hl,hp⟩:=mY n fun i hi=>h i (by omega)
  obtain ⟨u,hu⟩:=h n (by omega)
  refine ⟨l++[u],by simp [hl],fun i hx=>?_⟩
  simp at hx
  by_cases h1:i<l.length
  ·rw [Iq h1]
   exact hp i h1
  ·rw [Bx (by omega)]
   have:i=n:=by omega
   subst this;simp [hl]
   exact hu
theorem zC9 (ht:P.underlying t=vE (.slice e)) (he:P.underlying e=vE (.int vn)) (hc:P.cellsOf e=1) (h:Fits P w t cs) :
  ∃ A n c l,cs=[ve A n c] /\ n <= c /\ c <= maxLen /\ Rd w 1 A n (Oa l) /\ ∀ x∈l,x<18446744073709551616:=by
 obtain ⟨A,n,c,rfl,h1,h2,hi⟩:=xZ ht h;have bF:∀ i,i<n -> ∃ u:Nat,u<18446744073709551616 /\ ∃ a,A=vE a /\ w.cell? (a.add i)=vE (vd vn u):=by
  intro i Rc;obtain ⟨a,Nj,rfl,hl,Ss,hf⟩:=hi i Rc;obtain ⟨u,rfl,hu⟩:=XL he hf;have:=Ss 0 (by omega)
  rw [hc,Pp,ss] at this;exact ⟨u,hu,a,rfl,by simpa using this⟩
 obtain ⟨l,hl,hp⟩:=mY n bF;refine ⟨A,n,c,l,rfl,h1,h2,⟨by rw [tt,hl,Pp],fun hn=>?_⟩,fun x hx=>?_⟩
 ·obtain ⟨_,a,ha,_⟩:=hp 0 (by omega)
  refine ⟨a,ha,fun j u hu=>?_⟩
  have hj:j<l.length:=by
   rcases Sg j l.length with h | h
   ·exact h
   ·rw [Co (by rw [tt];exact h)] at hu;cases hu
  obtain ⟨_,a',So,yu⟩:=hp j hj;rw [ha] at So
  injection So with So
  subst So;rw [yB hj] at hu
  injection hu with hu
  rw [yu,hu]
 ·obtain ⟨j,hj,rfl⟩:=Hm hx
  exact (hp j hj).1
end
end
def RdL {α:Type} (w:vw) (sz:Nat) (R:vw -> List vx -> α -> Prop) (A:Option vy) (l:List α):Prop :=
 ∀ (i:Nat) (hi:i<l.length),∃ a cs,A=vE a /\ cs.length=sz /\ (∀ j,j<sz -> w.cell? (a.add (i*sz+j))=cs[j]?) /\ R w cs l[i]
def mB {α:Type} (R:vw -> List vx -> α -> Prop):Prop:=∀ (w w':vw) (cs:List vx) (x:α),vA w.1.size w w' -> R w cs x -> R w' cs x
def RSl {α:Type} (sz:Nat) (R:vw -> List vx -> α -> Prop) (w:vw) (cs:List vx) (l:List α):Prop :=
 ∃ A n c,cs=[ve A n c] /\ l.length=n /\ n <= c /\ c <= maxLen /\ RdL w sz R A l
def RWd (w:vw) (cs:List vx) (l:List Nat):Prop :=
 ∃ A n c,cs=[ve A n c] /\ n <= c /\ c <= maxLen /\ Rd w 1 A n (Oa l) /\ ∀ x∈l,x<18446744073709551616
section
variable {α:Type} {R:vw -> List vx -> α -> Prop} {sz:Nat} {w w':vw} {A:Option vy} {l:List α}
theorem RdL.below (h:RdL w sz R A l) (hR:mB R) (hb:vA w.1.size w w'):RdL w' sz R A l:=fun i hi=>by
 obtain ⟨a,cs,e,hl,hc,hr⟩:=h i hi;refine ⟨a,cs,e,hl,fun j hj=>?_,hR _ _ _ _ hb hr⟩
 have UE:=hc j hj;rw [Xb (by omega)] at UE |-
 exact (hb.cell (Jf _ _ UE)).trans UE
theorem Dg (hR:mB R):mB (RSl sz R):=fun w w' cs l hb h=>by
 obtain ⟨A,n,c,e,h1,h2,h3,h4⟩:=h;exact ⟨A,n,c,e,h1,h2,h3,h4.below hR hb⟩
theorem jA:mB RWd:=fun w w' cs l hb h=>by
 obtain ⟨A,n,c,e,h1,h2,h3,h4⟩:=h;exact ⟨A,n,c,e,h1,h2,h3.below hb,h4⟩
theorem Bb {w w1:vw} {v:List vx} {l:List Nat} (h:vA w.1.size w w1) (r:RWd w v l):RWd w1 v l:=jA _ _ _ _ h r
theorem RdL.at_ (h:RdL w sz R A l) (ib:0<sz) {i:Nat} (hi:i<l.length) :
  ∃ a b q cs,A=vE a /\ a.add (i*sz)=⟨b,q,vD⟩ /\ cs.length=sz /\ (∀ j,j<sz -> w.cell? ⟨b,q+j,vD⟩=cs[j]?) /\ R w cs l[i]:=by
 obtain ⟨a,cs,e,hl,hc,hr⟩:=h i hi;have h0:=hc 0 ib;rw [ss,Xb (by omega)] at h0
 obtain ⟨b,q,hq⟩:∃ b q,a.add (i*sz)=⟨b,q,vD⟩:=by
  have hs:=World.cell?_spot h0;generalize a.add (i*sz)=x at hs;obtain ⟨b,q,s⟩:=x;simp at hs
  subst hs;exact ⟨b,q,rfl⟩
 refine ⟨a,b,q,cs,e,hq,hl,fun j hj=>?_,hr⟩
 have:=hc j hj;rw [<- YR,hq] at this;rw [<- this];unfold Addr.add;split <;> simp_all
end
section
variable {P:Program} {w:vw} {t e:vz} {cs:List vx}
theorem nY {α:Type} {p:Nat -> α -> Prop}:∀ n,(∀ i,i<n -> ∃ u,p i u) -> ∃ l:List α,l.length=n /\ ∀ i (h:i<l.length),p i l[i]
 | 0,_=>⟨[],rfl,fun i h=>by simp at h⟩
 | n+1,h=>by
  obtain ⟨l,hl,hp⟩:=nY n fun i hi=>h i (by omega)
  obtain ⟨u,hu⟩:=h n (by omega)
  refine ⟨l++[u],by simp [hl],fun i hx=>?_⟩
  simp at hx
  by_cases h1:i<l.length
  ·rw [Iq h1]
   exact hp i h1
  ·rw [Bx (by omega)]
   have:i=n:=by omega
   subst this;simp [hl]
   exact hu
theorem tZ {α:Type} {R:vw -> List vx -> α -> Prop} (sz:Nat) (ht:P.underlying t=vE (.slice e)) (hc:P.cellsOf e=sz)
  (ho:∀ Nj,Nj.length=sz -> Fits P w e Nj -> ∃ x,R w Nj x) (h:Fits P w t cs):∃ l,RSl sz R w cs l:=by
 obtain ⟨A,n,c,rfl,h1,h2,hi⟩:=xZ ht h;rw [hc] at hi;have:∀ i,i<n -> ∃ x,∃ a Nj,A=vE a /\ Nj.length=sz /\ (∀ j,j<sz -> w.cell? (a.add (i*sz+j))=Nj[j]?) /\ R w Nj x:=by
  intro i Rc;obtain ⟨a,Nj,e,hl,Ss,hf⟩:=hi i Rc;obtain ⟨x,hx⟩:=ho Nj hl hf;exact ⟨x,a,Nj,e,hl,Ss,hx⟩
 obtain ⟨l,hl,hp⟩:=nY n this;exact ⟨l,A,n,c,rfl,hl,h1,h2,fun i hi=>hp i hi⟩
theorem uZ (ht:P.underlying t=vE (.slice e)) (he:P.underlying e=vE (.int vn)) (hc:P.cellsOf e=1) (h:Fits P w t cs):∃ l,RWd w cs l:=by
 obtain ⟨A,n,c,l,rfl,h1,h2,h3,h4⟩:=zC9 ht he hc h;exact ⟨l,A,n,c,rfl,h1,h2,h3,h4⟩
theorem Pm {fs:Array Field} {f:Field} {i k n:Nat} (ht:P.underlying t=vE (.struct fs)) (hf:fs[i]?=vE f) (ho:f.offset=k) (hn:P.cellsOf f.type=n) (h:Fits P w t cs):Fits P w f.type ((cs.drop k).take n):=by
 have:=(yZ ht h).2 i f hf;rw [ho,hn] at this;exact this
end
def QR (_w:vw) (cs:List vx) (x:Int × Nat):Prop:=cs=[vd vq x.1,vd vn x.2] /\ (-9223372036854775808 <= x.1 /\ x.1 <= 9223372036854775807) /\ x.2<18446744073709551616
theorem EF:mB QR:=fun _ _ _ _ _ h=>h
def RLin:vw -> List vx -> List (Int × Nat) -> Prop:=RSl 2 QR
theorem uh:mB RLin:=Dg EF
structure Ua where
 a:List (Int × Nat)
 b:List (Int × Nat)
 c:List (Int × Nat)
def Ud (w:vw) (cs:List vx) (r:Ua):Prop:=∃ x y z,cs=[x,y,z] /\ RLin w [x] r.a /\ RLin w [y] r.b /\ RLin w [z] r.c
theorem Bg:mB Ud:=fun w w' cs r hb h=>by
 obtain ⟨x,y,z,e,h1,h2,h3⟩:=h;exact ⟨x,y,z,e,uh _ _ _ _ hb h1,uh _ _ _ _ hb h2,uh _ _ _ _ hb h3⟩
structure TabR where
 p:Nat
 pub:Int
 vars:Int
 rows:List Ua
def RTab (w:vw) (cs:List vx) (t:TabR):Prop:=∃ x,cs=[vd vn t.p,vd vq t.pub,vd vq t.vars,x] /\ t.p<18446744073709551616 /\
 (-9223372036854775808 <= t.pub /\ t.pub <= 9223372036854775807) /\ (-9223372036854775808 <= t.vars /\ t.vars <= 9223372036854775807) /\ RSl 3 Ud w [x] t.rows
theorem NJ:prog.cellsOf 22=1:=by kernel_rfl
theorem nH:prog.cellsOf 3=1:=by kernel_rfl
theorem zBH:prog.cellsOf 4=1:=by kernel_rfl
theorem zBP:prog.cellsOf 28=1:=by kernel_rfl
theorem pS:prog.cellsOf 206=1:=by kernel_rfl
theorem zBO:prog.cellsOf 208=2:=by kernel_rfl
theorem zBL:prog.cellsOf 211=3:=by kernel_rfl
theorem zBM:prog.cellsOf 23=1:=by kernel_rfl
theorem zBN:prog.cellsOf 25=4:=by kernel_rfl
theorem mT {w:vw} {cs:List vx} (h:Fits prog w 206 cs):∃ l,RLin w cs l :=
 tZ 2 underlying206 zBO (fun Nj hl hf=>by
  match Nj,hl with
  | [x,y],_ =>
   obtain ⟨a,ha,ma⟩:=TJ Cx (Pm (i:=0) underlying208 rfl rfl nH hf);obtain ⟨b,hb,Gb⟩:=XL underlying22 (Pm (i:=1) underlying208 rfl rfl NJ hf);simp at ha hb
   exact ⟨(a,b),by rw [ha,hb],ma,Gb⟩) h
theorem zC2 {w:vw} {cs:List vx} (hl:cs.length=3) (h:Fits prog w 211 cs):∃ r,Ud w cs r:=by
 match cs,hl with
 | [x,y,z],_ =>
  obtain ⟨a,ha⟩:=mT (Pm (i:=0) underlying211 rfl rfl pS h);obtain ⟨b,hb⟩:=mT (Pm (i:=1) underlying211 rfl rfl pS h);obtain ⟨c,hc⟩:=mT (Pm (i:=2) underlying211 rfl rfl pS h);exact ⟨⟨a,b,c⟩,x,y,z,rfl,ha,hb,hc⟩
theorem zC3 {w:vw} {cs:List vx} (hl:cs.length=4) (h:Fits prog w 25 cs):∃ t,RTab w cs t:=by
 match cs,hl with
 | [x,y,z,r],_ =>
  obtain ⟨a,ha,ma⟩:=XL underlying22 (Pm (i:=0) underlying25 rfl rfl NJ h);obtain ⟨b,hb,Gb⟩:=TJ Cx (Pm (i:=1) underlying25 rfl rfl nH h);obtain ⟨c,hc,Wh⟩:=TJ Cx (Pm (i:=2) underlying25 rfl rfl nH h);obtain ⟨rs,hr⟩:=tZ 3 (R:=Ud) underlying23 zBL (fun Nj xl hf=>zC2 xl hf) (Pm (i:=3) underlying25 rfl rfl zBM h)
  simp at ha hb hc
  exact ⟨⟨a,b,c,rs⟩,r,by rw [ha,hb,hc],ma,Gb,Wh,hr⟩
def Fb (p:Nat):Bool:=p == 17||p == 97||p == 193||p == 257||p == 12289||p == 65537||p == 18446744069414584321
theorem Dt {p:Nat} (h:Fb p=true):p=17 \/ p=97 \/ p=193 \/ p=257 \/ p=12289 \/ p=65537 \/ p=18446744069414584321:=by
 simp [Fb] at h
 omega
def Kb (p:Nat):Nat × Nat × Nat :=
 if p=17 then (3,4,3) else
 if p=97 then (5,5,5) else
 if p=193 then (5,6,5) else
 if p=257 then (3,8,3) else
 if p=12289 then (11,12,5) else
 if p=65537 then (3,16,3) else
 if p=18446744069414584321 then (7,32,7) else
 (0,0,0)
def JQ (p:Nat):vx:=vf #[vd vn ((Kb p).1:Int),vd vn ((Kb p).2.1:Int),vd vn ((Kb p).2.2:Int)]
theorem zG6 (p:Nat) (w:vw) (_hp:p<18446744073709551616) :
  vB prog 233 #[vd vn p] w fun e w'=>e=vl (JQ p) /\ vA w.1.size w w':=by
 by_cases h0:p=17
 ·subst h0
  go_enter func233,ntmps233
  go_wp2_with fail
  exact Tc (v:=vf #[vd vn 3,vd vn 4,vd vn 3]) (by simp [results,results233,go_sem]) rfl ⟨rfl,(Ca _ _).alloc zR _⟩
 by_cases h1:p=97
 ·subst h1
  go_enter func233,ntmps233
  go_wp2_with fail
  exact Tc (v:=vf #[vd vn 5,vd vn 5,vd vn 5]) (by simp [results,results233,go_sem]) rfl ⟨rfl,(Ca _ _).alloc zR _⟩
 by_cases h2:p=193
 ·subst h2
  go_enter func233,ntmps233
  go_wp2_with fail
  exact Tc (v:=vf #[vd vn 5,vd vn 6,vd vn 5]) (by simp [results,results233,go_sem]) rfl ⟨rfl,(Ca _ _).alloc zR _⟩
 by_cases h3:p=257
 ·subst h3
  go_enter func233,ntmps233
  go_wp2_with fail
  exact Tc (v:=vf #[vd vn 3,vd vn 8,vd vn 3]) (by simp [results,results233,go_sem]) rfl ⟨rfl,(Ca _ _).alloc zR _⟩
 by_cases h4:p=12289
 ·subst h4
  go_enter func233,ntmps233
  go_wp2_with fail
  exact Tc (v:=vf #[vd vn 11,vd vn 12,vd vn 5]) (by simp [results,results233,go_sem]) rfl ⟨rfl,(Ca _ _).alloc zR _⟩
 by_cases h5:p=65537
 ·subst h5
  go_enter func233,ntmps233
  go_wp2_with fail
  exact Tc (v:=vf #[vd vn 3,vd vn 16,vd vn 3]) (by simp [results,results233,go_sem]) rfl ⟨rfl,(Ca _ _).alloc zR _⟩
 by_cases h6:p=18446744069414584321
 ·subst h6
  go_enter func233,ntmps233
  go_wp2_with fail
  exact Tc (v:=vf #[vd vn 7,vd vn 32,vd vn 7]) (by simp [results,results233,go_sem]) rfl ⟨rfl,(Ca _ _).alloc zR _⟩
 have d0:((p:Int) == 17)=false:=by rw [Gd];omega
 have d1:((p:Int) == 97)=false:=by rw [Gd];omega
 have d2:((p:Int) == 193)=false:=by rw [Gd];omega
 have d3:((p:Int) == 257)=false:=by rw [Gd];omega
 have d4:((p:Int) == 12289)=false:=by rw [Gd];omega
 have d5:((p:Int) == 65537)=false:=by rw [Gd];omega
 have d6:((p:Int) == 18446744069414584321)=false:=by rw [Gd];omega
 have HR:=zH (show JQ p=vf #[vd vn 0,vd vn 0,vd vn 0] by simp [JQ,Kb, *])
 clear h0 h1 h2 h3 h4 h5 h6;go_enter func233,ntmps233
 go_wp2_with fail
 exact Tc (v:=vf #[vd vn 0,vd vn 0,vd vn 0]) (by simp [results,results233,go_sem]) rfl ⟨by rw [HR.out],(Ca _ _).alloc zR _⟩
theorem zG4 (p:Nat):decide (0<(Kb p).1)=Fb p:=by
 by_cases h:Fb p=true
 ·rcases Dt h with rfl | rfl | rfl | rfl | rfl | rfl | rfl <;> rfl
 ·have h':=h
  simp [Fb] at h'
  simp [Kb,h',h]
theorem sU:(prog.info? 5).map (fun i=>(i.zero,i.size,i.bytes))=vE (vE (vd vu 0),1,1):=by kernel_rfl
theorem T0:(prog.info? 22).map (fun i=>(i.zero,i.size,i.bytes))=vE (vE (vd vn 0),1,8):=by kernel_rfl
theorem Z4 (z:Array vx) (n:Nat):(madeCells z n).toList.length=n:=by
 rw [Array.length_toList,size_madeCells]
theorem zHx {α:Type} {L:List α} {cs:List α} {n:Nat} (h:cs.length=n):(splice L 0 cs).toArray.toList.take n=cs:=by
 subst h;simp [splice]
theorem rd_src {w w':vw} {A:Option vy} {n:Nat} {xs:List vx} (h:Rd w 1 A n xs) (hn:0<n) (hk:∀ p:vy,p.block<w.1.size -> w'.cell? p=w.cell? p:=by intro p hp;exact World.cell?_alloc_lt _ _ _ hp) :
  ∃ ad,A=vE ad /\ ∀ j v,xs[j]?=vE v -> w'.cell? (ad.add j)=vE v:=(h.keep hk).2 hn
theorem SY:zq prog 83 5 1 1 (vd vu 0):=by
 obtain ⟨i0,hi,Kh,kd,Qe⟩:=info_parts sU;exact ⟨underlying83,⟨i0,hi,Kh,kd,Qe⟩,rfl,by omega⟩
theorem OL:zq prog 28 22 1 8 (vd vn 0):=by
 obtain ⟨i0,hi,Kh,kd,Qe⟩:=info_parts T0;exact ⟨underlying28,⟨i0,hi,Kh,kd,Qe⟩,rfl,by omega⟩
theorem WV (A:Option vy) (n c k:Nat) (xs:List vx) (w:vw) (hr:Rd w 1 A n xs) (h1:∀ u∈xs,u.oneCell'=true) (hk:n+k <= 100000000) :
  vB prog 201 #[ve A n c,vd vq k] w fun e w'=>∃ v,e=vl v /\ w'.ownsRow w.1.size 5 1 v n xs /\ vA w.1.size w w':=by
 obtain ⟨i0,hi,Kh,kd,Qe⟩:=info_parts sU;have hlen:=hr.len1;have ph:∀ u:vw,(Instr.makeSlice 83 (vd vq n) (vd vq ((n:Int)+k))).run prog u =
   .ok (ve (vE ⟨u.1.size,0,vD⟩) n (n+k)) (u.alloc (.cells (madeCells #[vd vu 0] (n+k)) 5)):=fun u=>by
  have h:=run_make (P:=prog) u 83 5 i0 (vd vu 0) underlying83 hi Kh vq vq (n:Int) ((n:Int)+k) (by omega) (by omega) (by rw [Qe];omega) (by omega)
  have e:((n:Int)+k).toNat=n+k:=by omega
  rw [e] at h
  simpa [kd,Value.cells] using h
 have F1:=zH (show 0+xs.length <= (madeCells #[vd vu 0] (n+k)).toList.length by rw [Z4];omega)
 have F2:=zH (show xs.length=Nat.min n n by rw [hlen];simp)
 have HL:=zH hlen;clear hlen;go_enter func201,ntmps201
 go_wp2_with (refine wpList_copy_splice rfl (.tmp 13) (.tmp 14) _ _ rfl 5 underlying83 (by kernel_rfl) _ _ _ _ _ _ rfl rfl w.1.size 0 (madeCells #[vd vu 0] (n+k)).toList 5 (heap_alloc_new w _) xs F2.out (fun h=>⟨rfl,rd_src hr (by rw [<- HL.out];exact h)⟩) F1.out h1 w.1.size w ((Ca _ _).alloc zR _) zR ?_;intro w2 Vo Ba)
 go_ret
 refine ⟨_,rfl,⟨by rw [HL.out];omega, .inr ⟨w.1.size,n+k,_,rfl,zR,Vo.out,by omega,by simp [maxLen];omega,?_,?_⟩⟩,Ba⟩
 ·rw [List.size_toArray,length_splice _ _ _ F1.out,Z4,Pp]
 ·rw [Pp]
  exact zHx HL.out
def Ie:Nat -> Nat -> List Nat
 | _,0=>[]
 | n,k+1=>n%256 :: Ie (n / 256) k
theorem zS:∀ (k n:Nat),Ie n (k+1)=Ie n k++[n / 256^k%256]
 | 0,n=>by simp [Ie]
 | k+1,n=>by
  rw [Ie,zS k (n / 256),Ie,List.cons_append,Nat.div_div_eq_div_mul,If,ze 256]
theorem qK:∀ (k n:Nat),(Ie n k).length=k
 | 0,_=>rfl
 | k+1,n=>by simp [Ie,qK k]
theorem UN (base:Nat) (v:vx) (m x k:Nat) (xs:List vx) (w:vw) (ho:w.ownsRow base 5 1 v m xs) (hx:x<18446744073709551616) (hk:m+k <= 100000000) (hb:base <= w.1.size) :
  vB prog 202 #[v,vd vn x,vd vq k] w fun e w'=>∃ v',e=vl v' /\ w'.ownsRow base 5 1 v' (m+k) (xs++U8 (Ie x k)) /\ w.grownBy w' v.ownBlock /\ (∀ g,v'.ownBlock=vE g -> v.ownBlock=vE g \/ w.1.size <= g):=by
 go_enter func202,ntmps202
 go_wp2_with fail
 go_loopw [0,1,8] (fun s y i wr=>∃ j z:Nat,j <= k /\ i=vd vq j /\ y=vd vn z /\ Hid (z=x / 256^j) /\ z<18446744073709551616 /\ wr.ownsRow base 5 1 s (m+j) (xs++U8 (Ie x j)) /\ w.grownBy wr v.ownBlock /\ (∀ g,s.ownBlock=vE g -> v.ownBlock=vE g \/ w.1.size <= g))
  (fun _ _ i _=>k-(intOf i).toNat)
 case atStart=>exact ⟨0,x,Mb _,rfl,rfl,by simp [Hid],hx,by simpa [Ie,U8] using ho,Ee _ _,fun g h=>.inl h⟩
 case round =>
  obtain ⟨j,z,hj,rfl,rfl,HZ,hz,Aa,Va,Gb⟩:=hrel;have HB:=zH Gb;clear Gb;by_cases ta:j<k
  ·have hs:=Va.size
   go_wp2_with (at_builtin;refine uk rfl _ _ rfl SY rfl (Aa.alloc _) rfl (Ew _ (vd vu ((z:Int)%256)) _) ?_ ?_ ?_ ?_)
   ·intro u hu;simp at hu;subst hu;rfl
   ·omega
   ·simp;omega
   intro v' w1 Rb Wa Tj;have qe:=Wa.size;simp only [World.size_alloc] at qe Tj;have R:=fV (IZ Va _) HB.out Wa (Tj.imp id fun h=>⟨_,h,by simp⟩)
   have HR:=zH R;clear Aa Va Wa Tj R HB;go_wp2
   go_roundw
   case rel =>
    refine ⟨j+1,z / 256,by omega,by go_num,by go_num,?_,by omega,?_,HR.out.1,HR.out.2⟩
    ·show z / 256=x / 256^(j+1)
     rw [HZ.out,Nat.div_div_eq_div_mul,If]
    ·rw [zS,<- HZ.out,dH,<- zx]
     rw [<- zx] at Rb;exact Rb
   case measure=>simp [intOf];omega
  ·go_wp2
   go_ret
   have e:j=k:=by omega
   subst e;exact ⟨_,rfl,Aa,Va,HB.out⟩
def lenOf (n:Int):Nat:=if n<0 \/ 4294967295<n then 0 else n.toNat
theorem C3 {n:Int} (h:n<0 \/ 4294967295<n):lenOf n=0:=by simp [lenOf,h]
theorem zD3 {n:Int} (h:0 <= n) (h2:n <= 4294967295):lenOf n=n.toNat:=by
 unfold lenOf;rw [ya (by omega)]
theorem Y2 {n:Nat} (h:n <= 4294967295):lenOf (n:Int)=n:=by rw [zD3 (by omega) (by omega)];omega
def Adds (w:vw) (v:vx) (base n:Nat) (xs:List vx) (e:Ending) (w':vw):Prop :=
 ∃ v',e=vl v' /\ w'.ownsRow base 5 1 v' n xs /\ w.grownBy w' v.ownBlock /\ (∀ g,v'.ownBlock=vE g -> v.ownBlock=vE g \/ w.1.size <= g)
theorem ZX (base:Nat) (v:vx) (m:Nat) (x:Int) (xs:List vx) (w:vw) (ho:w.ownsRow base 5 1 v m xs) (Pv:-9223372036854775808 <= x) (Lv:x <= 9223372036854775807) (hk:m+4 <= 100000000) (hb:base <= w.1.size) :
  vB prog 200 #[v,vd vq x] w (Adds w v base (m+4) (xs++U8 (Ie (lenOf x) 4))):=by
 by_cases h0:x<0
 ·have HE:=zH (C3 (.inl h0):lenOf x=0)
  go_enter func200,ntmps200
  go_wp2_with (go_at_call 202;refine (UN base v m 0 4 xs w ho (by omega) hk hb).mono ?_;rintro e w' ⟨v',rfl,Aa,hg,hv⟩)
  go_ret
  exact ⟨_,rfl,by rw [HE.out];exact Aa,hg,hv⟩
 ·by_cases h1:4294967295<x
  ·have HE:=zH (C3 (.inr h1):lenOf x=0)
   go_enter func200,ntmps200
   go_wp2_with (go_at_call 202;refine (UN base v m 0 4 xs w ho (by omega) hk hb).mono ?_;rintro e w' ⟨v',rfl,Aa,hg,hv⟩)
   go_ret
   exact ⟨_,rfl,by rw [HE.out];exact Aa,hg,hv⟩
  ·obtain ⟨y,rfl⟩:=Zk (show 0 <= x by omega)
   have HE:=zH (Y2 (by omega):lenOf (y:Int)=y)
   go_enter func200,ntmps200
   go_wp2_with (go_at_call 202;refine (UN base v m y 4 xs w ho (by omega) hk hb).mono ?_;rintro e w' ⟨v',rfl,Aa,hg,hv⟩)
   go_ret
   exact ⟨_,rfl,by rw [HE.out];exact Aa,hg,hv⟩
theorem Sl (b q k:Nat):(⟨b,q,vD⟩:vy).add k=⟨b,q+k,vD⟩:=by
 unfold Addr.add;split
 ·subst_vars;rfl
 ·rfl
theorem RdL.base {α:Type} {R:vw -> List vx -> α -> Prop} {sz:Nat} {w:vw} {A:Option vy} {l:List α} (h:RdL w sz R A l) (ib:0<sz) (hl:0<l.length):∃ b q,A=vE ⟨b,q,vD⟩:=by
 obtain ⟨a,b,q,cs,rfl,hq,-⟩:=h.at_ ib hl;refine ⟨b,q,?_⟩;rw [<- hq];simp [Addr.add]
theorem RdL.get {α:Type} {R:vw -> List vx -> α -> Prop} {sz:Nat} {w:vw} {b q:Nat} {l:List α} (h:RdL w sz R (vE ⟨b,q,vD⟩) l) {i:Nat} (hi:i<l.length) :
  ∃ cs,cs.length=sz /\ (∀ j,j<sz -> w.cell? ⟨b,q+i*sz+j,vD⟩=cs[j]?) /\ R w cs l[i]:=by
 obtain ⟨a,cs,e,hl,hc,hr⟩:=h i hi
 injection e with e
 subst e;refine ⟨cs,hl,fun j hj=>?_,hr⟩
 rw [<- hc j hj,Sl,Nat.add_assoc]
theorem LQ {P:Program} {w:vw} {t e:vz} {n:Nat} {cs:Array vx} {v:vx} {i:Nat} (h:P.underlying t=vE (.array n e)) (hs:((isAgg e).run P w)= .ok false w) (hz:((sizeOf e).run P w)= .ok 1 w) (hi:i<n) (hv:cs[i]?=vE v) :
  (Instr.index t (vf cs) (vd vq i)).run P w= .ok v w:=by
 have h1:(0:Int)<=i /\ (i:Int)<n:=by omega
 simp [Instr.index,run_underlying h,asIntOf,h1,hi,hz,hs,hv,part,Result.andThen]
theorem zX {w:vw}:((isAgg 22).run prog w)= .ok false w:=by simp [isAgg,run_underlying underlying22]
theorem Q9 {w:vw}:((sizeOf 22).run prog w)= .ok 1 w:=by
 obtain ⟨i0,hi,Kh,kd,Qe⟩:=info_parts T0;simp [sizeOf,typeInfo,hi,kd]
theorem zDC {w:vw} {a b c:vx}:(Instr.index 298 (vf #[a,b,c]) (vd vq 0)).run prog w= .ok a w :=
 LQ (i:=0) underlying298 zX Q9 (by omega) rfl
theorem lD (p:Nat) (w:vw) (hp:p<18446744073709551616) :
  vB prog 152 #[vd vn p] w fun e w'=>e=vl (.bool (Fb p)) /\ vA w.1.size w w':=by
 have HO:=zH (zG4 p);have HR:=zH (zG6 p w hp);unfold JQ at HR;revert HO HR
 generalize (Kb p).1=a;generalize (Kb p).2.1=b;generalize (Kb p).2.2=c;intro HO HR;go_enter func152,ntmps152
 go_wp2_with (go_at_call 233;refine HR.out.mono ?_;rintro e w1 ⟨rfl,hb⟩)
 rw [zDC,Result.andThen,Oper.upon_value];go_wp2;go_ret
 exact ⟨by rw [<- HO.out];rfl,hb⟩
def ar (p:Nat) (n:Int) (l:List (Int × Nat)) (i:Nat):Bool :=
 decide ((l.getD i (0,0)).1<0)||decide (n <= (l.getD i (0,0)).1)||(decide (0<i)&&decide ((l.getD i (0,0)).1 <= (l.getD (i-1) (0,0)).1))||(l.getD i (0,0)).2 == 0||decide (p <= (l.getD i (0,0)).2)
def Lh (p:Nat) (n:Int) (l:List (Int × Nat)):Bool:=(List.range l.length).all fun i=>!ar p n l i
theorem By {p:Nat} {n:Int} {l:List (Int × Nat)} {j:Nat} (hj:j<l.length) (h:ar p n l j=true):Lh p n l=false:=by
 unfold Lh;rw [jz];exact ⟨j,by simpa using hj,by simp [h]⟩
theorem B4 {p:Nat} {n:Int} {l:List (Int × Nat)} (h:∀ k<l.length,ar p n l k=false):Lh p n l=true:=by
 unfold Lh;rw [fe];intro k hk;simp [h k (by simpa using hk)]
theorem YS {f:Nat -> Bool} {j:Nat} (h:∀ k<j,f k=false) (hj:f j=false):∀ k<j+1,f k=false:=fun k hk=>by
 rcases Sg k j with h1 | h1
 ·exact h k h1
 ·have e:k=j:=by omega
  rw [e];exact hj
theorem RLin.at_ {w:vw} {b q:Nat} {l:List (Int × Nat)} (h:RdL w 2 QR (vE ⟨b,q,vD⟩) l) {i:Nat} (hi:i<l.length) :
  w.cell? ⟨b,q+i*2,vD⟩=vE (vd vq (l.getD i (0,0)).1) /\ w.cell? ⟨b,q+i*2+1,vD⟩=vE (vd vn ((l.getD i (0,0)).2:Int)):=by
 obtain ⟨cs,hl,hc,rfl,-,-⟩:=h.get hi;have h0:=hc 0 (by omega)
 have h1:=hc 1 (by omega)
 simp [hi] at h0 h1 |-
 exact ⟨h0,h1⟩
theorem LK (p:Nat) (n:Int) (A:Option vy) (len c:Nat) (l:List (Int × Nat)) (w:vw) (hl:RLin w [ve A len c] l) (_hp:p<18446744073709551616) :
  vB prog 272 #[vd vn p,ve A len c,vd vq n] w fun e w'=>e=vl (.bool (Lh p n l)) /\ vA w.1.size w w':=by
 obtain ⟨A',n',c',he,hlen,Ld,Ef,Ra⟩:=hl;simp at he
 obtain ⟨rfl,rfl,rfl⟩:=he;subst hlen;go_enter func272,ntmps272
 go_wp2_with fail
 go_loopw [7] (fun i wr=>∃ j:Nat,j <= l.length /\ i=vd vq j /\ vA w.1.size w wr /\ Hid (∀ k<j,ar p n l k=false))
  (fun i _=>l.length-(intOf i).toNat)
 case atStart=>exact ⟨0,Mb _,rfl,Ca _ _,fun k hk=>by omega⟩
 case round =>
  obtain ⟨j,hj,rfl,hb,HB⟩:=hrel;by_cases ta:j<l.length
  ·have HL:=zH ta
   obtain ⟨b,q,rfl⟩:=Ra.base (by omega) (by omega)
   have Uv:=Ra.below EF hb;obtain ⟨c1,c2⟩:=RLin.at_ Uv ta;have g0:(l.length:Int) <= 9223372036854775807:=by
    have h3:=Ld;have h4:=Ef;simp [maxLen] at h4
    omega
   have g1:(0:Int)<=j:=by omega
   have g2:(j:Int)<l.length:=by omega
   have HD:Hid (ar p n l j=(decide ((l.getD j (0,0)).1<0)||decide (n <= (l.getD j (0,0)).1)||(decide (0<j)&&decide ((l.getD j (0,0)).1 <= (l.getD (j-1) (0,0)).1))||(l.getD j (0,0)).2 == 0||decide (p <= (l.getD j (0,0)).2))):=rfl
   have HC:=zH (fun (h0:0<j)=>(RLin.at_ Uv (show j-1<l.length by omega)).1)
   revert c1 c2 HD HC
   generalize (l.getD j (0,0)).1=x;generalize (l.getD j (0,0)).2=y;generalize (l.getD (j-1) (0,0)).1=z;intro c1 c2 HD HC;clear Ra Uv;by_cases z1:x<0
   ·have d1:=tb z1
    go_wp2_with fail
    go_quiet (fail)
    go_wp2;go_ret
    exact ⟨by rw [By HL.out (HD.out.trans (by simp [*]))];rfl,by first | exact Ds hb _ | exact hb⟩
   ·have d1:=db z1
    by_cases z2:n <= x
    ·have d2:=tb z2
     go_wp2_with fail
     go_quiet (fail)
     go_wp2;go_ret
     exact ⟨by rw [By HL.out (HD.out.trans (by simp [*]))];rfl,by first | exact Ds hb _ | exact hb⟩
    ·have d2:=db z2
     rcases Ho j with z3 | z3
     ·subst z3
      simp only [Nat.zero_mul,ss] at c1 c2;by_cases z4:y=0
      ·subst z4
       go_wp2_with fail
       go_quiet (fail)
       go_wp2;go_ret
       exact ⟨by rw [By HL.out (HD.out.trans (by simp [*]))];rfl,by first | exact Ds hb _ | exact hb⟩
      ·have d4:((y:Int) == 0)=false:=by rw [Gd];omega
       by_cases z5:p <= y
       ·have d5:decide ((p:Int)<=y)=true:=tb (by omega)
        go_wp2_with fail
        go_quiet (fail)
        go_wp2;go_ret
        exact ⟨by rw [By HL.out (HD.out.trans (by simp [*]))];rfl,by first | exact Ds hb _ | exact hb⟩
       ·have d5:decide ((p:Int)<=y)=false:=db (by omega)
        go_wp2_with fail
        go_quiet (fail)
        go_wp2
        go_roundw
        case rel=>exact ⟨0+1,by omega,by go_num,by first | exact Ds hb _ | exact hb,YS HB.out (HD.out.trans (by simp [*]))⟩
        case measure=>simp [intOf];omega
     ·have d3:decide ((0:Int)<j)=true:=tb (by omega)
      have c3:=HC.out z3;have i1:(0:Int)<=j-1:=by omega
      have i2:(j:Int)-1<(l.length:Int):=by omega
      have i3:((j:Int)-1).toNat=j-1:=by omega
      by_cases z6:x <= z
      ·have d6:=tb z6
       go_wp2_with fail
       go_quiet (fail)
       go_wp2;go_ret
       exact ⟨by rw [By HL.out (HD.out.trans (by simp [*]))];rfl,by first | exact Ds hb _ | exact hb⟩
      ·have d6:=db z6
       by_cases z4:y=0
       ·subst z4
        go_wp2_with fail
        go_quiet (fail)
        go_wp2;go_ret
        exact ⟨by rw [By HL.out (HD.out.trans (by simp [*]))];rfl,by first | exact Ds hb _ | exact hb⟩
       ·have d4:((y:Int) == 0)=false:=by rw [Gd];omega
        by_cases z5:p <= y
        ·have d5:decide ((p:Int)<=y)=true:=tb (by omega)
         go_wp2_with fail
         go_quiet (fail)
         go_wp2;go_ret
         exact ⟨by rw [By HL.out (HD.out.trans (by simp [*]))];rfl,by first | exact Ds hb _ | exact hb⟩
        ·have d5:decide ((p:Int)<=y)=false:=db (by omega)
         go_wp2_with fail
         go_quiet (fail)
         go_wp2
         go_roundw
         case rel=>exact ⟨j+1,by omega,by go_num,by first | exact Ds hb _ | exact hb,YS HB.out (HD.out.trans (by simp [*]))⟩
         case measure=>simp [intOf];omega
  ·go_wp2
   go_ret
   have e:j=l.length:=by omega
   subst e;exact ⟨by rw [B4 HB.out];rfl,hb⟩
def slc (v:vx):Prop:=∃ A n c,v=ve A n c
theorem RSl.slc {α:Type} {R:vw -> List vx -> α -> Prop} {sz:Nat} {w:vw} {v:vx} {l:List α} (h:RSl sz R w [v] l):slc v:=by
 obtain ⟨A,n,c,e,-⟩:=h;simp at e
 exact ⟨A,n,c,e⟩
def Tb (p:Nat) (pub vars:Int) (rows:vx):vx:=vf #[vd vn p,vd vq pub,vd vq vars,rows]
def qn (p:Nat) (n:Int) (r:Ua):Bool:=Lh p n r.a&&Lh p n r.b&&Lh p n r.c
theorem qG {w w1:vw} {t1 t2:vz} {je Lf:Array vx} (hb:vA ((w.alloc (.cells je t1)).alloc (.cells Lf t2)).1.size ((w.alloc (.cells je t1)).alloc (.cells Lf t2)) w1) :
  Blk w1 w.1.size t1 je /\ Blk w1 (w.1.size+1) t2 Lf /\ vA w.1.size w w1:=by
 refine ⟨((Blk.new w t1 je).alloc _).below hb (by simp;omega),?_,pa (((Ca _ w).alloc zR _).alloc (by simp) _) hb⟩
 have:=(Blk.new (w.alloc (.cells je t1)) t2 Lf).below hb (by simp)
 simpa using this
theorem o8 (p:Nat) (pub vars:Int) (rows:vx) (r:Ua) (x y z:vx) (w:vw) (hx:RLin w [x] r.a) (hy:RLin w [y] r.b) (hz:RLin w [z] r.c) (hp:p<18446744073709551616) :
  vB prog 206 #[Tb p pub vars rows,vf #[x,y,z]] w fun e w'=>e=vl (.bool (qn p vars r)) /\ vA w.1.size w w':=by
 obtain ⟨A1,n1,c1,rfl⟩:=RSl.slc hx;obtain ⟨A2,n2,c2,rfl⟩:=RSl.slc hy;obtain ⟨A3,n3,c3,rfl⟩:=RSl.slc hz;unfold Tb;cases b1:Lh p vars r.a
 ·have E:=zH (show qn p vars r=false by simp [qn,b1])
  have B1:=zH b1;clear b1;go_enter func206,ntmps206
  go_wp2_with (first | (go_at_call 272;refine (LK p vars _ _ _ r.a _ (uh _ _ _ _ (((Ca _ w).alloc zR _).alloc (by simp) _) hx) hp).mono ?_;rintro e w1 ⟨rfl,hb⟩;rw [B1.out];obtain ⟨K1,K2,Ia⟩:=qG hb;have t0:w1.cell? ⟨w.1.size,0,vD⟩=vE (vd vn p):=K1.cell 0;have t2:w1.cell? ⟨w.1.size,2,vD⟩=vE (vd vq vars):=K1.cell 2;have y1:w1.cell? ⟨w.1.size+1,1,vD⟩=vE (ve A2 n2 c2):=K2.cell 1;have y2:w1.cell? ⟨w.1.size+1,2,vD⟩=vE (ve A3 n3 c3):=K2.cell 2;clear hb))
  go_ret
  exact ⟨by rw [E.out];rfl,Ia⟩
 have B1:=zH b1;cases b2:Lh p vars r.b
 ·have E:=zH (show qn p vars r=false by simp [qn,b1,b2])
  have B2:=zH b2;clear b1 b2;go_enter func206,ntmps206
  go_wp2_with (first | (go_at_call 272;refine (LK p vars _ _ _ r.b _ (uh _ _ _ _ Ia hy) hp).mono ?_;rintro e w2 ⟨rfl,Ba⟩;rw [B2.out];clear t0 t2 y1 y2;have t0:w2.cell? ⟨w.1.size,0,vD⟩=vE (vd vn p):=(ja K1 Ba).cell 0;have t2:w2.cell? ⟨w.1.size,2,vD⟩=vE (vd vq vars):=(ja K1 Ba).cell 2;have y2:w2.cell? ⟨w.1.size+1,2,vD⟩=vE (ve A3 n3 c3):=(ja K2 Ba).cell 2) | (go_at_call 272;refine (LK p vars _ _ _ r.a _ (uh _ _ _ _ (((Ca _ w).alloc zR _).alloc (by simp) _) hx) hp).mono ?_;rintro e w1 ⟨rfl,hb⟩;rw [B1.out];obtain ⟨K1,K2,Ia⟩:=qG hb;have t0:w1.cell? ⟨w.1.size,0,vD⟩=vE (vd vn p):=K1.cell 0;have t2:w1.cell? ⟨w.1.size,2,vD⟩=vE (vd vq vars):=K1.cell 2;have y1:w1.cell? ⟨w.1.size+1,1,vD⟩=vE (ve A2 n2 c2):=K2.cell 1;have y2:w1.cell? ⟨w.1.size+1,2,vD⟩=vE (ve A3 n3 c3):=K2.cell 2;clear hb))
  go_ret
  exact ⟨by rw [E.out];rfl,pa Ia Ba⟩
 have B2:=zH b2;have E:=zH (show qn p vars r=Lh p vars r.c by simp [qn,b1,b2])
 clear b1 b2;go_enter func206,ntmps206
 go_wp2_with (first | (go_at_call 272;refine (LK p vars _ _ _ r.c _ (uh _ _ _ _ (pa Ia Ba) hz) hp).mono ?_;rintro e w3 ⟨rfl,Sa⟩) | (go_at_call 272;refine (LK p vars _ _ _ r.b _ (uh _ _ _ _ Ia hy) hp).mono ?_;rintro e w2 ⟨rfl,Ba⟩;rw [B2.out];clear t0 t2 y1 y2;have t0:w2.cell? ⟨w.1.size,0,vD⟩=vE (vd vn p):=(ja K1 Ba).cell 0;have t2:w2.cell? ⟨w.1.size,2,vD⟩=vE (vd vq vars):=(ja K1 Ba).cell 2;have y2:w2.cell? ⟨w.1.size+1,2,vD⟩=vE (ve A3 n3 c3):=(ja K2 Ba).cell 2) | (go_at_call 272;refine (LK p vars _ _ _ r.a _ (uh _ _ _ _ (((Ca _ w).alloc zR _).alloc (by simp) _) hx) hp).mono ?_;rintro e w1 ⟨rfl,hb⟩;rw [B1.out];obtain ⟨K1,K2,Ia⟩:=qG hb;have t0:w1.cell? ⟨w.1.size,0,vD⟩=vE (vd vn p):=K1.cell 0;have t2:w1.cell? ⟨w.1.size,2,vD⟩=vE (vd vq vars):=K1.cell 2;have y1:w1.cell? ⟨w.1.size+1,1,vD⟩=vE (ve A2 n2 c2):=K2.cell 1;have y2:w1.cell? ⟨w.1.size+1,2,vD⟩=vE (ve A3 n3 c3):=K2.cell 2;clear hb))
 go_ret
 exact ⟨by rw [E.out];rfl,pa (pa Ia Ba) Sa⟩
end Go.Proofs.YteoghgbnielkpaaGreat
