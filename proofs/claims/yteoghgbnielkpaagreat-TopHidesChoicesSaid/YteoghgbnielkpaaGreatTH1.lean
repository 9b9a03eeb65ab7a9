/- A part of the proof. No condition. -/
import Derived.Deep.RegionLaw
import Derived.Laws.CopyOwn
import Derived.Lib.Hide
import Derived.Maps.AppendAt
import Derived.OpenShut
import Derived.ProofKit
import Derived.Test.YteoghgbnielkpaaGreatProg
import Derived.WalkKit
import Derived.WalkLawsBesides
import Derived.WalkSpells

set_option maxRecDepth 100000
set_option maxHeartbeats 8000000
set_option linter.unusedVariables false
set_option linter.unusedSimpArgs false
namespace Go.Proofs.YteoghgbnielkpaaGreat
open Go.RowKit
open Tryz
open Go renaming World->vw, Value->vx, Addr->vy, TypeId->vz
open Go.Value renaming int->vd, slice->ve
open Go.IntKind renaming u64->vn, i64->vq, u8->vu
open Go.RowKit renaming Below->vA
open Go.World renaming setCell->vF
open Option renaming none->vD, some->vE
theorem zLa {α:Type _} (l:List α) (i:Nat) (a:α):l.toArray.setIfInBounds i a=(l.set i a).toArray:=List.setIfInBounds_toArray l i a
theorem zLb {α:Type _} (x:α) (xs:List α) (a:α):(x :: xs).set 0 a=a :: xs:=List.set_cons_zero
theorem zLc {α:Type _} (x:α) (xs:List α) (i:Nat) (a:α):(x :: xs).set (i+1) a=x :: xs.set i a:=List.set_cons_succ
theorem zR {n:Nat}:n≤n:=Nat.le_refl n
theorem zH {P:Prop} (h:P):Hid P:=Lib.hid h
theorem zEX {α:Sort _} (a:α):∃ x,x=a:=⟨_,rfl⟩
theorem aa:type_of% @Lib.hid:=@Lib.hid
theorem oa:type_of% @Nat.le_refl:=@Nat.le_refl
theorem za:type_of% @Below.refl:=@Below.refl
theorem Ba:type_of% @List.setIfInBounds_toArray:=@List.setIfInBounds_toArray
theorem Da:type_of% @List.set_cons_succ:=@List.set_cons_succ
theorem Fa:type_of% @List.set_cons_zero:=@List.set_cons_zero
theorem La:type_of% @if_neg:=@if_neg
theorem Qa:type_of% @if_pos:=@if_pos
theorem db:type_of% @Option.some.inj:=@Option.some.inj
theorem jb:type_of% @Nat.le_trans:=@Nat.le_trans
theorem xb:type_of% @decide_eq_false:=@decide_eq_false
theorem yb:type_of% @decide_eq_true:=@decide_eq_true
theorem Jb:type_of% @List.getD_eq_getElem?_getD:=@List.getD_eq_getElem?_getD
theorem Lb:type_of% @Nat.zero_le:=@Nat.zero_le
theorem ic:type_of% @Nat.mod_lt:=@Nat.mod_lt
theorem oc:type_of% @List.getElem?_eq_getElem:=@List.getElem?_eq_getElem
theorem Cc:type_of% @Bool.and_eq_true:=@Bool.and_eq_true
theorem ed:type_of% @bodyPost_ret:=@bodyPost_ret
theorem ld:type_of% @List.mem_map:=@List.mem_map
theorem pd:type_of% @beq_eq_false_iff_ne:=@beq_eq_false_iff_ne
theorem Sd:type_of% @Nat.lt_of_lt_of_le:=@Nat.lt_of_lt_of_le
theorem Xd:type_of% @List.all_eq_true:=@List.all_eq_true
theorem Fe:type_of% @Nat.mul_comm:=@Nat.mul_comm
theorem jf:type_of% @List.length_cons:=@List.length_cons
theorem mf:type_of% @World.block_lt_of_cell?:=@World.block_lt_of_cell?
theorem Cf:type_of% @List.forall_mem_cons:=@List.forall_mem_cons
theorem Df:type_of% @bne_iff_ne:=@bne_iff_ne
theorem Kf:type_of% @List.length_append:=@List.length_append
theorem Uf:type_of% @Below.heap_setCell:=@Below.heap_setCell
theorem ig:type_of% @Int.natCast_mul:=@Int.natCast_mul
theorem jg:type_of% @List.getElem_cons_zero:=@List.getElem_cons_zero
theorem wg:type_of% @List.getElem_mem:=@List.getElem_mem
theorem Gg:type_of% @List.getElem_cons_succ:=@List.getElem_cons_succ
theorem Hg:type_of% @Nat.lt_or_ge:=@Nat.lt_or_ge
theorem Ig:type_of% @Nat.pow_succ:=@Nat.pow_succ
theorem Xg:type_of% @List.mem_cons:=@List.mem_cons
theorem ph:type_of% @Int.pow_mul:=@Int.pow_mul
theorem Eh:type_of% @Nat.lt_trans:=@Nat.lt_trans
theorem Hh:type_of% @beq_iff_eq:=@beq_iff_eq
theorem Uh:type_of% @List.mem_range:=@List.mem_range
theorem Ei:type_of% @IntKind.wrap_u64:=@IntKind.wrap_u64
theorem Xi:type_of% @Int.pow_succ:=@Int.pow_succ
theorem Fj:type_of% @Nat.mod_eq_of_lt:=@Nat.mod_eq_of_lt
theorem Yj:type_of% @Int.mul_comm:=@Int.mul_comm
theorem fk:type_of% @List.length_map:=@List.length_map
theorem pk:type_of% @bne_eq_false_iff_eq:=@bne_eq_false_iff_eq
theorem Kk:type_of% @Int.eq_ofNat_of_zero_le:=@Int.eq_ofNat_of_zero_le
theorem Lk:type_of% @Int.toNat_natCast:=@Int.toNat_natCast
theorem Mk:type_of% @Nat.zero_add:=@Nat.zero_add
theorem il:type_of% @Bool.not_eq_true':=@Bool.not_eq_true'
theorem Al:type_of% @Int.natCast_add:=@Int.natCast_add
theorem Bl:type_of% @List.mem_filter:=@List.mem_filter
theorem nm:type_of% @List.length_range:=@List.length_range
theorem bn:type_of% @Int.one_mul:=@Int.one_mul
theorem dn:type_of% @List.getElem?_toArray:=@List.getElem?_toArray
theorem qo:type_of% @Int.mul_assoc:=@Int.mul_assoc
theorem so:type_of% @IntKind.wrap_i64:=@IntKind.wrap_i64
theorem uo:type_of% @List.getElem_of_mem:=@List.getElem_of_mem
theorem xo:type_of% @Nat.eq_zero_or_pos:=@Nat.eq_zero_or_pos
theorem Bo:type_of% @decide_eq_true_eq:=@decide_eq_true_eq
theorem xp:type_of% @Int.natCast_pow:=@Int.natCast_pow
theorem zp:type_of% @List.mem_singleton:=@List.mem_singleton
theorem Cp:type_of% @List.take_length:=@List.take_length
theorem uq:type_of% @List.mem_append:=@List.mem_append
theorem Xr:type_of% @List.getElem?_eq_none:=@List.getElem?_eq_none
theorem Yr:type_of% @Nat.mul_one:=@Nat.mul_one
theorem Zr:type_of% @Nat.pow_le_pow_right:=@Nat.pow_le_pow_right
theorem Ds:type_of% @below_drewN:=@below_drewN
theorem Yt:type_of% @List.getElem?_map:=@List.getElem?_map
theorem au:type_of% @Nat.div_add_mod:=@Nat.div_add_mod
theorem Pu:type_of% @Array.getElem?_eq_some_iff:=@Array.getElem?_eq_some_iff
theorem Su:type_of% @List.getElem?_append_right:=@List.getElem?_append_right
theorem Tu:type_of% @List.getElem_append_left:=@List.getElem_append_left
theorem Uu:type_of% @List.map_congr_left:=@List.map_congr_left
theorem Wu:type_of% @Region.noSelect_spec:=@Region.noSelect_spec
theorem qv:type_of% @decide_eq_false_iff_not:=@decide_eq_false_iff_not
theorem nx:type_of% @Tryz.underlying3:=@Tryz.underlying3
theorem bz:type_of% @List.all_eq_false:=@List.all_eq_false
theorem dz:type_of% @List.getElem?_range:=@List.getElem?_range
theorem iz:type_of% @List.take_succ_eq_append_getElem:=@List.take_succ_eq_append_getElem
theorem jz:type_of% @Nat.div_le_self:=@Nat.div_le_self
theorem NA:type_of% @Bool.false_ne_true:=@Bool.false_ne_true
theorem fB:type_of% @List.append_assoc:=@List.append_assoc
theorem iB:type_of% @List.forall_mem_nil:=@List.forall_mem_nil
theorem ND:type_of% @List.contains_iff_mem:=@List.contains_iff_mem
theorem OD:type_of% @List.getElem?_append_left:=@List.getElem?_append_left
theorem PD:type_of% @List.getElem_append_right:=@List.getElem_append_right
theorem yG:type_of% @Int.tdiv_eq_ediv_of_nonneg:=@Int.tdiv_eq_ediv_of_nonneg
theorem BG:type_of% @List.filter_cons_of_neg:=@List.filter_cons_of_neg
theorem CG:type_of% @List.filter_cons_of_pos:=@List.filter_cons_of_pos
theorem DG:type_of% @Nat.add_sub_cancel_left:=@Nat.add_sub_cancel_left
theorem EG:type_of% @Nat.shiftRight_eq_div_pow:=@Nat.shiftRight_eq_div_pow
theorem RI:type_of% @Classical.byContradiction:=@Classical.byContradiction
theorem WI:type_of% @List.eq_nil_of_length_eq_zero:=@List.eq_nil_of_length_eq_zero
def U8 (l:List Nat):List vx:=l.map (fun n:Nat=>vd vu n)
def Ia (l:List Nat):List vx:=l.map (fun n:Nat=>vd vn n)
def Jk (l:List Int):List vx:=l.map (fun n:Int=>vd vq n)
theorem bZ (l:List Nat):(U8 l).length=l.length:=by simp [U8]
theorem So (l:List Nat):(Ia l).length=l.length:=by simp [Ia]
theorem aZ (l:List Int):(Jk l).length=l.length:=by simp [Jk]
theorem IQ (l m:List Nat):U8 (l++m)=U8 l++U8 m:=by simp [U8]
theorem RV (l m:List Nat):Ia (l++m)=Ia l++Ia m:=by simp [Ia]
theorem Ck (l:List Nat):∀ u∈Ia l,u.oneCell'=true:=by
 intro u hu;obtain ⟨n,_,rfl⟩:=ld.1 hu
 rfl
theorem zDo (l:List Int):∀ u∈Jk l,u.oneCell'=true:=by
 intro u hu;obtain ⟨n,_,rfl⟩:=ld.1 hu
 rfl
theorem YD {l:List Nat} {j:Nat} (h:j<l.length):(Ia l)[j]?=vE (vd vn (l[j]:Int)):=by simp [Ia,h]
theorem NW (a:vy) (n:Nat):(a.add n).block=a.block:=by
 unfold Addr.add;split <;> rfl
theorem OQ (a:vy) (i j:Nat):(a.add i).add j=a.add (i+j):=by
 unfold Addr.add;by_cases hi:i=0 <;> by_cases hj:j=0 <;> simp [hi,hj,Nat.add_assoc]
theorem YV (a:vy):a.add 0=a:=by simp [Addr.add]
def Rd (w:vw) (size:Nat) (A:Option vy) (n:Nat) (xs:List vx):Prop :=
 xs.length=n*size /\ (0<n -> ∃ ad,A=vE ad /\ ∀ j u,xs[j]?=vE u -> w.cell? (ad.add j)=vE u)
section
variable {w w':vw} {size n:Nat} {A:Option vy} {xs:List vx}
theorem Rd.nil (w:vw) (size:Nat) (A:Option vy):Rd w size A 0 []:=⟨by simp,fun h=>absurd h (by omega)⟩
theorem Rd.len1 (h:Rd w 1 A n xs):xs.length=n:=by have:=h.1;omega
theorem Rd.at_ {k:Nat} (h:Rd w 1 A n xs) (hk:k<n):∃ ad u,A=vE ad /\ xs[k]?=vE u /\ w.cell? (ad.add k)=vE u:=by
 obtain ⟨ad,e,hc⟩:=h.2 (by omega)
 have hl:k<xs.length:=by rw [h.len1];exact hk
 exact ⟨ad,xs[k],e,oc hl,hc k _ (oc hl)⟩
theorem Rd.keep (h:Rd w size A n xs) (hk:∀ p:vy,p.block<w.1.size -> w'.cell? p=w.cell? p):Rd w' size A n xs :=
 ⟨h.1,fun hn=>by
  obtain ⟨ad,e,hc⟩:=h.2 hn;exact ⟨ad,e,fun j u hu=>(hk _ (mf _ _ (hc j u hu))).trans (hc j u hu)⟩⟩
theorem Rd.below (h:Rd w size A n xs) (hb:vA w.1.size w w'):Rd w' size A n xs:=h.keep fun _ hp=>hb.cell hp
theorem Rd.drew (h:Rd w size A n xs):Rd w.drew size A n xs:=h
theorem Rd.drewN (h:Rd w size A n xs) (k:Nat):Rd (w.drewN k) size A n xs:=h
theorem Rd.alloc (h:Rd w size A n xs) (o:Obj):Rd (w.alloc o) size A n xs:=h.keep fun p hp=>World.cell?_alloc_lt w o p hp
theorem Rd.grown (h:Rd w size A n xs) {row:Option Nat} (hg:w.grownBy w' row) (hr:∀ ad,A=vE ad -> vE ad.block≠row):Rd w' size A n xs :=
 ⟨h.1,fun hn=>by
  obtain ⟨ad,e,hc⟩:=h.2 hn;refine ⟨ad,e,fun j u hu=>?_⟩
  exact hg.cell (hc j u hu) (by rw [NW];exact hr ad e)⟩
theorem Rd.cut (h:Rd w size A n xs) {k cap:Nat} (hk:k <= n) (hc:n <= cap) :
  Rd w size (if cap=k then A else A.map (·.add (k*size))) (n-k) (xs.drop (k*size)):=by
 refine ⟨by rw [List.length_drop,h.1,Nat.sub_mul],fun hn=>?_⟩
 obtain ⟨ad,rfl,Qs⟩:=h.2 (by omega)
 rw [La (by omega)]
 refine ⟨ad.add (k*size),rfl,fun j u hu=>?_⟩
 rw [OQ];exact Qs _ u (by rw [<- hu,List.getElem?_drop])
theorem Rd.take (h:Rd w size A n xs) {k:Nat} (hk:k <= n):Rd w size A k (xs.take (k*size)):=by
 refine ⟨by rw [List.length_take,h.1];exact Nat.min_eq_left (Nat.mul_le_mul_right _ hk),fun hn=>?_⟩
 obtain ⟨ad,e,Qs⟩:=h.2 (by omega)
 refine ⟨ad,e,fun j u hu=>Qs j u ?_⟩
 rw [List.getElem?_take] at hu;split at hu
 ·exact hu
 ·cases hu
theorem Rd.of_own {base:Nat} {e:vz} {c:Nat} (h:w.ownsRow base e size (ve A n c) n xs):Rd w size A n xs:=by
 refine ⟨h.1,fun hn=>?_⟩
 rcases h.2 with ⟨_,h0⟩ | ⟨g,cap,cur,hv,_⟩
 ·omega
 ·have hA:A=vE ⟨g,0,vD⟩:=by injection hv
  subst hA;exact ⟨_,rfl,h.cells (g:=g) rfl⟩
end
theorem ud {w:vw} {base:Nat} {e:vz} {size:Nat} {v:vx} {n:Nat} {xs:List vx} (h:w.ownsRow base e size v n xs) :
  ∃ A c,v=ve A n c /\ n <= c /\ c <= maxLen /\ Rd w size A n xs /\ (∀ ad,A=vE ad -> base <= ad.block /\ ad.block<w.1.size):=by
 have h2:=h;rcases h.2 with ⟨rfl,rfl⟩ | ⟨g,cap,cur,rfl,hb,hh,hn,hm,_⟩
 ·exact ⟨vD,0,rfl,zR,by simp [maxLen],Rd.of_own h2,fun ad h=>by cases h⟩
 ·refine ⟨vE ⟨g,0,vD⟩,cap,rfl,hn,hm,Rd.of_own h2,fun ad h=>?_⟩
  injection h with h
  subst h;exact ⟨hb,(Pu.1 hh).1⟩
theorem Xb {w w':vw} {base B:Nat} {e:vz} {size:Nat} {v:vx} {n:Nat} {xs:List vx} (h:w.ownsRow base e size v n xs) (hb:vA B w w') (hB:w.1.size <= B):w'.ownsRow base e size v n xs:=by
 obtain ⟨h1,h2⟩:=h;refine ⟨h1,?_⟩;rcases h2 with h2 | ⟨g,cap,cur,hv,hg,hh,r⟩
 ·exact Or.inl h2
 ·exact Or.inr ⟨g,cap,cur,hv,hg,by rw [hb.block g (by have:=(Pu.1 hh).1;omega)];exact hh,r⟩
theorem Xk {w:vw} {base LW:Nat} {e:vz} {size:Nat} {v:vx} {n:Nat} {xs:List vx} (h:w.ownsRow base e size v n xs) (hB:LW <= base):w.ownsRow LW e size v n xs:=by
 obtain ⟨h1,h2⟩:=h;refine ⟨h1,?_⟩;rcases h2 with h2 | ⟨g,cap,cur,hv,hg,r⟩
 ·exact Or.inl h2
 ·exact Or.inr ⟨g,cap,cur,hv,jb hB hg,r⟩
theorem Q2 {w:vw} {base:Nat} {e:vz} {size:Nat} {v:vx} {n:Nat} {xs:List vx} (h:w.ownsRow base e size v n xs):∀ g,v.ownBlock=vE g -> base <= g /\ g<w.1.size:=h.lt
theorem ma {w0 w1 w2:vw} (h1:vA w0.1.size w0 w1) (h2:vA w1.1.size w1 w2):vA w0.1.size w0 w2:=h1.trans (h2.mono h1.size)
theorem JG {B:Nat} {a w:vw} (h:vA B a w) (n:Nat):vA B a (w.drewN n):=⟨h.os,h.tape,h.output,h.size,h.block⟩
theorem Vd (w:vw) (row:Option Nat):w.grownBy w row:=⟨rfl,rfl,rfl,zR,fun _ _ _=>rfl⟩
theorem zBS {a w:vw} {row:Option Nat} (h:a.grownBy w row) (o:Obj):a.grownBy (w.alloc o) row :=
 ⟨h.os,h.tape,h.output,jb h.size (by simp),fun i hi Ta=>(Below.heap_alloc w o i (Sd hi h.size)).trans (h.block i hi Ta)⟩
theorem Mf {a w:vw} {row:Option Nat} (h:a.grownBy w row) {p:vy} (hp:row=vE p.block \/ a.1.size <= p.block) (u:vx):a.grownBy (w.setCell p u) row :=
 ⟨h.os,h.tape,h.output,by simpa [vF] using h.size,fun i hi Ta=>(Uf w p u i (by
  rintro rfl;rcases hp with hp | hp
  ·exact Ta hp.symm
  ·omega)).trans (h.block i hi Ta)⟩
theorem Iq {a w w':vw} {row row':Option Nat} (h:a.grownBy w row) (hg:w.grownBy w' row') (hr:∀ g,row'=vE g -> row=vE g \/ a.1.size <= g):a.grownBy w' row :=
 ⟨hg.os.trans h.os,hg.tape.trans h.tape,hg.output.trans h.output,jb h.size hg.size,fun i hi Ta=>(hg.block i (Sd hi h.size) (fun e=>by
  rcases hr i e.symm with h1 | h1
  ·exact Ta h1.symm
  ·omega)).trans (h.block i hi Ta)⟩
theorem Lf {a w w':vw} {row:Option Nat} {B:Nat} (h:a.grownBy w row) (hb:vA B w w') (hB:a.1.size <= B):a.grownBy w' row :=
 ⟨hb.os.trans h.os,hb.tape.trans h.tape,hb.output.trans h.output,jb h.size hb.size,fun i hi Ta=>(hb.block i (Sd hi hB)).trans (h.block i hi Ta)⟩
theorem qz {a w:vw} {row:Option Nat} (h:a.grownBy w row) (B:Nat) (hB:B <= a.1.size) (hr:∀ g,row=vE g -> B <= g):vA B a w :=
 ⟨h.os,h.tape,h.output,h.size,fun k hk=>h.block k (by omega) (fun e=>by have:=hr k e.symm;omega)⟩
def Jt (P:Program) (t e:vz) (size bytes:Nat) (z:vx):Prop :=
 P.underlying t=vE (.slice e) /\ (∃ i,P.info? e=vE i /\ i.zero=vE z /\ i.size=size /\ i.bytes=bytes) /\ z.cells.size=size /\ 0<size
theorem Ku (w:vw) (x:vx) (t:vz):Rd (w.alloc (.cells #[x] t)) 1 (vE ⟨w.1.size,0,vD⟩) 1 [x] :=
 ⟨rfl,fun _=>⟨_,rfl,cell_one_new w x t⟩⟩
theorem TJ (w:vw) (e:vz) {base:Nat} (hb:base <= w.1.size):(w.alloc (.cells #[] e)).ownsRow base e 1 (ve (vE ⟨w.1.size,0,vD⟩) 0 0) 0 [] :=
 World.ownsRow_made w #[] 0 hb (by simp [maxLen]) rfl
section
variable {P:Program} {w:vw} {base size bytes:Nat} {t e:vz} {z v:vx} {n:Nat} {xs:List vx}
theorem zFr (E:Jt P t e size bytes z) (ty:vz) (xa:w.ownsRow base e size v n xs) {A:Option vy} {m c:Nat} {news:List vx} (hr:Rd w size A m news)
  (h1:∀ u∈news,u.oneCell'=true) (Ev:(n+m)*(bytes+1) <= 140737488355328) (Rx:base <= w.1.size) :
  ∃ v' w',(Builtin.append_ #[t,t] ty #[v,ve A m c]).run P w= .ok v' w' /\ w'.ownsRow base e size v' (n+m) (xs++news) /\ w.grownBy w' v.ownBlock /\ (v'.ownBlock=v.ownBlock \/ v'.ownBlock=vE w.1.size):=by
 obtain ⟨ht,⟨i,hi,hz,hs,Ps⟩,hzs,tb⟩:=E;have hb:(n+m)*bytes <= 140737488355328:=jb (Nat.mul_le_mul_left _ (Nat.le_succ _)) Ev;have hl:n+m <= maxLen:=by
  have:=jb (Nat.le_mul_of_pos_right (n+m) (Nat.succ_pos bytes)) Ev;simp only [maxLen];omega
 rcases A with _ | ad
 ·have hm:m=0:=by
   rcases xo m with h0 | h0
   ·exact h0
   ·obtain ⟨ad,h,_⟩:=hr.2 h0
    cases h
  subst hm;have hn:news=[]:=WI (by simpa using hr.1)
  subst hn;refine ⟨v,w,?_,by simpa using xa,Vd w _, .inl rfl⟩
  rcases xa.2 with ⟨rfl,rfl⟩ | ⟨g,cap,cur,rfl,_,_,He,_⟩
  ·simp [Builtin.append_,run_underlying ht,sizeOf,typeInfo,hi,Builtin.lenOf,Builtin.firstCells]
  ·simp [Builtin.append_,run_underlying ht,sizeOf,typeInfo,hi,Builtin.lenOf,Builtin.firstCells,He,storeCells]
 ·have Bn:∀ j u,news[j]?=vE u -> w.cell? (ad.add j)=vE u:=by
   intro j u hu;rcases xo m with h0 | h0
   ·subst h0
    have hn:news=[]:=WI (by simpa using hr.1)
    subst hn;simp at hu
   ·obtain ⟨ad',h,hc⟩:=hr.2 h0
    injection h with h
    subst h;exact hc j u hu
  obtain ⟨v',w',td,h2,h3,_,h5⟩:=run_append_own_at (P:=P) w base t ty e i z size bytes ht hi hz hs Ps hzs tb v n xs xa ad m c news hr.1 Bn h1 hl hb Rx;exact ⟨v',w',td,h2,h3,h5⟩
theorem Ew {o:Oper} {a:Act} {K:Act -> vw -> Prop} {Q:Exit -> Act -> vw -> Prop} (s x:Operand)
  (ho:o.op= .call { callee:=.builtin .append,args:=#[s,x],argTypes:=#[t,t] })
  (E:Jt P t e size bytes z) (hs:a.eval s=v) (xa:w.ownsRow base e size v n xs)
  {A:Option vy} {m c:Nat} {news:List vx} (hx:a.eval x=ve A m c) (hr:Rd w size A m news) (h1:∀ u∈news,u.oneCell'=true)
  (Ev:(n+m)*(bytes+1) <= 140737488355328) (Rx:base <= w.1.size)
  (h:∀ v' w',w'.ownsRow base e size v' (n+m) (xs++news) -> w.grownBy w' v.ownBlock -> (v'.ownBlock=v.ownBlock \/ v'.ownBlock=vE w.1.size) -> K (a.put o.dst v') w'):o.wp P a w K Q:=by
 obtain ⟨v',w',td,h2,h3,h4⟩:=zFr (P:=P) (c:=c) E o.type xa hr h1 Ev Rx;unfold Oper.wp execOp;simp only [ho,resolve,invoke,builtin,Sem.run_bind,Sem.run_pure,Result.andThen_ok,List.map_toArray,List.map_cons,List.map_nil,hs,hx,td];exact h v' w' h2 h3 h4
theorem oh {ops:Array Oper} {rest:List Oper} {o:Oper} {a:Act} {Q:Exit -> Act -> vw -> Prop} (hgd:o.guard=vD) (s x:Operand)
  (ho:o.op= .call { callee:=.builtin .append,args:=#[s,x],argTypes:=#[t,t] })
  (E:Jt P t e size bytes z) (hs:a.eval s=v) (xa:w.ownsRow base e size v n xs)
  {A:Option vy} {m c:Nat} {news:List vx} (hx:a.eval x=ve A m c) (hr:Rd w size A m news) (h1:∀ u∈news,u.oneCell'=true)
  (Ev:(n+m)*(bytes+1) <= 140737488355328) (Rx:base <= w.1.size)
  (h:∀ v' w',w'.ownsRow base e size v' (n+m) (xs++news) -> w.grownBy w' v.ownBlock -> (v'.ownBlock=v.ownBlock \/ v'.ownBlock=vE w.1.size) -> wpList P ops Q rest (a.put o.dst v') w'):wpList P ops Q (o :: rest) a w :=
 wpList_plain hgd fun _ hK=>Ew s x ho E hs xa hx hr h1 Ev Rx fun v' w' h2 h3 h4=>hK _ _ (h v' w' h2 h3 h4)
end
theorem zDC {a w w':vw} {row:Option Nat} {u u':vx} (h:a.grownBy w row) (hu:∀ g,u.ownBlock=vE g -> row=vE g \/ a.1.size <= g) (hg:w.grownBy w' u.ownBlock)
  (zm:u'.ownBlock=u.ownBlock \/ ∃ g,u'.ownBlock=vE g /\ w.1.size <= g):a.grownBy w' row /\ ∀ g,u'.ownBlock=vE g -> row=vE g \/ a.1.size <= g:=by
 refine ⟨Iq h hg hu,fun g Dm=>?_⟩
 rcases zm with e | ⟨g',e,hle⟩
 ·exact hu g (e ▸ Dm)
 ·rw [e] at Dm
  injection Dm with Dm
  subst Dm;exact .inr (jb h.size hle)
def Blk (w:vw) (g:Nat) (t:vz) (cs:Array vx):Prop:=w.1[g]?=vE (.cells cs t (0,0))
section
variable {w w':vw} {g:Nat} {t:vz} {cs:Array vx}
theorem Blk.lt (h:Blk w g t cs):g<w.1.size:=(Pu.1 h).1
theorem Blk.cell (h:Blk w g t cs) (i:Nat):w.cell? ⟨g,i,vD⟩=cs[i]?:=cell_of_row w g i cs t (0,0) h
theorem Blk.frozen (h:Blk w g t cs) (i:Nat):w.frozen? ⟨g,i,vD⟩=false:=by
 unfold Blk at h;simp [World.frozen?,h]
theorem Blk.new (w:vw) (t:vz) (cs:Array vx):Blk (w.alloc (.cells cs t)) w.1.size t cs:=heap_alloc_new w _
theorem Blk.drew (h:Blk w g t cs):Blk w.drew g t cs:=h
theorem Blk.drewN (h:Blk w g t cs) (n:Nat):Blk (w.drewN n) g t cs:=h
theorem Blk.alloc (h:Blk w g t cs) (o:Obj):Blk (w.alloc o) g t cs:=(Below.heap_alloc w o g h.lt).trans h
theorem Blk.set_ (h:Blk w g t cs) (i:Nat) (u:vx):Blk (w.setCell ⟨g,i,vD⟩ u) g t (cs.setIfInBounds i u):=by
 unfold Blk at h |-;simp [vF,Array.getElem?_modify,h]
theorem Blk.far (h:Blk w g t cs) {p:vy} (hp:g≠p.block) (u:vx):Blk (w.setCell p u) g t cs:=(Uf w p u g hp).trans h
theorem Blk.below {B:Nat} (h:Blk w g t cs) (hb:vA B w w') (hg:g<B):Blk w' g t cs:=(hb.block g hg).trans h
theorem ia {w w1:vw} {g:Nat} {t:vz} {cs:Array vx} (k:Blk w g t cs) (h:vA w.1.size w w1):Blk w1 g t cs:=k.below h k.lt
theorem Blk.grown {row:Option Nat} (h:Blk w g t cs) (hb:w.grownBy w' row) (hg:vE g≠row):Blk w' g t cs:=(hb.block g h.lt hg).trans h
theorem ze {w w1:vw} {g i:Nat} {t:vz} {cs:Array vx} (k:Blk w g t cs) (h:w.grownBy w1 (vE i)) (e:vE g≠vE i:=by intro e;have:=db e;first | omega | (apply absurd this;assumption) | (apply absurd this.symm;assumption)):Blk w1 g t cs:=k.grown h e
end
theorem Rd.set_ {w:vw} {size n:Nat} {A:Option vy} {xs:List vx} (h:Rd w size A n xs) {p:vy} (hp:∀ ad,A=vE ad -> ad.block≠p.block) (u:vx):Rd (w.setCell p u) size A n xs :=
 ⟨h.1,fun hn=>by
  obtain ⟨ad,e,hc⟩:=h.2 hn;refine ⟨ad,e,fun j x hj=>?_⟩
  rw [World.cell?_setCell_other w p _ u (fun e2=>hp ad e (by rw [e2,NW]))]
  exact hc j x hj⟩
theorem IY:(prog.info? 5).map (fun i=>(i.zero,i.size,i.bytes))=vE (vE (vd vu 0),1,1):=by kernel_rfl
theorem GY:(prog.info? 22).map (fun i=>(i.zero,i.size,i.bytes))=vE (vE (vd vn 0),1,8):=by kernel_rfl
theorem el_u8:Jt prog 83 5 1 1 (vd vu 0):=by
 obtain ⟨i0,hi,sj,Nd,Bf⟩:=info_parts IY;exact ⟨underlying83,⟨i0,hi,sj,Nd,Bf⟩,rfl,by omega⟩
theorem CB:Jt prog 28 22 1 8 (vd vn 0):=by
 obtain ⟨i0,hi,sj,Nd,Bf⟩:=info_parts GY;exact ⟨underlying28,⟨i0,hi,sj,Nd,Bf⟩,rfl,by omega⟩
def Gl:Nat -> Nat -> List Nat
 | _,0=>[]
 | n,k+1=>n%256 :: Gl (n / 256) k
theorem qX:∀ (k n:Nat),Gl n (k+1)=Gl n k++[n / 256^k%256]
 | 0,n=>by simp [Gl]
 | k+1,n=>by
  rw [Gl,qX k (n / 256),Gl,List.cons_append,Nat.div_div_eq_div_mul,Ig,Fe 256]
theorem zT:∀ (k n:Nat),(Gl n k).length=k
 | 0,_=>rfl
 | k+1,n=>by simp [Gl,zT k]
end Go.Proofs.YteoghgbnielkpaaGreat
