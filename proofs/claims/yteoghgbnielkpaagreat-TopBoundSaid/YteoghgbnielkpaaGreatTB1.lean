/- A part of the proof. No condition. -/
import Derived.Deep.RegionLaw
import Derived.Laws.CopyOwn
import Derived.Lib.Hide
import Derived.Maps.AppendAt
import Derived.OpenShut
import Derived.ProofKit
import Derived.Test.YteoghgbnielkpaaGreatProg
import Derived.WalkKit
import Derived.WalkLawsBesides
import Derived.WalkSpells

set_option maxRecDepth 100000
set_option maxHeartbeats 8000000
set_option linter.unusedVariables false
set_option linter.unusedSimpArgs false
namespace Go.Proofs.YteoghgbnielkpaaGreat
open Go.RowKit
open Tryz
open Go renaming World->vw, Value->vx, Addr->vy, TypeId->vz, Calls->vB
open Go.Value renaming int->vd, slice->ve
open Go.IntKind renaming u64->vn, i64->vq, u8->vu
open Go.Ending renaming returned->vl
open Go.RowKit renaming Below->vA
open Go.World renaming setCell->vF
open Option renaming none->vD, some->vE
theorem zLa {α:Type _} (l:List α) (i:Nat) (a:α):l.toArray.setIfInBounds i a=(l.set i a).toArray:=List.setIfInBounds_toArray l i a
theorem zLb {α:Type _} (x:α) (xs:List α) (a:α):(x :: xs).set 0 a=a :: xs:=List.set_cons_zero
theorem zLc {α:Type _} (x:α) (xs:List α) (i:Nat) (a:α):(x :: xs).set (i+1) a=x :: xs.set i a:=List.set_cons_succ
theorem zR {n:Nat}:n≤n:=Nat.le_refl n
theorem zH {P:Prop} (h:P):Hid P:=Lib.hid h
theorem zEX {α:Sort _} (a:α):∃ x,x=a:=⟨_,rfl⟩
theorem zO {p:Prop} (h:p:=by omega):p:=h
theorem zK {p:Prop} (h:p:=by kernel_rfl):p:=h
theorem zD {p:Prop} (h:p:=by decide):p:=h
theorem zS {p:Prop} (h:p:=by simp):p:=h
theorem zT {p:Prop} (h:p:=by (simp;omega)):p:=h
theorem zQ {a p:Prop} (x:a) (h:a→p:=by (intro this;omega)):p:=h x
theorem zA (w:World) (c:Obj):RowKit.Below w.heap.size w (w.alloc c):=(Below.refl _ _).alloc (Nat.le_refl _) _
theorem aa:type_of% @Lib.hid:=@Lib.hid
theorem ya:type_of% @if_neg:=@if_neg
theorem za:type_of% @Nat.le_refl:=@Nat.le_refl
theorem Fa:type_of% @List.setIfInBounds_toArray:=@List.setIfInBounds_toArray
theorem Ga:type_of% @List.set_cons_succ:=@List.set_cons_succ
theorem Ha:type_of% @List.set_cons_zero:=@List.set_cons_zero
theorem Ka:type_of% @if_pos:=@if_pos
theorem Ya:type_of% @Option.some.inj:=@Option.some.inj
theorem db:type_of% @decide_eq_false:=@decide_eq_false
theorem tb:type_of% @Below.refl:=@Below.refl
theorem xb:type_of% @decide_eq_true:=@decide_eq_true
theorem zb:type_of% @Nat.le_trans:=@Nat.le_trans
theorem Fb:type_of% @List.getD_eq_getElem?_getD:=@List.getD_eq_getElem?_getD
theorem Kb:type_of% @Nat.zero_le:=@Nat.zero_le
theorem Qb:type_of% @List.getElem?_eq_getElem:=@List.getElem?_eq_getElem
theorem Vb:type_of% @Bool.and_eq_true:=@Bool.and_eq_true
theorem mc:type_of% @Nat.mod_lt:=@Nat.mod_lt
theorem Sc:type_of% @bodyPost_ret:=@bodyPost_ret
theorem pd:type_of% @Nat.lt_of_lt_of_le:=@Nat.lt_of_lt_of_le
theorem Gd:type_of% @beq_eq_false_iff_ne:=@beq_eq_false_iff_ne
theorem Od:type_of% @List.mem_map:=@List.mem_map
theorem fe:type_of% @List.all_eq_true:=@List.all_eq_true
theorem ye:type_of% @Nat.mul_comm:=@Nat.mul_comm
theorem He:type_of% @List.getElem_mem:=@List.getElem_mem
theorem ef:type_of% @bne_iff_ne:=@bne_iff_ne
theorem Gf:type_of% @World.block_lt_of_cell?:=@World.block_lt_of_cell?
theorem Qf:type_of% @Int.natCast_mul:=@Int.natCast_mul
theorem Rf:type_of% @List.forall_mem_cons:=@List.forall_mem_cons
theorem Sf:type_of% @Nat.pow_succ:=@Nat.pow_succ
theorem wg:type_of% @Below.heap_setCell:=@Below.heap_setCell
theorem Ig:type_of% @List.getElem_cons_zero:=@List.getElem_cons_zero
theorem Jg:type_of% @List.length_cons:=@List.length_cons
theorem Vg:type_of% @List.getElem_cons_succ:=@List.getElem_cons_succ
theorem Wg:type_of% @Nat.lt_or_ge:=@Nat.lt_or_ge
theorem Ah:type_of% @List.mem_cons:=@List.mem_cons
theorem Dh:type_of% @beq_iff_eq:=@beq_iff_eq
theorem Sh:type_of% @Int.pow_mul:=@Int.pow_mul
theorem ti:type_of% @List.length_drop:=@List.length_drop
theorem jj:type_of% @List.length_append:=@List.length_append
theorem pj:type_of% @List.mem_range:=@List.mem_range
theorem qj:type_of% @Nat.mod_eq_of_lt:=@Nat.mod_eq_of_lt
theorem Jj:type_of% @Int.pow_succ:=@Int.pow_succ
theorem Kj:type_of% @IntKind.wrap_u64:=@IntKind.wrap_u64
theorem Mj:type_of% @List.drop_drop:=@List.drop_drop
theorem Nj:type_of% @Nat.zero_add:=@Nat.zero_add
theorem dk:type_of% @Int.eq_ofNat_of_zero_le:=@Int.eq_ofNat_of_zero_le
theorem ik:type_of% @Int.mul_comm:=@Int.mul_comm
theorem Rk:type_of% @Int.toNat_natCast:=@Int.toNat_natCast
theorem Uk:type_of% @Nat.lt_trans:=@Nat.lt_trans
theorem Gl:type_of% @Bool.not_eq_true':=@Bool.not_eq_true'
theorem um:type_of% @Int.natCast_add:=@Int.natCast_add
theorem wm:type_of% @List.mem_filter:=@List.mem_filter
theorem Ym:type_of% @List.getElem_of_mem:=@List.getElem_of_mem
theorem Zm:type_of% @List.length_map:=@List.length_map
theorem bn:type_of% @Nat.pow_le_pow_right:=@Nat.pow_le_pow_right
theorem jo:type_of% @Int.natCast_pow:=@Int.natCast_pow
theorem mo:type_of% @Int.one_mul:=@Int.one_mul
theorem oo:type_of% @List.getElem?_eq_none:=@List.getElem?_eq_none
theorem qo:type_of% @List.getElem?_toArray:=@List.getElem?_toArray
theorem yo:type_of% @decide_eq_true_eq:=@decide_eq_true_eq
theorem Xo:type_of% @Int.mul_assoc:=@Int.mul_assoc
theorem Yo:type_of% @List.length_range:=@List.length_range
theorem Zo:type_of% @List.mem_singleton:=@List.mem_singleton
theorem dp:type_of% @Nat.eq_zero_or_pos:=@Nat.eq_zero_or_pos
theorem fp:type_of% @Nat.mul_one:=@Nat.mul_one
theorem iq:type_of% @List.append_assoc:=@List.append_assoc
theorem jq:type_of% @List.mem_append:=@List.mem_append
theorem zr:type_of% @List.getElem_append_left:=@List.getElem_append_left
theorem Br:type_of% @List.length_take:=@List.length_take
theorem Hr:type_of% @bne_eq_false_iff_eq:=@bne_eq_false_iff_eq
theorem jt:type_of% @List.getElem?_append_right:=@List.getElem?_append_right
theorem ot:type_of% @List.getElem?_map:=@List.getElem?_map
theorem qt:type_of% @List.take_length:=@List.take_length
theorem tt:type_of% @Nat.add_zero:=@Nat.add_zero
theorem yt:type_of% @below_drewN:=@below_drewN
theorem ru:type_of% @Array.getElem?_eq_some_iff:=@Array.getElem?_eq_some_iff
theorem Bu:type_of% @IntKind.wrap_i64:=@IntKind.wrap_i64
theorem Eu:type_of% @Nat.div_add_mod:=@Nat.div_add_mod
theorem Hu:type_of% @Tryz.underlying3:=@Tryz.underlying3
theorem Nu:type_of% @decide_eq_false_iff_not:=@decide_eq_false_iff_not
theorem Kv:type_of% @List.ext_getElem:=@List.ext_getElem
theorem Lv:type_of% @List.take_succ_eq_append_getElem:=@List.take_succ_eq_append_getElem
theorem Ov:type_of% @Region.noSelect_spec:=@Region.noSelect_spec
theorem Vx:type_of% @List.getElem_append_right:=@List.getElem_append_right
theorem Oz:type_of% @List.all_eq_false:=@List.all_eq_false
theorem Pz:type_of% @List.getElem?_range:=@List.getElem?_range
theorem Qz:type_of% @List.map_congr_left:=@List.map_congr_left
theorem Rz:type_of% @Nat.div_le_self:=@Nat.div_le_self
theorem Sz:type_of% @Nat.log2_two_pow:=@Nat.log2_two_pow
theorem Tz:type_of% @Nat.mul_le_mul_right:=@Nat.mul_le_mul_right
theorem BB:type_of% @Bool.false_ne_true:=@Bool.false_ne_true
theorem RB:type_of% @List.forall_mem_nil:=@List.forall_mem_nil
theorem SB:type_of% @List.getElem?_append_left:=@List.getElem?_append_left
theorem TB:type_of% @Nat.add_sub_cancel_left:=@Nat.add_sub_cancel_left
theorem TE:type_of% @List.contains_iff_mem:=@List.contains_iff_mem
theorem UE:type_of% @List.eq_nil_of_length_eq_zero:=@List.eq_nil_of_length_eq_zero
theorem VE:type_of% @List.take_of_length_le:=@List.take_of_length_le
theorem JH:type_of% @List.filter_cons_of_neg:=@List.filter_cons_of_neg
theorem KH:type_of% @List.filter_cons_of_pos:=@List.filter_cons_of_pos
theorem LH:type_of% @Nat.shiftRight_eq_div_pow:=@Nat.shiftRight_eq_div_pow
theorem oK:type_of% @Classical.byContradiction:=@Classical.byContradiction
theorem sK:type_of% @Int.tdiv_eq_ediv_of_nonneg:=@Int.tdiv_eq_ediv_of_nonneg
def U8 (l:List Nat):List vx:=l.map (fun n:Nat=>vd vu n)
def Oa (l:List Nat):List vx:=l.map (fun n:Nat=>vd vn n)
def Kl (l:List Int):List vx:=l.map (fun n:Int=>vd vq n)
theorem DJ (l:List Nat):(U8 l).length=l.length:=by simp [U8]
theorem Vt (l:List Nat):(Oa l).length=l.length:=by simp [Oa]
theorem P6 (l:List Int):(Kl l).length=l.length:=by simp [Kl]
theorem RH (l m:List Nat):U8 (l++m)=U8 l++U8 m:=by simp [U8]
theorem zY (l m:List Nat):Oa (l++m)=Oa l++Oa m:=by simp [Oa]
theorem one_U8 (l:List Nat):∀ u∈U8 l,u.oneCell'=true:=by
 intro u hu;obtain ⟨n,_,rfl⟩:=Od.1 hu
 rfl
theorem Lq (l:List Nat):∀ u∈Oa l,u.oneCell'=true:=by
 intro u hu;obtain ⟨n,_,rfl⟩:=Od.1 hu
 rfl
theorem zGn (l:List Int):∀ u∈Kl l,u.oneCell'=true:=by
 intro u hu;obtain ⟨n,_,rfl⟩:=Od.1 hu
 rfl
theorem at_U8 {l:List Nat} {j:Nat} (h:j<l.length):(U8 l)[j]?=vE (vd vu (l[j]:Int)):=by simp [U8,h]
theorem ZB {l:List Nat} {j:Nat} (h:j<l.length):(Oa l)[j]?=vE (vd vn (l[j]:Int)):=by simp [Oa,h]
theorem tT (a:vy) (n:Nat):(a.add n).block=a.block:=by
 unfold Addr.add;split <;> rfl
theorem dT (a:vy) (i j:Nat):(a.add i).add j=a.add (i+j):=by
 unfold Addr.add;by_cases hi:i=0 <;> by_cases hj:j=0 <;> simp [hi,hj,Nat.add_assoc]
theorem DY (a:vy):a.add 0=a:=by simp [Addr.add]
def Rd (w:vw) (size:Nat) (A:Option vy) (n:Nat) (xs:List vx):Prop :=
 xs.length=n*size /\ (0<n -> ∃ ad,A=vE ad /\ ∀ j u,xs[j]?=vE u -> w.cell? (ad.add j)=vE u)
section
variable {w w':vw} {size n:Nat} {A:Option vy} {xs:List vx}
theorem Rd.nil (w:vw) (size:Nat) (A:Option vy):Rd w size A 0 []:=⟨zS,fun h=>absurd h zO⟩
theorem Rd.len1 (h:Rd w 1 A n xs):xs.length=n:=by have:=h.1;omega
theorem Rd.at_ {k:Nat} (h:Rd w 1 A n xs) (hk:k<n):∃ ad u,A=vE ad /\ xs[k]?=vE u /\ w.cell? (ad.add k)=vE u:=by
 obtain ⟨ad,e,hc⟩:=h.2 zO;have hl:k<xs.length:=by rw [h.len1];exact hk
 exact ⟨ad,xs[k],e,Qb hl,hc k _ (Qb hl)⟩
theorem Rd.keep (h:Rd w size A n xs) (hk:∀ p:vy,p.block<w.1.size -> w'.cell? p=w.cell? p):Rd w' size A n xs :=
 ⟨h.1,fun hn=>by
  obtain ⟨ad,e,hc⟩:=h.2 hn;exact ⟨ad,e,fun j u hu=>(hk _ (Gf _ _ (hc j u hu))).trans (hc j u hu)⟩⟩
theorem Rd.below (h:Rd w size A n xs) (hb:vA w.1.size w w'):Rd w' size A n xs:=h.keep fun _ hp=>hb.cell hp
theorem Rd.drew (h:Rd w size A n xs):Rd w.drew size A n xs:=h
theorem Rd.drewN (h:Rd w size A n xs) (k:Nat):Rd (w.drewN k) size A n xs:=h
theorem Rd.alloc (h:Rd w size A n xs) (o:Obj):Rd (w.alloc o) size A n xs:=h.keep fun p hp=>World.cell?_alloc_lt w o p hp
theorem Rd.grown (h:Rd w size A n xs) {row:Option Nat} (hg:w.grownBy w' row) (hr:∀ ad,A=vE ad -> vE ad.block≠row):Rd w' size A n xs :=
 ⟨h.1,fun hn=>by
  obtain ⟨ad,e,hc⟩:=h.2 hn;refine ⟨ad,e,fun j u hu=>?_⟩
  exact hg.cell (hc j u hu) (by rw [tT];exact hr ad e)⟩
theorem Rd.cut (h:Rd w size A n xs) {k cap:Nat} (hk:k <= n) (hc:n <= cap) :
  Rd w size (if cap=k then A else A.map (·.add (k*size))) (n-k) (xs.drop (k*size)):=by
 refine ⟨by rw [ti,h.1,Nat.sub_mul],fun hn=>?_⟩
 obtain ⟨ad,rfl,Jt⟩:=h.2 zO;rw [ya zO];refine ⟨ad.add (k*size),rfl,fun j u hu=>?_⟩
 rw [dT];exact Jt _ u (by rw [<- hu,List.getElem?_drop])
theorem Rd.take (h:Rd w size A n xs) {k:Nat} (hk:k <= n):Rd w size A k (xs.take (k*size)):=by
 refine ⟨by rw [Br,h.1];exact Nat.min_eq_left (Tz _ hk),fun hn=>?_⟩
 obtain ⟨ad,e,Jt⟩:=h.2 zO;refine ⟨ad,e,fun j u hu=>Jt j u ?_⟩
 rw [List.getElem?_take] at hu;split at hu
 ·exact hu
 ·cases hu
theorem Rd.of_own {base:Nat} {e:vz} {c:Nat} (h:w.ownsRow base e size (ve A n c) n xs):Rd w size A n xs:=by
 refine ⟨h.1,fun hn=>?_⟩
 rcases h.2 with ⟨_,h0⟩ | ⟨g,cap,cur,hv,_⟩
 ·omega
 ·have hA:A=vE ⟨g,0,vD⟩:=by injection hv
  subst hA;exact ⟨_,rfl,h.cells (g:=g) rfl⟩
end
theorem Ud {w:vw} {base:Nat} {e:vz} {size:Nat} {v:vx} {n:Nat} {xs:List vx} (h:w.ownsRow base e size v n xs) :
  ∃ A c,v=ve A n c /\ n <= c /\ c <= maxLen /\ Rd w size A n xs /\ (∀ ad,A=vE ad -> base <= ad.block /\ ad.block<w.1.size):=by
 have h2:=h;rcases h.2 with ⟨rfl,rfl⟩ | ⟨g,cap,cur,rfl,hb,hh,hn,hm,_⟩
 ·exact ⟨vD,0,rfl,zR,by simp [maxLen],Rd.of_own h2,fun ad h=>by cases h⟩
 ·refine ⟨vE ⟨g,0,vD⟩,cap,rfl,hn,hm,Rd.of_own h2,fun ad h=>?_⟩
  injection h with h
  subst h;exact ⟨hb,(ru.1 hh).1⟩
theorem Mc {w w':vw} {base B:Nat} {e:vz} {size:Nat} {v:vx} {n:Nat} {xs:List vx} (h:w.ownsRow base e size v n xs) (hb:vA B w w') (hB:w.1.size <= B):w'.ownsRow base e size v n xs:=by
 obtain ⟨h1,h2⟩:=h;refine ⟨h1,?_⟩;rcases h2 with h2 | ⟨g,cap,cur,hv,hg,hh,r⟩
 ·exact Or.inl h2
 ·exact Or.inr ⟨g,cap,cur,hv,hg,by rw [hb.block g (zQ ((ru.1 hh).1))];exact hh,r⟩
theorem yv {w:vw} {base nZ:Nat} {e:vz} {size:Nat} {v:vx} {n:Nat} {xs:List vx} (h:w.ownsRow base e size v n xs) (hB:nZ <= base):w.ownsRow nZ e size v n xs:=by
 obtain ⟨h1,h2⟩:=h;refine ⟨h1,?_⟩;rcases h2 with h2 | ⟨g,cap,cur,hv,hg,r⟩
 ·exact Or.inl h2
 ·exact Or.inr ⟨g,cap,cur,hv,zb hB hg,r⟩
theorem A9 {w:vw} {base:Nat} {e:vz} {size:Nat} {v:vx} {n:Nat} {xs:List vx} (h:w.ownsRow base e size v n xs):∀ g,v.ownBlock=vE g -> base <= g /\ g<w.1.size:=h.lt
theorem ma {w0 w1 w2:vw} (h1:vA w0.1.size w0 w1) (h2:vA w1.1.size w1 w2):vA w0.1.size w0 w2:=h1.trans (h2.mono h1.size)
theorem AK {B:Nat} {a w:vw} (h:vA B a w) (n:Nat):vA B a (w.drewN n):=⟨h.os,h.tape,h.output,h.size,h.block⟩
theorem Ce (w:vw) (row:Option Nat):w.grownBy w row:=⟨rfl,rfl,rfl,zR,fun _ _ _=>rfl⟩
theorem K4 {a w:vw} {row:Option Nat} (h:a.grownBy w row) (o:Obj):a.grownBy (w.alloc o) row :=
 ⟨h.os,h.tape,h.output,zb h.size zS,fun i hi Sa=>(Below.heap_alloc w o i (pd hi h.size)).trans (h.block i hi Sa)⟩
theorem L4 {a w:vw} {row:Option Nat} (h:a.grownBy w row) (n:Nat):a.grownBy (w.drewN n) row:=⟨h.os,h.tape,h.output,h.size,h.block⟩
theorem mh {a w:vw} {row:Option Nat} (h:a.grownBy w row) {p:vy} (hp:row=vE p.block \/ a.1.size <= p.block) (u:vx):a.grownBy (w.setCell p u) row :=
 ⟨h.os,h.tape,h.output,by simpa [vF] using h.size,fun i hi Sa=>(wg w p u i (by
  rintro rfl;rcases hp with hp | hp
  ·exact Sa hp.symm
  ·omega)).trans (h.block i hi Sa)⟩
theorem Mr {a w w':vw} {row row':Option Nat} (h:a.grownBy w row) (hg:w.grownBy w' row') (hr:∀ g,row'=vE g -> row=vE g \/ a.1.size <= g):a.grownBy w' row :=
 ⟨hg.os.trans h.os,hg.tape.trans h.tape,hg.output.trans h.output,zb h.size hg.size,fun i hi Sa=>(hg.block i (pd hi h.size) (fun e=>by
  rcases hr i e.symm with h1 | h1
  ·exact Sa h1.symm
  ·omega)).trans (h.block i hi Sa)⟩
theorem Vf {a w w':vw} {row:Option Nat} {B:Nat} (h:a.grownBy w row) (hb:vA B w w') (hB:a.1.size <= B):a.grownBy w' row :=
 ⟨hb.os.trans h.os,hb.tape.trans h.tape,hb.output.trans h.output,zb h.size hb.size,fun i hi Sa=>(hb.block i (pd hi hB)).trans (h.block i hi Sa)⟩
theorem zt {a w:vw} {row:Option Nat} (h:a.grownBy w row) (B:Nat) (hB:B <= a.1.size) (hr:∀ g,row=vE g -> B <= g):vA B a w :=
 ⟨h.os,h.tape,h.output,h.size,fun k hk=>h.block k zO (fun e=>by have:=hr k e.symm;omega)⟩
def Tq (P:Program) (t e:vz) (size bytes:Nat) (z:vx):Prop :=
 P.underlying t=vE (.slice e) /\ (∃ i,P.info? e=vE i /\ i.zero=vE z /\ i.size=size /\ i.bytes=bytes) /\ z.cells.size=size /\ 0<size
theorem sx (w:vw) (x:vx) (t:vz):Rd (w.alloc (.cells #[x] t)) 1 (vE ⟨w.1.size,0,vD⟩) 1 [x] :=
 ⟨rfl,fun _=>⟨_,rfl,cell_one_new w x t⟩⟩
theorem GN (w:vw) (e:vz) {base:Nat} (hb:base <= w.1.size):(w.alloc (.cells #[] e)).ownsRow base e 1 (ve (vE ⟨w.1.size,0,vD⟩) 0 0) 0 [] :=
 World.ownsRow_made w #[] 0 hb (by simp [maxLen]) rfl
section
variable {P:Program} {w:vw} {base size bytes:Nat} {t e:vz} {z v:vx} {n:Nat} {xs:List vx}
theorem zIw (E:Tq P t e size bytes z) (ty:vz) (Ca:w.ownsRow base e size v n xs) {A:Option vy} {m c:Nat} {news:List vx} (hr:Rd w size A m news)
  (h1:∀ u∈news,u.oneCell'=true) (VK:(n+m)*(bytes+1) <= 140737488355328) (Ey:base <= w.1.size) :
  ∃ v' w',(Builtin.append_ #[t,t] ty #[v,ve A m c]).run P w= .ok v' w' /\ w'.ownsRow base e size v' (n+m) (xs++news) /\ w.grownBy w' v.ownBlock /\ (v'.ownBlock=v.ownBlock \/ v'.ownBlock=vE w.1.size):=by
 obtain ⟨ht,⟨i,hi,hz,hs,Em⟩,uJ,jb⟩:=E;have hb:(n+m)*bytes <= 140737488355328:=zb (Nat.mul_le_mul_left _ (Nat.le_succ _)) VK;have hl:n+m <= maxLen:=by
  have:=zb (Nat.le_mul_of_pos_right (n+m) (Nat.succ_pos bytes)) VK;simp only [maxLen];omega
 rcases A with _ | ad
 ·have hm:m=0:=by
   rcases dp m with h0 | h0
   ·exact h0
   ·obtain ⟨ad,h,_⟩:=hr.2 h0
    cases h
  subst hm;have hn:news=[]:=UE (by simpa using hr.1)
  subst hn;refine ⟨v,w,?_,by simpa using Ca,Ce w _, .inl rfl⟩
  rcases Ca.2 with ⟨rfl,rfl⟩ | ⟨g,cap,cur,rfl,_,_,Sd,_⟩
  ·simp [Builtin.append_,run_underlying ht,sizeOf,typeInfo,hi,Builtin.lenOf,Builtin.firstCells]
  ·simp [Builtin.append_,run_underlying ht,sizeOf,typeInfo,hi,Builtin.lenOf,Builtin.firstCells,Sd,storeCells]
 ·have qn:∀ j u,news[j]?=vE u -> w.cell? (ad.add j)=vE u:=by
   intro j u hu;rcases dp m with h0 | h0
   ·subst h0
    have hn:news=[]:=UE (by simpa using hr.1)
    subst hn;simp at hu
   ·obtain ⟨ad',h,hc⟩:=hr.2 h0
    injection h with h
    subst h;exact hc j u hu
  obtain ⟨v',w',Tc,h2,h3,_,h5⟩:=run_append_own_at (P:=P) w base t ty e i z size bytes ht hi hz hs Em uJ jb v n xs Ca ad m c news hr.1 qn h1 hl hb Ey;exact ⟨v',w',Tc,h2,h3,h5⟩
theorem zx {o:Oper} {a:Act} {K:Act -> vw -> Prop} {Q:Exit -> Act -> vw -> Prop} (s x:Operand)
  (ho:o.op= .call { callee:=.builtin .append,args:=#[s,x],argTypes:=#[t,t] })
  (E:Tq P t e size bytes z) (hs:a.eval s=v) (Ca:w.ownsRow base e size v n xs)
  {A:Option vy} {m c:Nat} {news:List vx} (hx:a.eval x=ve A m c) (hr:Rd w size A m news) (h1:∀ u∈news,u.oneCell'=true)
  (VK:(n+m)*(bytes+1) <= 140737488355328) (Ey:base <= w.1.size)
  (h:∀ v' w',w'.ownsRow base e size v' (n+m) (xs++news) -> w.grownBy w' v.ownBlock -> (v'.ownBlock=v.ownBlock \/ v'.ownBlock=vE w.1.size) -> K (a.put o.dst v') w'):o.wp P a w K Q:=by
 obtain ⟨v',w',Tc,h2,h3,h4⟩:=zIw (P:=P) (c:=c) E o.type Ca hr h1 VK Ey;unfold Oper.wp execOp;simp only [ho,resolve,invoke,builtin,Sem.run_bind,Sem.run_pure,Result.andThen_ok,List.map_toArray,List.map_cons,List.map_nil,hs,hx,Tc];exact h v' w' h2 h3 h4
theorem Ok {ops:Array Oper} {rest:List Oper} {o:Oper} {a:Act} {Q:Exit -> Act -> vw -> Prop} (hgd:o.guard=vD) (s x:Operand)
  (ho:o.op= .call { callee:=.builtin .append,args:=#[s,x],argTypes:=#[t,t] })
  (E:Tq P t e size bytes z) (hs:a.eval s=v) (Ca:w.ownsRow base e size v n xs)
  {A:Option vy} {m c:Nat} {news:List vx} (hx:a.eval x=ve A m c) (hr:Rd w size A m news) (h1:∀ u∈news,u.oneCell'=true)
  (VK:(n+m)*(bytes+1) <= 140737488355328) (Ey:base <= w.1.size)
  (h:∀ v' w',w'.ownsRow base e size v' (n+m) (xs++news) -> w.grownBy w' v.ownBlock -> (v'.ownBlock=v.ownBlock \/ v'.ownBlock=vE w.1.size) -> wpList P ops Q rest (a.put o.dst v') w'):wpList P ops Q (o :: rest) a w :=
 wpList_plain hgd fun _ hK=>zx s x ho E hs Ca hx hr h1 VK Ey fun v' w' h2 h3 h4=>hK _ _ (h v' w' h2 h3 h4)
end
theorem lW {a w w':vw} {row:Option Nat} {u u':vx} (h:a.grownBy w row) (hu:∀ g,u.ownBlock=vE g -> row=vE g \/ a.1.size <= g) (hg:w.grownBy w' u.ownBlock)
  (zg:u'.ownBlock=u.ownBlock \/ ∃ g,u'.ownBlock=vE g /\ w.1.size <= g):a.grownBy w' row /\ ∀ g,u'.ownBlock=vE g -> row=vE g \/ a.1.size <= g:=by
 refine ⟨Mr h hg hu,fun g sn=>?_⟩
 rcases zg with e | ⟨g',e,hle⟩
 ·exact hu g (e ▸ sn)
 ·rw [e] at sn
  injection sn with sn
  subst sn;exact .inr (zb h.size hle)
def Blk (w:vw) (g:Nat) (t:vz) (cs:Array vx):Prop:=w.1[g]?=vE (.cells cs t (0,0))
section
variable {w w':vw} {g:Nat} {t:vz} {cs:Array vx}
theorem Blk.lt (h:Blk w g t cs):g<w.1.size:=(ru.1 h).1
theorem Blk.cell (h:Blk w g t cs) (i:Nat):w.cell? ⟨g,i,vD⟩=cs[i]?:=cell_of_row w g i cs t (0,0) h
theorem Blk.frozen (h:Blk w g t cs) (i:Nat):w.frozen? ⟨g,i,vD⟩=false:=by
 unfold Blk at h;simp [World.frozen?,h]
theorem Blk.new (w:vw) (t:vz) (cs:Array vx):Blk (w.alloc (.cells cs t)) w.1.size t cs:=heap_alloc_new w _
theorem zN (w:vw) (t:vz) (cs:Array vx):Blk (w.alloc (.cells cs t)) w.1.size t cs /\ vA w.1.size w (w.alloc (.cells cs t)):=⟨Blk.new w t cs,(tb _ _).alloc zR _⟩
theorem Blk.drew (h:Blk w g t cs):Blk w.drew g t cs:=h
theorem Blk.drewN (h:Blk w g t cs) (n:Nat):Blk (w.drewN n) g t cs:=h
theorem Blk.alloc (h:Blk w g t cs) (o:Obj):Blk (w.alloc o) g t cs:=(Below.heap_alloc w o g h.lt).trans h
theorem Blk.set_ (h:Blk w g t cs) (i:Nat) (u:vx):Blk (w.setCell ⟨g,i,vD⟩ u) g t (cs.setIfInBounds i u):=by
 unfold Blk at h |-;simp [vF,Array.getElem?_modify,h]
theorem Blk.far (h:Blk w g t cs) {p:vy} (hp:g≠p.block) (u:vx):Blk (w.setCell p u) g t cs:=(wg w p u g hp).trans h
theorem Blk.below {B:Nat} (h:Blk w g t cs) (hb:vA B w w') (hg:g<B):Blk w' g t cs:=(hb.block g hg).trans h
theorem ia {w w1:vw} {g:Nat} {t:vz} {cs:Array vx} (k:Blk w g t cs) (h:vA w.1.size w w1):Blk w1 g t cs:=k.below h k.lt
theorem Blk.grown {row:Option Nat} (h:Blk w g t cs) (hb:w.grownBy w' row) (hg:vE g≠row):Blk w' g t cs:=(hb.block g h.lt hg).trans h
theorem Fe {w w1:vw} {g i:Nat} {t:vz} {cs:Array vx} (k:Blk w g t cs) (h:w.grownBy w1 (vE i)) (e:vE g≠vE i:=by intro e;have:=Ya e;first | omega | (apply absurd this;assumption) | (apply absurd this.symm;assumption)):Blk w1 g t cs:=k.grown h e
end
theorem Rd.set_ {w:vw} {size n:Nat} {A:Option vy} {xs:List vx} (h:Rd w size A n xs) {p:vy} (hp:∀ ad,A=vE ad -> ad.block≠p.block) (u:vx):Rd (w.setCell p u) size A n xs :=
 ⟨h.1,fun hn=>by
  obtain ⟨ad,e,hc⟩:=h.2 hn;refine ⟨ad,e,fun j x hj=>?_⟩
  rw [World.cell?_setCell_other w p _ u (fun e2=>hp ad e (by rw [e2,tT]))]
  exact hc j x hj⟩
theorem rV:(prog.info? 5).map (fun i=>(i.zero,i.size,i.bytes))=vE (vE (vd vu 0),1,1):=by kernel_rfl
theorem R5:(prog.info? 22).map (fun i=>(i.zero,i.size,i.bytes))=vE (vE (vd vn 0),1,8):=by kernel_rfl
theorem M7 (z:Array vx) (n:Nat):(madeCells z n).toList.length=n:=by
 rw [Array.length_toList,size_madeCells]
theorem zIZ {α:Type} {L:List α} {cs:List α} {n:Nat} (h:cs.length=n):(splice L 0 cs).toArray.toList.take n=cs:=by
 subst h;simp [splice]
theorem rd_src {w w':vw} {A:Option vy} {n:Nat} {xs:List vx} (h:Rd w 1 A n xs) (hn:0<n) (hk:∀ p:vy,p.block<w.1.size -> w'.cell? p=w.cell? p:=by intro p hp;exact World.cell?_alloc_lt _ _ _ hp) :
  ∃ ad,A=vE ad /\ ∀ j v,xs[j]?=vE v -> w'.cell? (ad.add j)=vE v:=(h.keep hk).2 hn
theorem J0:Tq prog 83 5 1 1 (vd vu 0):=by
 obtain ⟨i0,hi,Yh,ud,Ve⟩:=info_parts rV;exact ⟨underlying83,⟨i0,hi,Yh,ud,Ve⟩,rfl,zO⟩
theorem GM:Tq prog 28 22 1 8 (vd vn 0):=by
 obtain ⟨i0,hi,Yh,ud,Ve⟩:=info_parts R5;exact ⟨underlying28,⟨i0,hi,Yh,ud,Ve⟩,rfl,zO⟩
theorem YW (A:Option vy) (n c k:Nat) (xs:List vx) (w:vw) (hr:Rd w 1 A n xs) (h1:∀ u∈xs,u.oneCell'=true) (hk:n+k <= 100000000) :
  vB prog 201 #[ve A n c,vd vq k] w fun e w'=>∃ v,e=vl v /\ w'.ownsRow w.1.size 5 1 v n xs /\ vA w.1.size w w':=by
 obtain ⟨i0,hi,Yh,ud,Ve⟩:=info_parts rV;have hlen:=hr.len1;have Jh:∀ u:vw,(Instr.makeSlice 83 (vd vq n) (vd vq ((n:Int)+k))).run prog u =
   .ok (ve (vE ⟨u.1.size,0,vD⟩) n (n+k)) (u.alloc (.cells (madeCells #[vd vu 0] (n+k)) 5)):=fun u=>by
  have h:=run_make (P:=prog) u 83 5 i0 (vd vu 0) underlying83 hi Yh vq vq (n:Int) ((n:Int)+k) zO zO (by rw [Ve];omega) zO
  have e:((n:Int)+k).toNat=n+k:=by omega
  rw [e] at h
  simpa [ud,Value.cells] using h
 have F1:=zH (show 0+xs.length <= (madeCells #[vd vu 0] (n+k)).toList.length by rw [M7];omega)
 have F2:=zH (show xs.length=Nat.min n n by rw [hlen];simp)
 have HL:=zH hlen;clear hlen;go_enter func201,ntmps201
 go_wp2_with (refine wpList_copy_splice rfl (.tmp 13) (.tmp 14) _ _ rfl 5 underlying83 zK _ _ _ _ _ _ rfl rfl w.1.size 0 (madeCells #[vd vu 0] (n+k)).toList 5 (heap_alloc_new w _) xs F2.out (fun h=>⟨rfl,rd_src hr (by rw [<- HL.out];exact h)⟩) F1.out h1 w.1.size w ((tb _ _).alloc zR _) zR ?_;intro w2 Jp Ba)
 go_ret
 refine ⟨_,rfl,⟨by rw [HL.out];omega, .inr ⟨w.1.size,n+k,_,rfl,zR,Jp.out,zO,by simp [maxLen];omega,?_,?_⟩⟩,Ba⟩
 ·rw [List.size_toArray,length_splice _ _ _ F1.out,M7,fp]
 ·rw [fp]
  exact zIZ HL.out
def Je:Nat -> Nat -> List Nat
 | _,0=>[]
 | n,k+1=>n%256 :: Je (n / 256) k
theorem MT:∀ (k n:Nat),Je n (k+1)=Je n k++[n / 256^k%256]
 | 0,n=>by simp [Je]
 | k+1,n=>by
  rw [Je,MT k (n / 256),Je,List.cons_append,Nat.div_div_eq_div_mul,Sf,ye 256]
theorem yG:∀ (k n:Nat),(Je n k).length=k
 | 0,_=>rfl
 | k+1,n=>by simp [Je,yG k]
theorem QO (base:Nat) (v:vx) (m x k:Nat) (xs:List vx) (w:vw) (ho:w.ownsRow base 5 1 v m xs) (hx:x<18446744073709551616) (hk:m+k <= 100000000) (hb:base <= w.1.size) :
  vB prog 202 #[v,vd vn x,vd vq k] w fun e w'=>∃ v',e=vl v' /\ w'.ownsRow base 5 1 v' (m+k) (xs++U8 (Je x k)) /\ w.grownBy w' v.ownBlock /\ (∀ g,v'.ownBlock=vE g -> v.ownBlock=vE g \/ w.1.size <= g):=by
 go_enter func202,ntmps202
 go_wp2_with fail
 go_loopw [0,1,8] (fun s y i wr=>∃ j z:Nat,j <= k /\ i=vd vq j /\ y=vd vn z /\ Hid (z=x / 256^j) /\ z<18446744073709551616 /\ wr.ownsRow base 5 1 s (m+j) (xs++U8 (Je x j)) /\ w.grownBy wr v.ownBlock /\ (∀ g,s.ownBlock=vE g -> v.ownBlock=vE g \/ w.1.size <= g))
  (fun _ _ i _=>k-(intOf i).toNat)
 case atStart=>exact ⟨0,x,Kb _,rfl,rfl,by simp [Hid],hx,by simpa [Je,U8] using ho,Ce _ _,fun g h=>.inl h⟩
 case round =>
  obtain ⟨j,z,hj,rfl,rfl,HZ,hz,Ca,Wa,Gb⟩:=hrel;have HB:=zH Gb;clear Gb;by_cases ta:j<k
  ·have hs:=Wa.size
   go_wp2_with (at_builtin;refine Ok rfl _ _ rfl J0 rfl (Ca.alloc _) rfl (sx _ (vd vu ((z:Int)%256)) _) ?_ ?_ ?_ ?_)
   ·intro u hu;simp at hu;subst hu;rfl
   ·omega
   ·simp;omega
   intro v' w1 Tb Va zg;have Dd:=Va.size;simp only [World.size_alloc] at Dd zg;have R:=lW (K4 Wa _) HB.out Va (zg.imp id fun h=>⟨_,h,zS⟩)
   have HR:=zH R;clear Ca Wa Va zg R HB;go_wp2
   go_roundw
   case rel =>
    refine ⟨j+1,z / 256,zO,by go_num,by go_num,?_,zO,?_,HR.out.1,HR.out.2⟩
    ·show z / 256=x / 256^(j+1)
     rw [HZ.out,Nat.div_div_eq_div_mul,Sf]
    ·rw [MT,<- HZ.out,RH,<- iq]
     rw [<- iq] at Tb;exact Tb
   case measure=>simp [intOf];omega
  ·go_wp2
   go_ret
   have e:j=k:=by omega
   subst e;exact ⟨_,rfl,Ca,Wa,HB.out⟩
def lenOf (n:Int):Nat:=if n<0 \/ 4294967295<n then 0 else n.toNat
theorem O6 {n:Int} (h:n<0 \/ 4294967295<n):lenOf n=0:=by simp [lenOf,h]
theorem zFo {n:Int} (h:0 <= n) (h2:n <= 4294967295):lenOf n=n.toNat:=by
 unfold lenOf;rw [ya zO]
theorem N6 {n:Nat} (h:n <= 4294967295):lenOf (n:Int)=n:=by rw [zFo zO zO];omega
def Adds (w:vw) (v:vx) (base n:Nat) (xs:List vx) (e:Ending) (w':vw):Prop :=
 ∃ v',e=vl v' /\ w'.ownsRow base 5 1 v' n xs /\ w.grownBy w' v.ownBlock /\ (∀ g,v'.ownBlock=vE g -> v.ownBlock=vE g \/ w.1.size <= g)
theorem cZ (base:Nat) (v:vx) (m:Nat) (x:Int) (xs:List vx) (w:vw) (ho:w.ownsRow base 5 1 v m xs) (Fw:-9223372036854775808 <= x) (Bw:x <= 9223372036854775807) (hk:m+4 <= 100000000) (hb:base <= w.1.size) :
  vB prog 200 #[v,vd vq x] w (Adds w v base (m+4) (xs++U8 (Je (lenOf x) 4))):=by
 by_cases h0:x<0
 ·have HE:=zH (O6 (.inl h0):lenOf x=0)
  go_enter func200,ntmps200
  go_wp2_with (go_at_call 202;refine (QO base v m 0 4 xs w ho zO hk hb).mono ?_;rintro e w' ⟨v',rfl,Ca,hg,hv⟩)
  go_ret
  exact ⟨_,rfl,by rw [HE.out];exact Ca,hg,hv⟩
 ·by_cases h1:4294967295<x
  ·have HE:=zH (O6 (.inr h1):lenOf x=0)
   go_enter func200,ntmps200
   go_wp2_with (go_at_call 202;refine (QO base v m 0 4 xs w ho zO hk hb).mono ?_;rintro e w' ⟨v',rfl,Ca,hg,hv⟩)
   go_ret
   exact ⟨_,rfl,by rw [HE.out];exact Ca,hg,hv⟩
  ·obtain ⟨y,rfl⟩:=dk (show 0 <= x by omega)
   have HE:=zH (N6 zO:lenOf (y:Int)=y);go_enter func200,ntmps200
   go_wp2_with (go_at_call 202;refine (QO base v m y 4 xs w ho zO hk hb).mono ?_;rintro e w' ⟨v',rfl,Ca,hg,hv⟩)
   go_ret
   exact ⟨_,rfl,by rw [HE.out];exact Ca,hg,hv⟩
end Go.Proofs.YteoghgbnielkpaaGreat
