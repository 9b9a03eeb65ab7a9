/- A part of the proof. No condition. -/
import Derived.Test.YteoghgbnielkpaaGreatTB4
import Derived.Laws.Bits64

set_option maxRecDepth 100000
set_option maxHeartbeats 8000000
set_option linter.unusedVariables false
set_option linter.unusedSimpArgs false
namespace Go.Proofs.YteoghgbnielkpaaGreat
open Go.RowKit Go.Maps
open Tryz
open Go renaming World->vw, Value->vx, Addr->vy, TypeId->vz, Calls->vB
open Go.Value renaming int->vd, slice->ve, agg->vf
open Go.IntKind renaming u64->vn, i64->vq, u8->vu
open Go.Ending renaming returned->vl
open Go.RowKit renaming Below->vA
open Go.World renaming setCell->vF
open Go.Act renaming put->vG
open Option renaming none->vD, some->vE
def Ye (K:Nat -> Prop) (w:vw) (v:vx) (l:List Nat):Prop:=∀ u:vw,(∀ b,K b -> b<w.1.size -> u.1[b]?=w.1[b]?) -> RWd u [v] l
section
variable {K K' F F' EB:Nat -> Prop} {w w' Nk u:vw} {v:vx} {l:List Nat}
theorem Gk (h:Ye K w v l):RWd w [v] l:=h w fun _ _ _=>rfl
theorem Vw (h:Ye K w v l) (hs:w.1.size <= w'.1.size) (hw:∀ b,K b -> b<w.1.size -> w'.1[b]?=w.1[b]?):Ye K w' v l :=
 fun u hu=>h u fun b hb hl=>(hu b hb zO).trans (hw b hb hl)
theorem qN (h:Ye K w v l) (hk:∀ b,K b -> K' b):Ye K' w v l:=fun u hu=>h u fun b hb hl=>hu b (hk b hb) hl
theorem Jn (h:Ye K w v l) (hb:vA w.1.size w w'):Ye K w' v l:=Vw h hb.size fun b _ hl=>hb.block b hl
theorem ji {base n size:Nat} {e:vz} {xs:List vx} (h:w.ownsRow base e size v n xs) (ha:∀ b,v.ownBlock=vE b -> u.1[b]?=w.1[b]?):u.ownsRow base e size v n xs:=by
 obtain ⟨h1,h2⟩:=h;refine ⟨h1,?_⟩;rcases h2 with h2 | ⟨g,cap,cur,hv,il,hh,r⟩
 ·exact Or.inl h2
 ·exact Or.inr ⟨g,cap,cur,hv,il,by rw [ha g (by rw [hv];rfl)];exact hh,r⟩
theorem zJ {base n:Nat} {e:vz} (h:w.ownsRow base e 1 v n (Oa l)) (hl:∀ x∈l,x<18446744073709551616):Ye (fun b=>v.ownBlock=vE b) w v l:=fun u hu=>by
 have ho:=ji h fun b hb=>hu b hb (h.lt b hb).2
 obtain ⟨A,c,rfl,-⟩:=Ud ho;exact Hq ho hl
theorem gL {g n:Nat} {t:vz} (h:Blk w g t (Oa l).toArray) (hn:l.length=n) (hl:∀ x∈l,x<18446744073709551616) (hm:n <= maxLen):Ye (fun b=>b=g) w (ve (vE ⟨g,0,vD⟩) n n) l:=fun u hu=>by
 subst hn;exact GJ (t:=t) ((hu g rfl h.lt).trans h) hl hm
theorem OA (h:Ye K w v l):∃ A c,v=ve A l.length c /\ l.length <= c /\ c <= maxLen /\ (∀ x∈l,x<18446744073709551616):=by
 obtain ⟨A,n,c,h1,h2,h3,h4,h5⟩:=Gk h;obtain ⟨rfl,h6,h7,h8,h9⟩:=Ob (w:=w) (A:=A) (n:=n) (c:=c) (l:=l) ⟨A,n,c,rfl,h2,h3,h4,h5⟩
 injection h1 with h1
 exact ⟨A,c,h1,h6,h7,h8⟩
structure Moved (F F':Nat -> Prop) (w w':vw):Prop where
 os:w'.os=w.os
 tape:w'.tape=w.tape
 output:w'.output=w.output
 size:w.1.size <= w'.1.size
 block:∀ b,b<w.1.size -> ¬F b -> w'.1[b]?=w.1[b]?
 foot:∀ b,F' b -> F b \/ w.1.size <= b
theorem Moved.refl:Moved F F w w:=⟨rfl,rfl,rfl,zR,fun _ _ _=>rfl,fun _ h=>.inl h⟩
theorem Moved.trans (h:Moved F F' w w') (k:Moved F' EB w' Nk):Moved F EB w Nk :=
 ⟨k.os.trans h.os,k.tape.trans h.tape,k.output.trans h.output,zb h.size k.size,fun b hb hn=>(k.block b (zQ h.size) (fun hf=>by rcases h.foot b hf with e | e;exact hn e;omega)).trans (h.block b hb hn),
  fun b hb=>by
   rcases k.foot b hb with e | e
   ·exact h.foot b e
   ·exact .inr (zb h.size e)⟩
theorem Zc (h:vA w.1.size w w'):Moved F F w w':=⟨h.os,h.tape,h.output,h.size,fun b hb _=>h.block b hb,fun _ h=>.inl h⟩
theorem CN {row:Option Nat} (h:w.grownBy w' row) (hr:∀ b,row=vE b -> F b):Moved F F w w':=⟨h.os,h.tape,h.output,h.size,fun b hb hn=>h.block b hb (fun e=>hn (hr b e.symm)),fun _ h=>.inl h⟩
theorem zFS (h:Moved F F' w w') (hf:∀ b,EB b -> F' b \/ w.1.size <= b):Moved F EB w w':=⟨h.os,h.tape,h.output,h.size,h.block,fun b hb=>by
 rcases hf b hb with e | e
 ·exact h.foot b e
 ·exact .inr e⟩
theorem Yw (h:Moved F F' w w'):Moved F F' w w'.drew:=⟨h.os,h.tape,h.output,h.size,h.block,h.foot⟩
theorem Td (h:Moved F F' w w') {b:Nat} (hb:b<w.1.size) (hn:¬F b):¬F' b:=fun hf=>by
 rcases h.foot b hf with e | e
 ·exact hn e
 ·omega
theorem Blk.moved {g:Nat} {t:vz} {cs:Array vx} (h:Blk w g t cs) (m:Moved F F' w w') (hg:¬F g):Blk w' g t cs:=(m.block g h.lt hg).trans h
theorem FG {base n size:Nat} {e:vz} {xs:List vx} (h:w.ownsRow base e size v n xs) (m:Moved F F' w w') (hv:∀ b,v.ownBlock=vE b -> ¬F b):w'.ownsRow base e size v n xs :=
 ji h fun b hb=>m.block b (h.lt b hb).2 (hv b hb)
theorem zFh (h:Ye K w v l) (m:Moved F F' w w') (hK:∀ b,K b -> ¬F b):Ye K w' v l:=Vw h m.size fun b hb hl=>m.block b hl (hK b hb)
theorem BK {w0:vw} (h:vA w0.1.size w0 w) (m:Moved F F' w w') (hF:∀ b,F b -> w0.1.size <= b):vA w0.1.size w0 w' :=
 h.trans ⟨m.os,m.tape,m.output,m.size,fun b hb=>m.block b (zQ h.size) (fun hf=>by have:=hF b hf;omega)⟩
end
def Zi (F:Nat -> Prop) (N:Nat) (w w':vw):Prop:=w'.os=w.os /\ w'.tape=w.tape /\ w'.output=w.output /\ w.1.size <= w'.1.size /\ ∀ b,b<N -> ¬F b -> w'.1[b]?=w.1[b]?
theorem Bc (F:Nat -> Prop) (N:Nat):Pd (Zi F N):=⟨fun _=>⟨rfl,rfl,rfl,zR,fun _ _ _=>rfl⟩,fun _ _ _ h k=>⟨k.1.trans h.1,k.2.1.trans h.2.1,k.2.2.1.trans h.2.2.1,zb h.2.2.2.1 k.2.2.2.1,fun b h1 h2=>(k.2.2.2.2 b h1 h2).trans (h.2.2.2.2 b h1 h2)⟩⟩
theorem uU {F:Nat -> Prop} {N:Nat} {w w':vw} (h:Zi F N w.drew w'):∀ b o,b<N -> ¬F b -> w'.cell? ⟨b,o,vD⟩=w.cell? ⟨b,o,vD⟩:=fun b o hb Sa=>by
 have:=h.2.2.2.2 b hb Sa;simp only [World.cell?,this]
 rfl
theorem oY {a b:Prop} (h:a) (s:Imp a b:=by
 (repeat ((first | (apply Imp.via (jY (Bc _ _) rfl rfl rfl (fun _ _ _ h=>h))) | (apply Imp.via (iY (v:=?_) (Bc _ _) rfl rfl rfl (fun _ _ _ h=>h) ?hr);case hr=>(intro w' hR;(first | have qn:=uU ((Bc _ _).trans _ _ _ ea (hR rfl)) | skip);clear hR;go_simp;try with_reducible rfl)));simp only [vG,zLa,zLb,zLc]))
 exact Imp.rfl'):b:=s h
theorem Rs {a b:Prop} (h:a) (s:Imp a b:=by
 (repeat ((first | (apply Imp.via (xE (Bc _ _) rfl rfl (fun _ _ _ h=>h))) | (apply Imp.via (uE (v:=?_) (Bc _ _) rfl rfl (fun _ _ _ h=>h) ?hr);case hr=>(intro w' hR;(first | have qn:=uU ((Bc _ _).trans _ _ _ ea hR) | skip);go_simp;try with_reducible rfl)));simp only [vG,zLa,zLb,zLc]))
 exact Imp.rfl'):b:=s h
theorem uk {F:Nat -> Prop} {N B:Nat} {w w':vw} (h:vA B w w') (hN:N <= B):Zi F N w w':=⟨h.os,h.tape,h.output,h.size,fun b hb _=>h.block b zO⟩
theorem vU {F F' EB:Nat -> Prop} {N:Nat} {w w':vw} (h:Moved F' EB w w') (hN:N <= w.1.size) (hf:∀ b,b<N -> F' b -> F b):Zi F N w w':=⟨h.os,h.tape,h.output,h.size,fun b hb hn=>h.block b zO (fun e=>hn (hf b hb e))⟩
theorem zED {F:Nat -> Prop} {N:Nat} {w w':vw} {row:Option Nat} (h:w.grownBy w' row) (hN:N <= w.1.size) (hr:∀ b,row=vE b -> F b):Zi F N w w':=⟨h.os,h.tape,h.output,h.size,fun b hb hn=>h.block b zO (fun e=>hn (hr b e.symm))⟩
def UB (E:Nat -> Prop) (w:vw) (cs:List vx) (qs:List Qn):Prop :=
 cs.length=qs.length*3 /\ ∀ (i:Nat) (q:Qn),qs[i]?=vE q -> cs[i*3]?=vE (vd vn q.lab) /\ cs[i*3+2]?=vE (vd vn q.ans) /\ ∃ s,cs[i*3+1]?=vE s /\ Ye E w s q.el
theorem yL {E:Nat -> Prop} {w w':vw} {cs:List vx} {qs:List Qn} (h:UB E w cs qs) (hs:w.1.size <= w'.1.size) (hw:∀ b,E b -> b<w.1.size -> w'.1[b]?=w.1[b]?):UB E w' cs qs :=
 ⟨h.1,fun i q hq=>by
  obtain ⟨h1,h2,s,h3,h4⟩:=h.2 i q hq;exact ⟨h1,h2,s,h3,Vw h4 hs hw⟩⟩
theorem zHU {E E':Nat -> Prop} {w:vw} {cs:List vx} {qs:List Qn} (h:UB E w cs qs) (hE:∀ b,E b -> E' b):UB E' w cs qs :=
 ⟨h.1,fun i q hq=>by
  obtain ⟨h1,h2,s,h3,h4⟩:=h.2 i q hq;exact ⟨h1,h2,s,h3,qN h4 hE⟩⟩
theorem zHV (E:Nat -> Prop) (w:vw):UB E w [] []:=⟨rfl,fun i q h=>by simp at h⟩
theorem zHT {E:Nat -> Prop} {w:vw} {cs:List vx} {qs:List Qn} {s:vx} {q:Qn} (h:UB E w cs qs) (hs:Ye E w s q.el):UB E w (cs++[vd vn q.lab,s,vd vn q.ans]) (qs++[q]):=by
 refine ⟨by simp [h.1];omega,fun i x hx=>?_⟩
 by_cases hi:i<qs.length
 ·rw [SB hi] at hx
  obtain ⟨h1,h2,t,h3,h4⟩:=h.2 i x hx;have hl:=h.1;exact ⟨by rw [SB zO];exact h1,by rw [SB zO];exact h2,t,by rw [SB zO];exact h3,h4⟩
 ·rw [jt zO] at hx
  have Si:i-qs.length=0:=by
   rcases dp (i-qs.length) with e | e
   ·exact e
   ·rw [oo zT] at hx;cases hx
  rw [Si] at hx
  injection hx with hx
  subst hx;have hl:=h.1;have e1:i=qs.length:=by omega
  subst e1;refine ⟨?_,?_,s,?_,hs⟩
  ·rw [jt zO,hl,Nat.sub_self];rfl
  ·rw [jt zO,hl,show qs.length*3+2-qs.length*3=2 by omega];rfl
  ·rw [jt zO,hl,show qs.length*3+1-qs.length*3=1 by omega];rfl
structure OrcIn (w:vw) (g:Nat) (O:Da) (F:Nat -> Prop) (v:vx) (cs:List vx) (km sm pm:Nat) (E:Nat -> Prop):Prop where
 ok:OrcOk O
 blk:Blk w g 121 #[.bool O.ideal,vd vn O.st,vd vq O.dr,v, .map (vE km), .map (vE sm), .map (vE pm)]
 own:w.ownsRow 0 95 3 v O.qs.length cs
 rows:UB E w cs O.qs
 map:w.ownsMap prog 9 (plainElem prog 3) km O.qs.length (jv O.qs)
 el:∀ b,E b -> b<w.1.size /\ b≠g /\ b≠km /\ v.ownBlock≠vE b
 kmg:km≠g
 vkm:v.ownBlock≠vE km
 vg:v.ownBlock≠vE g
 fg:F g
 fv:∀ b,v.ownBlock=vE b -> F b
 fkm:F km
 fE:∀ b,E b -> F b
 lt:∀ b,F b -> b<w.1.size
def OrcAt (w:vw) (g:Nat) (O:Da) (F:Nat -> Prop):Prop:=∃ v cs km sm pm E,OrcIn w g O F v cs km sm pm E
section
variable {w w':vw} {g:Nat} {O:Da} {F:Nat -> Prop}
theorem OrcIn.keep {v:vx} {cs:List vx} {km sm pm:Nat} {E:Nat -> Prop} (h:OrcIn w g O F v cs km sm pm E) (hs:w.1.size <= w'.1.size) (hw:∀ b,F b -> w'.1[b]?=w.1[b]?):OrcIn w' g O F v cs km sm pm E where
 ok:=h.ok
 blk:=(hw g h.fg).trans h.blk
 own:=ji h.own fun b hb=>hw b (h.fv b hb)
 rows:=yL h.rows hs fun b hb _=>hw b (h.fE b hb)
 map:=by
  obtain ⟨es,clock,h1,h2⟩:=h.map;exact ⟨es,clock,(hw km h.fkm).trans h1,h2⟩
 el:=fun b hb=>⟨pd (h.el b hb).1 hs,(h.el b hb).2⟩
 kmg:=h.kmg
 vkm:=h.vkm
 vg:=h.vg
 fg:=h.fg
 fv:=h.fv
 fkm:=h.fkm
 fE:=h.fE
 lt:=fun b hb=>pd (h.lt b hb) hs
theorem OrcAt.keep (h:OrcAt w g O F) (hs:w.1.size <= w'.1.size) (hw:∀ b,F b -> w'.1[b]?=w.1[b]?):OrcAt w' g O F:=by
 obtain ⟨v,cs,km,sm,pm,E,h⟩:=h;exact ⟨v,cs,km,sm,pm,E,h.keep hs hw⟩
theorem OrcAt.lt (h:OrcAt w g O F):∀ b,F b -> b<w.1.size:=by
 obtain ⟨v,cs,km,sm,pm,E,h⟩:=h;exact h.lt
theorem OrcAt.ok (h:OrcAt w g O F):OrcOk O:=by
 obtain ⟨v,cs,km,sm,pm,E,h⟩:=h;exact h.ok
theorem OrcAt.fg (h:OrcAt w g O F):F g:=by
 obtain ⟨v,cs,km,sm,pm,E,h⟩:=h;exact h.fg
theorem OrcIn.below {v:vx} {cs:List vx} {km sm pm:Nat} {E:Nat -> Prop} (h:OrcIn w g O F v cs km sm pm E) (hb:vA w.1.size w w'):OrcIn w' g O F v cs km sm pm E:=h.keep hb.size fun b hf=>hb.block b (h.lt b hf)
theorem OrcAt.below (h:OrcAt w g O F) (hb:vA w.1.size w w'):OrcAt w' g O F:=h.keep hb.size fun b hf=>hb.block b (h.lt b hf)
theorem OrcIn.drew {v:vx} {cs:List vx} {km sm pm:Nat} {E:Nat -> Prop} (h:OrcIn w g O F v cs km sm pm E):OrcIn w.drew g O F v cs km sm pm E:=h.keep zR fun _ _=>rfl
theorem OrcAt.drew (h:OrcAt w g O F):OrcAt w.drew g O F:=h.keep zR fun _ _=>rfl
theorem OrcAt.moved {F1 F2:Nat -> Prop} (h:OrcAt w g O F) (m:Moved F1 F2 w w') (hd:∀ b,F b -> ¬F1 b):OrcAt w' g O F:=h.keep m.size fun b hf=>m.block b (h.lt b hf) (hd b hf)
end
theorem VY {l:List Nat} {j:Nat} (hj:j<l.length) (h:Kc (l.take j)=true) (hx:l.getD j 0<Bb):Kc (l.take (j+1))=true:=by
 unfold Kc at *;rw [wN l j hj,List.all_append,h];simp only [List.all_cons,List.all_nil,Bool.and_true,Bool.true_and];exact xb hx
theorem UY {l:List Nat} {j:Nat} (hj:j<l.length) (hx:Bb <= l.getD j 0):Kc l=false:=by
 unfold Kc;rw [Oz];refine ⟨l.getD j 0,?_,by rw [decide_eq_true_iff];omega⟩
 rw [Fb,Qb hj];exact He _
theorem D8 (A:Option vy) (n c:Nat) (l:List Nat) (w:vw) (hl:RWd w [ve A n c] l) :
  vB prog 203 #[ve A n c] w fun e w'=>e=vl (.bool (Kc l)) /\ w=w':=by
 obtain ⟨rfl,h1,h2,-,Ra⟩:=Ob hl;have gm:=Mm h1 h2;clear hl h1 h2;go_enter func203,ntmps203
 go_wp2_with fail
 go_loop [7] (fun i=>∃ j:Nat,j <= l.length /\ i=vd vq j /\ Hid (Kc (l.take j)=true)) (fun i=>l.length-(intOf i).toNat)
 case atStart=>exact ⟨0,Kb _,rfl,rfl⟩
 case round =>
  obtain ⟨j,hj,rfl,HB⟩:=hrel;by_cases ta:j<l.length
  ·obtain ⟨b,q,rfl,Gb,hc⟩:=Rg Ra ta
   have HL:=zH ta;have g1:(0:Int)<=j:=by omega
   have g2:(j:Int)<l.length:=by omega
   have HN:=zH (fun h=>UY (l:=l) ta h)
   have HY:=zH (fun h=>VY (l:=l) ta HB.out h)
   revert hc HN HY
   generalize l.getD j 0=y;intro hc HN HY;clear Ra;by_cases z:Bb <= y
   ·have HZ:=zH (HN.out z)
    unfold Bb at z;have d1:decide ((18446744069414584321:Int)<=y)=true:=xb zO;clear HN HY;go_wp2;go_ret
    exact ⟨by rw [HZ.out];rfl,rfl⟩
   ·have HZ:=zH (HY.out zO)
    unfold Bb at z;have d1:decide ((18446744069414584321:Int)<=y)=false:=db zO;clear HN HY;go_wp2
    go_round
    case rel=>exact ⟨j+1,zO,by go_num,HZ.out⟩
    case measure=>simp [intOf];omega
  ·have e:j=l.length:=by omega
   have HA:=zH (show Kc l=true by have:=HB.out;rwa [e,qt] at this)
   clear Ra;go_wp2;go_ret
   exact ⟨by rw [HA.out];rfl,rfl⟩
theorem KZ (A:Option vy) (n c:Nat) (l:List Nat) (w:vw) (hl:RWd w [ve A n c] l) (hlen:l.length <= 10000000) :
  vB prog 197 #[ve A n c] w fun e w'=>∃ v,e=vl v /\ w'.ownsRow w.1.size 22 1 v n (Oa l) /\ vA w.1.size w w':=by
 obtain ⟨rfl,h1,h2,ta,Ra⟩:=Ob hl;clear hl;have h0:w.ownsRow w.1.size 22 1 (ve vD 0 0) 0 []:=⟨rfl, .inl ⟨rfl,rfl⟩⟩;go_enter func197,ntmps197
 go_wp2_with (at_builtin;refine Ok rfl _ _ rfl GM rfl h0 rfl Ra (Lq _) zO zR ?_)
 intro v' w1 Ca Va Cc;go_wp2;go_ret
 exact ⟨_,rfl,Ca,Sp h0 Va zR⟩
theorem dZ (base:Nat) (v:vx) (m x:Nat) (xs:List vx) (w:vw) (ho:w.ownsRow base 5 1 v m xs) (hx:x<18446744073709551616) (hk:m <= 100000000) (hb:base <= w.1.size) :
  vB prog 270 #[v,vd vn x] w fun e w'=>∃ v',e=vl v' /\ w'.ownsRow base 5 1 v' (m+8) (xs++U8 (Je x 8)) /\ w.grownBy w' v.ownBlock /\ (∀ g,v'.ownBlock=vE g -> v.ownBlock=vE g \/ w.1.size <= g):=by
 go_enter func270,ntmps270
 go_wp2_with fail
 go_loopw [0,1,5] (fun s y i wr=>∃ j z:Nat,j <= 8 /\ i=vd vq j /\ y=vd vn z /\ Hid (z=x / 256^j) /\ z<18446744073709551616 /\ wr.ownsRow base 5 1 s (m+j) (xs++U8 (Je x j)) /\ w.grownBy wr v.ownBlock /\ (∀ g,s.ownBlock=vE g -> v.ownBlock=vE g \/ w.1.size <= g))
  (fun _ _ i _=>8-(intOf i).toNat)
 case atStart=>exact ⟨0,x,Kb _,rfl,rfl,by simp [Hid],hx,by simpa [Je,U8] using ho,Ce _ _,fun g h=>.inl h⟩
 case round =>
  obtain ⟨j,z,hj,rfl,rfl,HZ,hz,Ca,Wa,Gb⟩:=hrel;have HB:=zH Gb;clear Gb;by_cases ta:j<8
  ·have hs:=Wa.size
   go_wp2_with (at_builtin;refine Ok rfl _ _ rfl J0 rfl (Ca.alloc _) rfl (sx _ (vd vu ((z:Int)%256)) _) ?_ ?_ ?_ ?_)
   ·intro u hu;simp at hu;subst hu;rfl
   ·omega
   ·simp;omega
   intro v' w1 Tb Va zg;have Dd:=Va.size;simp only [World.size_alloc] at Dd zg;have R:=lW (K4 Wa _) HB.out Va (zg.imp id fun h=>⟨_,h,zS⟩)
   have HR:=zH R;clear Ca Wa Va zg R HB;go_wp2
   go_roundw
   case rel =>
    refine ⟨j+1,z / 256,zO,by go_num,by go_num,?_,zO,?_,HR.out.1,HR.out.2⟩
    ·show z / 256=x / 256^(j+1)
     rw [HZ.out,Nat.div_div_eq_div_mul,Sf]
    ·rw [MT,<- HZ.out,RH,<- iq]
     rw [<- iq] at Tb;exact Tb
   case measure=>simp [intOf];omega
  ·go_wp2
   go_ret
   have e:j=8:=by omega
   subst e;exact ⟨_,rfl,Ca,Wa,HB.out⟩
theorem J6 (l:List Nat) (j:Nat) (h:j<l.length):Qg (l.take (j+1))=Qg (l.take j)++Je (l.getD j 0) 8:=by
 rw [wN l j h,DQ];simp [Qg]
theorem Y5 (A B:Option vy) (n c m d:Nat) (l k:List Nat) (w:vw) (hl:RWd w [ve A n c] l) (hk:RWd w [ve B m d] k) (h1:l.length <= 1000000) (h2:k.length <= 1000000) :
  vB prog 204 #[ve A n c,ve B m d] w fun e w'=>e=vl (.string (S (Qg (k++l)))) /\ vA w.1.size w w':=by
 obtain ⟨rfl,h3,h4,ta,Ra⟩:=Ob hl;obtain ⟨rfl,h5,h6,Ck,gJ⟩:=Ob hk;clear hl hk h3 h4 h5 h6;have Xn:=zH ta;have jm:=zH Ck;clear ta Ck;have e1:vq.wrap ((k.length:Int)+l.length)=((k.length+l.length:Nat):Int):=by rw [Bu];omega
 have e2:vq.wrap (8*((k.length+l.length:Nat):Int))=((8*(k.length+l.length):Nat):Int):=by rw [Bu];omega
 obtain ⟨t,ht⟩:=zEX (8*(k.length+l.length));obtain ⟨s,hs⟩:=zEX (k.length+l.length);rw [<- hs] at e1 e2 ht;rw [<- ht] at e2;have g0:(t:Int) <= 16000000:=by omega
 have HT:=zH ht;have HS:=zH hs;clear ht hs;have Jh:∀ u:vw,(Instr.makeSlice 83 (vd vq 0) (vd vq t)).run prog u =
   .ok (ve (vE ⟨u.1.size,0,vD⟩) 0 t) (u.alloc (.cells (madeCells #[vd vu 0] t) 5)):=fun u=>by
  obtain ⟨i0,hi,Yh,ud,Ve⟩:=info_parts rV;have h:=run_make (P:=prog) u 83 5 i0 (vd vu 0) underlying83 hi Yh vq vq 0 (t:Int) zO zO (by rw [Ve];omega) zO
  rw [Rk] at h
  simpa [ud,Value.cells] using h
 have bG:=World.ownsRow_made (base:=w.1.size) (e:=5) (size:=1) w (madeCells #[vd vu 0] t) t zR (by simp [maxLen];omega) (by rw [size_madeCells,fp])
 have da:=zA w (.cells (madeCells #[vd vu 0] t) 5);go_enter func204,ntmps204
 go_wp2_with fail
 generalize w.alloc _=w0 at bG da |-;clear Jh;go_loopw [5,19] (fun s i wr=>∃ j:Nat,j <= k.length /\ i=vd vq j /\ wr.ownsRow w.1.size 5 1 s (8*j) (U8 (Qg (k.take j))) /\ vA w.1.size w wr) (fun _ i _=>k.length-(intOf i).toNat)
 case atStart=>exact ⟨0,Kb _,rfl,by simpa [Qg,U8] using bG,da⟩
 case round =>
  clear bG da;obtain ⟨j,hj,rfl,Ca,hb⟩:=hrel;by_cases ta:j<k.length
  ·obtain ⟨b,q,rfl,Gb,hc⟩:=Rg (gJ.below hb) ta
   have g1:(0:Int)<=j:=by omega
   have g2:(j:Int)<k.length:=by omega
   have HY:=zH (nL jm.out ta);have HE:=zH (J6 k j ta);have HL:=zH ta;clear ta;revert hc HY HE
   generalize k.getD j 0=y;intro hc HY HE;go_wp2_with fail
   refine (dZ w.1.size _ (8*j) y _ _ Ca HY.out (zQ HL.out) hb.size).mono ?_;rintro e w1 ⟨v',rfl,Tb,Wa,zg⟩;have Ia:=hb.trans (zt Wa w.1.size hb.size (fun g hg=>(A9 Ca g hg).1))
   clear Wa zg Ca hb hc;rw [<- RH,<- HE.out] at Tb;go_wp2
   go_roundw
   case rel=>exact ⟨j+1,by have:=HL.out;omega,by go_num,by rw [show 8*(j+1)=8*j+8 by omega];exact Tb,Ia⟩
   case measure=>have:=HL.out;simp [intOf];omega
  ·have e:j=k.length:=by omega
   subst e;rw [qt] at Ca;clear ta hj;go_wp2_with fail
   go_loopw [5,29] (fun s i wq=>∃ j:Nat,j <= l.length /\ i=vd vq j /\ wq.ownsRow w.1.size 5 1 s (8*(k.length+j)) (U8 (Qg (k++l.take j))) /\ vA w.1.size w wq) (fun _ i _=>l.length-(intOf i).toNat)
   case atStart=>exact ⟨0,Kb _,rfl,by simpa using Ca,hb⟩
   case round =>
    clear Ca hb;obtain ⟨j,hj,rfl,Ca,hb⟩:=hrel;by_cases ta:j<l.length
    ·obtain ⟨b,q,rfl,Gb,hc⟩:=Rg (Ra.below hb) ta
     have g1:(0:Int)<=j:=by omega
     have g2:(j:Int)<l.length:=by omega
     have HY:=zH (nL Xn.out ta);have HE:=zH (show Qg (k++l.take (j+1))=Qg (k++l.take j)++Je (l.getD j 0) 8 by rw [DQ,DQ,J6 l j ta,iq])
     have HL:=zH ta;clear ta;revert hc HY HE
     generalize l.getD j 0=y;intro hc HY HE;go_wp2_with fail
     refine (dZ w.1.size _ (8*(k.length+j)) y _ _ Ca HY.out (zQ HL.out) hb.size).mono ?_;rintro e w1 ⟨v',rfl,Tb,Wa,zg⟩;have Ia:=hb.trans (zt Wa w.1.size hb.size (fun g hg=>(A9 Ca g hg).1))
     clear Wa zg Ca hb hc;rw [<- RH,<- HE.out] at Tb;go_wp2
     go_roundw
     case rel=>exact ⟨j+1,by have:=HL.out;omega,by go_num,by rw [show 8*(k.length+(j+1))=8*(k.length+j)+8 by omega];exact Tb,Ia⟩
     case measure=>have:=HL.out;simp [intOf];omega
    ·have e:j=l.length:=by omega
     subst e;rw [qt] at Ca;clear ta hj;obtain ⟨A',c',rfl,-,-,cQ,-⟩:=Ud Ca;have tw:=zIy (P:=prog) (w:=_) (dst:=9) (c:=c') underlying83 underlying5 underlying9 cQ;go_wp2;go_ret
     exact ⟨rfl,hb⟩
theorem OrcIn.turn {w w':vw} {g:Nat} {O O':Da} {F:Nat -> Prop} {v:vx} {cs:List vx} {km sm pm:Nat} {E:Nat -> Prop} (h:OrcIn w g O F v cs km sm pm E) (ok:OrcOk O') (hq:O'.qs=O.qs)
  (kb:Blk w' g 121 #[.bool O'.ideal,vd vn O'.st,vd vq O'.dr,v, .map (vE km), .map (vE sm), .map (vE pm)]) (hg:w.grownBy w' (vE g)):OrcIn w' g O' F v cs km sm pm E where
 ok:=ok
 blk:=kb
 own:=by rw [hq];exact ji h.own fun b hb=>hg.block b (h.own.lt b hb).2 (fun e=>h.vg (by rw [hb,e]))
 rows:=by rw [hq];exact yL h.rows hg.size fun b hb hl=>hg.block b hl (fun e=>(h.el b hb).2.1 (Ya e))
 map:=by
  rw [hq];obtain ⟨es,clock,h1,h2⟩:=h.map;exact ⟨es,clock,(hg.block km (h.lt km h.fkm) (fun e=>h.kmg (Ya e))).trans h1,h2⟩
 el:=fun b hb=>⟨pd (h.el b hb).1 hg.size,(h.el b hb).2⟩
 kmg:=h.kmg
 vkm:=h.vkm
 vg:=h.vg
 fg:=h.fg
 fv:=h.fv
 fkm:=h.fkm
 fE:=h.fE
 lt:=fun b hb=>pd (h.lt b hb) hg.size
theorem AU (w:vw) (g i j:Nat) (x y:vx):w.grownBy ((w.setCell ⟨g,i,vD⟩ x).setCell ⟨g,j,vD⟩ y) (vE g):=mh (p:=⟨g,j,vD⟩) (mh (p:=⟨g,i,vD⟩) (Ce w (vE g)) (.inl rfl) x) (.inl rfl) y
theorem WH {w:vw} {g:Nat} {t:vz} {cs:Array vx} (k:Blk w g t cs) (i j:Nat) (x y:vx):Blk ((w.setCell ⟨g,i,vD⟩ x).setCell ⟨g,j,vD⟩ y) g t ((cs.setIfInBounds i x).setIfInBounds j y):=(k.set_ i x).set_ j y
theorem zGx {i:Bool} {st dr:Nat} {qs:List Qn} (h:OrcOk ⟨i,st,dr,qs⟩) {s1 d1:Nat} (hs:s1<18446744073709551616):OrcOk ⟨i,s1,d1,qs⟩:=⟨hs,h.qs,h.apart,h.real⟩
theorem zDO (i:Bool) (st dr:Nat) (qs:List Qn):iy ⟨i,st,dr,qs⟩=⟨i,mF st,dr+1,qs⟩:=rfl
theorem zDM (i:Bool) (st dr:Nat) (qs:List Qn):oC ⟨i,st,dr,qs⟩=lP (jP (iP (mF st))):=rfl
theorem zDN {w:vw} {g:Nat} {O:Da} {F:Nat -> Prop} {v:vx} {cs:List vx} {km sm pm:Nat} {E:Nat -> Prop} (h:OrcIn w g O F v cs km sm pm E) (hi:O.ideal=true) (hd:O.dr <= 1000000000) :
  vB prog 224 #[.pointer (vE ⟨g,0,vD⟩)] w fun e w'=>e=vl (vd vn (oC O:Int)) /\ OrcIn w' g (iy O) F v cs km sm pm E /\ w.grownBy w' (vE g):=by
 obtain ⟨ideal,st,dr,qs⟩:=O;have kd:st<18446744073709551616:=h.ok.st;have kb:Blk w g 121 #[.bool ideal,vd vn st,vd vq dr,v, .map (vE km), .map (vE sm), .map (vE pm)]:=h.blk;have hd':dr <= 1000000000:=hd;clear hd;have QF:ideal=true:=hi;subst QF;clear hi;have H:=zH h;have e1:vq.wrap ((dr:Int)+1)=((dr+1:Nat):Int):=by rw [Bu];omega
 have e2:vn.wrap ((st:Int)+11400714819323198485)=((mF st:Nat):Int):=by rw [Kj];unfold mF;omega
 have hz:mF st<18446744073709551616:=mc _ zD;obtain ⟨dr1,hdr⟩:=zEX (dr+1);rw [<- hdr] at e1;obtain ⟨s1,Xc⟩:=zEX (mF st);rw [<- Xc] at e2 hz;have HD:=zH hdr;have HS:=zH Xc;clear hdr Xc h;obtain ⟨a1,nA⟩:=zEX (s1 ^^^ (s1 >>> 30));have ha1l:a1<18446744073709551616:=by rw [nA];exact Nat.xor_lt_two_pow (n:=64) hz (by rw [LH];omega)
 have x1:bits BinOp.xor vn (s1:Int) ((s1:Int) / 1073741824)=(a1:Int):=by
  rw [show (s1:Int) / (1073741824:Int)=((s1 >>> 30:Nat):Int) by rw [LH];omega,bits_xor_u64_nat _ _ hz (by rw [LH];omega),nA]
 obtain ⟨a,ha⟩:=zEX (a1*13787848793156543929%18446744073709551616);have ja:a<18446744073709551616:=by omega
 have m1:vn.wrap ((a1:Int)*13787848793156543929)=(a:Int):=by rw [Kj];omega
 have HA:=zH (show a=iP s1 by rw [ha,nA,iP])
 clear ha nA;obtain ⟨b1,Ia⟩:=zEX (a ^^^ (a >>> 27));have hb1l:b1<18446744073709551616:=by rw [Ia];exact Nat.xor_lt_two_pow (n:=64) ja (by rw [LH];omega)
 have x2:bits BinOp.xor vn (a:Int) ((a:Int) / 134217728)=(b1:Int):=by
  rw [show (a:Int) / (134217728:Int)=((a >>> 27:Nat):Int) by rw [LH];omega,bits_xor_u64_nat _ _ ja (by rw [LH];omega),Ia]
 obtain ⟨b,hb⟩:=zEX (b1*10723151780598845931%18446744073709551616);have Gb:b<18446744073709551616:=by omega
 have m2:vn.wrap ((b1:Int)*10723151780598845931)=(b:Int):=by rw [Kj];omega
 have HB:=zH (show b=jP a by rw [hb,Ia,jP])
 clear hb Ia;obtain ⟨c1,Ad⟩:=zEX (b ^^^ (b >>> 31));have x3:bits BinOp.xor vn (b:Int) ((b:Int) / 2147483648)=(c1:Int):=by
  rw [show (b:Int) / (2147483648:Int)=((b >>> 31:Nat):Int) by rw [LH];omega,bits_xor_u64_nat _ _ Gb (by rw [LH];omega),Ad]
 obtain ⟨c,hcz⟩:=zEX (c1%18446744069414584321);have m3:(c1:Int).tmod 18446744069414584321=(c:Int):=by rw [Int.tmod_eq_emod_of_nonneg zO];omega
 have HC:=zH (show c=lP b by rw [hcz,Ad,lP,Bb])
 clear hcz Ad;have X1:=zH ha1l;have X2:=zH hb1l;have X3:=zH hz;clear ha1l hb1l ja Gb hz kd;have hv:oC ⟨true,st,dr,qs⟩=c:=by rw [zDM,<- HS.out,<- HA.out,<- HB.out,<- HC.out]
 rw [hv];clear hv HA HB HC;obtain ⟨O1,zo⟩:=zEX (iy ⟨true,st,dr,qs⟩);rw [<- zo];have HO:=zH (show O1=⟨true,s1,dr1,qs⟩ by rw [zo,zDO,HS.out,HD.out])
 clear zo HS HD;have hc:=kb.cell;have hf:=kb.frozen;have KB:=zH kb;clear kb;go_enter func224,ntmps224
 go_wp2_with fail
 go_ret
 have hg:=AU w g 2 1 (vd vq dr1) (vd vn s1);have kb:=WH KB.out 2 1 (vd vq dr1) (vd vn s1);generalize (w.setCell ⟨g,2,vD⟩ (vd vq dr1)).setCell ⟨g,1,vD⟩ (vd vn s1)=w1 at hg kb |-;refine ⟨rfl,?_,hg⟩;rw [HO.out];exact H.out.turn (O':=⟨true,s1,dr1,qs⟩) (zGx H.out.ok X3.out) rfl (by simpa using kb) hg
theorem info_q:(prog.info? 95).map (fun i=>(i.zero,i.size,i.bytes))=vE (vE (vf #[vd vn 0,ve vD 0 0,vd vn 0]),3,40):=by kernel_rfl
theorem EM:Tq prog 60 95 3 40 (vf #[vd vn 0,ve vD 0 0,vd vn 0]):=by
 obtain ⟨i0,hi,Yh,ud,Ve⟩:=info_parts info_q;exact ⟨underlying60,⟨i0,hi,Yh,ud,Ve⟩,rfl,zO⟩
theorem WN (w:vw) (x y z:vx) (t:vz):Rd (w.alloc (.cells #[x,y,z] t)) 3 (vE ⟨w.1.size,0,vD⟩) 1 [x,y,z]:=by
 refine ⟨rfl,fun _=>⟨_,rfl,fun j u hj=>?_⟩⟩
 match j,hj with
 | 0,hj=>simp at hj;subst hj;simp [Addr.add]
 | 1,hj=>simp at hj;subst hj;simp [Addr.add]
 | 2,hj=>simp at hj;subst hj;simp [Addr.add]
theorem FV:Keyed prog 9:=string_keyed underlying9
theorem AV (lab:Nat) (l:List Nat) (h:l.length <= 1000000):keyOf prog 9 (.string (S (Qg (lab :: l))))=vE (Km lab l):=by
 have:=WideMaps.keyOf_string_mk (P:=prog) underlying9 (s:=S (Qg (lab :: l))) (by rw [S_size,FQ,Jg];simp only [maxLen];omega)
 rw [this];simp [S,Km]
theorem zGw {O:Da} (h:OrcOk O) {lab:Nat} {l:List Nat} {an:Nat} (Lg:lab<18446744073709551616) (Bi:Kc l=true) (FC:an<Bb) (hlen:l.length <= 1000000) (bL:ze O.qs lab l=vD) (dQ:O.ideal=false -> an=Lo lab l):OrcOk (jn O lab l an):=by
 refine ⟨h.st,fun q hq=>?_,?_,fun hi q hq=>?_⟩
 ·rcases jq.1 hq with hq | hq
  ·exact h.qs q hq
  ·rw [Zo.1 hq];exact ⟨Lg,Bi,FC,hlen⟩
 ·show (O.qs++[_]).Pairwise _
  rw [List.pairwise_append];refine ⟨h.apart,List.pairwise_singleton _ _,fun a ha b hb hc=>?_⟩
  rw [Zo.1 hb] at hc;unfold ze at bL;rw [Option.map_eq_none_iff] at bL;have:=List.find?_eq_none.1 bL a ha;exact this (TN.2 hc)
 ·rcases jq.1 hq with hq | hq
  ·exact h.real hi q hq
  ·rw [Zo.1 hq];exact dQ hi
structure OrcPre (w:vw) (g km:Nat) (cells:Array vx) (v:vx) (n m:Nat) (cs:List vx) (qs:List Qn) (D:DataW Unit) (E:Nat -> Prop):Prop where
 blk:Blk w g 121 cells
 own:w.ownsRow 0 95 3 v n cs
 rows:UB E w cs qs
 map:w.ownsMap prog 9 (plainElem prog 3) km m D
theorem OrcPre.keep {w w':vw} {g km:Nat} {cells:Array vx} {v:vx} {n m:Nat} {cs:List vx} {qs:List Qn} {D:DataW Unit} {E F:Nat -> Prop} (h:OrcPre w g km cells v n m cs qs D E) (hF:F g /\ F km /\ (∀ b,v.ownBlock=vE b -> F b) /\ ∀ b,E b -> F b)
  (hs:w.1.size <= w'.1.size) (hw:∀ b,F b -> w'.1[b]?=w.1[b]?):OrcPre w' g km cells v n m cs qs D E where
 blk:=(hw g hF.1).trans h.blk
 own:=ji h.own fun b hb=>hw b (hF.2.2.1 b hb)
 rows:=yL h.rows hs fun b hb _=>hw b (hF.2.2.2 b hb)
 map:=by
  obtain ⟨es,clock,h1,h2⟩:=h.map;exact ⟨es,clock,(hw km hF.2.1).trans h1,h2⟩
theorem zIf {w w3 w4:vw} {g km sm pm:Nat} {O:Da} {F E:Nat -> Prop} {v v' vs:vx} {cs:List vx} {lab an N n eb:Nat} {l:List Nat}
  (OK:OrcOk (jn O lab l an))
  (P:OrcPre w3 g km #[.bool O.ideal, .int vn O.st, .int vq O.dr,v, .map (vE km), .map (vE sm), .map (vE pm)] v O.qs.length (O.qs.length+1) cs O.qs ((jv O.qs).put (Km lab l) (.lit (.int vq O.qs.length))) E)
  (hF:F g /\ F km /\ (∀ b,v.ownBlock=vE b -> F b) /\ ∀ b,E b -> F b) (hX:v.ownBlock≠vE g /\ v.ownBlock≠vE km /\ ∀ b,E b -> b≠g /\ b≠km /\ v.ownBlock≠vE b) (hgk:g≠km) (ta:∀ b,F b -> b<N) (hN:N <= eb) (yy:N <= w3.1.size) (hew:w.1.size <= eb)
  (Ry:w3.ownsRow eb 22 1 vs n (Oa l)) (Co:∀ x∈l,x<18446744073709551616)
  (Ca:w4.ownsRow 0 95 3 v' (O.qs.length+1) (cs++[vd vn lab,vs,vd vn an])) (hg:w3.grownBy w4 v.ownBlock) (hb:v'.ownBlock=v.ownBlock \/ v'.ownBlock=vE w3.1.size)
  (M:Moved F F w w3) :
  ∃ F',OrcAt (w4.setCell ⟨g,3,vD⟩ v') g (jn O lab l an) F' /\ Moved F F' w (w4.setCell ⟨g,3,vD⟩ v'):=by
 obtain ⟨fg,fkm,fv,fE⟩:=hF;obtain ⟨x1,x2,x3⟩:=hX;have Lb:w4.grownBy (w4.setCell ⟨g,3,vD⟩ v') (vE g):=mh (p:=⟨g,3,vD⟩) (Ce w4 _) (.inl rfl) _;have kb4:=P.blk.grown hg (fun e=>x1 e.symm)
 have kb5:=kb4.set_ 3 v';have Uc:∀ b,vs.ownBlock=vE b -> eb <= b /\ b<w3.1.size:=fun b h=>Ry.lt b h
 have Pw:∀ b,v'.ownBlock=vE b -> F b \/ b=w3.1.size:=fun b h=>by
  rcases hb with e | e
  ·exact .inl (fv b (by rw [<- e];exact h))
  ·rw [e] at h;exact .inr (Ya h).symm
 have hvg:v'.ownBlock≠vE g:=fun h=>by
  rcases hb with e | e
  ·exact x1 (by rw [<- e];exact h)
  ·rw [e] at h;have:=Ya h;have:=ta g fg;omega
 have hvk:v'.ownBlock≠vE km:=fun h=>by
  rcases hb with e | e
  ·exact x2 (by rw [<- e];exact h)
  ·rw [e] at h;have:=Ya h;have:=ta km fkm;omega
 have hvE:∀ b,E b -> v'.ownBlock≠vE b:=fun b hE h=>by
  rcases hb with e | e
  ·exact (x3 b hE).2.2 (by rw [<- e];exact h)
  ·rw [e] at h;have:=Ya h;have:=ta b (fE b hE);omega
 have hvN:∀ b,v.ownBlock=vE b -> b<N:=fun b h=>ta b (fv b h)
 have Io:=ji Ca fun b h=>Lb.block b (Ca.lt b h).2 (fun e=>hvg (by rw [h,e]))
 have vs4:=ji Ry fun b h=>hg.block b (Uc b h).2 (fun e=>by have:=hvN b e.symm;have:=Uc b h;omega)
 have vs5:=ji vs4 fun b h=>Lb.block b (vs4.lt b h).2 (fun e=>by have:=Ya e;have:=Uc b h;have:=ta g fg;omega)
 have kr5:=zJ vs5 Co;have rows4:=yL P.rows hg.size fun b hE hl=>hg.block b hl (fun e=>(x3 b hE).2.2 e.symm)
 have rows5:=yL rows4 Lb.size fun b hE hl=>Lb.block b hl (fun e=>(x3 b hE).1 (Ya e))
 have s4:=hg.size;have s5:=Lb.size;refine ⟨fun b=>F b \/ v'.ownBlock=vE b \/ vs.ownBlock=vE b,⟨v',cs++[vd vn lab,vs,vd vn an],km,sm,pm,fun b=>E b \/ vs.ownBlock=vE b,?_⟩,?_⟩
 ·refine ⟨OK,?_,?_,?_,?_,?_,fun e=>hgk e.symm,hvk,hvg, .inl fg,fun b h=>.inr (.inl h), .inl fkm,?_,?_⟩
  ·show Blk _ g _ #[.bool O.ideal,vd vn O.st,vd vq O.dr,v', .map (vE km), .map (vE sm), .map (vE pm)]
   simpa using kb5
  ·have:(jn O lab l an).qs.length=O.qs.length+1:=by show (O.qs++[_]).length=_;simp
   rw [this];exact Io
  ·exact zHT (q:=⟨lab,l,an⟩) (zHU rows5 fun b h=>.inl h) (qN kr5 fun b h=>.inr h)
  ·have:(jn O lab l an).qs=O.qs++[⟨lab,l,an⟩]:=zCn O lab l an
   rw [this,vQ,jj];obtain ⟨es,clock,h1,h2⟩:=P.map;refine ⟨es,clock,?_,h2⟩;have Wu:km<w3.1.size:=by have:=ta km fkm;omega
   exact (Lb.block km zO (fun e=>hgk (Ya e).symm)).trans ((hg.block km Wu (fun e=>x2 e.symm)).trans h1)
  ·intro b h
   rcases h with h | h
   ·exact ⟨by have:=ta b (fE b h);omega,(x3 b h).1,(x3 b h).2.1,hvE b h⟩
   ·have h1:=Uc b h
    refine ⟨zO,fun e=>by have:=ta g fg;omega,fun e=>by have:=ta km fkm;omega,fun e=>?_⟩
    rcases Pw b e with h2 | h2
    ·have:=ta b h2;omega
    ·omega
  ·intro b h
   rcases h with h | h
   ·exact .inl (fE b h)
   ·exact .inr (.inr h)
  ·intro b h
   rcases h with h | h | h
   ·have:=ta b h;omega
   ·have:=(Ca.lt b h).2;omega
   ·have:=Uc b h;omega
 ·refine zFS (F':=F) ((M.trans (CN (F:=F) hg fun b h=>fv b h)).trans (CN (F:=F) Lb fun b h=>by rw [<- Ya h];exact fg)) fun b h=>?_
  have hs:=M.size;rcases h with h | h | h
  ·exact .inl h
  ·rcases Pw b h with h | h
   ·exact .inl h
   ·exact .inr zO
  ·exact .inr (zQ (Uc b h))
where
 zCn (O:Da) (lab:Nat) (el:List Nat) (a:Nat):(jn O lab el a).qs=O.qs++[⟨lab,el,a⟩]:=by simp only [jn]
theorem zAD {w:vw} {g:Nat} {O:Da} {F:Nat -> Prop} {v:vx} {cs:List vx} {km sm pm:Nat} {E:Nat -> Prop} (h:OrcIn w g O F v cs km sm pm E) (lab:Nat) (l:List Nat) (an:Nat) (A:Option vy) (n c:Nat) {K:Nat -> Prop}
  (hl:Ye K w (ve A n c) l) (hK:∀ b,K b -> ¬F b) (Lg:lab<18446744073709551616) (Bi:Kc l=true) (FC:an<Bb) (hlen:l.length <= 1000000) (hn:O.qs.length <= 1000000) (bL:ze O.qs lab l=vD) (dQ:O.ideal=false -> an=Lo lab l) :
  vB prog 225 #[.pointer (vE ⟨g,0,vD⟩), .string (S (Qg (lab :: l))),vd vn lab,ve A n c,vd vn an] w fun e w'=>e=vl (.tuple #[]) /\ ∃ F',OrcAt w' g (jn O lab l an) F' /\ Moved F F' w w':=by
 have OK1:=zH (zGw h.ok Lg Bi FC hlen bL dQ);have uu:=zH (AV lab l hlen);have Ff:=zH hlen;have HEL:=zH Bi;have iJ:l.length=n:=by obtain ⟨A',c',e,-⟩:=OA hl;injection e with _ e2 _;exact e2.symm
 have HRN:=zH iJ;have HK:=zH hK;clear Lg Bi bL dQ hK hlen iJ;obtain ⟨hv⟩:Nonempty (∃ B d,v=ve B O.qs.length d):=by
  obtain ⟨B,d,e,-⟩:=Ud h.own;exact ⟨B,d,e⟩
 obtain ⟨B,d,rfl⟩:=hv;have kb:=h.blk;have hc:=kb.cell;have hmp:=fun w=>run_eql_map_nil (P:=prog) w 117 9 3 (vE km) underlying117
 have H:=zH h;have hglt:g<w.1.size:=kb.lt;have hgk:g≠km:=fun e=>h.kmg e.symm
 have gn:(O.qs.length:Int) <= 1000000:=by omega
 obtain ⟨nq,bD⟩:=zEX (O.qs.length);rw [<- bD] at hc gn;have ij:=zH bD;clear h bD kb hn;go_enter func225,ntmps225
 go_wp2_with fail
 refine zd (Vk km) [10] [0,1,2,3,4,5,6,7,8,9,10] zK zK ?_;refine Ue (oe km) ?_;intro Wc Ja ea;have H1:=zH (show OrcIn Wc g O F (ve B O.qs.length d) cs km sm pm E by rw [Ja.out];exact H.out.drew)
 have Bk:Ye K Wc (ve A n c) l:=by rw [Ja.out];exact Vw hl zR fun _ _ _=>rfl
 have M0:Moved F F w Wc:=by rw [Ja.out];exact Yw Moved.refl
 clear Ja H hl;obtain ⟨w1,Tc,Eo,og⟩:=H1.out.map.update FV underlying117 (by have:=ij.out;simp only [maxLen];omega) uu.out (val:=.int vq nq) (plainElem_int Hu (by simp [Lit.wf,IntKind.min,IntKind.max,IntKind.signed,IntKind.bits];omega))
 refine Sm ?_;refine Te (oe km) rfl rfl rfl ?_;go_simp;refine ⟨og,?_⟩
 refine zPU ?_
 refine Hc ?_;have kb1:Blk w1 g 121 _:=H1.out.blk.grown og (fun e=>hgk (Ya e))
 have dz:=ji H1.out.own fun b hb=>og.block b (H1.out.own.lt b hb).2 (fun e=>H1.out.vkm (by rw [hb,e]))
 have rows1:=yL H1.out.rows og.size fun b hb hl=>og.block b hl (fun e=>(H1.out.el b hb).2.2.1 (Ya e))
 have Yr:Ye K w1 (ve A n c) l:=Vw Bk og.size fun b hb hl=>og.block b hl (fun e=>HK.out b hb (by rw [Ya e];exact H1.out.fkm))
 have M1:=M0.trans (CN (F:=F) og (fun b e=>by rw [<- Ya e];exact H1.out.fkm))
 have lk1:km<w1.1.size:=Eo.lt;have Ad:=kb1.cell;have RI:=kb1.frozen;have lg1:=kb1.lt;have P1:=zH (OrcPre.mk kb1 dz rows1 Eo);have HF:Hid (F g /\ F km /\ (∀ b,(ve B O.qs.length d).ownBlock=vE b -> F b) /\ ∀ b,E b -> F b):=⟨H1.out.fg,H1.out.fkm,H1.out.fv,H1.out.fE⟩;have HX:Hid ((ve B O.qs.length d).ownBlock≠vE g /\ (ve B O.qs.length d).ownBlock≠vE km /\ ∀ b,E b -> b≠g /\ b≠km /\ (ve B O.qs.length d).ownBlock≠vE b):=⟨H1.out.vg,H1.out.vkm,fun b hb=>⟨(H1.out.el b hb).2.1,(H1.out.el b hb).2.2.1,(H1.out.el b hb).2.2.2⟩⟩
 have Xb:=zH (show ∀ b,F b -> b<w1.1.size from fun b hb=>pd (H1.out.lt b hb) og.size)
 obtain ⟨VF,hVF⟩:∃ VF:Nat -> Prop,∀ b,VF b↔(ve B O.qs.length d).ownBlock=vE b:=⟨_,fun _=>Iff.rfl⟩
 have nVg:¬VF g:=fun e=>HX.out.1 ((hVF g).1 e)
 have HVF:=zH hVF;rw [<- ij.out] at Ad;clear hVF kb1 dz rows1 Eo hc Tc og Bk M0 ea hglt hmp H1 uu;clear Wc;go_wp2_with fail
 obtain ⟨N,hN⟩:=zEX (w1.1.size);rw [<- hN] at lg1 lk1;have HN:=zH hN;clear hN;refine yB (Zi VF N) [7,10,11,12,14] [14] [0,1,2,3,4,5,6,8,7,9,10,11,12,13,14] zK zK ?_;refine AB (Bc VF N) ?_;intro Wc Ja ea;have P2:=zH (P1.out.keep (w':=w1.drew) (F:=F) HF.out zR fun _ _=>rfl)
 rw [<- Ja.out] at P2;have hl3:Ye K Wc (ve A n c) l:=by rw [Ja.out];exact Vw Yr zR fun _ _ _=>rfl
 have M2:Moved F F w Wc:=by rw [Ja.out];exact Yw M1
 have pc:N <= Wc.1.size:=by rw [Ja.out,HN.out];exact zR
 have hbN:N <= Wc.1.size:=pc;have Ma:w.1.size <= Wc.1.size:=M2.size;have HLc:Hid (∀ b,F b -> b<N):=by rw [HN.out];exact Xb.out
 clear Ja P1 Yr M1 Xb;refine oY ?_;refine ku (Bc VF N) rfl rfl rfl (fun _=>by go_simp <;> rfl) ((KZ A n c l _ (Gk hl3) (zQ Ff.out)).mono ?_)
 rintro e w2 ⟨vs,rfl,Ry,Ba⟩;refine ⟨_,rfl,fun _=>uk Ba pc,?_⟩
 replace ea:=zM (Bc VF N) ea (uk Ba pc);refine zPU ?_;have P3:=zH (P2.out.keep (F:=F) HF.out Ba.size fun b hb=>Ba.block b (zQ (HLc.out b hb)))
 have M3:=M2.trans (Zc (F:=F) Ba);have Yk:N <= w2.1.size:=by have:=Ba.size;omega
 obtain ⟨Bs,ds,rfl,-,-,-,zj⟩:=Ud Ry;clear P2 M2 Ba pc hl3 ea Ad;have ea:=(Bc VF N).refl w2;refine oY ?_;refine ak (Bc VF N) rfl rfl rfl ?_;go_simp;refine ⟨fun _=>uk ((tb _ _).alloc zR _) Yk,?_⟩
 have ja:=zA w2 (.cells #[vd vn lab,ve Bs n ds,vd vn an] 95);have Ra:=WN w2 (vd vn lab) (ve Bs n ds) (vd vn an) 95;have P4:=zH (P3.out.keep (F:=F) HF.out ja.size fun b hb=>ja.block b (zQ (HLc.out b hb)))
 have pV:=Mc Ry ja zR;have M4:=M3.trans (Zc (F:=F) ja);have yy:N <= (w2.alloc (.cells #[vd vn lab,ve Bs n ds,vd vn an] 95)).1.size:=zb Yk ja.size;have Kk:=P4.out.own;rw [<- ij.out] at Kk
 refine zPU ?_
 generalize w2.alloc _=w3 at Ra P4 pV M4 yy Kk |-;generalize w2.1.size=g2 at Ra |-;clear P3 M3 Yk ja Ry ea;have ea:=(Bc VF N).refl w3;refine ak (Bc VF N) rfl rfl rfl ?_;refine zx _ _ rfl EM rfl Kk rfl Ra (by intro u hu;simp at hu;rcases hu with rfl | rfl | rfl <;> rfl) zO (Kb _) ?_
 intro v' w4 Tb Va Cc;refine ⟨fun _=>zED Va yy (fun b hb=>(HVF.out b).2 (by rw [<- ij.out];exact hb)),?_⟩
 refine zPU ?_
 have JF:=(P4.out.blk.grown Va (fun e=>by rw [ij.out] at e;exact HX.out.1 e.symm)).frozen
 have hcg4:=(P4.out.blk.grown Va (fun e=>by rw [ij.out] at e;exact HX.out.1 e.symm)).cell
 obtain ⟨Av,cv,hv',-⟩:=Ud Tb;subst hv';have xh:=zH (zIf OK1.out (by have:=P4.out;rw [ij.out] at this;exact this) HF.out HX.out hgk HLc.out (eb:=Wc.1.size) hbN yy Ma pV (FK HEL.out) (by have:=Tb;rw [ij.out] at this;exact this) (by have:=Va;rw [ij.out] at this;exact this) (by rw [<- ij.out];exact Cc) M4)
 rw [<- ij.out] at xh;clear Tb Va Cc Ra P4 Kk pV M4 ea yy;have ea:=(Bc VF N).refl w4;refine ak (Bc VF N) rfl rfl rfl ?_;go_simp
 try refine And.intro (fun _=>(Bc VF N).refl _) ?_
 refine zPU ?_
 refine oY ?_;refine ak (Bc VF N) rfl rfl rfl ?_;go_simp;refine ⟨fun h=>Bool.noConfusion h,?_⟩
 refine zPU ?_
 refine zB ?_;go_wp2
 go_end0
 exact ⟨rfl,xh.out⟩
theorem idx_h0 {w:vw} {a b c:vx}:(Instr.index 298 (vf #[a,b,c]) (vd vq 0)).run prog w= .ok a w :=
 LR (i:=0) underlying298 EY zA5 zO rfl
theorem mW (label:Nat) (A:Option vy) (n c:Nat) (l:List Nat) (w:vw) (hl:RWd w [ve A n c] l) (Sa:0<l.length) (hlen:l.length <= 1000000) :
  vB prog 205 #[vd vn 18446744069414584321,vd vn label,ve A n c] w fun e w'=>e=vl (vd vn (Lo label l:Int)) /\ vA w.1.size w w':=by
 have HV:=zH (fun w=>zp Bb w bR)
 have zE:=zH (fun w' (hb:vA w.1.size w w')=>D9 Bb label A n c l w' bR (Ab hb hl) Sa hlen)
 have HE:=zH (show Lo label l=(Pv Bb label l).a from rfl)
 have hidx:=fun w a b c=>idx_h0 (w:=w) (a:=a) (b:=b) (c:=c)
 clear hl Sa hlen;generalize Lo label l=z at *;generalize Pv Bb label l=s at *;unfold fv Bb at *;go_enter func205,ntmps205
 go_wp2_with fail
 refine (HV.out _).mono ?_;rintro e w1 ⟨rfl,Ia⟩;go_wp2_with fail
 refine (zE.out _ Ia).mono ?_;rintro e w2 ⟨rfl,Ba⟩;have da:=ma Ia Ba;have ev:s.val=vf #[vd vn s.a,vd vn s.b,vd vn s.c]:=rfl;rw [ev];go_wp2;go_ret
 exact ⟨by rw [HE.out];rfl,da⟩
theorem YE (O:Da) (lab:Nat) (el:List Nat) (a:Nat):(jn O lab el a).qs=O.qs++[⟨lab,el,a⟩]:=by simp only [jn]
theorem F0 (i:Bool) (s d:Nat) (q:List Qn):(iy ⟨i,s,d,q⟩).qs=q:=rfl
theorem BM (O:Da):(iy O).qs=O.qs:=by
 cases O with
 | mk i s d q=>exact F0 i s d q
def Bh (O:Da) (lab:Nat) (el:List Nat) (a:Nat):Prop:=Kc el=true /\ ze O.qs lab el=vE a
theorem C3 {qs:List Qn} {q:Qn} {lab:Nat} {el:List Nat} {a:Nat} (h:ze qs lab el=vE a):ze (qs++[q]) lab el=vE a:=by
 unfold ze at h |-;rw [List.find?_append];cases hc:qs.find? (Nn lab el) with
 | none=>rw [hc] at h;cases h
 | some x=>rw [hc] at h;exact h
theorem G3 {qs:List Qn} {lab:Nat} {el:List Nat} {a:Nat} (h:ze qs lab el=vD):ze (qs++[⟨lab,el,a⟩]) lab el=vE a:=by
 unfold ze at h |-;rw [Option.map_eq_none_iff] at h;rw [List.find?_append,h];simp [Nn]
theorem lZ {O:Da} {lab:Nat} {el:List Nat} {a:Nat} (h:Bh O lab el a):ld O lab el=O /\ De O lab el=a /\ Xl O lab el=vE a:=by
 obtain ⟨h1,h2⟩:=h;simp [ld,De,Xl,h1,h2]
theorem EU (O:Da) (lab:Nat) {el:List Nat} (he:Kc el=true):Bh (ld O lab el) lab el (De O lab el):=by
 refine ⟨he,?_⟩;unfold ld De;rw [Ka he,Ka he];cases hf:ze O.qs lab el with
 | some a=>exact hf
 | none =>
  cases O.ideal
  ·simp only [Bool.false_eq_true,if_false]
   exact G3 hf
  ·simp only [if_true]
   rw [YE,BM];exact G3 hf
theorem mZ {O:Da} {lab:Nat} {el:List Nat} {a:Nat} (h:Bh O lab el a) (qv:Nat) (el':List Nat):Bh (ld O qv el') lab el a:=by
 refine ⟨h.1,?_⟩;unfold ld;split
 ·split
  ·exact h.2
  ·split
   ·rw [YE,BM];exact C3 h.2
   ·rw [YE];exact C3 h.2
 ·exact h.2
theorem JT (z:Nat):dMix z<Bb:=mc _ zD
def yf (O:Da):Prop:=∀ q∈O.qs,q.ans<Bb
theorem OrcOk.ans {O:Da} (h:OrcOk O):yf O:=fun q hq=>(h.qs q hq).ans
theorem mw {O:Da} (h:yf O) (lab:Nat) (el:List Nat):De O lab el<Bb:=by
 unfold De;split
 ·split
  ·rename_i a ha
   unfold ze at ha;cases hc:O.qs.find? (Nn lab el) with
   | none=>rw [hc] at ha;cases ha
   | some x =>
    rw [hc] at ha
    injection ha with ha
    rw [<- ha];exact h x (List.mem_of_find?_eq_some hc)
  ·split
   ·exact JT _
   ·exact gO _ _
 ·decide
theorem TM {O:Da} (h:yf O) (lab:Nat) (el:List Nat):yf (ld O lab el):=by
 unfold ld;split
 ·split
  ·exact h
  ·split
   ·intro q hq
    rw [YE,BM] at hq;rcases jq.1 hq with hq | hq
    ·exact h q hq
    ·rw [Zo.1 hq];exact JT _
   ·intro q hq
    rw [YE] at hq;rcases jq.1 hq with hq | hq
    ·exact h q hq
    ·rw [Zo.1 hq];exact gO lab el
 ·exact h
def dc (O:Da) (lab:Nat) (qs:List (List Nat)):Da:=qs.foldl (fun o q=>ld o lab q) O
def Oe (O:Da) (lab:Nat) (qs:List (List Nat)):List Nat:=(List.range qs.length).map fun i=>De (dc O lab (qs.take i)) lab (qs.getD i [])
theorem lT (O:Da) (lab:Nat) (qs:List (List Nat)) (i:Nat) (h:i<qs.length):dc O lab (qs.take (i+1))=ld (dc O lab (qs.take i)) lab (qs.getD i []):=by
 unfold dc;rw [Lv h,List.foldl_append,Fb,Qb h]
 rfl
theorem fZ (O:Da) (lab:Nat) (qs:List (List Nat)):dc O lab (qs.take qs.length)=dc O lab qs:=by rw [qt]
theorem Wy (O:Da) (lab:Nat) (qs:List (List Nat)):(Oe O lab qs).length=qs.length:=by simp [Oe]
theorem mT (O:Da) (lab:Nat) (qs:List (List Nat)) (i:Nat) (h:i<qs.length):(Oe O lab qs).getD i 0=De (dc O lab (qs.take i)) lab (qs.getD i []):=by
 simp [Oe,Fb,h]
theorem oT {O:Da} {lab:Nat} {el:List Nat} {a:Nat} (h:Bh O lab el a) (qv:Nat):∀ qs:List (List Nat),Bh (dc O qv qs) lab el a:=by
 intro qs;unfold dc
 induction qs generalizing O with
 | nil=>exact h
 | cons q r ih=>exact ih (mZ h qv q)
theorem zCJ (O:Da) (lab:Nat) (a b:List (List Nat)):dc O lab (a++b)=dc (dc O lab a) lab b:=by simp [dc]
theorem gZ (O:Da) (lab:Nat) (qs:List (List Nat)) (hq:∀ q∈qs,Kc q=true) (i:Nat) (h:i<qs.length):Bh (dc O lab qs) lab (qs.getD i []) ((Oe O lab qs).getD i 0):=by
 rw [mT O lab qs i h];have e:qs=qs.take (i+1)++qs.drop (i+1):=(List.take_append_drop _ _).symm;have hm:qs.getD i []∈qs:=by rw [Fb,Qb h];exact He h
 have h1:=EU (dc O lab (qs.take i)) lab (hq _ hm);rw [<- lT O lab qs i h] at h1;have h2:=oT h1 lab (qs.drop (i+1));rw [<- zCJ,<- e] at h2;exact h2
theorem xK {O:Da} (h:yf O) (lab:Nat):∀ qs:List (List Nat),yf (dc O lab qs):=by
 intro qs;unfold dc
 induction qs generalizing O with
 | nil=>exact h
 | cons q r ih=>exact ih (TM h lab q)
theorem yK {O:Da} (h:yf O) (lab:Nat) (qs:List (List Nat)):∀ x∈Oe O lab qs,x<Bb:=fun x hx=>by
 simp only [Oe,Od] at hx;obtain ⟨k,_,rfl⟩:=hx;exact mw (xK h _ _) _ _
def Vd (l:List Nat):List (List Nat):=(List.range (l.length / 2)).map fun i=>[l.getD (2*i) 0,l.getD (2*i+1) 0]
theorem lL (l:List Nat):(Vd l).length=l.length / 2:=by simp [Vd]
theorem W9 (l:List Nat) (i:Nat) (h:i<l.length / 2):(Vd l).getD i []=[l.getD (2*i) 0,l.getD (2*i+1) 0]:=by simp [Vd,Fb,h]
def Tg:Nat -> Da -> List Nat -> List (List Nat)
 | 0,_,l=>[l]
 | d+1,O,l=>l :: Tg d (dc O 17 (Vd l)) (Oe O 17 (Vd l))
def xz:Nat -> Da -> List Nat -> Da
 | 0,O,_=>O
 | d+1,O,l=>xz d (dc O 17 (Vd l)) (Oe O 17 (Vd l))
theorem pT {lab:Nat} {el:List Nat} {a:Nat}:∀ (d:Nat) {O:Da} (l:List Nat),Bh O lab el a -> Bh (xz d O l) lab el a
 | 0,_,_,h=>h
 | d+1,_,_,h=>pT d _ (oT h 17 _)
def Tp (ls:List (List Nat)):Nat:=(ls.getLastD []).getD 0 0
def Vi:List (List Nat) -> Nat -> List Nat
 | [],_=>[]
 | [_],_=>[]
 | l :: m :: r,i=>l.getD (i ^^^ 1) 0 :: Vi (m :: r) (i / 2)
def tj (O:Da) (lab:Nat) (el:List Nat):Option Nat:=if O.ideal then Xl O lab el else vE (De O lab el)
def Hf (O:Da) (lab:Nat) (el:List Nat):Da:=if O.ideal then O else ld O lab el
def Pm:List Nat -> Da -> Nat -> List Nat -> Nat -> Option Nat
 | [],O,lab,el,_=>tj O lab el
 | p :: r,O,lab,el,i=>(tj O lab el).bind fun a=>Pm r (Hf O lab el) 17 (if i%2=1 then [p,a] else [a,p]) (i / 2)
def Hj:List Nat -> Da -> Nat -> List Nat -> Nat -> Da
 | [],O,lab,el,_=>Hf O lab el
 | p :: r,O,lab,el,i=>match tj O lab el with | some a=>Hj r (Hf O lab el) 17 (if i%2=1 then [p,a] else [a,p]) (i / 2) | none=>Hf O lab el
theorem kZ {O:Da} {lab:Nat} {el:List Nat} {a:Nat} (h:Bh O lab el a):tj O lab el=vE a /\ Hf O lab el=O:=by
 obtain ⟨h1,h2,h3⟩:=lZ h;unfold tj Hf;cases O.ideal
 ·simp [h1,h2]
 ·simp [h3]
theorem zCg (j:Nat):2*j ^^^ 1=2*j+1:=by
 have:(2*j+1) ^^^ 1=2*j:=by
  apply Nat.eq_of_testBit_eq
  intro i;rcases i with _ | i
  ·simp [Nat.testBit_zero]
  ·rw [Nat.testBit_xor,Nat.testBit_succ,Nat.testBit_succ,Nat.testBit_succ,show (2*j+1) / 2=j by omega,show 2*j / 2=j by omega]
   simp
 rw [<- this,Nat.xor_assoc,Nat.xor_self,Nat.xor_zero,this]
theorem zJ9 (j:Nat):(2*j+1) ^^^ 1=2*j:=by rw [<- zCg j,Nat.xor_assoc,Nat.xor_self,Nat.xor_zero]
theorem zBU {T:Da}:∀ (d:Nat) (O:Da) (l:List Nat) (lab:Nat) (el:List Nat) (i:Nat),l.length=2^d -> (∀ x∈l,x<Bb) -> (∀ lab el a,Bh (xz d O l) lab el a -> Bh T lab el a) -> yf O -> i<l.length ->
  Bh T lab el (l.getD i 0) -> Pm (Vi (Tg d O l) i) T lab el i=vE (Tp (Tg d O l)) /\ Hj (Vi (Tg d O l) i) T lab el i=T
 | 0,O,l,lab,el,i,hl,_,_,_,hi,h=>by
  have:i=0:=by simp at hl;omega
  subst this;obtain ⟨h1,h2⟩:=kZ h;exact ⟨by simp [Tg,Vi,Pm,h1,Tp],by simp [Tg,Vi,Hj,h2]⟩
 | d+1,O,l,lab,el,i,hl,ta,hT,hV,hi,h=>by
  have e2:l.length / 2=2^d:=by rw [hl,Sf];omega
  have af:(Oe O 17 (Vd l)).length=2^d:=by rw [Wy,lL,e2]
  have QI:∀ k,l.getD k 0<Bb:=fun k=>by
   rw [Fb];rcases Wg k l.length with h1 | h1
   ·rw [Qb h1];exact ta _ (He h1)
   ·rw [oo h1];show 0<Bb;decide
  have hq:∀ q∈Vd l,Kc q=true:=by
   intro q hq;simp only [Vd,Od] at hq;obtain ⟨k,_,rfl⟩:=hq;simp only [Kc,List.all_cons,List.all_nil,Bool.and_true,Vb,yo];exact ⟨QI _,QI _⟩
  have hj:i / 2<l.length / 2:=by
   rw [e2];rw [hl,Sf] at hi;omega
  have ha:=gZ O 17 (Vd l) hq (i / 2) (by rw [lL];exact hj)
  rw [W9 l _ hj] at ha;have ha2:=hT _ _ _ (pT d (Oe O 17 (Vd l)) ha);have ih:=zBU d (dc O 17 (Vd l)) (Oe O 17 (Vd l)) 17 [l.getD (2*(i / 2)) 0,l.getD (2*(i / 2)+1) 0] (i / 2) af (yK hV 17 _) hT (xK hV 17 _) (by rw [af,<- e2];exact hj) ha2
  obtain ⟨h1,h2⟩:=kZ h;have hcons:∃ m r,Tg d (dc O 17 (Vd l)) (Oe O 17 (Vd l))=m :: r:=by cases d <;> exact ⟨_,_,rfl⟩
  obtain ⟨m,r,hmr⟩:=hcons;have iD:Tp (Tg (d+1) O l)=Tp (m :: r):=by simp [Tg,Tp,hmr]
  have hpath:Vi (Tg (d+1) O l) i=l.getD (i ^^^ 1) 0 :: Vi (m :: r) (i / 2):=by simp [Tg,hmr,Vi]
  rw [hmr] at ih;have Bi:(if i%2=1 then [l.getD (i ^^^ 1) 0,l.getD i 0] else [l.getD i 0,l.getD (i ^^^ 1) 0])=[l.getD (2*(i / 2)) 0,l.getD (2*(i / 2)+1) 0]:=by
   by_cases h3:i%2=1
   ·have e:i=2*(i / 2)+1:=by omega
    have e3:i ^^^ 1=2*(i / 2):=by
     have:=zJ9 (i / 2);rw [show 2*(i / 2)+1=i by omega] at this
     exact this
    rw [Ka h3,e3,<- e]
   ·have e:i=2*(i / 2):=by omega
    have e3:i ^^^ 1=2*(i / 2)+1:=by
     have:=zCg (i / 2);rw [show 2*(i / 2)=i by omega] at this
     rw [this];omega
    rw [ya h3,e3,<- e]
  rw [iD,hpath];refine ⟨?_,?_⟩
  ·simp only [Pm,h1,h2,Option.bind_some,Bi]
   exact ih.1
  ·simp only [Hj,h1,h2,Bi]
   exact ih.2
theorem zEQ {O:Da} {lab:Nat} {l:List Nat} (h:Kc l=false):De O lab l=0 /\ ld O lab l=O:=by
 unfold De ld;simp only [h,Bool.false_eq_true,if_false,and_self]
theorem zES {O:Da} {lab a:Nat} {l:List Nat} (h:Kc l=true) (hf:ze O.qs lab l=vE a):De O lab l=a /\ ld O lab l=O:=by
 unfold De ld;simp only [h,hf,if_true,and_self]
theorem zEP {O:Da} {lab:Nat} {l:List Nat} (h:Kc l=true) (hf:ze O.qs lab l=vD) (hi:O.ideal=true):De O lab l=oC O /\ ld O lab l=jn (iy O) lab l (oC O):=by
 unfold De ld;simp only [h,hf,hi,if_true,and_self]
theorem zER {O:Da} {lab:Nat} {l:List Nat} (h:Kc l=true) (hf:ze O.qs lab l=vD) (hi:O.ideal=false):De O lab l=Lo lab l /\ ld O lab l=jn O lab l (Lo lab l):=by
 unfold De ld;simp only [h,hf,hi,if_true,Bool.false_eq_true,if_false,and_self]
theorem zCh (w:vw):(zeroValue 3).run prog w= .ok (vd vq 0) w:=by kernel_rfl
theorem LQ {w:vw} {g:Nat} {O:Da} {F:Nat -> Prop} {v:vx} {cs:List vx} {km sm pm:Nat} {E:Nat -> Prop} (h:OrcIn w g O F v cs km sm pm E) {lab:Nat} {l:List Nat} (Lg:lab<18446744073709551616) (hl:Kc l=true) (hlen:l.length <= 1000000) :
  (∃ c:Int,(Instr.lookup 117 (.map (vE km)) (.string (S (Qg (lab :: l)))) true).run prog w= .ok (.tuple #[vd vq c, .bool (ze O.qs lab l).isSome]) w /\
   ∀ a,ze O.qs lab l=vE a -> ∃ (i:Nat) (gq:Nat) (d:Nat),c=(i:Int) /\ i<O.qs.length /\ v=ve (vE ⟨gq,0,vD⟩) O.qs.length d /\ w.cell? ⟨gq,i*3+2,vD⟩=vE (vd vn a) /\ gq<w.1.size):=by
 have hk:=AV lab l hlen;obtain ⟨x,ps,Tc,hx⟩:=h.map.look_ok FV underlying117 (zCh w) (plainElem_int Hu zD) hk;obtain ⟨c,rfl,hc,-⟩:=plainElem_int_inv Hu hx;rw [D6 Lg (FK hl) h.ok.qs] at Tc;refine ⟨c,Tc,fun a ha=>?_⟩
 obtain ⟨i,q,h1,h2,h3⟩:=zFg Lg (FK hl) h.ok.qs h.ok.apart a ha;have hi:i<O.qs.length:=by
  rcases Wg i O.qs.length with e | e
  ·exact e
  ·rw [oo e] at h1;cases h1
 rw [h3] at hc;have qA:c=(i:Int):=by
  have:=congrArg Prod.fst hc;simp at this
  exact this.symm
 obtain ⟨h4,h5,-⟩:=h.rows.2 i q h1;rcases h.own.2 with ⟨rfl,h0⟩ | ⟨gq,cap,cur,hv,-,hh,-⟩
 ·omega
 ·refine ⟨i,gq,cap,qA,hi,hv,?_,(ru.1 hh).1⟩
  have:=h.own.cells (g:=gq) (by rw [hv];rfl) (i*3+2) _ h5
  rw [h2] at this
  simpa [Addr.add] using this
def litI (d:DataW Unit):Int:=match d with | .lit (.int _ c)=>c | _=>0
def mL (O:Da) (lab:Nat) (l:List Nat):Int:=litI ((jv O.qs).atKey (Km lab l) (.lit (.int vq 0)))
theorem G7 {w:vw} {g:Nat} {O:Da} {F:Nat -> Prop} {v:vx} {cs:List vx} {km sm pm:Nat} {E:Nat -> Prop} (h:OrcIn w g O F v cs km sm pm E) {lab:Nat} {l:List Nat} (Lg:lab<18446744073709551616) (hl:Kc l=true) (hlen:l.length <= 1000000) :
  (Instr.lookup 117 (.map (vE km)) (.string (S (Qg (lab :: l)))) true).run prog w= .ok (.tuple #[vd vq (mL O lab l), .bool (ze O.qs lab l).isSome]) w:=by
 have hk:=AV lab l hlen;obtain ⟨x,ps,Tc,hx⟩:=h.map.look_ok FV underlying117 (zCh w) (plainElem_int Hu zD) hk;obtain ⟨c,rfl,hc,-⟩:=plainElem_int_inv Hu hx;rw [D6 Lg (FK hl) h.ok.qs] at Tc;have:mL O lab l=c:=by
  unfold mL;rw [show (jv O.qs).atKey (Km lab l) (.lit (.int vq 0))= .lit (.int vq c) from congrArg Prod.fst hc]
  rfl
 rw [this];exact Tc
theorem zFw {w:vw} {g:Nat} {O:Da} {F:Nat -> Prop} {v:vx} {cs:List vx} {km sm pm:Nat} {E:Nat -> Prop} (h:OrcIn w g O F v cs km sm pm E) {lab:Nat} {l:List Nat} (Lg:lab<18446744073709551616) (hl:Kc l=true) (hlen:l.length <= 1000000) :
  ∀ a,ze O.qs lab l=vE a -> ∃ (i:Nat) (gq:Nat) (d:Nat),mL O lab l=(i:Int) /\ i<O.qs.length /\ v=ve (vE ⟨gq,0,vD⟩) O.qs.length d /\ w.cell? ⟨gq,i*3+2,vD⟩=vE (vd vn a) /\ gq<w.1.size:=fun a ha=>by
 obtain ⟨c,Tc,hf⟩:=LQ h Lg hl hlen;obtain ⟨i,gq,d,h1,h2⟩:=hf a ha;refine ⟨i,gq,d,?_,h2⟩;have:=G7 h Lg hl hlen;rw [Tc] at this;simp at this
 rw [<- this,h1]
theorem zHl {O:Da} {lab:Nat} {l:List Nat} (h:Kc l=false):Xl O lab l=vD:=by
 unfold Xl;simp only [h,Bool.false_eq_true,if_false]
theorem zHn {O:Da} {lab a:Nat} {l:List Nat} (h:Kc l=true) (hf:ze O.qs lab l=vE a):Xl O lab l=vE a:=by
 unfold Xl;simp only [h,hf,if_true]
theorem zHk {O:Da} {lab:Nat} {l:List Nat} (h:Kc l=true) (hf:ze O.qs lab l=vD) (hi:O.ideal=true):Xl O lab l=vD:=by
 unfold Xl;simp only [h,hf,hi,if_true]
theorem zHm {O:Da} {lab:Nat} {l:List Nat} (h:Kc l=true) (hf:ze O.qs lab l=vD) (hi:O.ideal=false):Xl O lab l=vE (Lo lab l):=by
 unfold Xl;simp only [h,hf,hi,if_true,Bool.false_eq_true,if_false]
theorem o0 (O:Da):(iy O).ideal=O.ideal:=by
 cases O with
 | mk i s d q=>exact zDP i s d q
where
 zDP (i:Bool) (s d:Nat) (q:List Qn):(iy ⟨i,s,d,q⟩).ideal=i:=rfl
theorem UM {w:vw} {g:Nat} {O:Da} {F:Nat -> Prop} (h:OrcAt w g O F) (lab:Nat) (l:List Nat) (A:Option vy) (n c:Nat) {K:Nat -> Prop} (hl:Ye K w (ve A n c) l) (hK:∀ b,K b -> ¬F b)
  (Lg:lab<18446744073709551616) (hlen:l.length <= 1000000) (Sa:0<l.length \/ O.ideal=true) (hn:O.qs.length <= 1000000) (hd:O.dr <= 1000000) :
  vB prog 137 #[.pointer (vE ⟨g,0,vD⟩),vd vn lab,ve A n c] w fun e w'=>e=vl (vd vn (De O lab l:Int)) /\ ∃ F',OrcAt w' g (ld O lab l) F' /\ Moved F F' w w':=by
 have tu:=zH (D8 A n c l w (Gk hl));obtain ⟨v,cs,km,sm,pm,E,Pc⟩:=h;cases he:Kc l
 ·rw [he] at tu
  obtain ⟨e1,e2⟩:=zEQ (O:=O) (lab:=lab) he;rw [e1,e2];have xh:=zH (show ∃ F',OrcAt w g O F' /\ Moved F F' w w from ⟨F,⟨v,cs,km,sm,pm,E,Pc⟩,Moved.refl⟩)
  clear hl hK Sa hn hd Pc he e1 e2;go_enter func137,ntmps137
  go_wp2_with fail
  refine tu.out.mono ?_;rintro e w1 ⟨rfl,rfl⟩;go_wp2_with fail
  go_ret
  exact ⟨rfl,xh.out⟩
 ·rw [he] at tu
  have HE:=zH he;have HI:=zH Pc;have HL:=zH hl;have HK:=zH hK;have Ff:=zH hlen;have HN:=zH hn;have ZK:=zH Lg;have uu:=zH (fun w1 (k:Blk w1 w.1.size 22 #[vd vn lab]) (hb:vA w.1.size w w1)=>show vB prog 204 #[ve A n c,ve (vE ⟨w.1.size,0,vD⟩) 1 1] w1 fun e w'=>e=vl (.string (S (Qg (lab :: l)))) /\ vA w1.1.size w1 w' from Y5 A (vE ⟨w.1.size,0,vD⟩) n c 1 1 l [lab] w1 (Ab hb (Gk hl)) (GJ (l:=[lab]) k (by simp;exact Lg) (by simp [maxLen])) hlen zS)
  obtain ⟨ue,da⟩:=zN w 22 #[vd vn lab];clear he hl hK Pc hlen hn;cases hf:ze O.qs lab l with
  | some a =>
   obtain ⟨e1,e2⟩:=zES (O:=O) (lab:=lab) HE.out hf;rw [e1,e2];have HF:=zH hf;clear e1 e2 hf Sa hd;go_enter func137,ntmps137
   go_wp2_with fail
   refine tu.out.mono ?_;rintro e w1 ⟨rfl,rfl⟩;go_wp2_with fail
   generalize w.alloc _=w1 at ue da |-;refine (uu.out w1 ue da).mono ?_;rintro e w2 ⟨rfl,Ba⟩;replace da:=ma da Ba;have H2:=zH (HI.out.below da);have jm:=zH (Jn HL.out da);have M2:=Zc (F:=F) da;obtain ⟨x,Tc,VI⟩:=LQ H2.out ZK.out HE.out Ff.out;have hc:=H2.out.blk.cell;clear Ba da ue uu;rw [HF.out] at Tc VI;obtain ⟨i,gq,d,rfl,hi,rfl,Gp,hgq⟩:=VI a rfl;have xh:=zH (show ∃ F',OrcAt w2 g O F' /\ Moved F F' w w2 from ⟨F,⟨_,cs,km,sm,pm,E,H2.out⟩,M2⟩)
   obtain ⟨nq,bD⟩:=zEX (O.qs.length);rw [<- bD] at hi hc;have g1:(0:Int)<=i:=by omega
   have g2:(i:Int)<nq:=by omega
   clear VI bD M2;simp only [Option.isSome] at Tc;go_wp2_with fail
   go_ret
   exact ⟨rfl,xh.out⟩
  | none =>
   have HF:=zH hf;cases hi:O.ideal
   ·obtain ⟨e1,e2⟩:=zER (O:=O) (lab:=lab) HE.out hf hi
    rw [e1,e2];have HH:=zH hi;have dJ:0<l.length:=by
     rcases Sa with e | e
     ·exact e
     ·rw [hi] at e;cases e
    have EE:=zH dJ;clear e1 e2 hf hi Sa dJ hd;go_enter func137,ntmps137
    go_wp2_with fail
    refine tu.out.mono ?_;rintro e w1 ⟨rfl,rfl⟩;go_wp2_with fail
    generalize w.alloc _=w1 at ue da |-;refine (uu.out w1 ue da).mono ?_;rintro e w2 ⟨rfl,Ba⟩;replace da:=ma da Ba;have H2:=zH (HI.out.below da);have jm:=zH (Jn HL.out da);have M2:=Zc (F:=F) da;obtain ⟨x,Tc,VI⟩:=LQ H2.out ZK.out HE.out Ff.out;have hc:=H2.out.blk.cell;clear Ba da ue uu;rw [HF.out] at Tc;rw [HH.out] at hc;clear VI;simp only [Option.isSome] at Tc;go_wp2_with fail
    refine (mW lab A n c l w2 (Gk jm.out) EE.out Ff.out).mono ?_;rintro e w3 ⟨rfl,Ta⟩;have H3:=zH (H2.out.below Ta);have HL3:=zH (Jn jm.out Ta);have M3:=M2.trans (Zc (F:=F) Ta);clear hc Tc Ta M2;go_wp2_with fail
    refine (zAD H3.out lab l (Lo lab l) A n c HL3.out HK.out ZK.out HE.out (gO lab l) Ff.out HN.out HF.out (fun _=>rfl)).mono ?_
    rintro e w4 ⟨rfl,F',h4,m4⟩;have xh:=zH (show ∃ F',OrcAt w4 g (jn O lab l (Lo lab l)) F' /\ Moved F F' w w4 from ⟨F',h4,M3.trans m4⟩)
    clear h4 m4 M3;go_wp2;go_ret
    exact ⟨rfl,xh.out⟩
   ·obtain ⟨e1,e2⟩:=zEP (O:=O) (lab:=lab) HE.out hf hi
    rw [e1,e2];have HH:=zH hi;have HD:=zH hd;clear e1 e2 hf hi Sa hd;go_enter func137,ntmps137
    go_wp2_with fail
    refine tu.out.mono ?_;rintro e w1 ⟨rfl,rfl⟩;go_wp2_with fail
    generalize w.alloc _=w1 at ue da |-;refine (uu.out w1 ue da).mono ?_;rintro e w2 ⟨rfl,Ba⟩;replace da:=ma da Ba;have H2:=zH (HI.out.below da);have jm:=zH (Jn HL.out da);have M2:=Zc (F:=F) da;obtain ⟨x,Tc,VI⟩:=LQ H2.out ZK.out HE.out Ff.out;have hc:=H2.out.blk.cell;clear Ba da ue uu;rw [HF.out] at Tc;rw [HH.out] at hc;clear VI;simp only [Option.isSome] at Tc;go_wp2_with fail
    refine (zDN H2.out HH.out (zQ HD.out)).mono ?_;rintro e w3 ⟨rfl,h3,ah⟩;have H3:=zH h3;have HL3:=zH (Vw jm.out ah.size fun b hb hl=>ah.block b hl (fun e=>HK.out b hb (by rw [Ya e];exact HI.out.fg)))
    have M3:=M2.trans (CN (F:=F) ah (fun b hb=>by rw [<- Ya hb];exact HI.out.fg))
    clear hc Tc ah M2 h3;go_wp2_with fail
    refine (zAD H3.out lab l (oC O) A n c HL3.out HK.out ZK.out HE.out (JT _) Ff.out (by rw [BM];exact HN.out) (by rw [BM];exact HF.out) (fun e=>by rw [o0,HH.out] at e;cases e)).mono ?_
    rintro e w4 ⟨rfl,F',h4,m4⟩;have xh:=zH (show ∃ F',OrcAt w4 g (jn (iy O) lab l (oC O)) F' /\ Moved F F' w w4 from ⟨F',h4,M3.trans m4⟩)
    clear h4 m4 M3;go_wp2;go_ret
    exact ⟨rfl,xh.out⟩
theorem xQ {w u:vw} (h:vA w.drew.1.size w.drew u):vA w.1.size w u:=⟨h.os,h.tape,h.output,h.size,h.block⟩
theorem pY {a b:Prop} (h:a) (s:Imp a b:=by
 (repeat ((first | (apply Imp.via (xE (oa) rfl rfl (fun _ _ _ h=>h))) | (apply Imp.via (uE (v:=?_) (oa) rfl rfl (fun _ _ _ h=>h) ?hr);case hr=>(intro w' hR;(first | have qn:=iL ((oa).trans _ _ _ ea hR) | skip);have Tc:=oH.out _ (xQ (oa.trans _ _ _ ea hR));go_simp;try with_reducible rfl)));simp only [vG,zLa,zLb,zLc]))
 exact Imp.rfl'):b:=s h
theorem xW {w:vw} {g:Nat} {O:Da} {F:Nat -> Prop} (h:OrcAt w g O F) (lab:Nat) (l:List Nat) (A:Option vy) (n c:Nat) (hl:RWd w [ve A n c] l)
  (Lg:lab<18446744073709551616) (hlen:l.length <= 1000000) (Sa:0<l.length \/ O.ideal=true \/ (ze O.qs lab l).isSome=true) (hn:O.qs.length <= 1000000) :
  vB prog 109 #[.pointer (vE ⟨g,0,vD⟩),vd vn lab,ve A n c] w fun e w'=>e=vl (.tuple #[vd vn (((Xl O lab l).getD 0:Nat):Int), .bool (Xl O lab l).isSome]) /\ vA w.1.size w w':=by
 have tu:=zH (D8 A n c l w hl);obtain ⟨v,cs,km,sm,pm,E,Pc⟩:=h;cases he:Kc l
 ·rw [he] at tu
  rw [zHl (O:=O) (lab:=lab) he];clear hl Sa hn Pc he;go_enter func109,ntmps109
  go_wp2_with fail
  refine tu.out.mono ?_;rintro e w1 ⟨rfl,rfl⟩;go_wp2_with fail
  go_ret2
  exact ⟨rfl,tb _ _⟩
 ·rw [he] at tu
  have HE:=zH he;have HI:=zH Pc;have HL:=zH hl;have Ff:=zH hlen;have HN:=zH hn;have ZK:=zH Lg;have uu:=zH (fun w1 b (k:Blk w1 b 22 #[vd vn lab]) (hb:vA w.1.size w w1)=>show vB prog 204 #[ve A n c,ve (vE ⟨b,0,vD⟩) 1 1] w1 fun e w'=>e=vl (.string (S (Qg (lab :: l)))) /\ vA w1.1.size w1 w' from Y5 A (vE ⟨b,0,vD⟩) n c 1 1 l [lab] w1 (Ab hb hl) (GJ (l:=[lab]) k (by simp;exact Lg) (by simp [maxLen])) hlen zS)
  have oH:=zH (fun u (hb:vA w.1.size w u)=>G7 (Pc.below hb) Lg he hlen)
  have SU:=zH Pc;have Zg:=Pc.blk.cell;have zq:=Pc.blk.lt;have HFD:=zH (zFw Pc Lg he hlen);clear he hl Pc hlen hn;cases hf:ze O.qs lab l with
  | some a =>
   rw [zHn (O:=O) (lab:=lab) HE.out hf];obtain ⟨i,gq,d,qA,hi,rfl,hcq0,hgq⟩:=HFD.out a hf;have oH:=zH (show ∀ u,vA w.1.size w u -> (Instr.lookup 117 (.map (vE km)) (.string (S (Qg (lab :: l)))) true).run prog u= .ok (.tuple #[vd vq i, .bool true]) u from fun u hb=>by have:=oH.out u hb;rw [hf,qA] at this;exact this)
   have HCQ:=zH hcq0;have HI0:=zH hi;clear hf Sa HFD qA hcq0 hi;go_enter func109,ntmps109
   go_wp2_with fail
   refine tu.out.mono ?_;rintro e w1 ⟨rfl,rfl⟩;go_wp2_with fail
   refine zd (Wb) [6,7] [0,1,2,3,4,5,6,7,8,9,10,11,12,13] zK zK ?_;refine Ue (oa) ?_;intro Wc Ja ea;refine Pb ?_;refine Te (oa) rfl rfl rfl ?_;go_simp;refine ⟨(tb _ _).alloc zR _,?_⟩;have da:vA w.1.size w (Wc.alloc (.cells #[vd vn lab] 22)):=by rw [Ja.out];exact (tb w.1.size w.drew).alloc zR _ |> xQ
   have ue:=Blk.new Wc 22 #[vd vn lab];replace ea:=oa.trans _ _ _ ea ((tb Wc.1.size Wc).alloc zR (.cells #[vd vn lab] 22))
   refine zPU ?_
   generalize Wc.alloc _=w1 at ue da ea |-;clear Ja;refine Ic oa rfl rfl rfl ((uu.out w1 _ ue da).mono ?_);rintro e w2 ⟨rfl,Ba⟩;refine ⟨_,rfl,Ba,?_⟩;replace ea:=zM oa ea (Ba);refine zPU ?_;refine pY ?_;refine Hc ?_;have hc:=(SU.out.below (ma da Ba)).blk.cell;replace da:=ma da Ba;clear Ba ue ea Zg zq;have Gp:=(da.cell (p:=⟨gq,i*3+2,vD⟩) hgq).trans HCQ.out;have hi:=HI0.out;obtain ⟨nq,bD⟩:=zEX (O.qs.length);rw [<- bD] at hi hc;have g1:(0:Int)<=i:=by omega
   have g2:(i:Int)<nq:=by omega
   clear bD;go_wp2_with fail
   go_ret2
   exact ⟨rfl,da⟩
  | none =>
   have HF:=zH hf;cases hi:O.ideal
   ·rw [zHm (O:=O) (lab:=lab) HE.out hf hi]
    have oH:=zH (show ∀ u,vA w.1.size w u -> (Instr.lookup 117 (.map (vE km)) (.string (S (Qg (lab :: l)))) true).run prog u= .ok (.tuple #[vd vq (mL O lab l), .bool false]) u from fun u hb=>by have:=oH.out u hb;rw [hf] at this;exact this)
    have HH:=zH hi;have dJ:0<l.length:=by
     rcases Sa with e | e | e
     ·exact e
     ·rw [hi] at e;cases e
     ·rw [hf] at e;cases e
    have EE:=zH dJ;clear hf hi Sa dJ;go_enter func109,ntmps109
    go_wp2_with fail
    refine tu.out.mono ?_;rintro e w1 ⟨rfl,rfl⟩;go_wp2_with fail
    refine zd (Wb) [6,7] [0,1,2,3,4,5,6,7,8,9,10,11,12,13] zK zK ?_;refine Ue (oa) ?_;intro Wc Ja ea;refine Pb ?_;refine Te (oa) rfl rfl rfl ?_;go_simp;refine ⟨(tb _ _).alloc zR _,?_⟩;have da:vA w.1.size w (Wc.alloc (.cells #[vd vn lab] 22)):=by rw [Ja.out];exact (tb w.1.size w.drew).alloc zR _ |> xQ
    have ue:=Blk.new Wc 22 #[vd vn lab];replace ea:=oa.trans _ _ _ ea ((tb Wc.1.size Wc).alloc zR (.cells #[vd vn lab] 22))
    refine zPU ?_
    generalize Wc.alloc _=w1 at ue da ea |-;clear Ja;refine Ic oa rfl rfl rfl ((uu.out w1 _ ue da).mono ?_);rintro e w2 ⟨rfl,Ba⟩;refine ⟨_,rfl,Ba,?_⟩;replace ea:=zM oa ea (Ba);refine zPU ?_;refine pY ?_;refine Hc ?_;have hc:=(SU.out.below (ma da Ba)).blk.cell;replace da:=ma da Ba;clear Ba ue ea Zg zq;rw [HH.out] at hc;go_wp2_with fail
    refine (mW lab A n c l _ (Ab da HL.out) EE.out Ff.out).mono ?_;rintro e w3 ⟨rfl,Ta⟩;replace da:=ma da Ta;go_wp2
    go_ret2
    exact ⟨rfl,da⟩
   ·rw [zHk (O:=O) (lab:=lab) HE.out hf hi]
    have oH:=zH (show ∀ u,vA w.1.size w u -> (Instr.lookup 117 (.map (vE km)) (.string (S (Qg (lab :: l)))) true).run prog u= .ok (.tuple #[vd vq (mL O lab l), .bool false]) u from fun u hb=>by have:=oH.out u hb;rw [hf] at this;exact this)
    have HH:=zH hi;clear hf hi Sa;go_enter func109,ntmps109
    go_wp2_with fail
    refine tu.out.mono ?_;rintro e w1 ⟨rfl,rfl⟩;go_wp2_with fail
    refine zd (Wb) [6,7] [0,1,2,3,4,5,6,7,8,9,10,11,12,13] zK zK ?_;refine Ue (oa) ?_;intro Wc Ja ea;refine Pb ?_;refine Te (oa) rfl rfl rfl ?_;go_simp;refine ⟨(tb _ _).alloc zR _,?_⟩;have da:vA w.1.size w (Wc.alloc (.cells #[vd vn lab] 22)):=by rw [Ja.out];exact (tb w.1.size w.drew).alloc zR _ |> xQ
    have ue:=Blk.new Wc 22 #[vd vn lab];replace ea:=oa.trans _ _ _ ea ((tb Wc.1.size Wc).alloc zR (.cells #[vd vn lab] 22))
    refine zPU ?_
    generalize Wc.alloc _=w1 at ue da ea |-;clear Ja;refine Ic oa rfl rfl rfl ((uu.out w1 _ ue da).mono ?_);rintro e w2 ⟨rfl,Ba⟩;refine ⟨_,rfl,Ba,?_⟩;replace ea:=zM oa ea (Ba);refine zPU ?_;refine pY ?_;refine Hc ?_;have hc:=(SU.out.below (ma da Ba)).blk.cell;replace da:=ma da Ba;clear Ba ue ea Zg zq;rw [HH.out] at hc;go_wp2_with fail
    go_ret2
    exact ⟨rfl,da⟩
theorem zHj {w:vw} {g:Nat} {O:Da} {F:Nat -> Prop} (h:OrcAt w g O F) (lab:Nat) (l:List Nat) (A:Option vy) (n c:Nat) (hl:RWd w [ve A n c] l)
  (Lg:lab<18446744073709551616) (hlen:l.length <= 1000000) (Sa:0<l.length \/ O.ideal=true) (hn:O.qs.length <= 1000000) :
  vB prog 109 #[.pointer (vE ⟨g,0,vD⟩),vd vn lab,ve A n c] w fun e w'=>e=vl (.tuple #[vd vn (((Xl O lab l).getD 0:Nat):Int), .bool (Xl O lab l).isSome]) /\ vA w.1.size w w' :=
 xW h lab l A n c hl Lg hlen (Sa.imp_right .inl) hn
theorem zGy (i:Bool) (s:Nat) (hs:s<18446744073709551616):OrcOk (newO i s):=⟨hs,fun _ h=>(nomatch h),List.Pairwise.nil,fun _ _ h=>(nomatch h)⟩
theorem zF6 (w:vw) :
  vB prog 54 #[] w fun e w'=>∃ g km sm pm F,e=vl (.pointer (vE ⟨g,0,vD⟩)) /\ OrcIn w' g ⟨false,0,0,[]⟩ F (ve vD 0 0) [] km sm pm (fun _=>False) /\ (∀ b,F b -> w.1.size <= b) /\ vA w.1.size w w':=by
 have hmm:=@run_makeMap prog;have hm:=World.ownsMap_made (H:=Unit) w prog 9 (plainElem prog 3);go_enter func54,ntmps54
 go_wp2_with fail
 go_ret
 have Ia:=zA w (.map #[] 0);have Ba:=Ia.alloc (by first | omega | (simp;done) | (simp;omega)) (.map #[] 0)
 have Ta:=Ba.alloc (by first | omega | (simp;done) | (simp;omega)) (.map #[] 0)
 have Db:=Ta.alloc (by first | omega | (simp;done) | (simp;omega)) (.cells #[.bool false,vd vn 0,vd vq 0,ve vD 0 0, .map (vE w.1.size), .map (vE (w.1.size+1)), .map (vE (w.1.size+1+1))] 121)
 have kb:=Blk.new (((w.alloc (.map #[] 0)).alloc (.map #[] 0)).alloc (.map #[] 0)) 121 #[.bool false,vd vn 0,vd vq 0,ve vD 0 0, .map (vE w.1.size), .map (vE (w.1.size+1)), .map (vE (w.1.size+1+1))];have hm4:=((hm.alloc (.map #[] 0)).alloc (.map #[] 0)).alloc (.cells #[.bool false,vd vn 0,vd vq 0,ve vD 0 0, .map (vE w.1.size), .map (vE (w.1.size+1)), .map (vE (w.1.size+1+1))] 121);have jb:(((w.alloc (.map #[] 0)).alloc (.map #[] 0)).alloc (.map #[] 0)).1.size=w.1.size+1+1+1:=by simp
 rw [jb] at kb;generalize (((w.alloc (.map #[] 0)).alloc (.map #[] 0)).alloc (.map #[] 0)).alloc _=w4 at Db kb hm4 |-;have hl:=kb.lt;refine ⟨w.1.size+1+1+1,w.1.size,w.1.size+1,w.1.size+1+1,fun b=>b=w.1.size+1+1+1 \/ b=w.1.size,rfl,?_,fun b h=>zO,Db⟩
 exact ⟨zGy false 0 zD,kb,⟨rfl, .inl ⟨rfl,rfl⟩⟩,zHV _ _,hm4,fun _ h=>h.elim,zO,by simp [Value.ownBlock],by simp [Value.ownBlock], .inl rfl,by simp [Value.ownBlock], .inr rfl,fun _ h=>h.elim,fun b h=>zO⟩
theorem zAC (w:vw) :
  vB prog 24 #[] w fun e w'=>∃ g F,e=vl (.pointer (vE ⟨g,0,vD⟩)) /\ OrcAt w' g ⟨false,0,0,[]⟩ F /\ (∀ b,F b -> w.1.size <= b) /\ vA w.1.size w w':=by
 go_enter func24,ntmps24
 go_wp2_with fail
 refine (zF6 w).mono ?_;rintro e w1 ⟨g,km,sm,pm,F,rfl,h,hF,hb⟩;go_wp2;go_ret
 exact ⟨g,F,rfl,⟨_,_,_,_,_,_,h⟩,hF,hb⟩
theorem U5 {w:vw} {g:Nat} {O:Da} {F:Nat -> Prop} (h:OrcAt w g O F) :
  vB prog 256 #[.pointer (vE ⟨g,0,vD⟩)] w fun e w'=>e=vl (.bool O.ideal) /\ w=w':=by
 obtain ⟨v,cs,km,sm,pm,E,Pc⟩:=h;have hc:=Pc.blk.cell;clear Pc;go_enter func256,ntmps256
 go_wp2_with fail
 go_ret
 exact ⟨rfl,rfl⟩
def dx (n:Nat):Bool:=(List.range 11).any fun d=>2^d == n
theorem zCA:∀ b:Fin 1025,1 <= b.val -> bits .and vq (b.val:Int) ((b.val:Int)-1)=((b.val &&& (b.val-1):Nat):Int):=by decide +kernel
theorem zGe:∀ b:Fin 1025,1 <= b.val -> dx b.val=decide (b.val &&& (b.val-1)=0):=by decide +kernel
theorem A8 {n:Nat} (h:dx n=true):∃ d,d <= 10 /\ n=2^d:=by
 obtain ⟨d,hd,he⟩:=List.any_eq_true.1 h;exact ⟨d,by have:=pj.1 hd;omega,(Dh.1 he).symm⟩
theorem bW {d:Nat} (h:d <= 10):dx (2^d)=true:=List.any_eq_true.2 ⟨d,pj.2 zO,zS⟩
theorem zGc {n:Nat} (h:1024<n):dx n=false:=by
 cases hc:dx n
 ·rfl
 ·obtain ⟨d,hd,rfl⟩:=A8 hc
  have:2^d <= 2^10:=bn zO hd;omega
theorem zGd:dx 0=false:=by decide
theorem uV (n:Nat) (w:vw) :
  vB prog 135 #[vd vq n] w fun e w'=>e=vl (.bool (dx n)) /\ w=w':=by
 by_cases h1:1 <= n
 ·by_cases h2:n <= 1024
  ·have HN:=zH (zGe ⟨n,zO⟩ h1)
   have ha:=zCA ⟨n,zO⟩ h1;simp only at ha;obtain ⟨a,hae⟩:=zEX (n &&& (n-1));rw [<- hae] at ha;have HA:=zH hae;have d1:decide ((1:Int)<=n)=true:=xb zO;have d2:decide ((n:Int)<=1024)=true:=xb zO;have e1:vq.wrap ((n:Int)-1)=(n:Int)-1:=by rw [Bu];omega
   have d3:((a:Int) == 0)=decide (a=0):=by by_cases h:a=0 <;> simp [h]
   obtain ⟨r,hr⟩:=zEX (dx n);have HR:=zH (show decide (a=0)=r by rw [hr,HA.out];exact HN.out.symm)
   rw [<- hr];rw [HR.out] at d3;clear hr HN hae h1 h2;go_enter func135,ntmps135
   go_wp2_with fail
   go_ret
   exact ⟨rfl,rfl⟩
  ·rw [zGc zO]
   have d1:decide ((1:Int)<=n)=true:=xb zO;have d2:decide ((n:Int)<=1024)=false:=db zO;clear h1 h2;go_enter func135,ntmps135
   go_wp2_with fail
   go_ret
   exact ⟨rfl,rfl⟩
 ·obtain rfl:n=0:=by omega
  rw [zGd];clear h1;go_enter func135,ntmps135
  go_wp2_with fail
  go_ret
  exact ⟨rfl,rfl⟩
theorem MQ (A:Option vy) (n c:Nat) (l:List Nat) (w:vw) (hl:RWd w [ve A n c] l) :
  vB prog 136 #[ve A n c] w fun e w'=>e=vl (.bool (Kc l)) /\ w=w':=by
 obtain ⟨rfl,h1,h2,-,Ra⟩:=Ob hl;have gm:=Mm h1 h2;clear hl h1 h2;go_enter func136,ntmps136
 go_wp2_with fail
 go_loop [7] (fun i=>∃ j:Nat,j <= l.length /\ i=vd vq j /\ Hid (Kc (l.take j)=true)) (fun i=>l.length-(intOf i).toNat)
 case atStart=>exact ⟨0,Kb _,rfl,rfl⟩
 case round =>
  obtain ⟨j,hj,rfl,HB⟩:=hrel;by_cases ta:j<l.length
  ·obtain ⟨b,q,rfl,Gb,hc⟩:=Rg Ra ta
   have HL:=zH ta;have g1:(0:Int)<=j:=by omega
   have g2:(j:Int)<l.length:=by omega
   have HN:=zH (fun h=>UY (l:=l) ta h)
   have HY:=zH (fun h=>VY (l:=l) ta HB.out h)
   revert hc HN HY
   generalize l.getD j 0=y;intro hc HN HY;clear Ra;by_cases z:Bb <= y
   ·have HZ:=zH (HN.out z)
    unfold Bb at z;have d1:decide ((18446744069414584321:Int)<=y)=true:=xb zO;clear HN HY;go_wp2;go_ret
    exact ⟨by rw [HZ.out];rfl,rfl⟩
   ·have HZ:=zH (HY.out zO)
    unfold Bb at z;have d1:decide ((18446744069414584321:Int)<=y)=false:=db zO;clear HN HY;go_wp2
    go_round
    case rel=>exact ⟨j+1,zO,by go_num,HZ.out⟩
    case measure=>simp [intOf];omega
  ·have e:j=l.length:=by omega
   have HA:=zH (show Kc l=true by have:=HB.out;rwa [e,qt] at this)
   clear Ra;go_wp2;go_ret
   exact ⟨by rw [HA.out];rfl,rfl⟩
theorem nX (x:Nat) (A:Option vy) (n c:Nat) (l:List Nat) (w:vw) (hl:RWd w [ve A n c] l) (hlen:l.length <= 1000000) :
  vB prog 138 #[vd vn x,ve A n c] w fun e w'=>∃ v,e=vl v /\ w'.ownsRow w.1.size 22 1 v (n+1) (Oa (x :: l)) /\ vA w.1.size w w':=by
 obtain ⟨rfl,h1,h2,ta,Ra⟩:=Ob hl;clear hl ta h1 h2;have da:=zA w (.cells #[vd vn x] 22);have bG:(w.alloc (.cells #[vd vn x] 22)).ownsRow w.1.size 22 1 (ve (vE ⟨w.1.size,0,vD⟩) 1 1) 1 (Oa [x]):=⟨rfl, .inr ⟨w.1.size,1,_,rfl,zR,heap_alloc_new w _,zR,by simp [maxLen],rfl,rfl⟩⟩
 have hrd0:=Ra.below da;go_enter func138,ntmps138
 go_wp2_with (at_builtin;refine Ok rfl _ _ rfl GM rfl bG rfl hrd0 (Lq _) zO (zQ da.size) ?_)
 intro v' w2 Ca Va Cc;go_wp2;go_ret
 exact ⟨_,rfl,by rw [Nat.add_comm];exact BG (a:=[x]) Ca rfl,da.trans (Sp bG Va (zQ da.size))⟩
def fq (K:Nat -> Prop) (w:vw) (v:vx) (ls:List (List Nat)):Prop :=
 ∃ A n c,v=ve A n c /\ ls.length=n /\ n <= c /\ c <= maxLen /\ ∀ (i:Nat) (hi:i<ls.length),∃ b q A1 n1 c1,A=vE ⟨b,q,vD⟩ /\ K b /\ b<w.1.size /\ w.cell? ⟨b,q+i,vD⟩=vE (ve A1 n1 c1) /\ Ye K w (ve A1 n1 c1) ls[i]
section
variable {K K' F F' EB T:Nat -> Prop} {w w':vw} {v:vx} {ls:List (List Nat)}
theorem DV (h:fq K w v ls) (hs:w.1.size <= w'.1.size) (hw:∀ b,K b -> b<w.1.size -> w'.1[b]?=w.1[b]?):fq K w' v ls:=by
 obtain ⟨A,n,c,h1,h2,h3,h4,h5⟩:=h;refine ⟨A,n,c,h1,h2,h3,h4,fun i hi=>?_⟩
 obtain ⟨b,q,A1,n1,c1,e1,e2,e3,e4,e5⟩:=h5 i hi;refine ⟨b,q,A1,n1,c1,e1,e2,zO,?_,Vw e5 hs hw⟩;rw [<- e4];simp only [World.cell?,hw b e2 e3]
theorem CV (h:fq K w v ls) (hb:vA w.1.size w w'):fq K w' v ls:=DV h hb.size fun b _ hl=>hb.block b hl
theorem zFj (h:fq K w v ls) (m:Moved F F' w w') (hK:∀ b,K b -> ¬F b):fq K w' v ls:=DV h m.size fun b hb hl=>m.block b hl (hK b hb)
theorem F6 (h:fq K w v ls):Xg w [v] ls:=by
 obtain ⟨A,n,c,rfl,h2,h3,h4,h5⟩:=h;refine ⟨A,n,c,rfl,h2,h3,h4,fun i hi=>?_⟩
 obtain ⟨b,q,A1,n1,c1,e1,e2,e3,e4,e5⟩:=h5 i hi;refine ⟨⟨b,q,vD⟩,[ve A1 n1 c1],e1,rfl,fun j hj=>?_,Gk e5⟩
 obtain rfl:j=0:=by omega
 rw [zm,show q+(i*1+0)=q+i by omega,e4]
 rfl
theorem rN {A:Option vy} {n c:Nat} (h:fq K w (ve A n c) ls) {i:Nat} (hi:i<ls.length):∃ b q A1 n1 c1,A=vE ⟨b,q,vD⟩ /\ K b /\ b<w.1.size /\ w.cell? ⟨b,q+i,vD⟩=vE (ve A1 n1 c1) /\ Ye K w (ve A1 n1 c1) (ls.getD i []):=by
 obtain ⟨A',n',c',h1,h2,h3,h4,h5⟩:=h
 injection h1 with e1 e2 e3
 subst e1 e2 e3;obtain ⟨b,q,A1,n1,c1,e1,e2,e3,e4,e5⟩:=h5 i hi;exact ⟨b,q,A1,n1,c1,e1,e2,e3,e4,by rw [Fb,Qb hi];exact e5⟩
theorem zFi {A:Option vy} {n c:Nat} (h:fq K w (ve A n c) ls):ls.length=n /\ n <= c /\ c <= maxLen:=by
 obtain ⟨A',n',c',h1,h2,h3,h4,h5⟩:=h
 injection h1 with e1 e2 e3
 subst e1 e2 e3;exact ⟨h2,h3,h4⟩
def SE (T:Nat -> Prop) (w:vw) (cs:List vx) (ls:List (List Nat)):Prop:=cs.length=ls.length /\ ∀ (i:Nat) (h1:i<cs.length) (h2:i<ls.length),Ye T w cs[i] ls[i]
theorem vN {cs:List vx} (h:SE T w cs ls) (hs:w.1.size <= w'.1.size) (hw:∀ b,T b -> b<w.1.size -> w'.1[b]?=w.1[b]?):SE T w' cs ls:=⟨h.1,fun i h1 h2=>Vw (h.2 i h1 h2) hs hw⟩
theorem zFz {cs:List vx} (h:SE K w cs ls) (hk:∀ b,K b -> K' b):SE K' w cs ls:=⟨h.1,fun i h1 h2=>qN (h.2 i h1 h2) hk⟩
theorem zFx {cs:List vx} {x:vx} {l:List Nat} (h:SE T w cs ls) (hx:Ye T w x l):SE T w (cs++[x]) (ls++[l]):=by
 refine ⟨by simp [h.1],fun i h1 h2=>?_⟩
 by_cases hi:i<cs.length
 ·rw [zr hi]
  have Si:i<ls.length:=by rw [<- h.1];exact hi
  rw [zr Si];exact h.2 i hi Si
 ·have e1:i=cs.length:=by simp at h1;omega
  have e2:i=ls.length:=by rw [e1,h.1]
  have g1:(cs++[x])[i]=x:=by subst e1;simp
  have g2:(ls++[l])[i]=l:=by subst e2;simp
  rw [g1,g2];exact hx
theorem zFy {cs:List vx} {base n:Nat} {e:vz} (h:SE T w cs ls) (ho:w.ownsRow base e 1 v n cs):fq (fun b=>T b \/ v.ownBlock=vE b) w v ls:=by
 have hn:=ho.1;rcases ho.2 with ⟨rfl,rfl⟩ | ⟨g,cap,cur,hv,hb,hh,h1,h2,-⟩
 ·have:ls=[]:=UE (by rw [<- h.1,hn])
  subst this;exact ⟨vD,0,0,rfl,rfl,zR,by simp [maxLen],fun i hi=>absurd hi zS⟩
 ·subst hv
  refine ⟨_,n,cap,rfl,by rw [<- h.1,hn,fp],h1,h2,fun i hi=>?_⟩
  have Si:i<cs.length:=by rw [h.1];exact hi
  have hc:=ho.cells (g:=g) rfl i cs[i] (Qb Si);have hk:=h.2 i Si hi;obtain ⟨A1,c1,e1,-⟩:=OA hk;rw [e1] at hc hk;refine ⟨g,0,A1,_,c1,rfl, .inr rfl,(ru.1 hh).1,?_,qN hk fun b hb=>.inl hb⟩
  rw [<- hc];by_cases h0:i=0 <;> simp [Addr.add,h0]
theorem WO {w:vw} {g i:Nat} {t:vz} {l:List Nat} (k:Blk w g t (Oa l).toArray) (h:i<l.length):w.cell? ⟨g,i,vD⟩=vE (vd vn ((l.getD i 0:Nat):Int)):=by
 rw [k.cell];simp [Oa,Fb,h]
def ui (F:Nat -> Prop) (x:Nat):Nat -> Prop:=fun b=>F b \/ b=x
theorem QQ (m:Moved F F' w w') (x:Nat):Moved (ui F x) (ui F' x) w w':=⟨m.os,m.tape,m.output,m.size,fun b hb hn=>m.block b hb (fun hf=>hn (.inl hf)),fun b hb=>by
 rcases hb with hb | hb
 ·rcases m.foot b hb with e | e
  ·exact .inl (.inl e)
  ·exact .inr e
 ·exact .inl (.inr hb)⟩
theorem T7 {x:Nat} (w:vw) (i:Nat) (u:vx):Moved (ui F x) (ui F x) w (w.setCell ⟨x,i,vD⟩ u) :=
 CN (mh (p:=⟨x,i,vD⟩) (Ce w (vE x)) (.inl rfl) u) fun _ h=>.inr (Ya h).symm
theorem zFT {w0:vw} {x:Nat} (m0:Moved F F w0 w) (m:Moved (ui F x) (ui F' x) w w') (hx:w0.1.size <= x):Moved F F' w0 w' :=
 ⟨m.os.trans m0.os,m.tape.trans m0.tape,m.output.trans m0.output,zb m0.size m.size,
  fun b hb hn=>(m.block b (zQ m0.size) (fun e=>by rcases e with e | e;exact hn e;omega)).trans (m0.block b hb hn),
  fun b hb=>by
   rcases m.foot b (.inl hb) with e | e
   ·rcases e with e | e
    ·exact .inl e
    ·exact .inr zO
   ·exact .inr (zb m0.size e)⟩
theorem zFU {w0:vw} {x:Nat} (m0:Moved F F' w0 w) (m:Moved (ui F' x) (ui EB x) w w') (hx:w0.1.size <= x):Moved F EB w0 w' :=
 ⟨m.os.trans m0.os,m.tape.trans m0.tape,m.output.trans m0.output,zb m0.size m.size,
  fun b hb hn=>(m.block b (zQ m0.size) (fun e=>by
   rcases e with e | e
   ·rcases m0.foot b e with h | h
    ·exact hn h
    ·omega
   ·omega)).trans (m0.block b hb hn),
  fun b hb=>by
   rcases m.foot b (.inl hb) with e | e
   ·rcases e with e | e
    ·exact m0.foot b e
    ·exact .inr zO
   ·exact .inr (zb m0.size e)⟩
theorem S7 {w0:vw} {row:Option Nat} (m:Moved F F' w0 w) (hg:w.grownBy w' row) (hr:∀ b,row=vE b -> w0.1.size <= b):Moved F F' w0 w' :=
 ⟨hg.os.trans m.os,hg.tape.trans m.tape,hg.output.trans m.output,zb m.size hg.size,fun b hb hn=>(hg.block b (zQ m.size) (fun e=>by have:=hr b e.symm;omega)).trans (m.block b hb hn),m.foot⟩
theorem Sg {w0:vw} {x:Nat} (m:Moved F F' w0 w) (hx:w0.1.size <= x) (i:Nat) (u:vx):Moved F F' w0 (w.setCell ⟨x,i,vD⟩ u) :=
 ⟨m.os,m.tape,m.output,by simpa [vF] using m.size,fun b hb hn=>(wg w _ u b (fun e=>by subst e;exact absurd hb (by simpa using hx))).trans (m.block b hb hn),m.foot⟩
theorem p4 {x i N:Nat} (hx:F x) (u:vx):Zi F N w (w.setCell ⟨x,i,vD⟩ u):=⟨rfl,rfl,rfl,by simp [vF],fun b _ hn=>wg w _ u b (fun e=>hn (by subst e;exact hx))⟩
theorem OrcAt.set {g x i:Nat} {O:Da} (h:OrcAt w g O F) (hx:¬F x) (u:vx):OrcAt (w.setCell ⟨x,i,vD⟩ u) g O F :=
 h.keep (by simp [vF]) fun b hb=>wg w _ u b (fun e=>hx (by subst e;exact hb))
end
structure Ij (K:Nat -> Prop) (w u:vw):Prop where
 os:u.os=w.os
 tape:u.tape=w.tape
 output:u.output=w.output
 size:w.1.size <= u.1.size
 block:∀ b,K b -> b<w.1.size -> u.1[b]?=w.1[b]?
section
variable {K K' F F':Nat -> Prop} {w u v:vw} {Q Q':vw -> Prop}
theorem zCt:Ij K w w:=⟨rfl,rfl,rfl,zR,fun _ _ _=>rfl⟩
theorem XB (h:Ij K w u) (k:Ij K u v):Ij K w v:=⟨k.os.trans h.os,k.tape.trans h.tape,k.output.trans h.output,zb h.size k.size,fun b hb hl=>(k.block b hb (pd hl h.size)).trans (h.block b hb hl)⟩
theorem wt (h:Ij K w u) (hk:∀ b,K' b -> K b):Ij K' w u:=⟨h.os,h.tape,h.output,h.size,fun b hb hl=>h.block b (hk b hb) hl⟩
theorem yg (h:vA w.1.size w u):Ij K w u:=⟨h.os,h.tape,h.output,h.size,fun b _ hl=>h.block b hl⟩
theorem Ml (m:Moved F F' w u) (hK:∀ b,K b -> ¬F b):Ij K w u:=⟨m.os,m.tape,m.output,m.size,fun b hb hl=>m.block b hl (hK b hb)⟩
theorem FY:Ij K w w.drew:=⟨rfl,rfl,rfl,zR,fun _ _ _=>rfl⟩
theorem zCr {row:Option Nat} (h:w.grownBy u row) (hr:∀ b,row=vE b -> ¬K b):Ij K w u:=⟨h.os,h.tape,h.output,h.size,fun b hb hl=>h.block b hl (fun e=>hr b e.symm hb)⟩
theorem IY {x i:Nat} {c:vx} (hx:¬K x):Ij K w (w.setCell ⟨x,i,vD⟩ c):=⟨rfl,rfl,rfl,by simp [vF],fun b hb _=>wg w _ c b (fun e=>hx (by subst e;exact hb))⟩
def Hd (K:Nat -> Prop) (w:vw) (Q:vw -> Prop):Prop:=∀ u,Ij K w u -> Q u
theorem qh (h:Hd K w Q):Q w:=h w zCt
theorem te (h:Hd K w Q) (a:Ij K w u):Hd K u Q:=fun v k=>h v (XB a k)
theorem Ri (h:Hd K w Q) (a:Ij K w u):Q u:=h u a
theorem QP (h:Hd K w Q) (hk:∀ b,K b -> K' b):Hd K' w Q:=fun v k=>h v (wt k hk)
theorem C5 (h:Hd K w Q):Hd (fun b=>K b /\ b<w.1.size) w Q:=fun u k=>h u ⟨k.os,k.tape,k.output,k.size,fun b hb hl=>k.block b ⟨hb,hl⟩ hl⟩
theorem GF (h:Hd K w Q) (hq:∀ u,Q u -> Q' u):Hd K w Q':=fun v k=>hq v (h v k)
theorem WK {α:Type} {R:vw -> List vx -> α -> Prop} {w0:vw} {cs:List vx} {x:α} (hR:Nz R) (h:R w0 cs x) (hb:vA w0.1.size w0 w):Hd (fun b=>b<w0.1.size) w fun u=>R u cs x:=fun u a =>
 hR w0 u cs x ⟨a.os.trans hb.os,a.tape.trans hb.tape,a.output.trans hb.output,zb hb.size a.size,fun b hl=>(a.block b hl (pd hl hb.size)).trans (hb.block b hl)⟩ h
theorem hd_krr {x:vx} {ls:List (List Nat)} (h:fq K w x ls):Hd K w fun u=>Xg u [x] ls:=fun _ a=>F6 (DV h a.size a.block)
theorem hd_own {base n size:Nat} {e:vz} {x:vx} {xs:List vx} (h:w.ownsRow base e size x n xs):Hd (fun b=>x.ownBlock=vE b) w fun u=>u.ownsRow base e size x n xs:=fun _ a =>
 ji h fun b hb=>a.block b hb (h.lt b hb).2
def QG (w:vw) (b:Nat):vw:={ w with heap:=w.1.setIfInBounds b (.cells #[] 0) }
theorem iT {b:Nat} (h:¬K b):Ij K w (QG w b):=⟨rfl,rfl,rfl,by simp [QG],fun c hc hl=>by
 have Sa:b≠c:=fun e=>h (e ▸ hc)
 simp [QG,Sa]⟩
theorem tX {b i:Nat} (hb:b<w.1.size):(QG w b).cell? ⟨b,i,vD⟩=vD:=by
 simp [QG,World.cell?,hb]
theorem E6 {x:vx} {l:List Nat} (h:Hd K w fun u=>RWd u [x] l):Ye K w x l:=fun u hu=>by
 obtain ⟨A,n,c,e,h2,h3,h4,h5⟩:=qh h;refine ⟨A,n,c,e,h2,h3,?_,h5⟩;by_cases h0:0<n
 ·obtain ⟨b,q,rfl,hb,hc⟩:=pz h4 h0
  have hK:K b:=oK fun hn=>by
   obtain ⟨A',n',c',e',-,-,k4,-⟩:=h (QG w b) (iT hn);rw [e] at e'
   injection e' with e' _
   injection e' with e1 e2 e3
   subst e1 e2;obtain ⟨b',q',e4,Sl,yq⟩:=pz k4 h0
   injection e4 with e4
   injection e4 with e5 e6
   subst e5 e6;have k1:=yq 0 h0;rw [tX hb] at k1;have k2:=h4.1;rw [Qb zO] at k1;cases k1
  refine ⟨h4.1,fun _=>⟨_,rfl,fun j y hj=>?_⟩⟩
  have hjn:j<n:=by
   have:=(List.getElem?_eq_some_iff.1 hj).1;have:=h4.1;omega
  rw [zm];have:=hc j hjn;rw [hj] at this;simp only [World.cell?,hu b hK hb] at this |-;exact this
 ·exact ⟨h4.1,fun h=>absurd h h0⟩
theorem wQ {x:vx} {ls:List (List Nat)} (h:Hd K w fun u=>Xg u [x] ls):fq K w x ls:=by
 have h0:=qh h;obtain ⟨A,n,c,e0,-⟩:=id h0
 injection e0 with e0
 subst e0;obtain ⟨h1,h2,h3,h4⟩:=Yj h0;refine ⟨A,n,c,rfl,h1,h2,h3,fun i hi=>?_⟩
 obtain ⟨b,q,A1,n1,c1,rfl,e2,e3,e4⟩:=zv h4 hi;have hK:K b:=oK fun hn=>by
  obtain ⟨-,-,-,k4⟩:=Yj (h (QG w b) (iT hn));obtain ⟨b',q',A2,n2,c2,f1,f2,f3,f4⟩:=zv k4 hi
  injection f1 with f1
  injection f1 with f5 f6
  subst f5 f6;rw [tX e2] at f3;cases f3
 refine ⟨b,q,A1,n1,c1,rfl,hK,e2,e3,E6 fun u a=>?_⟩
 obtain ⟨-,-,-,k4⟩:=Yj (h u a);obtain ⟨b',q',A2,n2,c2,f1,f2,f3,f4⟩:=zv k4 hi
 injection f1 with f1
 injection f1 with f5 f6
 subst f5 f6;have e5:u.cell? ⟨b,q+i,vD⟩=w.cell? ⟨b,q+i,vD⟩:=by simp only [World.cell?,a.block b hK e2]
 rw [e5,e3] at f3
 injection f3 with f3
 injection f3 with g1 g2 g3
 subst g1 g2 g3;exact f4
end
end Go.Proofs.YteoghgbnielkpaaGreat
