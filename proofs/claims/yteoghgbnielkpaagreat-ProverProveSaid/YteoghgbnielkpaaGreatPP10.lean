/- A part of the proof. No condition. -/
import Derived.Test.YteoghgbnielkpaaGreatPP8
import Derived.Laws.Bits64

set_option maxRecDepth 100000
set_option maxHeartbeats 8000000
set_option linter.unusedVariables false
set_option linter.unusedSimpArgs false
namespace Go.Proofs.YteoghgbnielkpaaGreat
open Go.RowKit Go.Maps
open Tryz
open Go renaming World->vu, Value->vw, Addr->vx, TypeId->vy, Calls->vA
open Go.Value renaming int->vd, slice->ve, agg->vf
open Go.IntKind renaming u64->vo, i64->vq, u8->vt
open Go.Ending renaming returned->vn
open Go.RowKit renaming Below->vz
open Go.World renaming setCell->vE
open Go.Act renaming put->vF
open Option renaming none->vB, some->vD
def Lj (K:Nat -> Prop) (w:vu) (v:vw) (l:List Nat):Prop:=∀ u:vu,(∀ b,K b -> b<w.1.size -> u.1[b]?=w.1[b]?) -> RWd u [v] l
section
variable {K K' F F' WD:Nat -> Prop} {w w' Vk u:vu} {v:vw} {l:List Nat}
theorem Nx (h:Lj K w v l):RWd w [v] l:=h w fun _ _ _=>rfl
theorem sD (h:Lj K w v l) (hs:w.1.size <= w'.1.size) (hw:∀ b,K b -> b<w.1.size -> w'.1[b]?=w.1[b]?):Lj K w' v l :=
 fun u hu=>h u fun b hb hl=>(hu b hb zO).trans (hw b hb hl)
theorem VP (h:Lj K w v l) (hk:∀ b,K b -> K' b):Lj K' w v l:=fun u hu=>h u fun b hb hl=>hu b (hk b hb) hl
theorem BL (h:Lj K w v l) (hb:vz w.1.size w w'):Lj K w' v l:=sD h hb.size fun b _ hl=>hb.block b hl
theorem Ye {base n size:Nat} {e:vy} {xs:List vw} (h:w.ownsRow base e size v n xs) (ha:∀ b,v.ownBlock=vD b -> u.1[b]?=w.1[b]?):u.ownsRow base e size v n xs:=by
 obtain ⟨h1,h2⟩:=h;refine ⟨h1,?_⟩;rcases h2 with h2 | ⟨g,cap,cur,hv,Cm,hh,r⟩
 ·exact Or.inl h2
 ·exact Or.inr ⟨g,cap,cur,hv,Cm,by rw [ha g (by rw [hv];rfl)];exact hh,r⟩
theorem XP {base n:Nat} {e:vy} (h:w.ownsRow base e 1 v n (Qa l)) (hl:∀ x∈l,x<18446744073709551616):Lj (fun b=>v.ownBlock=vD b) w v l:=fun u hu=>by
 have ho:=Ye h fun b hb=>hu b hb (h.lt b hb).2
 obtain ⟨A,c,rfl,-⟩:=Yb ho;exact Sf ho hl
theorem UP {g n:Nat} {t:vy} (h:Blk w g t (Qa l).toArray) (hn:l.length=n) (hl:∀ x∈l,x<18446744073709551616) (hm:n <= maxLen):Lj (fun b=>b=g) w (ve (vD ⟨g,0,vB⟩) n n) l:=fun u hu=>by
 subst hn;exact uN (t:=t) ((hu g rfl h.lt).trans h) hl hm
theorem AS (h:Lj K w v l):∃ A c,v=ve A l.length c /\ l.length <= c /\ c <= maxLen /\ (∀ x∈l,x<18446744073709551616):=by
 obtain ⟨A,n,c,h1,h2,h3,h4,h5⟩:=Nx h;obtain ⟨rfl,h6,h7,h8,h9⟩:=Pb (w:=w) (A:=A) (n:=n) (c:=c) (l:=l) ⟨A,n,c,rfl,h2,h3,h4,h5⟩
 injection h1 with h1
 exact ⟨A,c,h1,h6,h7,h8⟩
structure Moved (F F':Nat -> Prop) (w w':vu):Prop where
 os:w'.os=w.os
 tape:w'.tape=w.tape
 output:w'.output=w.output
 size:w.1.size <= w'.1.size
 block:∀ b,b<w.1.size -> ¬F b -> w'.1[b]?=w.1[b]?
 foot:∀ b,F' b -> F b \/ w.1.size <= b
theorem Moved.refl:Moved F F w w:=⟨rfl,rfl,rfl,zR,fun _ _ _=>rfl,fun _ h=>.inl h⟩
theorem Moved.trans (h:Moved F F' w w') (k:Moved F' WD w' Vk):Moved F WD w Vk :=
 ⟨k.os.trans h.os,k.tape.trans h.tape,k.output.trans h.output,jb h.size k.size,fun b hb hn=>(k.block b (zQ h.size) (fun hf=>by rcases h.foot b hf with e | e;exact hn e;omega)).trans (h.block b hb hn),
  fun b hb=>by
   rcases k.foot b hb with e | e
   ·exact h.foot b e
   ·exact .inr (jb h.size e)⟩
theorem Af (h:vz w.1.size w w'):Moved F F w w':=⟨h.os,h.tape,h.output,h.size,fun b hb _=>h.block b hb,fun _ h=>.inl h⟩
theorem vN {row:Option Nat} (h:w.grownBy w' row) (hr:∀ b,row=vD b -> F b):Moved F F w w':=⟨h.os,h.tape,h.output,h.size,fun b hb hn=>h.block b hb (fun e=>hn (hr b e.symm)),fun _ h=>.inl h⟩
theorem mX (h:Moved F F' w w') (hf:∀ b,WD b -> F' b \/ w.1.size <= b):Moved F WD w w':=⟨h.os,h.tape,h.output,h.size,h.block,fun b hb=>by
 rcases hf b hb with e | e
 ·exact h.foot b e
 ·exact .inr e⟩
theorem SF (h:Moved F F' w w'):Moved F F' w w'.drew:=⟨h.os,h.tape,h.output,h.size,h.block,h.foot⟩
theorem Yl (h:Moved F F' w w') {b:Nat} (hb:b<w.1.size) (hn:¬F b):¬F' b:=fun hf=>by
 rcases h.foot b hf with e | e
 ·exact hn e
 ·omega
theorem Blk.moved {g:Nat} {t:vy} {cs:Array vw} (h:Blk w g t cs) (m:Moved F F' w w') (hg:¬F g):Blk w' g t cs:=(m.block g h.lt hg).trans h
theorem ZS {base n size:Nat} {e:vy} {xs:List vw} (h:w.ownsRow base e size v n xs) (m:Moved F F' w w') (hv:∀ b,v.ownBlock=vD b -> ¬F b):w'.ownsRow base e size v n xs :=
 Ye h fun b hb=>m.block b (h.lt b hb).2 (hv b hb)
theorem zEq (h:Lj K w v l) (m:Moved F F' w w') (hK:∀ b,K b -> ¬F b):Lj K w' v l:=sD h m.size fun b hb hl=>m.block b hl (hK b hb)
theorem PM {w0:vu} (h:vz w0.1.size w0 w) (m:Moved F F' w w') (hF:∀ b,F b -> w0.1.size <= b):vz w0.1.size w0 w' :=
 h.trans ⟨m.os,m.tape,m.output,m.size,fun b hb=>m.block b (zQ h.size) (fun hf=>by have:=hF b hf;omega)⟩
end
def Fl (F:Nat -> Prop) (N:Nat) (w w':vu):Prop:=w'.os=w.os /\ w'.tape=w.tape /\ w'.output=w.output /\ w.1.size <= w'.1.size /\ ∀ b,b<N -> ¬F b -> w'.1[b]?=w.1[b]?
theorem mc (F:Nat -> Prop) (N:Nat):Ie (Fl F N):=⟨fun _=>⟨rfl,rfl,rfl,zR,fun _ _ _=>rfl⟩,fun _ _ _ h k=>⟨k.1.trans h.1,k.2.1.trans h.2.1,k.2.2.1.trans h.2.2.1,jb h.2.2.2.1 k.2.2.2.1,fun b h1 h2=>(k.2.2.2.2 b h1 h2).trans (h.2.2.2.2 b h1 h2)⟩⟩
theorem GV {F:Nat -> Prop} {N:Nat} {w w':vu} (h:Fl F N w.drew w'):∀ b o,b<N -> ¬F b -> w'.cell? ⟨b,o,vB⟩=w.cell? ⟨b,o,vB⟩:=fun b o hb db=>by
 have:=h.2.2.2.2 b hb db;simp only [World.cell?,this]
 rfl
theorem RY {a b:Prop} (h:a) (s:Imp a b:=by
 (repeat ((first | (apply Imp.via (MY (mc _ _) rfl rfl rfl (fun _ _ _ h=>h))) | (apply Imp.via (LY (v:=?_) (mc _ _) rfl rfl rfl (fun _ _ _ h=>h) ?hr);case hr=>(intro w' hR;(first | have Us:=GV ((mc _ _).trans _ _ _ ja (hR rfl)) | skip);clear hR;go_simp;try with_reducible rfl)));simp only [vF,zLa,zLb,zLc]))
 exact Imp.rfl'):b:=s h
theorem Ip {a b:Prop} (h:a) (s:Imp a b:=by
 (repeat ((first | (apply Imp.via (qM (mc _ _) rfl rfl (fun _ _ _ h=>h))) | (apply Imp.via (pM (v:=?_) (mc _ _) rfl rfl (fun _ _ _ h=>h) ?hr);case hr=>(intro w' hR;(first | have Us:=GV ((mc _ _).trans _ _ _ ja hR) | skip);go_simp;try with_reducible rfl)));simp only [vF,zLa,zLb,zLc]))
 exact Imp.rfl'):b:=s h
theorem ze {F:Nat -> Prop} {N B:Nat} {w w':vu} (h:vz B w w') (hN:N <= B):Fl F N w w':=⟨h.os,h.tape,h.output,h.size,fun b hb _=>h.block b zO⟩
theorem IV {F F' WD:Nat -> Prop} {N:Nat} {w w':vu} (h:Moved F' WD w w') (hN:N <= w.1.size) (hf:∀ b,b<N -> F' b -> F b):Fl F N w w':=⟨h.os,h.tape,h.output,h.size,fun b hb hn=>h.block b zO (fun e=>hn (hf b hb e))⟩
theorem zDz {F:Nat -> Prop} {N:Nat} {w w':vu} {row:Option Nat} (h:w.grownBy w' row) (hN:N <= w.1.size) (hr:∀ b,row=vD b -> F b):Fl F N w w':=⟨h.os,h.tape,h.output,h.size,fun b hb hn=>h.block b zO (fun e=>hn (hr b e.symm))⟩
def CE (E:Nat -> Prop) (w:vu) (cs:List vw) (qs:List Qn):Prop :=
 cs.length=qs.length*3 /\ ∀ (i:Nat) (q:Qn),qs[i]?=vD q -> cs[i*3]?=vD (vd vo q.lab) /\ cs[i*3+2]?=vD (vd vo q.ans) /\ ∃ s,cs[i*3+1]?=vD s /\ Lj E w s q.el
theorem IN {E:Nat -> Prop} {w w':vu} {cs:List vw} {qs:List Qn} (h:CE E w cs qs) (hs:w.1.size <= w'.1.size) (hw:∀ b,E b -> b<w.1.size -> w'.1[b]?=w.1[b]?):CE E w' cs qs :=
 ⟨h.1,fun i q hq=>by
  obtain ⟨h1,h2,s,h3,h4⟩:=h.2 i q hq;exact ⟨h1,h2,s,h3,sD h4 hs hw⟩⟩
theorem zGv {E E':Nat -> Prop} {w:vu} {cs:List vw} {qs:List Qn} (h:CE E w cs qs) (hE:∀ b,E b -> E' b):CE E' w cs qs :=
 ⟨h.1,fun i q hq=>by
  obtain ⟨h1,h2,s,h3,h4⟩:=h.2 i q hq;exact ⟨h1,h2,s,h3,VP h4 hE⟩⟩
theorem zGw (E:Nat -> Prop) (w:vu):CE E w [] []:=⟨rfl,fun i q h=>by simp at h⟩
theorem zGu {E:Nat -> Prop} {w:vu} {cs:List vw} {qs:List Qn} {s:vw} {q:Qn} (h:CE E w cs qs) (hs:Lj E w s q.el):CE E w (cs++[vd vo q.lab,s,vd vo q.ans]) (qs++[q]):=by
 refine ⟨by simp [h.1];omega,fun i x hx=>?_⟩
 by_cases hi:i<qs.length
 ·rw [JM hi] at hx
  obtain ⟨h1,h2,t,h3,h4⟩:=h.2 i x hx;have hl:=h.1;exact ⟨by rw [JM zO];exact h1,by rw [JM zO];exact h2,t,by rw [JM zO];exact h3,h4⟩
 ·rw [List.getElem?_append_right zO] at hx
  have Ff:i-qs.length=0:=by
   rcases Jn (i-qs.length) with e | e
   ·exact e
   ·rw [It zT] at hx;cases hx
  rw [Ff] at hx
  injection hx with hx
  subst hx;have hl:=h.1;have e1:i=qs.length:=by omega
  subst e1;refine ⟨?_,?_,s,?_,hs⟩
  ·rw [List.getElem?_append_right zO,hl,Nat.sub_self];rfl
  ·rw [List.getElem?_append_right zO,hl,show qs.length*3+2-qs.length*3=2 by omega];rfl
  ·rw [List.getElem?_append_right zO,hl,show qs.length*3+1-qs.length*3=1 by omega];rfl
structure OrcIn (w:vu) (g:Nat) (O:Jb) (F:Nat -> Prop) (v:vw) (cs:List vw) (km sm pm:Nat) (E:Nat -> Prop):Prop where
 ok:OrcOk O
 blk:Blk w g 121 #[.bool O.ideal,vd vo O.st,vd vq O.dr,v, .map (vD km), .map (vD sm), .map (vD pm)]
 own:w.ownsRow 0 95 3 v O.qs.length cs
 rows:CE E w cs O.qs
 map:w.ownsMap prog 9 (plainElem prog 3) km O.qs.length (AB O.qs)
 el:∀ b,E b -> b<w.1.size /\ b≠g /\ b≠km /\ v.ownBlock≠vD b
 kmg:km≠g
 vkm:v.ownBlock≠vD km
 vg:v.ownBlock≠vD g
 fg:F g
 fv:∀ b,v.ownBlock=vD b -> F b
 fkm:F km
 fE:∀ b,E b -> F b
 lt:∀ b,F b -> b<w.1.size
def OrcAt (w:vu) (g:Nat) (O:Jb) (F:Nat -> Prop):Prop:=∃ v cs km sm pm E,OrcIn w g O F v cs km sm pm E
section
variable {w w':vu} {g:Nat} {O:Jb} {F:Nat -> Prop}
theorem OrcIn.keep {v:vw} {cs:List vw} {km sm pm:Nat} {E:Nat -> Prop} (h:OrcIn w g O F v cs km sm pm E) (hs:w.1.size <= w'.1.size) (hw:∀ b,F b -> w'.1[b]?=w.1[b]?):OrcIn w' g O F v cs km sm pm E where
 ok:=h.ok
 blk:=(hw g h.fg).trans h.blk
 own:=Ye h.own fun b hb=>hw b (h.fv b hb)
 rows:=IN h.rows hs fun b hb _=>hw b (h.fE b hb)
 map:=by
  obtain ⟨es,clock,h1,h2⟩:=h.map;exact ⟨es,clock,(hw km h.fkm).trans h1,h2⟩
 el:=fun b hb=>⟨We (h.el b hb).1 hs,(h.el b hb).2⟩
 kmg:=h.kmg
 vkm:=h.vkm
 vg:=h.vg
 fg:=h.fg
 fv:=h.fv
 fkm:=h.fkm
 fE:=h.fE
 lt:=fun b hb=>We (h.lt b hb) hs
theorem OrcAt.keep (h:OrcAt w g O F) (hs:w.1.size <= w'.1.size) (hw:∀ b,F b -> w'.1[b]?=w.1[b]?):OrcAt w' g O F:=by
 obtain ⟨v,cs,km,sm,pm,E,h⟩:=h;exact ⟨v,cs,km,sm,pm,E,h.keep hs hw⟩
theorem OrcAt.lt (h:OrcAt w g O F):∀ b,F b -> b<w.1.size:=by
 obtain ⟨v,cs,km,sm,pm,E,h⟩:=h;exact h.lt
theorem OrcAt.ok (h:OrcAt w g O F):OrcOk O:=by
 obtain ⟨v,cs,km,sm,pm,E,h⟩:=h;exact h.ok
theorem OrcAt.fg (h:OrcAt w g O F):F g:=by
 obtain ⟨v,cs,km,sm,pm,E,h⟩:=h;exact h.fg
theorem OrcIn.below {v:vw} {cs:List vw} {km sm pm:Nat} {E:Nat -> Prop} (h:OrcIn w g O F v cs km sm pm E) (hb:vz w.1.size w w'):OrcIn w' g O F v cs km sm pm E:=h.keep hb.size fun b hf=>hb.block b (h.lt b hf)
theorem OrcAt.below (h:OrcAt w g O F) (hb:vz w.1.size w w'):OrcAt w' g O F:=h.keep hb.size fun b hf=>hb.block b (h.lt b hf)
theorem OrcIn.drew {v:vw} {cs:List vw} {km sm pm:Nat} {E:Nat -> Prop} (h:OrcIn w g O F v cs km sm pm E):OrcIn w.drew g O F v cs km sm pm E:=h.keep zR fun _ _=>rfl
theorem OrcAt.drew (h:OrcAt w g O F):OrcAt w.drew g O F:=h.keep zR fun _ _=>rfl
theorem OrcAt.moved {F1 F2:Nat -> Prop} (h:OrcAt w g O F) (m:Moved F1 F2 w w') (hd:∀ b,F b -> ¬F1 b):OrcAt w' g O F:=h.keep m.size fun b hf=>m.block b (h.lt b hf) (hd b hf)
end
theorem nZ {l:List Nat} {j:Nat} (hj:j<l.length) (h:fe (l.take j)=true) (hx:l.getD j 0<nc):fe (l.take (j+1))=true:=by
 unfold fe at *;rw [DI l j hj,List.all_append,h];simp only [List.all_cons,List.all_nil,Bool.and_true,Bool.true_and];exact xc hx
theorem mZ {l:List Nat} {j:Nat} (hj:j<l.length) (hx:nc <= l.getD j 0):fe l=false:=by
 unfold fe;rw [uE];refine ⟨l.getD j 0,?_,by rw [decide_eq_true_iff];omega⟩
 rw [Hc,Ec hj];exact Qe _
theorem zFm (A:Option vx) (n c:Nat) (l:List Nat) (w:vu) (hl:RWd w [ve A n c] l) :
  vA prog 203 #[ve A n c] w fun e w'=>e=vn (.bool (fe l)) /\ w=w':=by
 obtain ⟨rfl,h1,h2,-,Na⟩:=Pb hl;have gm:=ti h1 h2;clear hl h1 h2;go_enter func203,ntmps203
 go_wp2_with fail
 go_loop [7] (fun i=>∃ j:Nat,j <= l.length /\ i=vd vq j /\ Hid (fe (l.take j)=true)) (fun i=>l.length-(intOf i).toNat)
 case atStart=>exact ⟨0,Qb _,rfl,rfl⟩
 case round =>
  obtain ⟨j,hj,rfl,HB⟩:=hrel;by_cases ya:j<l.length
  ·obtain ⟨b,q,rfl,dc,hc⟩:=Hf Na ya
   have HL:=zH ya;have g1:(0:Int)<=j:=by omega
   have g2:(j:Int)<l.length:=by omega
   have HN:=zH (fun h=>mZ (l:=l) ya h)
   have HY:=zH (fun h=>nZ (l:=l) ya HB.out h)
   revert hc HN HY
   generalize l.getD j 0=y;intro hc HN HY;clear Na;by_cases z:nc <= y
   ·have HZ:=zH (HN.out z)
    unfold nc at z;have d1:decide ((18446744069414584321:Int)<=y)=true:=xc zO;clear HN HY;go_wp2;go_ret
    exact ⟨by rw [HZ.out];rfl,rfl⟩
   ·have HZ:=zH (HY.out zO)
    unfold nc at z;have d1:decide ((18446744069414584321:Int)<=y)=false:=Xb zO;clear HN HY;go_wp2
    go_round
    case rel=>exact ⟨j+1,zO,by go_num,HZ.out⟩
    case measure=>simp [intOf];omega
  ·have e:j=l.length:=by omega
   have HA:=zH (show fe l=true by have:=HB.out;rwa [e,By] at this)
   clear Na;go_wp2;go_ret
   exact ⟨by rw [HA.out];rfl,rfl⟩
theorem FZ (A:Option vx) (n c:Nat) (l:List Nat) (w:vu) (hl:RWd w [ve A n c] l) (hlen:l.length <= 10000000) :
  vA prog 197 #[ve A n c] w fun e w'=>∃ v,e=vn v /\ w'.ownsRow w.1.size 22 1 v n (Qa l) /\ vz w.1.size w w':=by
 obtain ⟨rfl,h1,h2,ya,Na⟩:=Pb hl;clear hl;have h0:w.ownsRow w.1.size 22 1 (ve vB 0 0) 0 []:=⟨rfl, .inl ⟨rfl,rfl⟩⟩;go_enter func197,ntmps197
 go_wp2_with (at_builtin;refine Wd rfl _ _ rfl Qt rfl h0 rfl Na (De _) zO zR ?_)
 intro v' w1 oa Ma Cb;go_wp2;go_ret
 exact ⟨_,rfl,oa,ie h0 Ma zR⟩
theorem qZ (base:Nat) (v:vw) (m x:Nat) (xs:List vw) (w:vu) (ho:w.ownsRow base 5 1 v m xs) (hx:x<18446744073709551616) (hk:m <= 100000000) (hb:base <= w.1.size) :
  vA prog 270 #[v,vd vo x] w fun e w'=>∃ v',e=vn v' /\ w'.ownsRow base 5 1 v' (m+8) (xs++U8 (Nn x 8)) /\ w.grownBy w' v.ownBlock /\ (∀ g,v'.ownBlock=vD g -> v.ownBlock=vD g \/ w.1.size <= g):=by
 go_enter func270,ntmps270
 go_wp2_with fail
 go_loopw [0,1,5] (fun s y i wr=>∃ j z:Nat,j <= 8 /\ i=vd vq j /\ y=vd vo z /\ Hid (z=x / 256^j) /\ z<18446744073709551616 /\ wr.ownsRow base 5 1 s (m+j) (xs++U8 (Nn x j)) /\ w.grownBy wr v.ownBlock /\ (∀ g,s.ownBlock=vD g -> v.ownBlock=vD g \/ w.1.size <= g))
  (fun _ _ i _=>8-(intOf i).toNat)
 case atStart=>exact ⟨0,x,Qb _,rfl,rfl,by simp [Hid],hx,by simpa [Nn,U8] using ho,mg _ _,fun g h=>.inl h⟩
 case round =>
  obtain ⟨j,z,hj,rfl,rfl,HZ,hz,oa,Ta,dc⟩:=hrel;have HB:=zH dc;clear dc;by_cases ya:j<8
  ·have hs:=Ta.size
   go_wp2_with (at_builtin;refine Wd rfl _ _ rfl el_u8 rfl (oa.alloc _) rfl (gg _ (vd vt ((z:Int)%256)) _) ?_ ?_ ?_ ?_)
   ·intro u hu;simp at hu;subst hu;rfl
   ·omega
   ·simp;omega
   intro v' w1 Ua Ma aB;have Fg:=Ma.size;simp only [World.size_alloc] at Fg aB;have R:=zFG (zDL Ta _) HB.out Ma (aB.imp id fun h=>⟨_,h,zS⟩)
   have HR:=zH R;clear oa Ta Ma aB R HB;go_wp2
   go_roundw
   case rel =>
    refine ⟨j+1,z / 256,zO,by go_num,by go_num,?_,zO,?_,HR.out.1,HR.out.2⟩
    ·show z / 256=x / 256^(j+1)
     rw [HZ.out,Nat.div_div_eq_div_mul,Zg]
    ·rw [SZ,<- HZ.out,OU,<- zy]
     rw [<- zy] at Ua;exact Ua
   case measure=>simp [intOf];omega
  ·go_wp2
   go_ret
   have e:j=8:=by omega
   subst e;exact ⟨_,rfl,oa,Ta,HB.out⟩
theorem D6 (l:List Nat) (j:Nat) (h:j<l.length):Bj (l.take (j+1))=Bj (l.take j)++Nn (l.getD j 0) 8:=by
 rw [DI l j h,ES];simp [Bj]
theorem zEm (A B:Option vx) (n c m d:Nat) (l k:List Nat) (w:vu) (hl:RWd w [ve A n c] l) (hk:RWd w [ve B m d] k) (h1:l.length <= 1000000) (h2:k.length <= 1000000) :
  vA prog 204 #[ve A n c,ve B m d] w fun e w'=>e=vn (.string (S (Bj (k++l)))) /\ vz w.1.size w w':=by
 obtain ⟨rfl,h3,h4,ya,Na⟩:=Pb hl;obtain ⟨rfl,h5,h6,zh,Tj⟩:=Pb hk;clear hl hk h3 h4 h5 h6;have dj:=zH ya;have Cn:=zH zh;clear ya zh;have e1:vq.wrap ((k.length:Int)+l.length)=((k.length+l.length:Nat):Int):=by rw [Bi];omega
 have e2:vq.wrap (8*((k.length+l.length:Nat):Int))=((8*(k.length+l.length):Nat):Int):=by rw [Bi];omega
 obtain ⟨t,ht⟩:=zEX (8*(k.length+l.length));obtain ⟨s,hs⟩:=zEX (k.length+l.length);rw [<- hs] at e1 e2 ht;rw [<- ht] at e2;have g0:(t:Int) <= 16000000:=by omega
 have HT:=zH ht;have HS:=zH hs;clear ht hs;have ah:∀ u:vu,(Instr.makeSlice 83 (vd vq 0) (vd vq t)).run prog u =
   .ok (ve (vD ⟨u.1.size,0,vB⟩) 0 t) (u.alloc (.cells (madeCells #[vd vt 0] t) 5)):=fun u=>by
  obtain ⟨i0,hi,Hi,Vd,Pg⟩:=info_parts J5;have h:=run_make (P:=prog) u 83 5 i0 (vd vt 0) underlying83 hi Hi vq vq 0 (t:Int) zO zO (by rw [Pg];omega) zO
  rw [En] at h
  simpa [Vd,Value.cells] using h
 have qB:=World.ownsRow_made (base:=w.1.size) (e:=5) (size:=1) w (madeCells #[vd vt 0] t) t zR (by simp [maxLen];omega) (by rw [size_madeCells,Ns])
 have da:=zA w (.cells (madeCells #[vd vt 0] t) 5);go_enter func204,ntmps204
 go_wp2_with fail
 generalize w.alloc _=w0 at qB da |-;clear ah;go_loopw [5,19] (fun s i wr=>∃ j:Nat,j <= k.length /\ i=vd vq j /\ wr.ownsRow w.1.size 5 1 s (8*j) (U8 (Bj (k.take j))) /\ vz w.1.size w wr) (fun _ i _=>k.length-(intOf i).toNat)
 case atStart=>exact ⟨0,Qb _,rfl,by simpa [Bj,U8] using qB,da⟩
 case round =>
  clear qB da;obtain ⟨j,hj,rfl,oa,hb⟩:=hrel;by_cases ya:j<k.length
  ·obtain ⟨b,q,rfl,dc,hc⟩:=Hf (Tj.below hb) ya
   have g1:(0:Int)<=j:=by omega
   have g2:(j:Int)<k.length:=by omega
   have HY:=zH (CI Cn.out ya);have HE:=zH (D6 k j ya);have HL:=zH ya;clear ya;revert hc HY HE
   generalize k.getD j 0=y;intro hc HY HE;go_wp2_with fail
   refine (qZ w.1.size _ (8*j) y _ _ oa HY.out (zQ HL.out) hb.size).mono ?_;rintro e w1 ⟨v',rfl,Ua,Ta,aB⟩;have Oa:=hb.trans (dH Ta w.1.size hb.size (fun g hg=>(O8 oa g hg).1))
   clear Ta aB oa hb hc;rw [<- OU,<- HE.out] at Ua;go_wp2
   go_roundw
   case rel=>exact ⟨j+1,by have:=HL.out;omega,by go_num,by rw [show 8*(j+1)=8*j+8 by omega];exact Ua,Oa⟩
   case measure=>have:=HL.out;simp [intOf];omega
  ·have e:j=k.length:=by omega
   subst e;rw [By] at oa;clear ya hj;go_wp2_with fail
   go_loopw [5,29] (fun s i wq=>∃ j:Nat,j <= l.length /\ i=vd vq j /\ wq.ownsRow w.1.size 5 1 s (8*(k.length+j)) (U8 (Bj (k++l.take j))) /\ vz w.1.size w wq) (fun _ i _=>l.length-(intOf i).toNat)
   case atStart=>exact ⟨0,Qb _,rfl,by simpa using oa,hb⟩
   case round =>
    clear oa hb;obtain ⟨j,hj,rfl,oa,hb⟩:=hrel;by_cases ya:j<l.length
    ·obtain ⟨b,q,rfl,dc,hc⟩:=Hf (Na.below hb) ya
     have g1:(0:Int)<=j:=by omega
     have g2:(j:Int)<l.length:=by omega
     have HY:=zH (CI dj.out ya);have HE:=zH (show Bj (k++l.take (j+1))=Bj (k++l.take j)++Nn (l.getD j 0) 8 by rw [ES,ES,D6 l j ya,zy])
     have HL:=zH ya;clear ya;revert hc HY HE
     generalize l.getD j 0=y;intro hc HY HE;go_wp2_with fail
     refine (qZ w.1.size _ (8*(k.length+j)) y _ _ oa HY.out (zQ HL.out) hb.size).mono ?_;rintro e w1 ⟨v',rfl,Ua,Ta,aB⟩;have Oa:=hb.trans (dH Ta w.1.size hb.size (fun g hg=>(O8 oa g hg).1))
     clear Ta aB oa hb hc;rw [<- OU,<- HE.out] at Ua;go_wp2
     go_roundw
     case rel=>exact ⟨j+1,by have:=HL.out;omega,by go_num,by rw [show 8*(k.length+(j+1))=8*(k.length+j)+8 by omega];exact Ua,Oa⟩
     case measure=>have:=HL.out;simp [intOf];omega
    ·have e:j=l.length:=by omega
     subst e;rw [By] at oa;clear ya hj;obtain ⟨A',c',rfl,-,-,Hx,-⟩:=Yb oa;have iB:=zHA (P:=prog) (w:=_) (dst:=9) (c:=c') underlying83 underlying5 underlying9 Hx;go_wp2;go_ret
     exact ⟨rfl,hb⟩
theorem OrcIn.turn {w w':vu} {g:Nat} {O O':Jb} {F:Nat -> Prop} {v:vw} {cs:List vw} {km sm pm:Nat} {E:Nat -> Prop} (h:OrcIn w g O F v cs km sm pm E) (ok:OrcOk O') (hq:O'.qs=O.qs)
  (kb:Blk w' g 121 #[.bool O'.ideal,vd vo O'.st,vd vq O'.dr,v, .map (vD km), .map (vD sm), .map (vD pm)]) (hg:w.grownBy w' (vD g)):OrcIn w' g O' F v cs km sm pm E where
 ok:=ok
 blk:=kb
 own:=by rw [hq];exact Ye h.own fun b hb=>hg.block b (h.own.lt b hb).2 (fun e=>h.vg (by rw [hb,e]))
 rows:=by rw [hq];exact IN h.rows hg.size fun b hb hl=>hg.block b hl (fun e=>(h.el b hb).2.1 (Nb e))
 map:=by
  rw [hq];obtain ⟨es,clock,h1,h2⟩:=h.map;exact ⟨es,clock,(hg.block km (h.lt km h.fkm) (fun e=>h.kmg (Nb e))).trans h1,h2⟩
 el:=fun b hb=>⟨We (h.el b hb).1 hg.size,(h.el b hb).2⟩
 kmg:=h.kmg
 vkm:=h.vkm
 vg:=h.vg
 fg:=h.fg
 fv:=h.fv
 fkm:=h.fkm
 fE:=h.fE
 lt:=fun b hb=>We (h.lt b hb) hg.size
theorem WR (w:vu) (g i j:Nat) (x y:vw):w.grownBy ((w.setCell ⟨g,i,vB⟩ x).setCell ⟨g,j,vB⟩ y) (vD g):=Li (p:=⟨g,j,vB⟩) (Li (p:=⟨g,i,vB⟩) (mg w (vD g)) (.inl rfl) x) (.inl rfl) y
theorem eH {w:vu} {g:Nat} {t:vy} {cs:Array vw} (k:Blk w g t cs) (i j:Nat) (x y:vw):Blk ((w.setCell ⟨g,i,vB⟩ x).setCell ⟨g,j,vB⟩ y) g t ((cs.setIfInBounds i x).setIfInBounds j y):=(k.set_ i x).set_ j y
theorem zFx {i:Bool} {st dr:Nat} {qs:List Qn} (h:OrcOk ⟨i,st,dr,qs⟩) {s1 d1:Nat} (hs:s1<18446744073709551616):OrcOk ⟨i,s1,d1,qs⟩:=⟨hs,h.qs,h.apart,h.real⟩
theorem YZ (i:Bool) (st dr:Nat) (qs:List Qn):Ro ⟨i,st,dr,qs⟩=⟨i,Ky st,dr+1,qs⟩:=rfl
theorem XZ (i:Bool) (st dr:Nat) (qs:List Qn):Pn ⟨i,st,dr,qs⟩=UM (TM (SM (Ky st))):=rfl
theorem zCK {w:vu} {g:Nat} {O:Jb} {F:Nat -> Prop} {v:vw} {cs:List vw} {km sm pm:Nat} {E:Nat -> Prop} (h:OrcIn w g O F v cs km sm pm E) (hi:O.ideal=true) (hd:O.dr <= 1000000000) :
  vA prog 224 #[.pointer (vD ⟨g,0,vB⟩)] w fun e w'=>e=vn (vd vo (Pn O:Int)) /\ OrcIn w' g (Ro O) F v cs km sm pm E /\ w.grownBy w' (vD g):=by
 obtain ⟨ideal,st,dr,qs⟩:=O;have bg:st<18446744073709551616:=h.ok.st;have kb:Blk w g 121 #[.bool ideal,vd vo st,vd vq dr,v, .map (vD km), .map (vD sm), .map (vD pm)]:=h.blk;have hd':dr <= 1000000000:=hd;clear hd;have pB:ideal=true:=hi;subst pB;clear hi;have H:=zH h;have e1:vq.wrap ((dr:Int)+1)=((dr+1:Nat):Int):=by rw [Bi];omega
 have e2:vo.wrap ((st:Int)+11400714819323198485)=((Ky st:Nat):Int):=by rw [mh];unfold Ky;omega
 have hz:Ky st<18446744073709551616:=Sc _ zD;obtain ⟨Pt,ux⟩:=zEX (dr+1);rw [<- ux] at e1;obtain ⟨s1,Gd⟩:=zEX (Ky st);rw [<- Gd] at e2 hz;have HD:=zH ux;have HS:=zH Gd;clear ux Gd h;obtain ⟨a1,Wo⟩:=zEX (s1 ^^^ (s1 >>> 30));have eP:a1<18446744073709551616:=by rw [Wo];exact Nat.xor_lt_two_pow (n:=64) hz (by rw [Kt];omega)
 have x1:bits BinOp.xor vo (s1:Int) ((s1:Int) / 1073741824)=(a1:Int):=by
  rw [show (s1:Int) / (1073741824:Int)=((s1 >>> 30:Nat):Int) by rw [Kt];omega,bits_xor_u64_nat _ _ hz (by rw [Kt];omega),Wo]
 obtain ⟨a,ha⟩:=zEX (a1*13787848793156543929%18446744073709551616);have ma:a<18446744073709551616:=by omega
 have m1:vo.wrap ((a1:Int)*13787848793156543929)=(a:Int):=by rw [mh];omega
 have HA:=zH (show a=SM s1 by rw [ha,Wo,SM])
 clear ha Wo;obtain ⟨b1,Oa⟩:=zEX (a ^^^ (a >>> 27));have jP:b1<18446744073709551616:=by rw [Oa];exact Nat.xor_lt_two_pow (n:=64) ma (by rw [Kt];omega)
 have x2:bits BinOp.xor vo (a:Int) ((a:Int) / 134217728)=(b1:Int):=by
  rw [show (a:Int) / (134217728:Int)=((a >>> 27:Nat):Int) by rw [Kt];omega,bits_xor_u64_nat _ _ ma (by rw [Kt];omega),Oa]
 obtain ⟨b,hb⟩:=zEX (b1*10723151780598845931%18446744073709551616);have dc:b<18446744073709551616:=by omega
 have m2:vo.wrap ((b1:Int)*10723151780598845931)=(b:Int):=by rw [mh];omega
 have HB:=zH (show b=TM a by rw [hb,Oa,TM])
 clear hb Oa;obtain ⟨c1,kd⟩:=zEX (b ^^^ (b >>> 31));have x3:bits BinOp.xor vo (b:Int) ((b:Int) / 2147483648)=(c1:Int):=by
  rw [show (b:Int) / (2147483648:Int)=((b >>> 31:Nat):Int) by rw [Kt];omega,bits_xor_u64_nat _ _ dc (by rw [Kt];omega),kd]
 obtain ⟨c,CK⟩:=zEX (c1%18446744069414584321);have m3:(c1:Int).tmod 18446744069414584321=(c:Int):=by rw [Int.tmod_eq_emod_of_nonneg zO];omega
 have HC:=zH (show c=UM b by rw [CK,kd,UM,nc])
 clear CK kd;have X1:=zH eP;have X2:=zH jP;have X3:=zH hz;clear eP jP ma dc hz bg;have hv:Pn ⟨true,st,dr,qs⟩=c:=by rw [XZ,<- HS.out,<- HA.out,<- HB.out,<- HC.out]
 rw [hv];clear hv HA HB HC;obtain ⟨O1,xH⟩:=zEX (Ro ⟨true,st,dr,qs⟩);rw [<- xH];have HO:=zH (show O1=⟨true,s1,Pt,qs⟩ by rw [xH,YZ,HS.out,HD.out])
 clear xH HS HD;have hc:=kb.cell;have hf:=kb.frozen;have KB:=zH kb;clear kb;go_enter func224,ntmps224
 go_wp2_with fail
 go_ret
 have hg:=WR w g 2 1 (vd vq Pt) (vd vo s1);have kb:=eH KB.out 2 1 (vd vq Pt) (vd vo s1);generalize (w.setCell ⟨g,2,vB⟩ (vd vq Pt)).setCell ⟨g,1,vB⟩ (vd vo s1)=w1 at hg kb |-;refine ⟨rfl,?_,hg⟩;rw [HO.out];exact H.out.turn (O':=⟨true,s1,Pt,qs⟩) (zFx H.out.ok X3.out) rfl (by simpa using kb) hg
theorem info_q:(prog.info? 95).map (fun i=>(i.zero,i.size,i.bytes))=vD (vD (vf #[vd vo 0,ve vB 0 0,vd vo 0]),3,40):=by kernel_rfl
theorem PO:Ds prog 60 95 3 40 (vf #[vd vo 0,ve vB 0 0,vd vo 0]):=by
 obtain ⟨i0,hi,Hi,Vd,Pg⟩:=info_parts info_q;exact ⟨underlying60,⟨i0,hi,Hi,Vd,Pg⟩,rfl,zO⟩
theorem MX (w:vu) (x y z:vw) (t:vy):Rd (w.alloc (.cells #[x,y,z] t)) 3 (vD ⟨w.1.size,0,vB⟩) 1 [x,y,z]:=by
 refine ⟨rfl,fun _=>⟨_,rfl,fun j u hj=>?_⟩⟩
 match j,hj with
 | 0,hj=>simp at hj;subst hj;simp [Addr.add]
 | 1,hj=>simp at hj;subst hj;simp [Addr.add]
 | 2,hj=>simp at hj;subst hj;simp [Addr.add]
theorem p6:Keyed prog 9:=string_keyed underlying9
theorem U5 (lab:Nat) (l:List Nat) (h:l.length <= 1000000):keyOf prog 9 (.string (S (Bj (lab :: l))))=vD (yq lab l):=by
 have:=WideMaps.keyOf_string_mk (P:=prog) underlying9 (s:=S (Bj (lab :: l))) (by rw [S_size,IS,Yh];simp only [maxLen];omega)
 rw [this];simp [S,yq]
theorem zFw {O:Jb} (h:OrcOk O) {lab:Nat} {l:List Nat} {an:Nat} (mi:lab<18446744073709551616) (Mh:fe l=true) (Sy:an<nc) (hlen:l.length <= 1000000) (lN:Pf O.qs lab l=vB) (uS:O.ideal=false -> an=Dk lab l):OrcOk (Mk O lab l an):=by
 refine ⟨h.st,fun q hq=>?_,?_,fun hi q hq=>?_⟩
 ·rcases Tp.1 hq with hq | hq
  ·exact h.qs q hq
  ·rw [Ay.1 hq];exact ⟨mi,Mh,Sy,hlen⟩
 ·show (O.qs++[_]).Pairwise _
  rw [List.pairwise_append];refine ⟨h.apart,List.pairwise_singleton _ _,fun a ha b hb hc=>?_⟩
  rw [Ay.1 hb] at hc;unfold Pf at lN;rw [Option.map_eq_none_iff] at lN;have:=List.find?_eq_none.1 lN a ha;exact this (qQ.2 hc)
 ·rcases Tp.1 hq with hq | hq
  ·exact h.real hi q hq
  ·rw [Ay.1 hq];exact uS hi
structure OrcPre (w:vu) (g km:Nat) (cells:Array vw) (v:vw) (n m:Nat) (cs:List vw) (qs:List Qn) (D:DataW Unit) (E:Nat -> Prop):Prop where
 blk:Blk w g 121 cells
 own:w.ownsRow 0 95 3 v n cs
 rows:CE E w cs qs
 map:w.ownsMap prog 9 (plainElem prog 3) km m D
theorem OrcPre.keep {w w':vu} {g km:Nat} {cells:Array vw} {v:vw} {n m:Nat} {cs:List vw} {qs:List Qn} {D:DataW Unit} {E F:Nat -> Prop} (h:OrcPre w g km cells v n m cs qs D E) (hF:F g /\ F km /\ (∀ b,v.ownBlock=vD b -> F b) /\ ∀ b,E b -> F b)
  (hs:w.1.size <= w'.1.size) (hw:∀ b,F b -> w'.1[b]?=w.1[b]?):OrcPre w' g km cells v n m cs qs D E where
 blk:=(hw g hF.1).trans h.blk
 own:=Ye h.own fun b hb=>hw b (hF.2.2.1 b hb)
 rows:=IN h.rows hs fun b hb _=>hw b (hF.2.2.2 b hb)
 map:=by
  obtain ⟨es,clock,h1,h2⟩:=h.map;exact ⟨es,clock,(hw km hF.2.1).trans h1,h2⟩
theorem zHo {w w3 w4:vu} {g km sm pm:Nat} {O:Jb} {F E:Nat -> Prop} {v v' vs:vw} {cs:List vw} {lab an N n eb:Nat} {l:List Nat}
  (OK:OrcOk (Mk O lab l an))
  (P:OrcPre w3 g km #[.bool O.ideal, .int vo O.st, .int vq O.dr,v, .map (vD km), .map (vD sm), .map (vD pm)] v O.qs.length (O.qs.length+1) cs O.qs ((AB O.qs).put (yq lab l) (.lit (.int vq O.qs.length))) E)
  (hF:F g /\ F km /\ (∀ b,v.ownBlock=vD b -> F b) /\ ∀ b,E b -> F b) (hX:v.ownBlock≠vD g /\ v.ownBlock≠vD km /\ ∀ b,E b -> b≠g /\ b≠km /\ v.ownBlock≠vD b) (hgk:g≠km) (ya:∀ b,F b -> b<N) (hN:N <= eb) (XA:N <= w3.1.size) (hew:w.1.size <= eb)
  (tl:w3.ownsRow eb 22 1 vs n (Qa l)) (dp:∀ x∈l,x<18446744073709551616)
  (oa:w4.ownsRow 0 95 3 v' (O.qs.length+1) (cs++[vd vo lab,vs,vd vo an])) (hg:w3.grownBy w4 v.ownBlock) (hb:v'.ownBlock=v.ownBlock \/ v'.ownBlock=vD w3.1.size)
  (M:Moved F F w w3) :
  ∃ F',OrcAt (w4.setCell ⟨g,3,vB⟩ v') g (Mk O lab l an) F' /\ Moved F F' w (w4.setCell ⟨g,3,vB⟩ v'):=by
 obtain ⟨fg,fkm,fv,fE⟩:=hF;obtain ⟨x1,x2,x3⟩:=hX;have Ob:w4.grownBy (w4.setCell ⟨g,3,vB⟩ v') (vD g):=Li (p:=⟨g,3,vB⟩) (mg w4 _) (.inl rfl) _;have kb4:=P.blk.grown hg (fun e=>x1 e.symm)
 have kb5:=kb4.set_ 3 v';have uc:∀ b,vs.ownBlock=vD b -> eb <= b /\ b<w3.1.size:=fun b h=>tl.lt b h
 have sI:∀ b,v'.ownBlock=vD b -> F b \/ b=w3.1.size:=fun b h=>by
  rcases hb with e | e
  ·exact .inl (fv b (by rw [<- e];exact h))
  ·rw [e] at h;exact .inr (Nb h).symm
 have hvg:v'.ownBlock≠vD g:=fun h=>by
  rcases hb with e | e
  ·exact x1 (by rw [<- e];exact h)
  ·rw [e] at h;have:=Nb h;have:=ya g fg;omega
 have hvk:v'.ownBlock≠vD km:=fun h=>by
  rcases hb with e | e
  ·exact x2 (by rw [<- e];exact h)
  ·rw [e] at h;have:=Nb h;have:=ya km fkm;omega
 have hvE:∀ b,E b -> v'.ownBlock≠vD b:=fun b hE h=>by
  rcases hb with e | e
  ·exact (x3 b hE).2.2 (by rw [<- e];exact h)
  ·rw [e] at h;have:=Nb h;have:=ya b (fE b hE);omega
 have Qr:∀ b,v.ownBlock=vD b -> b<N:=fun b h=>ya b (fv b h)
 have CD:=Ye oa fun b h=>Ob.block b (oa.lt b h).2 (fun e=>hvg (by rw [h,e]))
 have vs4:=Ye tl fun b h=>hg.block b (uc b h).2 (fun e=>by have:=Qr b e.symm;have:=uc b h;omega)
 have vs5:=Ye vs4 fun b h=>Ob.block b (vs4.lt b h).2 (fun e=>by have:=Nb e;have:=uc b h;have:=ya g fg;omega)
 have yI:=XP vs5 dp;have rows4:=IN P.rows hg.size fun b hE hl=>hg.block b hl (fun e=>(x3 b hE).2.2 e.symm)
 have rows5:=IN rows4 Ob.size fun b hE hl=>Ob.block b hl (fun e=>(x3 b hE).1 (Nb e))
 have s4:=hg.size;have s5:=Ob.size;refine ⟨fun b=>F b \/ v'.ownBlock=vD b \/ vs.ownBlock=vD b,⟨v',cs++[vd vo lab,vs,vd vo an],km,sm,pm,fun b=>E b \/ vs.ownBlock=vD b,?_⟩,?_⟩
 ·refine ⟨OK,?_,?_,?_,?_,?_,fun e=>hgk e.symm,hvk,hvg, .inl fg,fun b h=>.inr (.inl h), .inl fkm,?_,?_⟩
  ·show Blk _ g _ #[.bool O.ideal,vd vo O.st,vd vq O.dr,v', .map (vD km), .map (vD sm), .map (vD pm)]
   simpa using kb5
  ·have:(Mk O lab l an).qs.length=O.qs.length+1:=by show (O.qs++[_]).length=_;simp
   rw [this];exact CD
  ·exact zGu (q:=⟨lab,l,an⟩) (zGv rows5 fun b h=>.inl h) (VP yI fun b h=>.inr h)
  ·have:(Mk O lab l an).qs=O.qs++[⟨lab,l,an⟩]:=zBK O lab l an
   rw [this,yS,qh];obtain ⟨es,clock,h1,h2⟩:=P.map;refine ⟨es,clock,?_,h2⟩;have hkl:km<w3.1.size:=by have:=ya km fkm;omega
   exact (Ob.block km zO (fun e=>hgk (Nb e).symm)).trans ((hg.block km hkl (fun e=>x2 e.symm)).trans h1)
  ·intro b h
   rcases h with h | h
   ·exact ⟨by have:=ya b (fE b h);omega,(x3 b h).1,(x3 b h).2.1,hvE b h⟩
   ·have h1:=uc b h
    refine ⟨zO,fun e=>by have:=ya g fg;omega,fun e=>by have:=ya km fkm;omega,fun e=>?_⟩
    rcases sI b e with h2 | h2
    ·have:=ya b h2;omega
    ·omega
  ·intro b h
   rcases h with h | h
   ·exact .inl (fE b h)
   ·exact .inr (.inr h)
  ·intro b h
   rcases h with h | h | h
   ·have:=ya b h;omega
   ·have:=(oa.lt b h).2;omega
   ·have:=uc b h;omega
 ·refine mX (F':=F) ((M.trans (vN (F:=F) hg fun b h=>fv b h)).trans (vN (F:=F) Ob fun b h=>by rw [<- Nb h];exact fg)) fun b h=>?_
  have hs:=M.size;rcases h with h | h | h
  ·exact .inl h
  ·rcases sI b h with h | h
   ·exact .inl h
   ·exact .inr zO
  ·exact .inr (zQ (uc b h))
where
 zBK (O:Jb) (lab:Nat) (el:List Nat) (a:Nat):(Mk O lab el a).qs=O.qs++[⟨lab,el,a⟩]:=by simp only [Mk]
theorem zAm {w:vu} {g:Nat} {O:Jb} {F:Nat -> Prop} {v:vw} {cs:List vw} {km sm pm:Nat} {E:Nat -> Prop} (h:OrcIn w g O F v cs km sm pm E) (lab:Nat) (l:List Nat) (an:Nat) (A:Option vx) (n c:Nat) {K:Nat -> Prop}
  (hl:Lj K w (ve A n c) l) (hK:∀ b,K b -> ¬F b) (mi:lab<18446744073709551616) (Mh:fe l=true) (Sy:an<nc) (hlen:l.length <= 1000000) (hn:O.qs.length <= 1000000) (lN:Pf O.qs lab l=vB) (uS:O.ideal=false -> an=Dk lab l) :
  vA prog 225 #[.pointer (vD ⟨g,0,vB⟩), .string (S (Bj (lab :: l))),vd vo lab,ve A n c,vd vo an] w fun e w'=>e=vn (.tuple #[]) /\ ∃ F',OrcAt w' g (Mk O lab l an) F' /\ Moved F F' w w':=by
 have OK1:=zH (zFw h.ok mi Mh Sy hlen lN uS);have cE:=zH (U5 lab l hlen);have Kg:=zH hlen;have Bw:=zH Mh;have Mv:l.length=n:=by obtain ⟨A',c',e,-⟩:=AS hl;injection e with _ e2 _;exact e2.symm
 have IG:=zH Mv;have HK:=zH hK;clear mi Mh lN uS hK hlen Mv;obtain ⟨hv⟩:Nonempty (∃ B d,v=ve B O.qs.length d):=by
  obtain ⟨B,d,e,-⟩:=Yb h.own;exact ⟨B,d,e⟩
 obtain ⟨B,d,rfl⟩:=hv;have kb:=h.blk;have hc:=kb.cell;have hmp:=fun w=>run_eql_map_nil (P:=prog) w 117 9 3 (vD km) underlying117
 have H:=zH h;have hglt:g<w.1.size:=kb.lt;have hgk:g≠km:=fun e=>h.kmg e.symm
 have gn:(O.qs.length:Int) <= 1000000:=by omega
 obtain ⟨nq,hnq⟩:=zEX (O.qs.length);rw [<- hnq] at hc gn;have se:=zH hnq;clear h hnq kb hn;go_enter func225,ntmps225
 go_wp2_with fail
 refine Pd (Ji km) [10] [0,1,2,3,4,5,6,7,8,9,10] zK zK ?_;refine oe (de km) ?_;intro Wc Ga ja;have H1:=zH (show OrcIn Wc g O F (ve B O.qs.length d) cs km sm pm E by rw [Ga.out];exact H.out.drew)
 have Gi:Lj K Wc (ve A n c) l:=by rw [Ga.out];exact sD hl zR fun _ _ _=>rfl
 have M0:Moved F F w Wc:=by rw [Ga.out];exact SF Moved.refl
 clear Ga H hl;obtain ⟨w1,Ld,jf,Nh⟩:=H1.out.map.update p6 underlying117 (by have:=se.out;simp only [maxLen];omega) cE.out (val:=.int vq nq) (plainElem_int underlying3 (by simp [Lit.wf,IntKind.min,IntKind.max,IntKind.signed,IntKind.bits];omega))
 refine Hk ?_;refine ke (de km) rfl rfl rfl ?_;go_simp;refine ⟨Nh,?_⟩
 refine zPU ?_
 refine Vc ?_;have Mx:Blk w1 g 121 _:=H1.out.blk.grown Nh (fun e=>hgk (Nb e))
 have JB:=Ye H1.out.own fun b hb=>Nh.block b (H1.out.own.lt b hb).2 (fun e=>H1.out.vkm (by rw [hb,e]))
 have rows1:=IN H1.out.rows Nh.size fun b hb hl=>Nh.block b hl (fun e=>(H1.out.el b hb).2.2.1 (Nb e))
 have Ul:Lj K w1 (ve A n c) l:=sD Gi Nh.size fun b hb hl=>Nh.block b hl (fun e=>HK.out b hb (by rw [Nb e];exact H1.out.fkm))
 have M1:=M0.trans (vN (F:=F) Nh (fun b e=>by rw [<- Nb e];exact H1.out.fkm))
 have lk1:km<w1.1.size:=jf.lt;have kd:=Mx.cell;have xx:=Mx.frozen;have lg1:=Mx.lt;have P1:=zH (OrcPre.mk Mx JB rows1 jf);have HF:Hid (F g /\ F km /\ (∀ b,(ve B O.qs.length d).ownBlock=vD b -> F b) /\ ∀ b,E b -> F b):=⟨H1.out.fg,H1.out.fkm,H1.out.fv,H1.out.fE⟩;have HX:Hid ((ve B O.qs.length d).ownBlock≠vD g /\ (ve B O.qs.length d).ownBlock≠vD km /\ ∀ b,E b -> b≠g /\ b≠km /\ (ve B O.qs.length d).ownBlock≠vD b):=⟨H1.out.vg,H1.out.vkm,fun b hb=>⟨(H1.out.el b hb).2.1,(H1.out.el b hb).2.2.1,(H1.out.el b hb).2.2.2⟩⟩
 have tc:=zH (show ∀ b,F b -> b<w1.1.size from fun b hb=>We (H1.out.lt b hb) Nh.size)
 obtain ⟨VF,hVF⟩:∃ VF:Nat -> Prop,∀ b,VF b↔(ve B O.qs.length d).ownBlock=vD b:=⟨_,fun _=>Iff.rfl⟩
 have nVg:¬VF g:=fun e=>HX.out.1 ((hVF g).1 e)
 have HVF:=zH hVF;rw [<- se.out] at kd;clear hVF Mx JB rows1 jf hc Ld Nh Gi M0 ja hglt hmp H1 cE;clear Wc;go_wp2_with fail
 obtain ⟨N,hN⟩:=zEX (w1.1.size);rw [<- hN] at lg1 lk1;have HN:=zH hN;clear hN;refine Jz (Fl VF N) [7,10,11,12,14] [14] [0,1,2,3,4,5,6,8,7,9,10,11,12,13,14] zK zK ?_;refine Lz (mc VF N) ?_;intro Wc Ga ja;have P2:=zH (P1.out.keep (w':=w1.drew) (F:=F) HF.out zR fun _ _=>rfl)
 rw [<- Ga.out] at P2;have Cx:Lj K Wc (ve A n c) l:=by rw [Ga.out];exact sD Ul zR fun _ _ _=>rfl
 have M2:Moved F F w Wc:=by rw [Ga.out];exact SF M1
 have Gc:N <= Wc.1.size:=by rw [Ga.out,HN.out];exact zR
 have hbN:N <= Wc.1.size:=Gc;have Pa:w.1.size <= Wc.1.size:=M2.size;have HLc:Hid (∀ b,F b -> b<N):=by rw [HN.out];exact tc.out
 clear Ga P1 Ul M1 tc;refine RY ?_;refine tn (mc VF N) rfl rfl rfl (fun _=>by go_simp <;> rfl) ((FZ A n c l _ (Nx Cx) (zQ Kg.out)).mono ?_)
 rintro e w2 ⟨vs,rfl,tl,Fa⟩;refine ⟨_,rfl,fun _=>ze Fa Gc,?_⟩
 replace ja:=zM (mc VF N) ja (ze Fa Gc);refine zPU ?_;have P3:=zH (P2.out.keep (F:=F) HF.out Fa.size fun b hb=>Fa.block b (zQ (HLc.out b hb)))
 have M3:=M2.trans (Af (F:=F) Fa);have uf:N <= w2.1.size:=by have:=Fa.size;omega
 obtain ⟨Bs,ds,rfl,-,-,-,mq⟩:=Yb tl;clear P2 M2 Fa Gc Cx ja kd;have ja:=(mc VF N).refl w2;refine RY ?_;refine fh (mc VF N) rfl rfl rfl ?_;go_simp;refine ⟨fun _=>ze ((Kb _ _).alloc zR _) uf,?_⟩
 have ma:=zA w2 (.cells #[vd vo lab,ve Bs n ds,vd vo an] 95);have Na:=MX w2 (vd vo lab) (ve Bs n ds) (vd vo an) 95;have P4:=zH (P3.out.keep (F:=F) HF.out ma.size fun b hb=>ma.block b (zQ (HLc.out b hb)))
 have QW:=Za tl ma zR;have M4:=M3.trans (Af (F:=F) ma);have XA:N <= (w2.alloc (.cells #[vd vo lab,ve Bs n ds,vd vo an] 95)).1.size:=jb uf ma.size;have BD:=P4.out.own;rw [<- se.out] at BD
 refine zPU ?_
 generalize w2.alloc _=w3 at Na P4 QW M4 XA BD |-;generalize w2.1.size=g2 at Na |-;clear P3 M3 uf ma tl ja;have ja:=(mc VF N).refl w3;refine fh (mc VF N) rfl rfl rfl ?_;refine Cs _ _ rfl PO rfl BD rfl Na (by intro u hu;simp at hu;rcases hu with rfl | rfl | rfl <;> rfl) zO (Qb _) ?_
 intro v' w4 Ua Ma Cb;refine ⟨fun _=>zDz Ma XA (fun b hb=>(HVF.out b).2 (by rw [<- se.out];exact hb)),?_⟩
 refine zPU ?_
 have hf4:=(P4.out.blk.grown Ma (fun e=>by rw [se.out] at e;exact HX.out.1 e.symm)).frozen
 have hcg4:=(P4.out.blk.grown Ma (fun e=>by rw [se.out] at e;exact HX.out.1 e.symm)).cell
 obtain ⟨Av,cv,hv',-⟩:=Yb Ua;subst hv';have Bt:=zH (zHo OK1.out (by have:=P4.out;rw [se.out] at this;exact this) HF.out HX.out hgk HLc.out (eb:=Wc.1.size) hbN XA Pa QW (RO Bw.out) (by have:=Ua;rw [se.out] at this;exact this) (by have:=Ma;rw [se.out] at this;exact this) (by rw [<- se.out];exact Cb) M4)
 rw [<- se.out] at Bt;clear Ua Ma Cb Na P4 BD QW M4 ja XA;have ja:=(mc VF N).refl w4;refine fh (mc VF N) rfl rfl rfl ?_;go_simp
 try refine And.intro (fun _=>(mc VF N).refl _) ?_
 refine zPU ?_
 refine RY ?_;refine fh (mc VF N) rfl rfl rfl ?_;go_simp;refine ⟨fun h=>Bool.noConfusion h,?_⟩
 refine zPU ?_
 refine Kz ?_;go_wp2
 go_end0
 exact ⟨rfl,Bt.out⟩
theorem E5 {w:vu} {a b c:vw}:(Instr.index 298 (vf #[a,b,c]) (vd vq 0)).run prog w= .ok a w :=
 wQ (i:=0) underlying298 RU gY zO rfl
theorem S8 (label:Nat) (A:Option vx) (n c:Nat) (l:List Nat) (w:vu) (hl:RWd w [ve A n c] l) (db:0<l.length) (hlen:l.length <= 1000000) :
  vA prog 205 #[vd vo 18446744069414584321,vd vo label,ve A n c] w fun e w'=>e=vn (vd vo (Dk label l:Int)) /\ vz w.1.size w w':=by
 have HV:=zH (fun w=>qv nc w eQ)
 have Kq:=zH (fun w' (hb:vz w.1.size w w')=>zFK nc label A n c l w' eQ (Wa hb hl) db hlen)
 have HE:=zH (show Dk label l=(Wq nc label l).a from rfl)
 have hidx:=fun w a b c=>E5 (w:=w) (a:=a) (b:=b) (c:=c)
 clear hl db hlen;generalize Dk label l=z at *;generalize Wq nc label l=s at *;unfold fv nc at *;go_enter func205,ntmps205
 go_wp2_with fail
 refine (HV.out _).mono ?_;rintro e w1 ⟨rfl,Oa⟩;go_wp2_with fail
 refine (Kq.out _ Oa).mono ?_;rintro e w2 ⟨rfl,Fa⟩;have da:=ta Oa Fa;have ev:s.val=vf #[vd vo s.a,vd vo s.b,vd vo s.c]:=rfl;rw [ev];go_wp2;go_ret
 exact ⟨by rw [HE.out];rfl,da⟩
theorem U9 (label:Nat) (A:Option vx) (n c:Nat) (l:List Nat) (w:vu) (hl:RWd w [ve A n c] l) (db:0<l.length) (hlen:l.length <= 1000000) :
  vA prog 239 #[vd vo 18446744069414584321,vd vo label,ve A n c] w fun e w'=>e=vn (vd vo (Dk label l:Int)) /\ vz w.1.size w w':=by
 have HV:=zH (show ∀ w,vA prog 152 #[vd vo nc] w fun e w'=>e=vn (.bool true) /\ vz w.1.size w w' from fun w=>by have:=Fq nc w zD;rw [eQ] at this;exact this)
 have Kq:=zH (fun w' (hb:vz w.1.size w w')=>L9 nc label A n c l w' eQ (Wa hb hl) db hlen)
 have HE:=zH (show Dk label l=(Wq nc label l).a from rfl)
 have hidx:=fun w a b c=>E5 (w:=w) (a:=a) (b:=b) (c:=c)
 clear hl db hlen;generalize Dk label l=z at *;generalize Wq nc label l=s at *;unfold nc at *;go_enter func239,ntmps239
 go_wp2_with fail
 refine (HV.out _).mono ?_;rintro e w1 ⟨rfl,Oa⟩;go_wp2_with fail
 refine (Kq.out _ Oa).mono ?_;rintro e w2 ⟨rfl,Fa⟩;have da:=ta Oa Fa;have ev:s.val=vf #[vd vo s.a,vd vo s.b,vd vo s.c]:=rfl;rw [ev];go_wp2;go_ret
 exact ⟨by rw [HE.out];rfl,da⟩
theorem zDU {O:Jb} {lab:Nat} {l:List Nat} (h:fe l=false):Ae O lab l=0 /\ Qd O lab l=O:=by
 unfold Ae Qd;simp only [h,Bool.false_eq_true,if_false,and_self]
theorem zDX {O:Jb} {lab a:Nat} {l:List Nat} (h:fe l=true) (hf:Pf O.qs lab l=vD a):Ae O lab l=a /\ Qd O lab l=O:=by
 unfold Ae Qd;simp only [h,hf,if_true,and_self]
theorem zDT {O:Jb} {lab:Nat} {l:List Nat} (h:fe l=true) (hf:Pf O.qs lab l=vB) (hi:O.ideal=true):Ae O lab l=Pn O /\ Qd O lab l=Mk (Ro O) lab l (Pn O):=by
 unfold Ae Qd;simp only [h,hf,hi,if_true,and_self]
theorem zDV {O:Jb} {lab:Nat} {l:List Nat} (h:fe l=true) (hf:Pf O.qs lab l=vB) (hi:O.ideal=false):Ae O lab l=Dk lab l /\ Qd O lab l=Mk O lab l (Dk lab l):=by
 unfold Ae Qd;simp only [h,hf,hi,if_true,Bool.false_eq_true,if_false,and_self]
theorem zIL (w:vu):(zeroValue 3).run prog w= .ok (vd vq 0) w:=by kernel_rfl
theorem lX {w:vu} {g:Nat} {O:Jb} {F:Nat -> Prop} {v:vw} {cs:List vw} {km sm pm:Nat} {E:Nat -> Prop} (h:OrcIn w g O F v cs km sm pm E) {lab:Nat} {l:List Nat} (mi:lab<18446744073709551616) (hl:fe l=true) (hlen:l.length <= 1000000) :
  (∃ c:Int,(Instr.lookup 117 (.map (vD km)) (.string (S (Bj (lab :: l)))) true).run prog w= .ok (.tuple #[vd vq c, .bool (Pf O.qs lab l).isSome]) w /\
   ∀ a,Pf O.qs lab l=vD a -> ∃ (i:Nat) (gq:Nat) (d:Nat),c=(i:Int) /\ i<O.qs.length /\ v=ve (vD ⟨gq,0,vB⟩) O.qs.length d /\ w.cell? ⟨gq,i*3+2,vB⟩=vD (vd vo a) /\ gq<w.1.size):=by
 have hk:=U5 lab l hlen;obtain ⟨x,ps,Ld,hx⟩:=h.map.look_ok p6 underlying117 (zIL w) (plainElem_int underlying3 zD) hk;obtain ⟨c,rfl,hc,-⟩:=plainElem_int_inv underlying3 hx;rw [zEp mi (RO hl) h.ok.qs] at Ld;refine ⟨c,Ld,fun a ha=>?_⟩
 obtain ⟨i,q,h1,h2,h3⟩:=zEo mi (RO hl) h.ok.qs h.ok.apart a ha;have hi:i<O.qs.length:=by
  rcases Zj i O.qs.length with e | e
  ·exact e
  ·rw [It e] at h1;cases h1
 rw [h3] at hc;have lF:c=(i:Int):=by
  have:=congrArg Prod.fst hc;simp at this
  exact this.symm
 obtain ⟨h4,h5,-⟩:=h.rows.2 i q h1;rcases h.own.2 with ⟨rfl,h0⟩ | ⟨gq,cap,cur,hv,-,hh,-⟩
 ·omega
 ·refine ⟨i,gq,cap,lF,hi,hv,?_,(Yx.1 hh).1⟩
  have:=h.own.cells (g:=gq) (by rw [hv];rfl) (i*3+2) _ h5
  rw [h2] at this
  simpa [Addr.add] using this
theorem ZZ (O:Jb):(Ro O).ideal=O.ideal:=by
 cases O with
 | mk i s d q=>exact zCL i s d q
where
 zCL (i:Bool) (s d:Nat) (q:List Qn):(Ro ⟨i,s,d,q⟩).ideal=i:=rfl
theorem ZR {w:vu} {g:Nat} {O:Jb} {F:Nat -> Prop} (h:OrcAt w g O F) (lab:Nat) (l:List Nat) (A:Option vx) (n c:Nat) {K:Nat -> Prop} (hl:Lj K w (ve A n c) l) (hK:∀ b,K b -> ¬F b)
  (mi:lab<18446744073709551616) (hlen:l.length <= 1000000) (db:0<l.length \/ O.ideal=true) (hn:O.qs.length <= 1000000) (hd:O.dr <= 1000000) :
  vA prog 137 #[.pointer (vD ⟨g,0,vB⟩),vd vo lab,ve A n c] w fun e w'=>e=vn (vd vo (Ae O lab l:Int)) /\ ∃ F',OrcAt w' g (Qd O lab l) F' /\ Moved F F' w w':=by
 have Pm:=zH (zFm A n c l w (Nx hl));obtain ⟨v,cs,km,sm,pm,E,Ed⟩:=h;cases he:fe l
 ·rw [he] at Pm
  obtain ⟨e1,e2⟩:=zDU (O:=O) (lab:=lab) he;rw [e1,e2];have Bt:=zH (show ∃ F',OrcAt w g O F' /\ Moved F F' w w from ⟨F,⟨v,cs,km,sm,pm,E,Ed⟩,Moved.refl⟩)
  clear hl hK db hn hd Ed he e1 e2;go_enter func137,ntmps137
  go_wp2_with fail
  refine Pm.out.mono ?_;rintro e w1 ⟨rfl,rfl⟩;go_wp2_with fail
  go_ret
  exact ⟨rfl,Bt.out⟩
 ·rw [he] at Pm
  have HE:=zH he;have HI:=zH Ed;have HL:=zH hl;have HK:=zH hK;have Kg:=zH hlen;have HN:=zH hn;have zP:=zH mi;have cE:=zH (fun w1 (k:Blk w1 w.1.size 22 #[vd vo lab]) (hb:vz w.1.size w w1)=>show vA prog 204 #[ve A n c,ve (vD ⟨w.1.size,0,vB⟩) 1 1] w1 fun e w'=>e=vn (.string (S (Bj (lab :: l)))) /\ vz w1.1.size w1 w' from zEm A (vD ⟨w.1.size,0,vB⟩) n c 1 1 l [lab] w1 (Wa hb (Nx hl)) (uN (l:=[lab]) k (by simp;exact mi) (by simp [maxLen])) hlen zS)
  obtain ⟨yl,da⟩:=zN w 22 #[vd vo lab];clear he hl hK Ed hlen hn;cases hf:Pf O.qs lab l with
  | some a =>
   obtain ⟨e1,e2⟩:=zDX (O:=O) (lab:=lab) HE.out hf;rw [e1,e2];have HF:=zH hf;clear e1 e2 hf db hd;go_enter func137,ntmps137
   go_wp2_with fail
   refine Pm.out.mono ?_;rintro e w1 ⟨rfl,rfl⟩;go_wp2_with fail
   generalize w.alloc _=w1 at yl da |-;refine (cE.out w1 yl da).mono ?_;rintro e w2 ⟨rfl,Fa⟩;replace da:=ta da Fa;have H2:=zH (HI.out.below da);have Cn:=zH (BL HL.out da);have M2:=Af (F:=F) da;obtain ⟨x,Ld,JK⟩:=lX H2.out zP.out HE.out Kg.out;have hc:=H2.out.blk.cell;clear Fa da yl cE;rw [HF.out] at Ld JK;obtain ⟨i,gq,d,rfl,hi,rfl,rq,hgq⟩:=JK a rfl;have Bt:=zH (show ∃ F',OrcAt w2 g O F' /\ Moved F F' w w2 from ⟨F,⟨_,cs,km,sm,pm,E,H2.out⟩,M2⟩)
   obtain ⟨nq,hnq⟩:=zEX (O.qs.length);rw [<- hnq] at hi hc;have g1:(0:Int)<=i:=by omega
   have g2:(i:Int)<nq:=by omega
   clear JK hnq M2;simp only [Option.isSome] at Ld;go_wp2_with fail
   go_ret
   exact ⟨rfl,Bt.out⟩
  | none =>
   have HF:=zH hf;cases hi:O.ideal
   ·obtain ⟨e1,e2⟩:=zDV (O:=O) (lab:=lab) HE.out hf hi
    rw [e1,e2];have HH:=zH hi;have tS:0<l.length:=by
     rcases db with e | e
     ·exact e
     ·rw [hi] at e;cases e
    have HNE:=zH tS;clear e1 e2 hf hi db tS hd;go_enter func137,ntmps137
    go_wp2_with fail
    refine Pm.out.mono ?_;rintro e w1 ⟨rfl,rfl⟩;go_wp2_with fail
    generalize w.alloc _=w1 at yl da |-;refine (cE.out w1 yl da).mono ?_;rintro e w2 ⟨rfl,Fa⟩;replace da:=ta da Fa;have H2:=zH (HI.out.below da);have Cn:=zH (BL HL.out da);have M2:=Af (F:=F) da;obtain ⟨x,Ld,JK⟩:=lX H2.out zP.out HE.out Kg.out;have hc:=H2.out.blk.cell;clear Fa da yl cE;rw [HF.out] at Ld;rw [HH.out] at hc;clear JK;simp only [Option.isSome] at Ld;go_wp2_with fail
    refine (S8 lab A n c l w2 (Nx Cn.out) HNE.out Kg.out).mono ?_;rintro e w3 ⟨rfl,Ra⟩;have H3:=zH (H2.out.below Ra);have HL3:=zH (BL Cn.out Ra);have M3:=M2.trans (Af (F:=F) Ra);clear hc Ld Ra M2;go_wp2_with fail
    refine (zAm H3.out lab l (Dk lab l) A n c HL3.out HK.out zP.out HE.out (CQ lab l) Kg.out HN.out HF.out (fun _=>rfl)).mono ?_
    rintro e w4 ⟨rfl,F',h4,m4⟩;have Bt:=zH (show ∃ F',OrcAt w4 g (Mk O lab l (Dk lab l)) F' /\ Moved F F' w w4 from ⟨F',h4,M3.trans m4⟩)
    clear h4 m4 M3;go_wp2;go_ret
    exact ⟨rfl,Bt.out⟩
   ·obtain ⟨e1,e2⟩:=zDT (O:=O) (lab:=lab) HE.out hf hi
    rw [e1,e2];have HH:=zH hi;have HD:=zH hd;clear e1 e2 hf hi db hd;go_enter func137,ntmps137
    go_wp2_with fail
    refine Pm.out.mono ?_;rintro e w1 ⟨rfl,rfl⟩;go_wp2_with fail
    generalize w.alloc _=w1 at yl da |-;refine (cE.out w1 yl da).mono ?_;rintro e w2 ⟨rfl,Fa⟩;replace da:=ta da Fa;have H2:=zH (HI.out.below da);have Cn:=zH (BL HL.out da);have M2:=Af (F:=F) da;obtain ⟨x,Ld,JK⟩:=lX H2.out zP.out HE.out Kg.out;have hc:=H2.out.blk.cell;clear Fa da yl cE;rw [HF.out] at Ld;rw [HH.out] at hc;clear JK;simp only [Option.isSome] at Ld;go_wp2_with fail
    refine (zCK H2.out HH.out (zQ HD.out)).mono ?_;rintro e w3 ⟨rfl,h3,yh⟩;have H3:=zH h3;have HL3:=zH (sD Cn.out yh.size fun b hb hl=>yh.block b hl (fun e=>HK.out b hb (by rw [Nb e];exact HI.out.fg)))
    have M3:=M2.trans (vN (F:=F) yh (fun b hb=>by rw [<- Nb hb];exact HI.out.fg))
    clear hc Ld yh M2 h3;go_wp2_with fail
    refine (zAm H3.out lab l (Pn O) A n c HL3.out HK.out zP.out HE.out (GR _) Kg.out (by rw [lH];exact HN.out) (by rw [lH];exact HF.out) (fun e=>by rw [ZZ,HH.out] at e;cases e)).mono ?_
    rintro e w4 ⟨rfl,F',h4,m4⟩;have Bt:=zH (show ∃ F',OrcAt w4 g (Mk (Ro O) lab l (Pn O)) F' /\ Moved F F' w w4 from ⟨F',h4,M3.trans m4⟩)
    clear h4 m4 M3;go_wp2;go_ret
    exact ⟨rfl,Bt.out⟩
theorem J8 (i:Bool) (s:Nat) (hs:s<18446744073709551616):OrcOk (newO i s):=⟨hs,fun _ h=>(nomatch h),List.Pairwise.nil,fun _ _ h=>(nomatch h)⟩
theorem V7 (w:vu) :
  vA prog 54 #[] w fun e w'=>∃ g km sm pm F,e=vn (.pointer (vD ⟨g,0,vB⟩)) /\ OrcIn w' g ⟨false,0,0,[]⟩ F (ve vB 0 0) [] km sm pm (fun _=>False) /\ (∀ b,F b -> w.1.size <= b) /\ vz w.1.size w w':=by
 have hmm:=@run_makeMap prog;have hm:=World.ownsMap_made (H:=Unit) w prog 9 (plainElem prog 3);go_enter func54,ntmps54
 go_wp2_with fail
 go_ret
 have Oa:=zA w (.map #[] 0);have Fa:=Oa.alloc (by first | omega | (simp;done) | (simp;omega)) (.map #[] 0)
 have Ra:=Fa.alloc (by first | omega | (simp;done) | (simp;omega)) (.map #[] 0)
 have Ib:=Ra.alloc (by first | omega | (simp;done) | (simp;omega)) (.cells #[.bool false,vd vo 0,vd vq 0,ve vB 0 0, .map (vD w.1.size), .map (vD (w.1.size+1)), .map (vD (w.1.size+1+1))] 121)
 have kb:=Blk.new (((w.alloc (.map #[] 0)).alloc (.map #[] 0)).alloc (.map #[] 0)) 121 #[.bool false,vd vo 0,vd vq 0,ve vB 0 0, .map (vD w.1.size), .map (vD (w.1.size+1)), .map (vD (w.1.size+1+1))];have hm4:=((hm.alloc (.map #[] 0)).alloc (.map #[] 0)).alloc (.cells #[.bool false,vd vo 0,vd vq 0,ve vB 0 0, .map (vD w.1.size), .map (vD (w.1.size+1)), .map (vD (w.1.size+1+1))] 121);have Db:(((w.alloc (.map #[] 0)).alloc (.map #[] 0)).alloc (.map #[] 0)).1.size=w.1.size+1+1+1:=by simp
 rw [Db] at kb;generalize (((w.alloc (.map #[] 0)).alloc (.map #[] 0)).alloc (.map #[] 0)).alloc _=w4 at Ib kb hm4 |-;have hl:=kb.lt;refine ⟨w.1.size+1+1+1,w.1.size,w.1.size+1,w.1.size+1+1,fun b=>b=w.1.size+1+1+1 \/ b=w.1.size,rfl,?_,fun b h=>zO,Ib⟩
 exact ⟨J8 false 0 zD,kb,⟨rfl, .inl ⟨rfl,rfl⟩⟩,zGw _ _,hm4,fun _ h=>h.elim,zO,by simp [Value.ownBlock],by simp [Value.ownBlock], .inl rfl,by simp [Value.ownBlock], .inr rfl,fun _ h=>h.elim,fun b h=>zO⟩
theorem zHn (w:vu) :
  vA prog 24 #[] w fun e w'=>∃ g F,e=vn (.pointer (vD ⟨g,0,vB⟩)) /\ OrcAt w' g ⟨false,0,0,[]⟩ F /\ (∀ b,F b -> w.1.size <= b) /\ vz w.1.size w w':=by
 go_enter func24,ntmps24
 go_wp2_with fail
 refine (V7 w).mono ?_;rintro e w1 ⟨g,km,sm,pm,F,rfl,h,hF,hb⟩;go_wp2;go_ret
 exact ⟨g,F,rfl,⟨_,_,_,_,_,_,h⟩,hF,hb⟩
theorem zDZ (xe:Nat) (w:vu) (hs:xe<18446744073709551616) :
  vA prog 16 #[vd vo xe] w fun e w'=>∃ g F,e=vn (.pointer (vD ⟨g,0,vB⟩)) /\ OrcAt w' g ⟨true,xe,0,[]⟩ F /\ (∀ b,F b -> w.1.size <= b) /\ vz w.1.size w w':=by
 have HS:=zH hs;clear hs;go_enter func16,ntmps16
 go_wp2_with fail
 refine (V7 w).mono ?_;rintro e w1 ⟨g,km,sm,pm,F,rfl,h,hF,hb⟩;have hf:=h.blk.frozen;have H:=zH h;have HF:=zH hF;have hc:=h.blk.cell;clear h hF;go_wp2_with fail
 go_ret
 have hg:=WR w1 g 0 1 (.bool true) (vd vo xe);have kb:=eH H.out.blk 0 1 (.bool true) (vd vo xe);have iD:=HF.out g H.out.fg;generalize (w1.setCell ⟨g,0,vB⟩ (.bool true)).setCell ⟨g,1,vB⟩ (vd vo xe)=w2 at hg kb |-;refine ⟨g,F,rfl,⟨_,_,_,_,_,_,H.out.turn (O':=⟨true,xe,0,[]⟩) (J8 true xe HS.out) rfl (by simpa using kb) hg⟩,HF.out,hb.trans (om hg hb.size iD)⟩
theorem zCM {w:vu} {g:Nat} {O:Jb} {F:Nat -> Prop} (h:OrcAt w g O F) :
  vA prog 94 #[.pointer (vD ⟨g,0,vB⟩)] w fun e w'=>e=vn (vd vq O.dr) /\ w=w':=by
 obtain ⟨v,cs,km,sm,pm,E,Ed⟩:=h;have hc:=Ed.blk.cell;clear Ed;go_enter func94,ntmps94
 go_wp2_with fail
 go_ret
 exact ⟨rfl,rfl⟩
def FB (n:Nat):Bool:=(List.range 11).any fun d=>2^d == n
theorem oZ:∀ b:Fin 1025,1 <= b.val -> bits .and vq (b.val:Int) ((b.val:Int)-1)=((b.val &&& (b.val-1):Nat):Int):=by decide +kernel
theorem Z7:∀ b:Fin 1025,1 <= b.val -> FB b.val=decide (b.val &&& (b.val-1)=0):=by decide +kernel
theorem zFi {n:Nat} (h:FB n=true):∃ d,d <= 10 /\ n=2^d:=by
 obtain ⟨d,hd,he⟩:=List.any_eq_true.1 h;exact ⟨d,by have:=Mj.1 hd;omega,(Qo.1 he).symm⟩
theorem RS {d:Nat} (h:d <= 10):FB (2^d)=true:=List.any_eq_true.2 ⟨d,Mj.2 zO,zS⟩
theorem X7 {n:Nat} (h:1024<n):FB n=false:=by
 cases hc:FB n
 ·rfl
 ·obtain ⟨d,hd,rfl⟩:=zFi hc
  have:2^d <= 2^10:=Jt zO hd;omega
theorem Y7:FB 0=false:=by decide
theorem Q5 (n:Nat) (w:vu) :
  vA prog 135 #[vd vq n] w fun e w'=>e=vn (.bool (FB n)) /\ w=w':=by
 by_cases h1:1 <= n
 ·by_cases h2:n <= 1024
  ·have HN:=zH (Z7 ⟨n,zO⟩ h1)
   have ha:=oZ ⟨n,zO⟩ h1;simp only at ha;obtain ⟨a,vK⟩:=zEX (n &&& (n-1));rw [<- vK] at ha;have HA:=zH vK;have d1:decide ((1:Int)<=n)=true:=xc zO;have d2:decide ((n:Int)<=1024)=true:=xc zO;have e1:vq.wrap ((n:Int)-1)=(n:Int)-1:=by rw [Bi];omega
   have d3:((a:Int) == 0)=decide (a=0):=by by_cases h:a=0 <;> simp [h]
   obtain ⟨r,hr⟩:=zEX (FB n);have HR:=zH (show decide (a=0)=r by rw [hr,HA.out];exact HN.out.symm)
   rw [<- hr];rw [HR.out] at d3;clear hr HN vK h1 h2;go_enter func135,ntmps135
   go_wp2_with fail
   go_ret
   exact ⟨rfl,rfl⟩
  ·rw [X7 zO]
   have d1:decide ((1:Int)<=n)=true:=xc zO;have d2:decide ((n:Int)<=1024)=false:=Xb zO;clear h1 h2;go_enter func135,ntmps135
   go_wp2_with fail
   go_ret
   exact ⟨rfl,rfl⟩
 ·obtain rfl:n=0:=by omega
  rw [Y7];clear h1;go_enter func135,ntmps135
  go_wp2_with fail
  go_ret
  exact ⟨rfl,rfl⟩
theorem U6 (A:Option vx) (n c:Nat) (l:List Nat) (w:vu) (hl:RWd w [ve A n c] l) :
  vA prog 136 #[ve A n c] w fun e w'=>e=vn (.bool (fe l)) /\ w=w':=by
 obtain ⟨rfl,h1,h2,-,Na⟩:=Pb hl;have gm:=ti h1 h2;clear hl h1 h2;go_enter func136,ntmps136
 go_wp2_with fail
 go_loop [7] (fun i=>∃ j:Nat,j <= l.length /\ i=vd vq j /\ Hid (fe (l.take j)=true)) (fun i=>l.length-(intOf i).toNat)
 case atStart=>exact ⟨0,Qb _,rfl,rfl⟩
 case round =>
  obtain ⟨j,hj,rfl,HB⟩:=hrel;by_cases ya:j<l.length
  ·obtain ⟨b,q,rfl,dc,hc⟩:=Hf Na ya
   have HL:=zH ya;have g1:(0:Int)<=j:=by omega
   have g2:(j:Int)<l.length:=by omega
   have HN:=zH (fun h=>mZ (l:=l) ya h)
   have HY:=zH (fun h=>nZ (l:=l) ya HB.out h)
   revert hc HN HY
   generalize l.getD j 0=y;intro hc HN HY;clear Na;by_cases z:nc <= y
   ·have HZ:=zH (HN.out z)
    unfold nc at z;have d1:decide ((18446744069414584321:Int)<=y)=true:=xc zO;clear HN HY;go_wp2;go_ret
    exact ⟨by rw [HZ.out];rfl,rfl⟩
   ·have HZ:=zH (HY.out zO)
    unfold nc at z;have d1:decide ((18446744069414584321:Int)<=y)=false:=Xb zO;clear HN HY;go_wp2
    go_round
    case rel=>exact ⟨j+1,zO,by go_num,HZ.out⟩
    case measure=>simp [intOf];omega
  ·have e:j=l.length:=by omega
   have HA:=zH (show fe l=true by have:=HB.out;rwa [e,By] at this)
   clear Na;go_wp2;go_ret
   exact ⟨by rw [HA.out];rfl,rfl⟩
theorem zHE (x:Nat) (A:Option vx) (n c:Nat) (l:List Nat) (w:vu) (hl:RWd w [ve A n c] l) (hlen:l.length <= 1000000) :
  vA prog 138 #[vd vo x,ve A n c] w fun e w'=>∃ v,e=vn v /\ w'.ownsRow w.1.size 22 1 v (n+1) (Qa (x :: l)) /\ vz w.1.size w w':=by
 obtain ⟨rfl,h1,h2,ya,Na⟩:=Pb hl;clear hl ya h1 h2;have da:=zA w (.cells #[vd vo x] 22);have qB:(w.alloc (.cells #[vd vo x] 22)).ownsRow w.1.size 22 1 (ve (vD ⟨w.1.size,0,vB⟩) 1 1) 1 (Qa [x]):=⟨rfl, .inr ⟨w.1.size,1,_,rfl,zR,heap_alloc_new w _,zR,by simp [maxLen],rfl,rfl⟩⟩
 have xW:=Na.below da;go_enter func138,ntmps138
 go_wp2_with (at_builtin;refine Wd rfl _ _ rfl Qt rfl qB rfl xW (De _) zO (zQ da.size) ?_)
 intro v' w2 oa Ma Cb;go_wp2;go_ret
 exact ⟨_,rfl,by rw [Nat.add_comm];exact Qi (a:=[x]) oa rfl,da.trans (ie qB Ma (zQ da.size))⟩
def Ms (K:Nat -> Prop) (w:vu) (v:vw) (ls:List (List Nat)):Prop :=
 ∃ A n c,v=ve A n c /\ ls.length=n /\ n <= c /\ c <= maxLen /\ ∀ (i:Nat) (hi:i<ls.length),∃ b q A1 n1 c1,A=vD ⟨b,q,vB⟩ /\ K b /\ b<w.1.size /\ w.cell? ⟨b,q+i,vB⟩=vD (ve A1 n1 c1) /\ Lj K w (ve A1 n1 c1) ls[i]
section
variable {K K' F F' WD T:Nat -> Prop} {w w':vu} {v:vw} {ls:List (List Nat)}
theorem ZW (h:Ms K w v ls) (hs:w.1.size <= w'.1.size) (hw:∀ b,K b -> b<w.1.size -> w'.1[b]?=w.1[b]?):Ms K w' v ls:=by
 obtain ⟨A,n,c,h1,h2,h3,h4,h5⟩:=h;refine ⟨A,n,c,h1,h2,h3,h4,fun i hi=>?_⟩
 obtain ⟨b,q,A1,n1,c1,e1,e2,e3,e4,e5⟩:=h5 i hi;refine ⟨b,q,A1,n1,c1,e1,e2,zO,?_,sD e5 hs hw⟩;rw [<- e4];simp only [World.cell?,hw b e2 e3]
theorem YW (h:Ms K w v ls) (hb:vz w.1.size w w'):Ms K w' v ls:=ZW h hb.size fun b _ hl=>hb.block b hl
theorem zEs (h:Ms K w v ls) (m:Moved F F' w w') (hK:∀ b,K b -> ¬F b):Ms K w' v ls:=ZW h m.size fun b hb hl=>m.block b hl (hK b hb)
theorem a6 (h:Ms K w v ls):Kd w [v] ls:=by
 obtain ⟨A,n,c,rfl,h2,h3,h4,h5⟩:=h;refine ⟨A,n,c,rfl,h2,h3,h4,fun i hi=>?_⟩
 obtain ⟨b,q,A1,n1,c1,e1,e2,e3,e4,e5⟩:=h5 i hi;refine ⟨⟨b,q,vB⟩,[ve A1 n1 c1],e1,rfl,fun j hj=>?_,Nx e5⟩
 obtain rfl:j=0:=by omega
 rw [jv,show q+(i*1+0)=q+i by omega,e4]
 rfl
theorem Z5 {A:Option vx} {n c:Nat} (h:Ms K w (ve A n c) ls) {i:Nat} (hi:i<ls.length):∃ b q A1 n1 c1,A=vD ⟨b,q,vB⟩ /\ K b /\ b<w.1.size /\ w.cell? ⟨b,q+i,vB⟩=vD (ve A1 n1 c1) /\ Lj K w (ve A1 n1 c1) (ls.getD i []):=by
 obtain ⟨A',n',c',h1,h2,h3,h4,h5⟩:=h
 injection h1 with e1 e2 e3
 subst e1 e2 e3;obtain ⟨b,q,A1,n1,c1,e1,e2,e3,e4,e5⟩:=h5 i hi;exact ⟨b,q,A1,n1,c1,e1,e2,e3,e4,by rw [Hc,Ec hi];exact e5⟩
theorem zEr {A:Option vx} {n c:Nat} (h:Ms K w (ve A n c) ls):ls.length=n /\ n <= c /\ c <= maxLen:=by
 obtain ⟨A',n',c',h1,h2,h3,h4,h5⟩:=h
 injection h1 with e1 e2 e3
 subst e1 e2 e3;exact ⟨h2,h3,h4⟩
def SG (T:Nat -> Prop) (w:vu) (cs:List vw) (ls:List (List Nat)):Prop:=cs.length=ls.length /\ ∀ (i:Nat) (h1:i<cs.length) (h2:i<ls.length),Lj T w cs[i] ls[i]
theorem ZP {cs:List vw} (h:SG T w cs ls) (hs:w.1.size <= w'.1.size) (hw:∀ b,T b -> b<w.1.size -> w'.1[b]?=w.1[b]?):SG T w' cs ls:=⟨h.1,fun i h1 h2=>sD (h.2 i h1 h2) hs hw⟩
theorem zEJ {cs:List vw} (h:SG K w cs ls) (hk:∀ b,K b -> K' b):SG K' w cs ls:=⟨h.1,fun i h1 h2=>VP (h.2 i h1 h2) hk⟩
theorem zEH {cs:List vw} {x:vw} {l:List Nat} (h:SG T w cs ls) (hx:Lj T w x l):SG T w (cs++[x]) (ls++[l]):=by
 refine ⟨by simp [h.1],fun i h1 h2=>?_⟩
 by_cases hi:i<cs.length
 ·rw [EA hi]
  have Ff:i<ls.length:=by rw [<- h.1];exact hi
  rw [EA Ff];exact h.2 i hi Ff
 ·have e1:i=cs.length:=by simp at h1;omega
  have e2:i=ls.length:=by rw [e1,h.1]
  have g1:(cs++[x])[i]=x:=by subst e1;simp
  have g2:(ls++[l])[i]=l:=by subst e2;simp
  rw [g1,g2];exact hx
theorem zEI {cs:List vw} {base n:Nat} {e:vy} (h:SG T w cs ls) (ho:w.ownsRow base e 1 v n cs):Ms (fun b=>T b \/ v.ownBlock=vD b) w v ls:=by
 have hn:=ho.1;rcases ho.2 with ⟨rfl,rfl⟩ | ⟨g,cap,cur,hv,hb,hh,h1,h2,-⟩
 ·have:ls=[]:=IM (by rw [<- h.1,hn])
  subst this;exact ⟨vB,0,0,rfl,rfl,zR,by simp [maxLen],fun i hi=>absurd hi zS⟩
 ·subst hv
  refine ⟨_,n,cap,rfl,by rw [<- h.1,hn,Ns],h1,h2,fun i hi=>?_⟩
  have Ff:i<cs.length:=by rw [h.1];exact hi
  have hc:=ho.cells (g:=g) rfl i cs[i] (Ec Ff);have hk:=h.2 i Ff hi;obtain ⟨A1,c1,e1,-⟩:=AS hk;rw [e1] at hc hk;refine ⟨g,0,A1,_,c1,rfl, .inr rfl,(Yx.1 hh).1,?_,VP hk fun b hb=>.inl hb⟩
  rw [<- hc];by_cases h0:i=0 <;> simp [Addr.add,h0]
theorem zZ {w:vu} {g i:Nat} {t:vy} {l:List Nat} (k:Blk w g t (Qa l).toArray) (h:i<l.length):w.cell? ⟨g,i,vB⟩=vD (vd vo ((l.getD i 0:Nat):Int)):=by
 rw [k.cell];simp [Qa,Hc,h]
def Nj (F:Nat -> Prop) (x:Nat):Nat -> Prop:=fun b=>F b \/ b=x
theorem NS (m:Moved F F' w w') (x:Nat):Moved (Nj F x) (Nj F' x) w w':=⟨m.os,m.tape,m.output,m.size,fun b hb hn=>m.block b hb (fun hf=>hn (.inl hf)),fun b hb=>by
 rcases hb with hb | hb
 ·rcases m.foot b hb with e | e
  ·exact .inl (.inl e)
  ·exact .inr e
 ·exact .inl (.inr hb)⟩
theorem H7 {x:Nat} (w:vu) (i:Nat) (u:vw):Moved (Nj F x) (Nj F x) w (w.setCell ⟨x,i,vB⟩ u) :=
 vN (Li (p:=⟨x,i,vB⟩) (mg w (vD x)) (.inl rfl) u) fun _ h=>.inr (Nb h).symm
theorem zE2 {w0:vu} {x:Nat} (m0:Moved F F w0 w) (m:Moved (Nj F x) (Nj F' x) w w') (hx:w0.1.size <= x):Moved F F' w0 w' :=
 ⟨m.os.trans m0.os,m.tape.trans m0.tape,m.output.trans m0.output,jb m0.size m.size,
  fun b hb hn=>(m.block b (zQ m0.size) (fun e=>by rcases e with e | e;exact hn e;omega)).trans (m0.block b hb hn),
  fun b hb=>by
   rcases m.foot b (.inl hb) with e | e
   ·rcases e with e | e
    ·exact .inl e
    ·exact .inr zO
   ·exact .inr (jb m0.size e)⟩
theorem zE3 {w0:vu} {x:Nat} (m0:Moved F F' w0 w) (m:Moved (Nj F' x) (Nj WD x) w w') (hx:w0.1.size <= x):Moved F WD w0 w' :=
 ⟨m.os.trans m0.os,m.tape.trans m0.tape,m.output.trans m0.output,jb m0.size m.size,
  fun b hb hn=>(m.block b (zQ m0.size) (fun e=>by
   rcases e with e | e
   ·rcases m0.foot b e with h | h
    ·exact hn h
    ·omega
   ·omega)).trans (m0.block b hb hn),
  fun b hb=>by
   rcases m.foot b (.inl hb) with e | e
   ·rcases e with e | e
    ·exact m0.foot b e
    ·exact .inr zO
   ·exact .inr (jb m0.size e)⟩
theorem G7 {w0:vu} {row:Option Nat} (m:Moved F F' w0 w) (hg:w.grownBy w' row) (hr:∀ b,row=vD b -> w0.1.size <= b):Moved F F' w0 w' :=
 ⟨hg.os.trans m.os,hg.tape.trans m.tape,hg.output.trans m.output,jb m.size hg.size,fun b hb hn=>(hg.block b (zQ m.size) (fun e=>by have:=hr b e.symm;omega)).trans (m.block b hb hn),m.foot⟩
theorem Tk {w0:vu} {x:Nat} (m:Moved F F' w0 w) (hx:w0.1.size <= x) (i:Nat) (u:vw):Moved F F' w0 (w.setCell ⟨x,i,vB⟩ u) :=
 ⟨m.os,m.tape,m.output,by simpa [vE] using m.size,fun b hb hn=>(Mu w _ u b (fun e=>by subst e;exact absurd hb (by simpa using hx))).trans (m.block b hb hn),m.foot⟩
theorem L3 {x i N:Nat} (hx:F x) (u:vw):Fl F N w (w.setCell ⟨x,i,vB⟩ u):=⟨rfl,rfl,rfl,by simp [vE],fun b _ hn=>Mu w _ u b (fun e=>hn (by subst e;exact hx))⟩
theorem OrcAt.set {g x i:Nat} {O:Jb} (h:OrcAt w g O F) (hx:¬F x) (u:vw):OrcAt (w.setCell ⟨x,i,vB⟩ u) g O F :=
 h.keep (by simp [vE]) fun b hb=>Mu w _ u b (fun e=>hx (by subst e;exact hb))
end
structure Yd (K:Nat -> Prop) (w u:vu):Prop where
 os:u.os=w.os
 tape:u.tape=w.tape
 output:u.output=w.output
 size:w.1.size <= u.1.size
 block:∀ b,K b -> b<w.1.size -> u.1[b]?=w.1[b]?
section
variable {K K' F F':Nat -> Prop} {w u v:vu} {Q Q':vu -> Prop}
theorem SU:Yd K w w:=⟨rfl,rfl,rfl,zR,fun _ _ _=>rfl⟩
theorem IC (h:Yd K w u) (k:Yd K u v):Yd K w v:=⟨k.os.trans h.os,k.tape.trans h.tape,k.output.trans h.output,jb h.size k.size,fun b hb hl=>(k.block b hb (We hl h.size)).trans (h.block b hb hl)⟩
theorem Fy (h:Yd K w u) (hk:∀ b,K' b -> K b):Yd K' w u:=⟨h.os,h.tape,h.output,h.size,fun b hb hl=>h.block b (hk b hb) hl⟩
theorem yc (h:vz w.1.size w u):Yd K w u:=⟨h.os,h.tape,h.output,h.size,fun b _ hl=>h.block b hl⟩
theorem MA (m:Moved F F' w u) (hK:∀ b,K b -> ¬F b):Yd K w u:=⟨m.os,m.tape,m.output,m.size,fun b hb hl=>m.block b hl (hK b hb)⟩
theorem Ln:Yd K w w.drew:=⟨rfl,rfl,rfl,zR,fun _ _ _=>rfl⟩
theorem iZ {row:Option Nat} (h:w.grownBy u row) (hr:∀ b,row=vD b -> ¬K b):Yd K w u:=⟨h.os,h.tape,h.output,h.size,fun b hb hl=>h.block b hl (fun e=>hr b e.symm hb)⟩
theorem FE {x i:Nat} {c:vw} (hx:¬K x):Yd K w (w.setCell ⟨x,i,vB⟩ c):=⟨rfl,rfl,rfl,by simp [vE],fun b hb _=>Mu w _ c b (fun e=>hx (by subst e;exact hb))⟩
def Hd (K:Nat -> Prop) (w:vu) (Q:vu -> Prop):Prop:=∀ u,Yd K w u -> Q u
theorem Tl (h:Hd K w Q):Q w:=h w SU
theorem sb (h:Hd K w Q) (a:Yd K w u):Hd K u Q:=fun v k=>h v (IC a k)
theorem MH (h:Hd K w Q) (a:Yd K w u):Q u:=h u a
theorem Vn (h:Hd K w Q) (hk:∀ b,K b -> K' b):Hd K' w Q:=fun v k=>h v (Fy k hk)
theorem wk (h:Hd K w Q):Hd (fun b=>K b /\ b<w.1.size) w Q:=fun u k=>h u ⟨k.os,k.tape,k.output,k.size,fun b hb hl=>k.block b ⟨hb,hl⟩ hl⟩
theorem bW (h:Hd K w Q) (hq:∀ u,Q u -> Q' u):Hd K w Q':=fun v k=>hq v (h v k)
theorem R4 {α:Type} {R:vu -> List vw -> α -> Prop} {w0:vu} {cs:List vw} {x:α} (hR:DA R) (h:R w0 cs x) (hb:vz w0.1.size w0 w):Hd (fun b=>b<w0.1.size) w fun u=>R u cs x:=fun u a =>
 hR w0 u cs x ⟨a.os.trans hb.os,a.tape.trans hb.tape,a.output.trans hb.output,jb hb.size a.size,fun b hl=>(a.block b hl (We hl hb.size)).trans (hb.block b hl)⟩ h
theorem hd_krr {x:vw} {ls:List (List Nat)} (h:Ms K w x ls):Hd K w fun u=>Kd u [x] ls:=fun _ a=>a6 (ZW h a.size a.block)
theorem rP {base n size:Nat} {e:vy} {x:vw} {xs:List vw} (h:w.ownsRow base e size x n xs):Hd (fun b=>x.ownBlock=vD b) w fun u=>u.ownsRow base e size x n xs:=fun _ a =>
 Ye h fun b hb=>a.block b hb (h.lt b hb).2
def JI (w:vu) (b:Nat):vu:={ w with heap:=w.1.setIfInBounds b (.cells #[] 0) }
theorem TU {b:Nat} (h:¬K b):Yd K w (JI w b):=⟨rfl,rfl,rfl,by simp [JI],fun c hc hl=>by
 have db:b≠c:=fun e=>h (e ▸ hc)
 simp [JI,db]⟩
theorem iY {b i:Nat} (hb:b<w.1.size):(JI w b).cell? ⟨b,i,vB⟩=vB:=by
 simp [JI,World.cell?,hb]
theorem Y5 {x:vw} {l:List Nat} (h:Hd K w fun u=>RWd u [x] l):Lj K w x l:=fun u hu=>by
 obtain ⟨A,n,c,e,h2,h3,h4,h5⟩:=Tl h;refine ⟨A,n,c,e,h2,h3,?_,h5⟩;by_cases h0:0<n
 ·obtain ⟨b,q,rfl,hb,hc⟩:=gG h4 h0
  have hK:K b:=wM fun hn=>by
   obtain ⟨A',n',c',e',-,-,k4,-⟩:=h (JI w b) (TU hn);rw [e] at e'
   injection e' with e' _
   injection e' with e1 e2 e3
   subst e1 e2;obtain ⟨b',q',e4,sk,Un⟩:=gG k4 h0
   injection e4 with e4
   injection e4 with e5 e6
   subst e5 e6;have k1:=Un 0 h0;rw [iY hb] at k1;have k2:=h4.1;rw [Ec zO] at k1;cases k1
  refine ⟨h4.1,fun _=>⟨_,rfl,fun j y hj=>?_⟩⟩
  have TK:j<n:=by
   have:=(List.getElem?_eq_some_iff.1 hj).1;have:=h4.1;omega
  rw [jv];have:=hc j TK;rw [hj] at this;simp only [World.cell?,hu b hK hb] at this |-;exact this
 ·exact ⟨h4.1,fun h=>absurd h h0⟩
theorem zEt {x:vw} {ls:List (List Nat)} (h:Hd K w fun u=>Kd u [x] ls):Ms K w x ls:=by
 have h0:=Tl h;obtain ⟨A,n,c,e0,-⟩:=id h0
 injection e0 with e0
 subst e0;obtain ⟨h1,h2,h3,h4⟩:=Ig h0;refine ⟨A,n,c,rfl,h1,h2,h3,fun i hi=>?_⟩
 obtain ⟨b,q,A1,n1,c1,rfl,e2,e3,e4⟩:=Dl h4 hi;have hK:K b:=wM fun hn=>by
  obtain ⟨-,-,-,k4⟩:=Ig (h (JI w b) (TU hn));obtain ⟨b',q',A2,n2,c2,f1,f2,f3,f4⟩:=Dl k4 hi
  injection f1 with f1
  injection f1 with f5 f6
  subst f5 f6;rw [iY e2] at f3;cases f3
 refine ⟨b,q,A1,n1,c1,rfl,hK,e2,e3,Y5 fun u a=>?_⟩
 obtain ⟨-,-,-,k4⟩:=Ig (h u a);obtain ⟨b',q',A2,n2,c2,f1,f2,f3,f4⟩:=Dl k4 hi
 injection f1 with f1
 injection f1 with f5 f6
 subst f5 f6;have e5:u.cell? ⟨b,q+i,vB⟩=w.cell? ⟨b,q+i,vB⟩:=by simp only [World.cell?,a.block b hK e2]
 rw [e5,e3] at f3
 injection f3 with f3
 injection f3 with g1 g2 g3
 subst g1 g2 g3;exact f4
end
end Go.Proofs.YteoghgbnielkpaaGreat
