/- A part of the proof. No condition. -/
import Derived.Test.YtgeofabpinfcmaaGreatProg
import Derived.Test.YtgeofabpinfcmaaGreatEZ32
import Derived.Test.YtgeofabpinfcmaaGreatEZ26
import Derived.Test.YtgeofabpinfcmaaGreatEZ34

set_option maxRecDepth 100000
set_option maxHeartbeats 8000000
set_option linter.unusedVariables false
set_option linter.unusedSimpArgs false
namespace Go.Proofs.YtgeofabpinfcmaaGreat
theorem OX {L:Ja} (hL:Db L) {msg masks vals:List Nat} {pos:List Int} (hm:msg.length=L.block) (hk:masks.length=L.queries) (hkp:∀ x∈masks,x<L.p) (h:se L.n L.queries pos=true) (hv:vals=(List.range pos.length).map fun i=>Bc L.p (Bi L msg masks) (sf L pos i)):kj L msg pos vals=masks:=by
 have hp:=Va hL.p;have Jh:=Jr h;have Ta:Cr L pos vals=true:=by
  unfold Cr td;rw [h,hv,List.length_map,List.length_range,Jh];simp
  intro x _;exact qn (by omega) _ _
 have hd:=WJ (by omega) (KH hL h)
 have Ud:(kj L msg pos vals).length=L.queries:=by
  have:=FC L.p (Qj L pos) (Dt L msg pos vals) _ (Nat.le_refl (Qj L pos).length);rw [ox] at this;unfold kj;rw [Uu];unfold Mm;rw [ox];omega
 refine Om (by rw [Ud,hk]) fun i hi=>?_
 rw [Ud] at hi;refine Cg.eq (p:=L.p) ?_ ?_ (Wg (by omega) hkp i)
 ·refine PM (n:=L.queries) hL.p (a:=Qb (kj L msg pos vals)) (b:=Qb masks) (xs:=Qb (Qj L pos)) (fun a b ha hb Bb=>hd a b (by rw [ox];omega) (by rw [ox];omega) Bb) (fun k Ih=>?_) i hi
  rw [Is _ _ (by omega),Is _ _ (by omega)]
  have hk3:k<pos.length:=by omega
  have h1:=zQ hL hm Ta hk3;have h2:vals.getD k 0=Bc L.p (Bi L msg masks) (sf L pos k):=by rw [hv,Qf,if_pos hk3]
  have e0:Qb (Qj L pos) k=(sf L pos k:Int):=by unfold Qb;rw [LH L pos hk3]
  rw [e0];have h3:Cg L.p (Bc L.p (Bi L msg (kj L msg pos vals)) (sf L pos k):Int) (Bc L.p (Bi L msg masks) (sf L pos k):Int):=Cg.of_eq (by rw [h1,h2])
  have h4:=(dG hL hm (masks:=kj L msg pos vals) (sf L pos k)).symm.trans (h3.trans (dG hL hm (masks:=masks) (sf L pos k)));obtain ⟨X,hX⟩:=zEX (Jb (kj L msg pos vals) (sf L pos k:Int));obtain ⟨Y,hY⟩:=zEX (Jb masks (sf L pos k:Int));rw [<- hX,<- hY] at h4 |-;obtain ⟨zz,Rk⟩:=zEX ((sf L pos k:Int)^L.block-1);have hz:Cg L.p (tx L (sf L pos k):Int) zz:=by rw [Rk];exact KL L (by omega) _
  rw [<- Rk] at h4;have hinv:=NQ hL (pos.getD k 0).toNat;have e1:Vb L.p (tb L.p).1 L.n (pos.getD k 0).toNat=sf L pos k:=rfl;rw [e1] at hinv;obtain ⟨zi,Bt⟩:∃ zi:Int,zi=((tx L (sf L pos k)^(L.p-2)%L.p:Nat):Int):=⟨_,rfl⟩;rw [<- Bt] at hinv;have RP:Cg L.p (zz*zi) 1:=(hz.symm.mul Cg.rfl').trans hinv;have h5:Cg L.p (zz*X) (zz*Y):=by
   obtain ⟨c,hc⟩:=h4;exact ⟨c,by omega⟩
  have h6:Cg L.p (zi*(zz*X)) (zi*(zz*Y)):=Cg.rfl'.mul h5;rw [<- Int.mul_assoc,<- Int.mul_assoc,Int.mul_comm zi zz] at h6;refine Cg.trans ?_ (h6.trans ((RP.mul Cg.rfl').trans (Cg.of_eq (Int.one_mul _))));exact Cg.trans (Cg.of_eq (Int.one_mul _).symm) (RP.symm.mul Cg.rfl')
 ·refine Wg (by omega) (fun x hx=>?_) i
  unfold kj at hx;obtain ⟨k,hk4,rfl⟩:=List.getElem_of_mem hx;have:=Ir (Mm L.p (Qj L pos) (Dt L msg pos vals)) L.queries k;rw [List.getD_eq_getElem?_getD,List.getElem?_eq_getElem hk4] at this;simp only [Option.getD_some] at this;rw [this];exact Wg (by omega) (qL (by omega) _ _) k
end Go.Proofs.YtgeofabpinfcmaaGreat
namespace Go.Proofs.YtgeofabpinfcmaaGreat
open Go.RowKit
section code
variable {L:Ja} {m r:List (List Nat)} {al:Nat}
theorem mV (hL:Db L) {co:List Nat} (hc:co.length=L.k /\ ∀ y∈co,y<L.p):Wh L.p L.k (Pd L m r co al) (Pd L m r (Pc L.k) al)=co:=by
 have mc:0<L.p:=by have:=Va hL.p;omega
 refine Om (by rw [Gs,hc.1]) fun k hk=>?_
 rw [Gs] at hk;refine Cg.eq (p:=L.p) ?_ (Wg mc (Dy mc _ _) k) (Wg mc hc.2 k);refine (OA mc _ _ hk).trans ?_;rw [PE,PE,pD];refine ((Cg.mod _).less (Cg.mod _)).trans (Cg.of_eq ?_);omega
end code
section lin
variable {L:Ja} {cs m r:List (List Nat)}
theorem DX (hL:Db L) {li:List Nat} (hl:li.length=L.k+L.block-2 /\ ∀ y∈li,y<L.p):(Wh L.p (L.k+L.block-1) (Nc L cs m r li) (Nc L cs m r (Pc (L.k+L.block-2)))).drop 1=li:=by
 have mc:0<L.p:=by have:=Va hL.p;omega
 have Ga:=hL.b1;have tg:=hL.k;have Xf:=hL.q1;refine Om (by rw [List.length_drop,Gs,hl.1];omega) fun k hk=>?_
 rw [List.length_drop,Gs] at hk;have e:((Wh L.p (L.k+L.block-1) (Nc L cs m r li) (Nc L cs m r (Pc (L.k+L.block-2)))).drop 1).getD k 0=(Wh L.p (L.k+L.block-1) (Nc L cs m r li) (Nc L cs m r (Pc (L.k+L.block-2)))).getD (k+1) 0:=by
  rw [List.getD_eq_getElem?_getD,List.getElem?_drop,List.getD_eq_getElem?_getD,Nat.add_comm 1 k]
 rw [e];refine Cg.eq (p:=L.p) ?_ (Wg mc (Dy mc _ _) _) (Wg mc hl.2 k);refine (OA mc _ _ (by omega)).trans ?_
 rw [QE,QE,OH,OH,pD];refine ((Cg.mod _).less (Cg.mod _)).trans (Cg.of_eq ?_);omega
end lin
section quo
variable {p b m:Nat} {F:Nat -> Nat}
end quo
section quad
variable {L:Ja} {m r:List (List Nat)} {be:Nat}
theorem iZ (hL:Db L) {qu:List Nat} (hq:qu.length=L.block+2*L.queries-1 /\ ∀ y∈qu,y<L.p) :
  Hg L (Wh L.p (2*L.k-1) (pd L m r qu be) (pd L m r (Pc (L.block+2*L.queries-1)) be))=qu:=by
 have mc:0<L.p:=by have:=Va hL.p;omega
 have Ga:=hL.b1;have tg:=hL.k;have Xf:=hL.q1;obtain ⟨D,hD⟩:=zEX (Wh L.p (2*L.k-1) (pd L m r qu be) (pd L m r (Pc (L.block+2*L.queries-1)) be));have hk:∀ k,k<2*L.k-1 -> Cg L.p (D.getD k 0:Int) ((Pg L qu).getD k 0:Int):=fun k hk=>by
  rw [hD];refine (OA mc _ _ hk).trans ?_;rw [RE,RE,Dx hL hq.1];refine ((Cg.mod _).less (Cg.mod _)).trans ?_;refine (Cg.of_eq ?_).trans ((Cg.rfl'.less (OR hL _ k rfl)).trans (Cg.of_eq (Int.sub_zero _)));omega
 have hql:(Hg L D).length=L.block+2*L.queries-1:=by rw [tM];omega
 have za:∀ x∈Hg L D,x<L.p:=uM mc (by omega) (by rw [hD];exact Dy mc _ _)
 rw [<- hD];have key:∀ n i,2*L.k-1-L.block <= i+n -> Cg L.p ((Hg L D).getD i 0:Int) (qu.getD i 0:Int):=fun n=>by
  induction n with
  | zero =>
   intro i hi;rw [ym (by omega),ym (by omega)]
   exact Cg.rfl'
  | succ n ih =>
   intro i hi;by_cases Yg:i<2*L.k-1-L.block
   ·refine (VR tg (by omega) Xf D Yg).trans (((hk (L.block+i) (by omega)).add (ih (i+L.block) (by omega))).trans ?_)
    refine ((pM mc (by omega) qu _).add Cg.rfl').trans (Cg.of_eq ?_)
    rw [if_pos (by omega),show L.block+i-L.block=i by omega,show L.block+i=i+L.block by omega]
    omega
   ·exact ih i (by omega)
 refine Om (by rw [hql,hq.1]) fun i hi=>?_
 exact Cg.eq (p:=L.p) (key (2*L.k-1) i (by omega)) (Wg mc za i) (Wg mc hq.2 i)
end quad
section
variable {L:Ja} {cs m r m':List (List Nat)} {co li qu sa:List Nat} {pos:List Int} {al be:Nat}
theorem ExCase.self (h:ExCase L cs m r m' co li qu sa pos al be):zd L m r m co li qu pos=r /\ Zf L m r m co li qu pos al=co /\ Tf L cs m r m co li qu pos=li /\ Uf L m r m co li qu pos be=qu:=by
 obtain ⟨f1,f2,f3,f4,f5⟩:=Pq h.ok;have hr:zd L m r m co li qu pos=r:=by
  refine List.ext_getElem (by simp [zd,Je];rw [f1,h.ml]) fun j h1 h2=>?_
  have hj:j<m.length:=by rw [h.ml,<- f1];exact h2
  have e:(zd L m r m co li qu pos)[j]=Bl L m pos (Ie L m r co li qu pos) j:=by simp [zd,Je]
  rw [e];unfold Bl;refine OX h.hL (Bm h.mr hj) (f2 _ (List.getElem_mem h2)).1 (f2 _ (List.getElem_mem h2)).2 h.hpos ?_;unfold rn;refine List.map_congr_left fun k hk=>?_
  have hk':=List.mem_range.1 hk;rw [FO hk',EO hj,BI h.hL h.msg co li qu hj (YH h.hpos hk').1];have e2:r.getD j []=r[j]:=Sq h2;rw [e2]
  rfl
 refine ⟨hr,?_,?_,?_⟩
 ·show Wh L.p L.k (Pd L m r co al) (Pd L m (zd L m r m co li qu pos) (Pc L.k) al)=co
  rw [hr];exact mV h.hL f3
 ·show (Wh L.p (L.k+L.block-1) (Nc L cs m r li) (Nc L cs m (zd L m r m co li qu pos) (Pc (L.k+L.block-2)))).drop 1=li
  rw [hr];exact DX h.hL f4
 ·show Hg L (Wh L.p (2*L.k-1) (pd L m r qu be) (pd L m (zd L m r m co li qu pos) (Pc (L.block+2*L.queries-1)) be))=qu
  rw [hr];exact iZ h.hL f5
theorem ExCase.back (h:ExCase L cs m r m' co li qu sa pos al be) (hs:Pd L m' (zd L m r m' co li qu pos) (Zf L m r m' co li qu pos al) al=Pd L m r co al /\ Nc L cs m' (zd L m r m' co li qu pos) (Tf L cs m r m' co li qu pos)=Nc L cs m r li /\ pd L m' (zd L m r m' co li qu pos) (Uf L m r m' co li qu pos be) be=pd L m r qu be) :
  zd L m' (zd L m r m' co li qu pos) m (Zf L m r m' co li qu pos al) (Tf L cs m r m' co li qu pos) (Uf L m r m' co li qu pos be) pos=r /\ Zf L m' (zd L m r m' co li qu pos) m (Zf L m r m' co li qu pos al) (Tf L cs m r m' co li qu pos) (Uf L m r m' co li qu pos be) pos al=co /\
   Tf L cs m' (zd L m r m' co li qu pos) m (Zf L m r m' co li qu pos al) (Tf L cs m r m' co li qu pos) (Uf L m r m' co li qu pos be) pos=li /\ Uf L m' (zd L m r m' co li qu pos) m (Zf L m r m' co li qu pos al) (Tf L cs m r m' co li qu pos) (Uf L m r m' co li qu pos be) pos be=qu:=by
 have hc:=h.cols hs;obtain ⟨s1,s2,s3,s4⟩:=h.self;refine ⟨?_,?_,?_,?_⟩
 ·refine Eq.trans ?_ s1
  show Je L m pos (Ie L m' _ _ _ _ pos)=Je L m pos _
  rw [hc]
 ·refine Eq.trans ?_ s2
  show OD L m pos (Ie L m' _ _ _ _ pos) (Pd L m' _ _ al) al=OD L m pos _ _ al
  rw [hc,hs.1]
 ·refine Eq.trans ?_ s3
  show ZA L cs m pos (Ie L m' _ _ _ _ pos) (Nc L cs m' _ _)=ZA L cs m pos _ _
  rw [hc,hs.2.1]
 ·refine Eq.trans ?_ s4
  show aB L m pos (Ie L m' _ _ _ _ pos) (pd L m' _ _ be) be=aB L m pos _ _ be
  rw [hc,hs.2.2]
end
end Go.Proofs.YtgeofabpinfcmaaGreat
