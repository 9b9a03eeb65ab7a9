/- A part of the proof. No condition. -/
import Derived.Test.YtakjnmojigechaaGreatProg
import Derived.Test.YtakjnmojigechaaGreatJB15

namespace Go.Proofs.YtakjnmojigechaaGreat
open Go.RowKit
theorem zv {n k:Nat} (f:Nat→Value) (h:k<n):(Xt n f)[k]?=some (f k):=by simp [Xt,h]
theorem Gx {n:Nat} {f g:Nat→Value} (h:∀ i,i<n→f i=g i):Xt n f=Xt n g:=by
 unfold Xt
 congr 1
 exact List.map_congr_left fun i hi=>h i (List.mem_range.1 hi)
theorem zFy {n k:Nat} (f:Nat→Value) (v:Value):(Xt n f).setIfInBounds k v=Xt n (fun i=>if i=k then v else f i):=by
 apply Array.ext
 ·simp [Xt]
 ·intro i h1 h2
  simp [Xt] at h1 h2
  rw [Array.getElem_setIfInBounds (by simpa [Xt] using h1)]
  simp only [Xt]
  split
  ·subst_vars;simp
  ·rename_i hne
   simp [show ¬i=k from fun e=>hne e.symm]
def Jy (L:ZO) (m r:List (List Nat)) (k:Nat):List Nat:=(List.range (L.block+(r.getD k []).length)).map (JG L (m.getD k []) (r.getD k []))
def Vj (L:ZO) (m r:List (List Nat)) (n:Nat):List (List Nat):=(List.range n).map (Jy L m r)
theorem jn (L:ZO) (m r:List (List Nat)) (k:Nat):Vj L m r k++[Jy L m r k]=Vj L m r (k+1):=by simp [Vj,List.range_succ]
def zCf (L:ZO) (q:List Nat):List Nat:=(List.range (L.block+q.length)).map (Vi L.p L.block q q.length)
def Xp (L:ZO) (m r:List (List Nat)) (c l q:List Nat):List (List Nat):=Vj L m r m.length++[c,YL L l,zCf L q]
def zJ (L:ZO) (ps:List (List Nat)) (i j:Nat):Nat:=Jf L.p L.n L.n.log2 (ps.getD j []) (ZJ L.p).1 i
theorem zEc {N:Nat} {w w':World} {v v' x y z:Value} {cs:List Value} {l:List (List Nat)} {a b c:List Nat} (h:Xs N w v cs l) (hx:RWx N v.ownBlock w x a) (hy:RWx N v.ownBlock w y b) (hz:RWx N v.ownBlock w z c)
  (hg:w.grownBy w' v.ownBlock) (hv:v'.ownBlock=v.ownBlock∨v'.ownBlock=some w.heap.size):Xs N w' v' (cs++[x,y,z]) (l++[a,b,c]):=by
 have key:∀ {z:Value} {m:List Nat},RWx N v.ownBlock w z m→RWx N v'.ownBlock w' z m:=fun {z m} hz u hu=>by
  refine hz u fun b h1 h2 h3=>?_
  refine (hu b h1 (by have:=hg.size;omega) ?_).trans (hg.block b h2 (fun e=>h3 e))
  rcases hv with e | e
  ·rw [e];exact h3
  ·rw [e];intro e2;have:=Option.some.inj e2;omega
 refine ⟨by simp [h.1],fun i h1 h2=>?_⟩
 by_cases hi:i<cs.length
 ·rw [List.getElem_append_left hi,List.getElem_append_left (by have:=h.1;omega)]
  exact key (h.2 i hi _)
 ·have e0:=h.1
  have h1':i<cs.length+3:=by simpa using h1
  rw [List.getElem_append_right (by omega),List.getElem_append_right (by omega)]
  have:i-cs.length=0∨i-cs.length=1∨i-cs.length=2:=by omega
  have e1:i-l.length=i-cs.length:=by omega
  simp only [e1]
  rcases this with e | e | e <;> simp only [e]
  ·exact key hx
  ·exact key hy
  ·exact key hz
theorem zIz (w:World) (x y z:Value) (t:TypeId):Rd (w.alloc (.cells #[x,y,z] t)) 1 (some ⟨w.heap.size,0,none⟩) 3 [x,y,z]:=by
 refine ⟨rfl,fun _=>⟨_,rfl,fun j u hj=>?_⟩⟩
 rw [Y2,Nat.zero_add,(Blk.new w t #[x,y,z]).cell]
 simpa using hj
theorem zDm (L:ZO) (m r:List (List Nat)) (c l q:List Nat):(Xp L m r c l q).length=m.length+3:=by simp [Xp,Vj]
theorem kU {L:ZO} {m r:List (List Nat)} {c l q:List Nat} (hb:L.block≤256) (hr:∀ x∈r,x.length≤2000) (h1:c.length≤2000) (h2:l.length≤2000) (h3:q.length≤2000):∀ x∈Xp L m r c l q,x.length≤8192:=by
 intro x hx
 unfold Xp at hx
 rcases List.mem_append.1 hx with hx | hx
 ·obtain ⟨k,-,rfl⟩:=List.mem_map.1 hx
  simp only [Jy,List.length_map,List.length_range]
  have:(r.getD k []).length≤2000:=by
   rw [List.getD_eq_getElem?_getD]
   cases h:r[k]? with
   | none=>simp
   | some y=>exact hr y (List.mem_of_getElem? h)
  omega
 ·simp at hx
  rcases hx with rfl | rfl | rfl
  ·omega
  ·simp [YL];omega
  ·simp [zCf];omega
theorem zHz (n:Nat) (hn:n≤1000000) (w:World) :
  (Instr.makeSlice 40 (.int .i64 0) (.int .i64 (n:Int))).run Tryz.prog w= .ok (.slice (some ⟨w.heap.size,0,none⟩) 0 n) (w.alloc (.cells (Xt n fun _=>.slice none 0 0) 28)):=by
 obtain ⟨ht,⟨i,hi,hz,hs,hby⟩,hzs,hsz⟩:=UF
 have:=run_make (P:=Tryz.prog) w 40 28 i _ ht hi hz .i64 .i64 0 (n:Int) (by omega) (by omega) (by rw [hby];omega) (by omega)
 rw [Int.toNat_natCast,hs,jz] at this
 exact this
theorem zGf (n base:Nat) (hn:n≤1000000) (w:World) (hb:base≤w.heap.size):(w.alloc (.cells (Xt n fun _=>.slice none 0 0) 28)).ownsRow base 28 1 (.slice (some ⟨w.heap.size,0,none⟩) 0 n) 0 [] :=
 World.ownsRow_made w _ n hb (by simp [maxLen];omega) (by simp [Xt])
set_option maxRecDepth 100000 in
set_option maxHeartbeats 2000000 in
theorem GO (L:ZO) (A0 A1 A2 A3 A4 AM:Option Addr) (n0 n1 n2 n3 n4 nM c0 c1 c2 c3 c4 cM:Nat) (m r:List (List Nat)) (co li qu:List Nat) (w:World) (hL:ZU L)
  (hm:YN w [.slice AM nM cM] m) (hr:YN w [.slice A0 n0 c0] r) (hc:RWd w [.slice A1 n1 c1] co) (hl:RWd w [.slice A2 n2 c2] li) (hq:RWd w [.slice A3 n3 c3] qu)
  (hlen:m.length=r.length) (hml:∀ x∈m,x.length=L.block) (hrl:∀ x∈r,x.length≤2000) (hT:m.length≤400000) (h1:co.length≤2000) (h2:li.length≤2000) (h3:qu.length≤2000) :
  Calls Tryz.prog 23 #[.agg (Zz L), .slice AM nM cM, .agg #[.slice A0 n0 c0, .slice A1 n1 c1, .slice A2 n2 c2, .slice A3 n3 c3, .slice A4 n4 c4]] w fun e w'=>∃ v,e= .returned v∧YN w' [v] ((List.range L.n).map fun i=>(List.range (m.length+3)).map (zJ L (Xp L m r co li qu) i))∧Below w.heap.size w w':=by
 have hp:=hL.p
 have hpp:=Zr hp
 have hb2:=hL.b2
 obtain ⟨hmn,-,-,hMd⟩:=Yi hm
 obtain ⟨hrn,-,-,hRd⟩:=Yi hr
 subst hmn
 subst hrn
 have hpl:=zDm L m r co li qu
 have hps:=kU (L:=L) (m:=m) (r:=r) (c:=co) (l:=li) (q:=qu) hb2 hrl h1 h2 h3
 have HEv:=Lib.hid (fun A k c l w hl hk=>JB L.p A k c L.n L.n.log2 (ZJ L.p).1 l w hp hl (GU hL).1 (GU hL).2 (kP hp) hk)
 have HGen:=Lib.hid (fun w=>xO L.p w hp)
 have HCV:=Lib.hid (show ∀ ps i,(List.range (m.length+3)).map (zJ L ps i)=(List.range (m.length+3)).map (fun j=>Jf L.p L.n L.n.log2 (ps.getD j []) (ZJ L.p).1 i) from fun _ _=>rfl)
 have HRow:=Lib.hid (fun A B n c m d msg masks w hl hk hn hm=>zA1 L A B n c m d msg masks w hL hl hk hn hm)
 have HCo:=Lib.hid (fun w' (hb:Below w.heap.size w w')=>jI L (.slice A0 r.length c0) (.slice A2 n2 c2) (.slice A3 n3 c3) (.slice A4 n4 c4) A1 n1 c1 co w' ⟨_,_,_,rfl⟩ ⟨_,_,_,rfl⟩ ⟨_,_,_,rfl⟩ ⟨_,_,_,rfl⟩ (Zc _ _ _ _ hb hc) (by have:=(Zy hc).1;omega))
 have HLi:=Lib.hid (fun w' (hb:Below w.heap.size w w')=>zS L (.slice A0 r.length c0) (.slice A1 n1 c1) (.slice A3 n3 c3) (.slice A4 n4 c4) A2 n2 c2 li w' hL ⟨_,_,_,rfl⟩ ⟨_,_,_,rfl⟩ ⟨_,_,_,rfl⟩ ⟨_,_,_,rfl⟩ (Zc _ _ _ _ hb hl) (by have:=(Zy hl).1;omega))
 have HQu:=Lib.hid (fun w' (hb:Below w.heap.size w w')=>jM L (.slice A0 r.length c0) (.slice A1 n1 c1) (.slice A2 n2 c2) (.slice A4 n4 c4) A3 n3 c3 qu w' hL ⟨_,_,_,rfl⟩ ⟨_,_,_,rfl⟩ ⟨_,_,_,rfl⟩ ⟨_,_,_,rfl⟩ (Zc _ _ _ _ hb hq) (by have:=(Zy hq).1;omega))
 have hlt1:=(Zy hc).2.2.2.1
 have hlt2:=(Zy hl).2.2.2.1
 have e1:=(Zy hc).1
 have e2:=(Zy hl).1
 have e3:=(Zy hq).1
 have HLT:=Lib.hid (And.intro hlt1 hlt2)
 subst e1 e2 e3
 clear hlt1 hlt2 hc hl hq hm hr
 have HLEN:=Lib.hid hlen
 have HML:=Lib.hid hml
 have HRL:=Lib.hid hrl
 have HPP:=Lib.hid hpp
 have HL:=Lib.hid hL
 have hn2:=hL.n2
 have hmin:min (m.length:Int) (r.length:Int)=(m.length:Int):=Int.min_eq_left (by omega)
 obtain ⟨T,hTT⟩:∃ T,T=m.length:=⟨_,rfl⟩
 obtain ⟨M,hMM⟩:∃ M,M=m.length+3:=⟨_,rfl⟩
 have x1:(m.length:Int)+3=(M:Int):=by omega
 have x2:IntKind.i64.wrap (M:Int)=(M:Int):=ZD _ (by omega) (by omega)
 have x3:(M:Int)≤400003:=by omega
 have x4:(0:Int)≤(M:Int):=by omega
 have x5:(m.length:Int)≤400000:=by omega
 have hM1:M≤400003:=by omega
 have hM1':M≤1000000:=by omega
 rw [←hMM]
 have HMM:=Lib.hid hMM
 rw [←hMM] at hpl HCV
 obtain ⟨ps,hpe⟩:∃ ps,ps=Xp L m r co li qu:=⟨_,rfl⟩
 rw [←hpe] at hpl hps ⊢
 have HPE:=Lib.hid (show Vj L m r m.length++[co,YL L li,zCf L qu]=ps from hpe.symm)
 have HPL:=Lib.hid hpl
 have HPS:=Lib.hid hps
 replace HCV:=Lib.hid (HCV.out ps)
 clear hpe hpl hps
 obtain ⟨gen,hgen⟩:∃ gen,gen=(ZJ L.p).1:=⟨_,rfl⟩
 rw [←hgen] at HEv HGen HCV
 clear hgen
 have HFF:=Lib.hid (show ∀ k q,Jf L.p L.n L.n.log2 (ps.getD q []) gen k<18446744073709551616 from fun k q=>Nat.lt_trans (zEt (by have:=HPP.out;omega) _ _ _ _ _) HPP.out.2)
 have mk0:=zHz M (by omega)
 have mkC:=zFe L.n (by omega)
 have mkM:=YS M (by omega)
 clear hlen hml hrl hpp hL hp hMM hTT
 unfold Zz fv at *
 obtain ⟨kl,kc,kf,hb0,hsz⟩:=XH w 55 42 96 #[.int .u64 (L.p:Int), .int .i64 (L.block:Int), .int .i64 (L.queries:Int), .int .i64 (L.k:Int), .int .i64 (L.n:Int), .int .i64 (L.secret:Int), .int .i64 (L.rows:Int), .int .i64 (L.a:Int), .int .i64 (L.b:Int), .int .i64 (L.b:Int), .int .i64 (L.b:Int)] #[.slice A0 r.length c0, .slice A1 co.length c1, .slice A2 li.length c2, .slice A3 qu.length c3, .slice A4 n4 c4] #[.int .u64 (L.p:Int)]
 go_enter Tryz.func23,Tryz.ntmps23
 go_upto_region 2 with fail
 generalize ((w.alloc _).alloc _).alloc _=w1 at kl kc kf hb0 hsz ⊢
 have HZ:=Lib.hid hsz
 clear hsz
 have cc:=kc.cell
 go_upto_region 3 with fail
 have hown:=zGf M w1.heap.size hM1' w1 (Nat.le_refl _)
 have hal:=(Below.refl w1.heap.size w1).alloc (Nat.le_refl _) (.cells (Xt M fun _=>.slice none 0 0) 28)
 have hN1:w1.heap.size≤(w1.alloc (.cells (Xt M fun _=>.slice none 0 0) 28)).heap.size:=hal.size
 replace kl:=kl.below hal kl.lt
 replace kc:=kc.below hal kc.lt
 replace kf:=kf.below hal kf.lt
 replace hb0:=Za hb0 hal
 clear hal cc mk0
 obtain ⟨N,hNN⟩:∃ N,N=w1.heap.size:=⟨_,rfl⟩
 have xN:w.heap.size+3≤N:=by rw [hNN,HZ.out];omega
 rw [←hNN] at hown hN1 ⊢
 clear hNN HZ
 generalize w1.alloc _=w2 at kl kc kf hb0 hown hN1 ⊢
 have cc:=kc.cell
 go_wp2_with fail
 clear cc
 go_loopw [8,31] (fun u y wr=>∃ (i:Nat) (v:Value) (cs:List Value),v=u∧i≤m.length∧y= .int .i64 (i:Int)∧Blk wr w.heap.size 55 #[.int .u64 (L.p:Int), .int .i64 (L.block:Int), .int .i64 (L.queries:Int), .int .i64 (L.k:Int), .int .i64 (L.n:Int), .int .i64 (L.secret:Int), .int .i64 (L.rows:Int), .int .i64 (L.a:Int), .int .i64 (L.b:Int), .int .i64 (L.b:Int), .int .i64 (L.b:Int)]∧Blk wr (w.heap.size+1) 42 #[.slice A0 r.length c0, .slice A1 co.length c1, .slice A2 li.length c2, .slice A3 qu.length c3, .slice A4 n4 c4]∧Blk wr (w.heap.size+1+1) 96 #[.int .u64 (L.p:Int)]∧wr.ownsRow N 28 1 v i cs∧Xs N wr v cs (Vj L m r i)∧Below w.heap.size w wr∧N≤wr.heap.size) (fun _ y _=>m.length-(intOf y).toNat)
 case atStart=>exact ⟨0,_,[],rfl,Nat.zero_le _,rfl,kl,kc,kf,hown,Uw _ _ _,hb0,hN1⟩
 case round =>
  clear kl kc kf hown hb0 hN1
  obtain ⟨i,v,cs,rfl,hi,rfl,kl,kc,kf,hown,hgr,hb0,hNw⟩:=hrel
  by_cases hlt:i<m.length
  ·have q1:(0:Int)≤(i:Int):=by omega
   have q2:(i:Int)<(m.length:Int):=by omega
   have q3:(i:Int)<(r.length:Int):=by have:=HLEN.out;omega
   obtain ⟨bm,qm,Am,lm,cm,rfl,hbm0,hcm0,hrm0⟩:=Yq hMd hlt
   have hcm:=(hb0.cell (p:=⟨bm,qm+i,none⟩) hbm0).trans hcm0
   have hrm:=Zc _ _ _ _ hb0 hrm0
   have hbm:bm<N:=by omega
   obtain ⟨br,qr,Ar,lr,cr,rfl,hbr0,hcr0,hrr0⟩:=Yq hRd (show i<r.length by have:=HLEN.out;omega)
   have hcr:=(hb0.cell (p:=⟨br,qr+i,none⟩) hbr0).trans hcr0
   have hrr:=Zc _ _ _ _ hb0 hrr0
   have hbr:br<N:=by omega
   have z1:=(Zy hrm).1
   have z2:=(Zy hrr).1
   have z3:lm=L.block:=by have:=HML.out _ (List.getElem_mem hlt);omega
   have z4:lr≤2000:=by have:=HRL.out _ (List.getElem_mem (show i<r.length by have:=HLEN.out;omega));omega
   have HC:=Lib.hid (fun w' (hb:Below wr.heap.size wr w')=>HRow.out Am Ar lm cm lr cr m[i] _ w' (Zc _ _ _ _ hb hrm) (Zc _ _ _ _ hb hrr) z3 (by omega))
   have HPR:=Lib.hid (show (List.range (L.block+lr)).map (JG L m[i] (r[i]'(by have:=HLEN.out;omega)))=Jy L m r i by
    unfold Jy
    rw [List.getD_eq_getElem?_getD,List.getD_eq_getElem?_getD,List.getElem?_eq_getElem hlt,List.getElem?_eq_getElem (show i<r.length by have:=HLEN.out;omega)]
    simp only [Option.getD_some]
    first | rw [z2] | rw [←z2])
   have HMX:=Lib.hid (show ∀ k,JG L m[i] (r[i]'(by have:=HLEN.out;omega)) k<18446744073709551616 from fun k=>Nat.lt_trans (zA9 (by have:=HPP.out;omega) _ _ _) HPP.out.2)
   have HNX:=Lib.hid (jn L m r i)
   revert HC HPR HMX
   generalize JG L m[i] (r[i]'(by have:=HLEN.out;omega))=PF
   intro HC HPR HMX
   clear z1 z2 z3 hrm hrr hrm0 hrr0 hcm0 hcr0
   have n1:w.heap.size<N:=by omega
   have n2:w.heap.size+1<N:=by omega
   have cl:=kl.cell
   have ll:=kl.lt
   have cc:=kc.cell
   have lc:=kc.lt
   go_upto_region 6 with fail
   refine Zq (UY N) [11,12,13] [0,1,2,3,4,5,6,7,8,9,10,11,12,13,14] (by kernel_rfl) (by kernel_rfl) ?_
   refine Zp (Zd N) ?_
   intro Wc HWc hacc
   repeat (first | (refine Zf (Zd N) rfl rfl (fun _ _ _ h=>h) ?_;simp only [Act.put,zLa,zLb,zLc]) | (refine Ze (v:=?_) (Zd N) rfl rfl (fun _ _ _ h=>h) ?_ ?_;rotate_left;(· (intro w' hR;(first | have hcells:=Zw ((Zd N).trans _ _ _ hacc hR) | skip);go_simp;try with_reducible rfl));simp only [Act.put,zLa,zLb,zLc]))
   have hbW:Below wr.heap.size wr Wc:=by rw [HWc.out];exact (Below.refl _ _).drew
   have hNc:=hbW.size
   have hNw0:=hNw
   refine Zk (Zd N) rfl rfl rfl (fun _=>by go_simp <;> rfl) ((HC.out _ hbW).mono ?_)
   rintro e w3 ⟨g',rfl,hg',kg',hb3⟩
   refine ⟨_,rfl,ZH hb3 (Nat.le_trans hNw0 hNc),?_⟩
   replace hacc:=(Zd N).trans _ _ _ hacc (ZH hb3 (Nat.le_trans hNw0 hNc))
   simp only [Act.put,zLa,zLb,zLc]
   have hb4:=Za hbW hb3
   have hNg:N≤g':=by omega
   have hvg:some g'≠v.ownBlock:=fun e=>by have:=(hown.lt _ e.symm).2;omega
   replace kl:=kl.below hb4 kl.lt
   replace kc:=kc.below hb4 kc.lt
   replace kf:=kf.below hb4 kf.lt
   replace hown:=Zh hown hb4 (Nat.le_refl _)
   replace hgr:=ZL hgr hb4
   replace hb0:=Za hb0 hb4
   replace hNw:=Nat.le_trans hNw hb4.size
   have hNd:=Nat.le_trans hNc hb3.size
   have hrx:RWx N v.ownBlock w3 (.slice (some ⟨g',0,none⟩) (L.block+lr) (L.block+lr)) (Jy L m r i):=by
    rw [←HPR.out]
    exact JN kg' (fun k _=>HMX.out k) (by simp [maxLen];omega) hNg hvg
   have HNd:=Lib.hid (And.intro hNd (show wr.heap.size≤w3.heap.size from hb4.size))
   clear kg' hb3 hb4 hNg hvg hg' hNc hbW HC HWc hacc cl ll cc lc hNd
   have hacc:=(Zd N).refl w3
   repeat (first | (refine Zf (Zd N) rfl rfl (fun _ _ _ h=>h) ?_;simp only [Act.put,zLa,zLb,zLc]) | (refine Ze (v:=?_) (Zd N) rfl rfl (fun _ _ _ h=>h) ?_ ?_;rotate_left;(· (intro w' hR;(first | have hcells:=Zw ((Zd N).trans _ _ _ hacc hR) | skip);go_simp;try with_reducible rfl));simp only [Act.put,zLa,zLb,zLc]))
   refine Z6 (Zd N) rfl rfl rfl ?_
   go_simp
   refine ⟨ZH ((Below.refl _ _).alloc (Nat.le_refl _) _) hNw,?_⟩
   have hal:=(Below.refl w3.heap.size w3).alloc (Nat.le_refl _) (.cells #[.slice (some ⟨g',0,none⟩) (L.block+lr) (L.block+lr)] 28)
   have hrd:=Xu w3 (.slice (some ⟨g',0,none⟩) (L.block+lr) (L.block+lr)) 28
   replace hrx:=YP hrx hal.size (fun b _ h2 _=>hal.block b h2)
   replace kl:=kl.below hal kl.lt
   replace kc:=kc.below hal kc.lt
   replace kf:=kf.below hal kf.lt
   replace hown:=Zh hown hal (Nat.le_refl _)
   replace hgr:=ZL hgr hal
   replace hb0:=Za hb0 hal
   replace hNw:=Nat.le_trans hNw hal.size
   have HNe:=Lib.hid (Nat.le_trans HNd.out.2 hal.size)
   try simp only [Act.put,zLa,zLb,zLc]
   generalize w3.alloc _=w4 at kl kc kf hown hgr hrx hb0 hrd hNw HNe ⊢
   generalize w3.heap.size=g7 at hrd ⊢
   clear hal HNd hacc
   have hacc:=(Zd N).refl w4
   repeat (first | (refine Zf (Zd N) rfl rfl (fun _ _ _ h=>h) ?_;simp only [Act.put,zLa,zLb,zLc]) | (refine Ze (v:=?_) (Zd N) rfl rfl (fun _ _ _ h=>h) ?_ ?_;rotate_left;(· (intro w' hR;(first | have hcells:=Zw ((Zd N).trans _ _ _ hacc hR) | skip);go_simp;try with_reducible rfl));simp only [Act.put,zLa,zLb,zLc]))
   refine Z6 (Zd N) rfl rfl rfl ?_
   refine Xa _ _ rfl UF rfl hown rfl hrd (by intro u hu;simp at hu;subst hu;rfl) (by omega) hNw ?_
   intro v' wn hown' hgrow hblk
   have hvb:∀ q,v.ownBlock=some q→N≤q:=fun q e=>(hown.lt q e).1
   have hBn:=Yd hown hgrow hNw
   refine ⟨hBn,?_⟩
   have hgn:=VT hgr hrx hgrow hblk
   rw [HNX.out] at hgn
   replace kl:=kl.grown hgrow (fun e=>by have:=hvb _ e.symm;omega)
   replace kc:=kc.grown hgrow (fun e=>by have:=hvb _ e.symm;omega)
   replace kf:=kf.grown hgrow (fun e=>by have:=hvb _ e.symm;omega)
   replace hb0:=hb0.trans (hBn.mono (by omega))
   have hNn:N≤wn.heap.size:=by have:=hgrow.size;omega
   clear hown hgr hrx hgrow hblk hvb hrd hacc hBn HNe hNw
   have hacc:=(Zd N).refl wn
   try simp only [Act.put,zLa,zLb,zLc]
   repeat (first | (refine Zf (Zd N) rfl rfl (fun _ _ _ h=>h) ?_;simp only [Act.put,zLa,zLb,zLc]) | (refine Ze (v:=?_) (Zd N) rfl rfl (fun _ _ _ h=>h) ?_ ?_;rotate_left;(· (intro w' hR;(first | have hcells:=Zw ((Zd N).trans _ _ _ hacc hR) | skip);go_simp;try with_reducible rfl));simp only [Act.put,zLa,zLb,zLc]))
   refine Zt ?_
   go_wp2
   go_roundw
   case rel=>exact ⟨i+1,v',_,rfl,by omega,by go_num,kl,kc,kf,hown',hgn,hb0,hNn⟩
   case measure=>simp [intOf];omega
  ·obtain rfl:i=m.length:=by omega
   have g2:¬((m.length:Int)<(m.length:Int)):=by omega
   clear hMd hRd HRow
   have cl:=kl.cell
   have cc:=kc.cell
   have n1:w.heap.size<N:=by omega
   have n2:w.heap.size+1<N:=by omega
   go_upto_region 8 with fail
   refine Zq (UY N) [3,6,9,10,11] [0,1,2,4,5,7,8,3,6,9,10,11,12] (by kernel_rfl) (by kernel_rfl) ?_
   refine Zp (Zd N) ?_
   intro Wc HWc hacc
   repeat (first | (refine Zf (Zd N) rfl rfl (fun _ _ _ h=>h) ?_;simp only [Act.put,zLa,zLb,zLc]) | (refine Ze (v:=?_) (Zd N) rfl rfl (fun _ _ _ h=>h) ?_ ?_;rotate_left;(· (intro w' hR;(first | have hcells:=Zw ((Zd N).trans _ _ _ hacc hR) | skip);go_simp;try with_reducible rfl));simp only [Act.put,zLa,zLb,zLc]))
   have hbW:Below wr.heap.size wr Wc:=by rw [HWc.out];exact (Below.refl _ _).drew
   replace kl:=kl.below hbW kl.lt
   replace kc:=kc.below hbW kc.lt
   replace kf:=kf.below hbW kf.lt
   replace hown:=Zh hown hbW (Nat.le_refl _)
   replace hgr:=ZL hgr hbW
   replace hb0:=Za hb0 hbW
   replace hNw:=Nat.le_trans hNw hbW.size
   clear hbW HWc cl cc
   refine Zk (Zd N) rfl rfl rfl (fun _=>by go_simp <;> rfl) ((HCo.out _ hb0).mono ?_)
   rintro e w3 ⟨v1,rfl,o1,hb3⟩
   refine ⟨_,rfl,ZH hb3 hNw,?_⟩
   replace hacc:=(Zd N).trans _ _ _ hacc (ZH hb3 hNw)
   simp only [Act.put,zLa,zLb,zLc]
   have hv1:∀ q,v.ownBlock=some q→q<Wc.heap.size:=fun q e=>(hown.lt q e).2
   have hx1:RWx N v.ownBlock w3 v1 co:=rwx_own o1 HLT.out.1 hNw hv1
   obtain ⟨A1',c1',rfl,-⟩:=Zo o1
   replace kl:=kl.below hb3 kl.lt
   replace kc:=kc.below hb3 kc.lt
   replace kf:=kf.below hb3 kf.lt
   replace hown:=Zh hown hb3 (Nat.le_refl _)
   replace hgr:=ZL hgr hb3
   replace hb0:=Za hb0 hb3
   replace hNw:=Nat.le_trans hNw hb3.size
   clear hb3 o1 hacc hv1
   have hacc:=(Zd N).refl w3
   refine Zk (Zd N) rfl rfl rfl (fun _=>by go_simp <;> rfl) ((HLi.out _ hb0).mono ?_)
   rintro e w4 ⟨v2,rfl,o2,hb4⟩
   refine ⟨_,rfl,ZH hb4 hNw,?_⟩
   replace hacc:=(Zd N).trans _ _ _ hacc (ZH hb4 hNw)
   simp only [Act.put,zLa,zLb,zLc]
   have hv2:∀ q,v.ownBlock=some q→q<w3.heap.size:=fun q e=>(hown.lt q e).2
   have hx2:RWx N v.ownBlock w4 v2 (YL L li):=rwx_own o2 (by
    have hp:=HPP.out
    intro x hx
    rcases List.mem_cons.1 hx with rfl | hx
    ·exact Nat.lt_trans (GQ (by omega) _ _) hp.2
    ·exact HLT.out.2 x hx) hNw hv2
   obtain ⟨A2',c2',rfl,-⟩:=Zo o2
   replace hx1:=YP hx1 hb4.size (fun b _ h2 _=>hb4.block b h2)
   replace kl:=kl.below hb4 kl.lt
   replace kc:=kc.below hb4 kc.lt
   replace kf:=kf.below hb4 kf.lt
   replace hown:=Zh hown hb4 (Nat.le_refl _)
   replace hgr:=ZL hgr hb4
   replace hb0:=Za hb0 hb4
   replace hNw:=Nat.le_trans hNw hb4.size
   clear hb4 o2 hacc hv2
   have hacc:=(Zd N).refl w4
   refine Zk (Zd N) rfl rfl rfl (fun _=>by go_simp <;> rfl) ((HQu.out _ hb0).mono ?_)
   rintro e w5 ⟨g3,rfl,hg3,k3,hb5⟩
   refine ⟨_,rfl,ZH hb5 hNw,?_⟩
   replace hacc:=(Zd N).trans _ _ _ hacc (ZH hb5 hNw)
   simp only [Act.put,zLa,zLb,zLc]
   have hv3:some g3≠v.ownBlock:=fun e=>by have:=(hown.lt _ e.symm).2;omega
   have hx3:RWx N v.ownBlock w5 (.slice (some ⟨g3,0,none⟩) (L.block+qu.length) (L.block+qu.length)) (zCf L qu) :=
    JN k3 (fun k _=>Nat.lt_trans (JA (by have:=HPP.out;omega) _ _ _) HPP.out.2) (by simp [maxLen];omega) (by omega) hv3
   replace hx1:=YP hx1 hb5.size (fun b _ h2 _=>hb5.block b h2)
   replace hx2:=YP hx2 hb5.size (fun b _ h2 _=>hb5.block b h2)
   replace kl:=kl.below hb5 kl.lt
   replace kc:=kc.below hb5 kc.lt
   replace kf:=kf.below hb5 kf.lt
   replace hown:=Zh hown hb5 (Nat.le_refl _)
   replace hgr:=ZL hgr hb5
   replace hb0:=Za hb0 hb5
   replace hNw:=Nat.le_trans hNw hb5.size
   clear hb5 k3 hg3 hacc hv3 HCo HLi HQu kc
   have hacc:=(Zd N).refl w5
   refine Z6 (Zd N) rfl rfl rfl ?_
   go_simp
   refine ⟨ZH ((Below.refl _ _).alloc (Nat.le_refl _) _) hNw,?_⟩
   have hal:=(Below.refl w5.heap.size w5).alloc (Nat.le_refl _) (.cells #[.slice A1' co.length c1', .slice A2' (li.length+1) c2', .slice (some ⟨g3,0,none⟩) (L.block+qu.length) (L.block+qu.length)] 28)
   have hrd:=zIz w5 (.slice A1' co.length c1') (.slice A2' (li.length+1) c2') (.slice (some ⟨g3,0,none⟩) (L.block+qu.length) (L.block+qu.length)) 28
   replace hx1:=YP hx1 hal.size (fun b _ h2 _=>hal.block b h2)
   replace hx2:=YP hx2 hal.size (fun b _ h2 _=>hal.block b h2)
   replace hx3:=YP hx3 hal.size (fun b _ h2 _=>hal.block b h2)
   replace kl:=kl.below hal kl.lt
   replace kf:=kf.below hal kf.lt
   replace hown:=Zh hown hal (Nat.le_refl _)
   replace hgr:=ZL hgr hal
   replace hb0:=Za hb0 hal
   replace hNw:=Nat.le_trans hNw hal.size
   try simp only [Act.put,zLa,zLb,zLc]
   generalize w5.alloc _=w6 at kl kf hown hgr hx1 hx2 hx3 hb0 hrd hNw ⊢
   generalize w5.heap.size=g7 at hrd ⊢
   clear hal hacc
   have hacc:=(Zd N).refl w6
   repeat (first | (refine Zf (Zd N) rfl rfl (fun _ _ _ h=>h) ?_;simp only [Act.put,zLa,zLb,zLc]) | (refine Ze (v:=?_) (Zd N) rfl rfl (fun _ _ _ h=>h) ?_ ?_;rotate_left;(· (intro w' hR;(first | have hcells:=Zw ((Zd N).trans _ _ _ hacc hR) | skip);go_simp;try with_reducible rfl));simp only [Act.put,zLa,zLb,zLc]))
   refine Z6 (Zd N) rfl rfl rfl ?_
   refine Xa _ _ rfl UF rfl hown rfl hrd (by intro u hu;simp at hu;rcases hu with rfl | rfl | rfl <;> rfl) (by omega) hNw ?_
   intro v' wn hown' hgrow hblk
   have hvb:∀ q,v.ownBlock=some q→N≤q:=fun q e=>(hown.lt q e).1
   have hBn:=Yd hown hgrow hNw
   refine ⟨hBn,?_⟩
   have hgn:=zEc hgr hx1 hx2 hx3 hgrow hblk
   replace kl:=kl.grown hgrow (fun e=>by have:=hvb _ e.symm;omega)
   replace kf:=kf.grown hgrow (fun e=>by have:=hvb _ e.symm;omega)
   replace hb0:=hb0.trans (hBn.mono (by omega))
   have hrows:=Vl hgn hown'
   clear hown hgr hx1 hx2 hx3 hgrow hblk hvb hrd hacc hBn hNw hgn
   have hacc:=(Zd N).refl wn
   try simp only [Act.put,zLa,zLb,zLc]
   repeat (first | (refine Zf (Zd N) rfl rfl (fun _ _ _ h=>h) ?_;simp only [Act.put,zLa,zLb,zLc]) | (refine Ze (v:=?_) (Zd N) rfl rfl (fun _ _ _ h=>h) ?_ ?_;rotate_left;(· (intro w' hR;(first | have hcells:=Zw ((Zd N).trans _ _ _ hacc hR) | skip);go_simp;try with_reducible rfl));simp only [Act.put,zLa,zLb,zLc]))
   refine Zt ?_
   rw [HPE.out] at hrows
   rw [←HMM.out] at hown'
   obtain ⟨Ap,cp,rfl,hcp,-⟩:=Zo hown'
   clear hown' hacc HPE HMM HLEN HML HRL HLT
   obtain ⟨-,-,hcm,hPd⟩:=Yi hrows
   obtain ⟨gC,hgC⟩:∃ gC,gC=wn.heap.size:=⟨_,rfl⟩
   have y0:w.heap.size+3≤gC:=by rw [hgC];have:=hb0.size;have:=kf.lt;omega
   have lM:M≤maxLen:=by simp [maxLen];omega
   have hmaxn:max (0:Int) (L.n:Int)=(L.n:Int):=Int.max_eq_right (by omega)
   have xn:(L.n:Int)≤1024:=by omega
   have cl:=kl.cell
   go_upto_region 10 with fail
   have kC:=Blk.new wn 28 (Xt L.n fun _=>.slice none 0 0)
   have hal:=(Below.refl wn.heap.size wn).alloc (Nat.le_refl _) (.cells (Xt L.n fun _=>.slice none 0 0) 28)
   have hs7:(wn.alloc (.cells (Xt L.n fun _=>.slice none 0 0) 28)).heap.size=gC+1:=by rw [hgC];simp
   rw [←hgC] at kC hal ⊢
   clear cl mkC
   generalize wn.alloc _=w7 at kC hal hs7 ⊢
   rw [Gx (g:=fun k=>if k<0 then mkS M (gC+1+k) else .slice none 0 0) (fun k _=>by simp)] at kC
   have HGC:=Lib.hid hgC
   have HS7:=Lib.hid hs7
   clear hgC hs7
   go_wp2_with fail
   go_loopw [67] (fun y wr=>∃ i:Nat,i≤L.n∧y= .int .i64 (i:Int)∧Blk wr gC 28 (Xt L.n fun k=>if k<i then mkS M (gC+1+k) else .slice none 0 0)∧Hid (∀ k,k<i→Blk wr (gC+1+k) 22 (Zm M fun _=>0))∧Hid (wr.heap.size=gC+1+i)∧Below gC wn wr) (fun y _=>L.n-(intOf y).toNat)
   case atStart=>exact ⟨0,Nat.zero_le _,rfl,kC,fun k h=>by omega,HS7.out,hal⟩
   case round =>
    clear kC hal HS7
    obtain ⟨i,hi,rfl,kC,HK,HSZ,hbn⟩:=hrel
    by_cases hlt:i<L.n
    ·have q1:(0:Int)≤(i:Int):=by omega
     have q2:(i:Int)<(L.n:Int):=by omega
     have cC:=kC.cell i
     rw [zv _ hlt,if_neg (Nat.lt_irrefl i)] at cC
     have lC:=kC.lt
     have fC:=kC.frozen
     go_wp2_with fail
     have hgi:=HSZ.out
     rw [hgi]
     have hg:=Yl (w:=wr) gC i (mkS M (gC+1+i))
     replace kC:=kC.set_ i (mkS M (gC+1+i))
     rw [zFy,Gx (g:=fun k=>if k<i+1 then mkS M (gC+1+k) else .slice none 0 0) (fun k _=>by
      by_cases e:k=i
      ·subst e;simp
      ·rw [if_neg e]
       by_cases e2:k<i
       ·rw [if_pos e2,if_pos (by omega)]
       ·rw [if_neg e2,if_neg (by omega)])] at kC
     have HK2:Hid (∀ k,k<i→Blk (wr.setCell ⟨gC,i,none⟩ (mkS M (gC+1+i))) (gC+1+k) 22 (Zm M fun _=>0)):=fun k h=>(HK.out k h).grown hg (fun e=>by have:=Option.some.inj e;omega)
     have hsz8:(wr.setCell ⟨gC,i,none⟩ (mkS M (gC+1+i))).heap.size=gC+1+i:=by simp [World.setCell];exact hgi
     replace hbn:=hbn.trans (Zg hg (by have:=hbn.size;have:=HGC.out;omega) (Nat.le_refl _))
     clear hg HK hgi HSZ cC fC lC
     generalize wr.setCell _ _=w8 at kC HK2 hsz8 hbn ⊢
     have hal:=(Below.refl w8.heap.size w8).alloc (Nat.le_refl _) (.cells (Zm M fun _=>0) 22)
     have kN:=Blk.new w8 22 (Zm M fun _=>0)
     have HSN:=Lib.hid (show (w8.alloc (.cells (Zm M fun _=>0) 22)).heap.size=gC+1+(i+1) by simp;omega)
     rw [hsz8] at kN
     replace kC:=kC.below hal kC.lt
     have HK3:Hid (∀ k,k<i+1→Blk (w8.alloc (.cells (Zm M fun _=>0) 22)) (gC+1+k) 22 (Zm M fun _=>0)):=fun k h=>by
      by_cases e:k=i
      ·subst e;exact kN
      ·exact (HK2.out k (by omega)).below hal (HK2.out k (by omega)).lt
     replace hbn:=hbn.trans (hal.mono (by omega))
     clear hal kN HK2 hsz8
     generalize w8.alloc _=w9 at kC HK3 HSN hbn ⊢
     go_roundw
     case rel=>exact ⟨i+1,by omega,by go_num,kC,HK3,HSN,hbn⟩
     case measure=>simp [intOf];omega
    ·obtain rfl:i=L.n:=by omega
     rw [Gx (g:=fun k=>mkS M (gC+1+k)) (fun k hk=>if_pos hk)] at kC
     have hs9:gC+1+L.n≤wr.heap.size:=by rw [HSZ.out];omega
     have HK2:Hid (∀ k,k<L.n→Blk wr (gC+1+k) 22 (Zm M fun q=>if q<0 then Jf L.p L.n L.n.log2 (ps.getD q []) gen k else 0)):=fun k h=>by
      have:=HK.out k h
      rw [Yx (g:=fun q=>if q<0 then Jf L.p L.n L.n.log2 (ps.getD q []) gen k else 0) (fun q _=>by simp)] at this
      exact this
     clear HK HSZ mkM
     go_wp2_with fail
     go_loopw [79] (fun y wr=>∃ j:Nat,j≤M∧y= .int .i64 (j:Int)∧Blk wr gC 28 (Xt L.n fun k=>mkS M (gC+1+k))∧Hid (∀ k,k<L.n→Blk wr (gC+1+k) 22 (Zm M fun q=>if q<j then Jf L.p L.n L.n.log2 (ps.getD q []) gen k else 0))∧gC+1+L.n≤wr.heap.size∧Below gC wn wr) (fun y _=>M-(intOf y).toNat)
     case atStart=>exact ⟨0,Nat.zero_le _,rfl,kC,HK2,hs9,hbn⟩
     case round =>
      clear kC HK2 hs9 hbn
      obtain ⟨j,hj,rfl,kC,HK,hsz,hbn⟩:=hrel
      by_cases hlt:j<M
      ·have q1:(0:Int)≤(j:Int):=by omega
       have q2:(j:Int)<(M:Int):=by omega
       obtain ⟨bp,qp,Aj,lj,cj,rfl,hbp,hcp',hrp⟩:=Yq hPd (show j<ps.length by rw [HPL.out];exact hlt)
       have hbp2:bp<gC:=by rw [HGC.out];exact hbp
       have hcj:=(hbn.cell (p:=⟨bp,qp+j,none⟩) hbp2).trans hcp'
       have hbn2:Below wn.heap.size wn wr:=by rw [←HGC.out];exact hbn
       have hrj:=Zc _ _ _ _ hbn2 hrp
       have hgd:ps[j]'(by rw [HPL.out];exact hlt)=ps.getD j []:=by rw [List.getD_eq_getElem?_getD,List.getElem?_eq_getElem];rfl
       have hlj:lj≤8192:=by have h1:=HPS.out _ (List.getElem_mem (show j<ps.length by rw [HPL.out];exact hlt));have h2:=(Zy hrp).1;omega
       rw [hgd] at hrj
       have HE:=Lib.hid (fun w' (hb:Below wr.heap.size wr w')=>HEv.out Aj lj cj (ps.getD j []) w' (Zc _ _ _ _ hb hrj) hlj)
       have kl':=kl.below hbn (show w.heap.size<gC by omega)
       have kf':=kf.below hbn (show w.heap.size+1+1<gC by omega)
       have cl:=kl'.cell
       have ll:=kl'.lt
       have cf:=kf'.cell
       have lf:=kf'.lt
       clear hcp' hrp hrj hgd hbn2
       have hbpw:bp<wr.heap.size:=by omega
       go_upto_region 18 with fail
       refine Zq (ZK) [3,6] [0,1,2,4,5,3,6,7,8,9,10,11] (by kernel_rfl) (by kernel_rfl) ?_
       refine Zp (later_moves) ?_
       intro Wc HWc hacc
       repeat (first | (refine Zf (later_moves) rfl rfl (fun _ _ _ h=>h) ?_;simp only [Act.put,zLa,zLb,zLc]) | (refine Ze (v:=?_) (later_moves) rfl rfl (fun _ _ _ h=>h) ?_ ?_;rotate_left;(· (intro w' hR;(first | have hcells:=Zb ((later_moves).trans _ _ _ hacc hR) | skip);go_simp;try with_reducible rfl));simp only [Act.put,zLa,zLb,zLc]))
       have hbW:Below wr.heap.size wr Wc:=by rw [HWc.out];exact (Below.refl _ _).drew
       refine Zk (later_moves) rfl rfl rfl (fun _=>by go_simp <;> rfl) ((HGen.out _).mono ?_)
       rintro e w3 ⟨rfl,hb3⟩
       refine ⟨_,rfl,hb3,?_⟩
       replace hacc:=(later_moves).trans _ _ _ hacc (hb3)
       simp only [Act.put,zLa,zLb,zLc]
       have hb4:=Za hbW hb3
       repeat (first | (refine Zf (later_moves) rfl rfl (fun _ _ _ h=>h) ?_;simp only [Act.put,zLa,zLb,zLc]) | (refine Ze (v:=?_) (later_moves) rfl rfl (fun _ _ _ h=>h) ?_ ?_;rotate_left;(· (intro w' hR;(first | have hcells:=Zb ((later_moves).trans _ _ _ hacc hR) | skip);go_simp;try with_reducible rfl));simp only [Act.put,zLa,zLb,zLc]))
       refine Zk (later_moves) rfl rfl rfl (fun _=>by go_simp <;> rfl) ((HE.out _ hb4).mono ?_)
       rintro e w5 ⟨gv,rfl,hgv,kv,hb5⟩
       refine ⟨_,rfl,hb5,?_⟩
       replace hacc:=(later_moves).trans _ _ _ hacc (hb5)
       simp only [Act.put,zLa,zLb,zLc]
       have hb6:=Za hb4 hb5
       have hgv2:wr.heap.size≤gv:=Nat.le_trans hb4.size hgv
       replace kC:=kC.below hb6 kC.lt
       have HK2:Hid (∀ k,k<L.n→Blk w5 (gC+1+k) 22 (Zm M fun q=>if q<j∨(q=j∧k<0) then Jf L.p L.n L.n.log2 (ps.getD q []) gen k else 0)):=fun k h=>by
        have:=(HK.out k h).below hb6 (HK.out k h).lt
        rw [Yx (g:=fun q=>if q<j∨(q=j∧k<0) then Jf L.p L.n L.n.log2 (ps.getD q []) gen k else 0) (fun q _=>by simp)] at this
        exact this
       have hbn3:=hbn.trans (hb6.mono (by omega))
       have hsz2:=Nat.le_trans hsz hb6.size
       have hgv3:gC+1+L.n≤gv:=by omega
       clear hbW hb3 hb4 hb5 hb6 HWc hacc HK hbn hsz cl ll cf lf kl' kf' HE hcj hgv
       repeat (first | (refine Zf (later_moves) rfl rfl (fun _ _ _ h=>h) ?_;simp only [Act.put,zLa,zLb,zLc]) | (refine Ze (v:=?_) (later_moves) rfl rfl (fun _ _ _ h=>h) ?_ ?_;rotate_left;(· (intro w' hR;(first | have hcells:=Zb ((later_moves).trans _ _ _ hacc hR) | skip);go_simp;try with_reducible rfl));simp only [Act.put,zLa,zLb,zLc]))
       refine Zt ?_
       obtain ⟨V,hV⟩:∃ V:Nat→Nat→Nat,V=fun q k=>Jf L.p L.n L.n.log2 (ps.getD q []) gen k:=⟨_,rfl⟩
       have HV:=Lib.hid hV
       rw [show Jf L.p L.n L.n.log2 (ps.getD j []) gen=V j by rw [hV]] at kv
       replace HK2:Hid (∀ k,k<L.n→Blk w5 (gC+1+k) 22 (Zm M fun q=>if q<j∨(q=j∧k<0) then V q k else 0)):=by rw [hV];exact HK2
       clear hV
       go_wp2_with fail
       go_loopw [96] (fun y wr=>∃ i:Nat,i≤L.n∧y= .int .i64 (i:Int)∧Blk wr gC 28 (Xt L.n fun k=>mkS M (gC+1+k))∧Hid (∀ k,k<L.n→Blk wr (gC+1+k) 22 (Zm M fun q=>if q<j∨(q=j∧k<i) then V q k else 0))∧gC+1+L.n≤wr.heap.size∧Below gC wn wr∧Blk wr gv 22 (Zm L.n (V j))) (fun y _=>L.n-(intOf y).toNat)
       case atStart=>exact ⟨0,Nat.zero_le _,rfl,kC,HK2,hsz2,hbn3,kv⟩
       case round =>
        clear kC HK2 hsz2 hbn3 kv
        obtain ⟨i,hi,rfl,kC,HK,hsz,hbn,kv⟩:=hrel
        by_cases hlti:i<L.n
        ·have p1:(0:Int)≤(i:Int):=by omega
         have p2:(i:Int)<(L.n:Int):=by omega
         obtain ⟨x,hx⟩:∃ x,x=V j i:=⟨_,rfl⟩
         have cv:=kv.cell i
         rw [Z4 _ hlti,←hx] at cv
         have lv:=kv.lt
         have cC:=kC.cell i
         rw [zv _ hlti] at cC
         have lC:=kC.lt
         obtain ⟨gi,hgi⟩:∃ gi,gi=gC+1+i:=⟨_,rfl⟩
         have kI:Blk wr gi 22 (Zm M fun q=>if q<j∨(q=j∧i<i) then V q i else 0):=by rw [hgi];exact HK.out i hlti
         have cI:=kI.cell j
         rw [Z4 _ hlt] at cI
         generalize (if j<j∨(j=j∧i<i) then V j i else 0)=old at cI
         have lI:=kI.lt
         have fI:=kI.frozen
         rw [←hgi] at cC
         have ngC:gi≠gC:=by omega
         have ngv:gi≠gv:=by omega
         dsimp only [mkS] at cC
         have HGI:=Lib.hid hgi
         have HXX:=Lib.hid hx
         clear hgi hx
         go_wp2_with fail
         have hg:=Yl (w:=wr) gi j (.int .u64 (x:Int))
         have hK2:Hid (∀ k,k<L.n→Blk (wr.setCell ⟨gi,j,none⟩ (.int .u64 (x:Int))) (gC+1+k) 22 (Zm M fun q=>if q<j∨(q=j∧k<i+1) then V q k else 0)):=fun k h=>by
          by_cases e:k=i
          ·subst e
           have h2:=kI.set_ j (.int .u64 (x:Int))
           rw [Y3] at h2
           rw [←HGI.out]
           rw [Yx (g:=fun q=>if q<j∨(q=j∧k<k+1) then V q k else 0) (fun q _=>by
            simp only [VB]
            by_cases e:q=j
            ·subst e;rw [if_pos rfl,if_pos (by omega),HXX.out]
            ·rw [if_neg e]
             by_cases e2:q<j
             ·rw [if_pos (.inl e2),if_pos (.inl e2)]
             ·rw [if_neg (by omega),if_neg (by omega)])] at h2
           exact h2
          ·have h2:=(HK.out k h).grown hg (fun e2=>by have:=Option.some.inj e2;have:=HGI.out;omega)
           rw [Yx (g:=fun q=>if q<j∨(q=j∧k<i+1) then V q k else 0) (fun q _=>by
            by_cases e2:q<j∨(q=j∧k<i)
            ·rw [if_pos e2,if_pos (by omega)]
            ·rw [if_neg e2,if_neg (by omega)])] at h2
           exact h2
         replace kC:=kC.grown hg (fun e=>ngC (Option.some.inj e).symm)
         replace kv:=kv.grown hg (fun e=>ngv (Option.some.inj e).symm)
         replace hsz:=Nat.le_trans hsz hg.size
         replace hbn:=hbn.trans (Zg hg (by have:=hbn.size;have:=HGC.out;omega) (by have:=HGI.out;omega))
         clear hg HK kI cI cC cv lI fI lC lv HXX
         go_roundw
         case rel=>exact ⟨i+1,by omega,by go_num,kC,hK2,hsz,hbn,kv⟩
         case measure=>simp [intOf];omega
        ·obtain rfl:i=L.n:=by omega
         have HK3:Hid (∀ k,k<L.n→Blk wr (gC+1+k) 22 (Zm M fun q=>if q<j+1 then Jf L.p L.n L.n.log2 (ps.getD q []) gen k else 0)):=fun k h=>by
          have h2:=HK.out k h
          rw [Yx (g:=fun q=>if q<j+1 then Jf L.p L.n L.n.log2 (ps.getD q []) gen k else 0) (fun q _=>by
           rw [HV.out]
           by_cases e2:q<j+1
           ·rw [if_pos e2,if_pos (by omega)]
           ·rw [if_neg e2,if_neg (by omega)])] at h2
          exact h2
         clear HK kv
         go_wp2
         go_roundw
         case rel=>exact ⟨j+1,by omega,by go_num,kC,HK3,hsz,hbn⟩
         case measure=>simp [intOf];omega
      ·obtain rfl:j=M:=by omega
       go_wp2
       go_ret
       refine ⟨_,rfl,?_,hb0.trans (hbn.mono (by omega))⟩
       rw [show (fun i=>(List.range j).map (zJ L ps i))=fun i=>(List.range j).map fun q=>Jf L.p L.n L.n.log2 (ps.getD q []) gen i from funext fun i=>HCV.out i]
       refine J0 (N:=gC+1) (gb:=none) (cs:=Xt L.n fun k=>mkS j (gC+1+k)) (fun k hk=>⟨_,zv _ hk,?_⟩) kC (by simp [maxLen];omega)
       have h2:=HK.out k hk
       rw [Yx (g:=fun q=>Jf L.p L.n L.n.log2 (ps.getD q []) gen k) (fun q hq=>if_pos hq)] at h2
       exact JN h2 (fun q _=>HFF.out k q) lM (by omega) (fun e=>by cases e)
end Go.Proofs.YtakjnmojigechaaGreat
