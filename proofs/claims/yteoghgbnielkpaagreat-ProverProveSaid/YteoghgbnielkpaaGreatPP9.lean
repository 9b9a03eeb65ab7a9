/- A part of the proof. No condition. -/
import Derived.Test.YteoghgbnielkpaaGreatPP8

set_option maxRecDepth 100000
set_option maxHeartbeats 8000000
set_option linter.unusedVariables false
set_option linter.unusedSimpArgs false
namespace Go.Proofs.YteoghgbnielkpaaGreat
open Go.RowKit
open Tryz
open Go renaming World->vu, Value->vw, Addr->vx, TypeId->vy, Calls->vA
open Go.Value renaming int->vd, slice->ve, agg->vf
open Go.IntKind renaming u64->vo, i64->vq
open Go.Ending renaming returned->vn
open Go.RowKit renaming Below->vz
open Go.World renaming setCell->vE
open Go.Act renaming put->vF
open Option renaming none->vB, some->vD
def SD (p b i:Nat):Nat:=if i=0 then p-1 else if i=b then 1 else 0
def Ih (p b:Nat):List Nat:=(List.range (b+1)).map (SD p b)
theorem zIK {p b:Nat} (hb:0<b):((Ya (b+1) fun _=>0).setIfInBounds 0 (vd vo ((p-1:Nat):Int))).setIfInBounds b (vd vo ((1:Nat):Int))=Ya (b+1) (SD p b):=by
 rw [Tt,Tt];refine iq fun i hi=>?_
 simp only [sg,SD];by_cases h:i=b
 ·subst h;simp;omega
 ·rw [Gb h]
  by_cases h0:i=0
  ·simp [h0]
  ·simp [h0,h]
theorem zIJ {p b:Nat} (hp:1<p) (i:Nat):SD p b i<p:=by
 unfold SD;split
 ·omega
 ·split <;> omega
theorem JX (L:Tb) (w:vu) (hL:Ad L) :
  vA prog 236 #[vf (Ub L)] w fun e w'=>∃ v,e=vn v /\ RWd w' [v] (Ih L.p L.block) /\ vz w.1.size w w':=by
 obtain ⟨Sd,Vb⟩:=Cc hL.p;have Oa:=hL.b1;have Fa:=hL.b2;obtain ⟨n,hn⟩:=zEX (L.block+1);obtain ⟨pm,Vl⟩:=zEX (L.p-1);have e1:(L.block:Int)+1=(n:Int):=by omega
 have e2:=Xd n;have e3:vo.wrap ((L.p:Int)-1)=(pm:Int):=by rw [Vl];exact Ku _ 1 zO Vb
 have e4:(0:Int)<n:=by omega
 have e5:(L.block:Int)<n:=by omega
 have e6:(0:Int)<=L.block:=by omega
 have e7:0<n:=by omega
 have e8:L.block<n:=by omega
 have e9:(n:Int) <= 257:=by omega
 have Mf:=zH (show ((Ya n fun _=>0).setIfInBounds 0 (vd vo pm)).setIfInBounds L.block (vd vo 1)=Ya n (SD L.p L.block) by rw [hn,Vl];exact zIK zO)
 have HB:=zH (show ∀ g w,Blk w g 22 (Ya n (SD L.p L.block)) -> RWd w [ve (vD ⟨g,0,vB⟩) n n] (Ih L.p L.block) from fun g w h=>by
  have:=UE h (fun i _=>Je (zIJ zO i) Vb) (by simp [maxLen];omega)
  rw [hn] at this |-;exact this)
 have mk:=Rv n zO;clear hn Vl hL Sd Vb Oa Fa;obtain ⟨c0,Sl⟩:=zEX ((Ya n fun _=>0))
 have HC0:=zH (show ∀ i,i<n -> c0[i]?=vD (vd vo 0) from fun i hi=>by rw [Sl,Ei _ hi];rfl)
 have HCB:=zH (show (c0.setIfInBounds 0 (vd vo pm))[L.block]?=vD (vd vo (if L.block=0 then (pm:Int) else 0)) by rw [Sl,Tt,Ei _ e8];simp only [sg];split <;> rfl)
 rw [<- Sl] at mk Mf;clear Sl;unfold Ub at *;obtain ⟨kl,kg,da,-⟩:=Xf w 35 22 #[vd vo L.p,vd vq L.block,vd vq L.queries,vd vq L.k,vd vq L.n,vd vq L.secret,vd vq L.rows,vd vq L.a,vd vq L.b,vd vq L.b,vd vq L.b] c0;go_enter func236,ntmps236
 go_upto_region 2 with fail
 generalize (w.alloc _).alloc _=w1 at kl kg da |-;have hg:w.1.size <= w.1.size+1:=by omega
 have db:w.1.size≠w.1.size+1:=by omega
 generalize w.1.size+1=g at kg hg db |-;have cl:=kl.cell;have cg:=kg.cell 0;rw [HC0.out 0 e7] at cg;have fg:=kg.frozen;go_upto_region 3 with fail
 have Ta:=Hh (w:=w1) g 0 (vd vo pm);replace kg:=kg.set_ 0 (vd vo pm);replace kl:=kl.grown Ta (fun e=>db (Nb e))
 replace da:=da.trans (om Ta da.size hg);clear cl cg fg Ta;generalize w1.setCell _ _=w2 at kl kg da |-;have cl:=kl.cell;have cg:=kg.cell L.block;rw [HCB.out] at cg;have fg:=kg.frozen;go_upto_region 4 with fail
 have Ta:=Hh (w:=w2) g L.block (vd vo 1);replace kg:=kg.set_ L.block (vd vo 1);rw [Mf.out] at kg;replace da:=da.trans (om Ta da.size hg);clear cl cg fg Ta kl;generalize w2.setCell _ _=w3 at kg da |-;go_wp2;go_ret
 exact ⟨_,rfl,HB.out _ _ kg,da⟩
theorem zG0 (A:Option vx) (n c m:Nat) (l:List Nat) (w:vu) (hl:RWd w [ve A n c] l) (hn:n <= 100000) (hm:m <= 100000) :
  vA prog 235 #[ve A n c,vd vq m] w fun e w'=>∃ v,e=vn v /\ RWd w' [v] (Gh l m) /\ vz w.1.size w w':=by
 obtain ⟨rfl,h1,h2,ya,Na⟩:=Pb hl;have ma:=zA w (.cells #[] 22);have tc:=zH (show ∀ k,∀ x∈l++List.replicate k 0,x<18446744073709551616 from fun k x hx=>by
  rcases Tp.1 hx with h | h
  ·exact ya x h
  ·rw [(List.mem_replicate.1 h).2];omega)
 have HS:=zH (show ∀ k,l++List.replicate k 0++[0]=l++List.replicate (k+1) 0 from fun k=>by rw [zy,List.replicate_succ'])
 have HP:=zH (show Gh l m=l++List.replicate (m-l.length) 0 from rfl)
 rw [HP.out];obtain ⟨f,hf⟩:=zEX (fun k=>l++List.replicate k 0)
 have H0:=zH (show f 0=l by rw [hf];simp)
 have HF:=zH (show ∀ k,f k++[0]=f (k+1) from fun k=>by rw [hf];exact HS.out k)
 have Ho:=zH (show ∀ k,∀ x∈f k,x<18446744073709551616 from fun k=>by rw [hf];exact tc.out k)
 rw [show l++List.replicate (m-l.length) 0=f (m-l.length) by rw [hf]]
 clear HS tc HP hf ya h1 h2 hl;go_enter func235,ntmps235
 go_wp2_with (at_builtin;refine Wd rfl _ _ rfl jg rfl (Zr w 22 zR) rfl (Na.alloc _) (De l) zO zS ?_)
 intro v1 w1 oa Ma Cb;have hB:=ie (Zr w 22 zR) Ma zS;replace hB:=ma.trans hB;obtain ⟨t,ht⟩:=zEX (l.length);have Zs:w1.ownsRow w.1.size 22 1 v1 t (Qa (f 0)):=by
  rw [H0.out,ht];simpa using oa
 have HT:=zH ht;clear Ma Cb oa ma ht Na;go_wp2_with fail
 go_loopw [5] (fun v wr=>∃ k s:Nat,Hid (s=t+k /\ (k=0 \/ s <= m)) /\ s <= 200000 /\ wr.ownsRow w.1.size 22 1 v s (Qa (f k)) /\ vz w.1.size w wr) (fun v _=>match v with | ve _ n _=>m-n | _=>0)
 case atStart=>exact ⟨0,t,zH ⟨rfl, .inl rfl⟩,by have:=HT.out;omega,Zs,hB⟩
 case round =>
  clear Zs hB;obtain ⟨k,s,HK,hs,oa,hb⟩:=hrel;obtain ⟨A1,c1,rfl,kd,ef,-,-⟩:=Yb oa;by_cases ya:s<m
  ·have g1:(s:Int)<m:=by omega
   have Vg:=zH (HF.out k);go_wp2_with (at_builtin;refine Wd rfl _ _ rfl jg rfl (oa.alloc _) rfl (gg _ _ _) (De [0]) zO (by simp;have:=hb.size;omega) ?_)
   intro v' wn Ua Ma Cb;have ma:=zA wr (.cells #[vd vo (0:Int)] 22);have hB:=ie (oa.alloc _) Ma (by simp;have:=hb.size;omega)
   replace hb:=(Nk hb ma hb.size).trans hB;replace oa:wn.ownsRow w.1.size 22 1 v' (s+1) (Qa (f (k+1))):=Qi (b:=[0]) Ua Vg.out;clear Ua Ma Cb ma hB;obtain ⟨A2,c2,rfl,-⟩:=Yb oa;go_wp2
   go_roundw
   case rel=>exact ⟨k+1,s+1,zH (zQ HK.out),zO,oa,hb⟩
   case measure=>simp;omega
  ·have g1:¬((s:Int)<m):=by omega
   have HE:=zH (show f k=f (m-l.length) by
    have h:=HK.out;have h2:=HT.out;rcases h.2 with h3 | h3
    ·rw [h3,show m-l.length=0 by omega]
    ·rw [show k=m-l.length by omega])
   have jD:=Sf oa (Ho.out k);clear oa;go_wp2;go_ret
   rw [HE.out] at jD;exact ⟨_,rfl,jD,hb⟩
def Si (p s:Nat) (r:List Nat) (m:Nat):List Nat:=(List.range m).map (drawP p s r)
def Cz (L:Tb) (s n:Nat):List (List Nat):=(List.range n).map fun k=>Si L.p s [0,k] L.queries
theorem zIp (p s:Nat) (r:List Nat) (m:Nat) (hp:0<p) (Vb:p<18446744073709551616):∀ x∈Si p s r m,x<18446744073709551616:=fun x hx=>by
 obtain ⟨k,_,rfl⟩:=ee.1 hx;exact Je (Sc _ hp) Vb
theorem zHv (L:Tb) (s k:Nat):Cz L s k++[Si L.p s [0,k] L.queries]=Cz L s (k+1):=by simp [Cz,List.range_succ]
theorem zEa:(prog.info? 28).map (fun i=>(i.zero,i.size,i.bytes))=vD (vD (ve vB 0 0),1,24):=by kernel_rfl
theorem So:Ds prog 39 28 1 24 (ve vB 0 0):=by
 obtain ⟨i0,hi,Hi,Vd,Pg⟩:=info_parts zEa;exact ⟨underlying39,⟨i0,hi,Hi,Vd,Pg⟩,rfl,zO⟩
theorem zAA (p s:Nat) (r:List Nat) (m g:Nat) (w:vu) (hp:0<p) (Vb:p<18446744073709551616) (kg:Blk w g 22 (Qa (s%nc :: r)).toArray) (hr:∀ x∈r,x<18446744073709551616) (hlen:r.length <= 1000) (hm:m <= 65536) :
  vA prog 53 #[vd vo p,vd vq m,ve (vD ⟨g,0,vB⟩) (r.length+1) (r.length+1)] w fun e w'=>∃ v,e=vn v /\ w'.ownsRow w.1.size 22 1 v m (Qa (Si p s r m)) /\ vz w.1.size w w':=by
 have:=zHx p (vD ⟨g,0,vB⟩) (s%nc :: r).length (s%nc :: r).length m (s%nc :: r) w hp Vb (uN kg (fun z hz=>by
  rcases Kk.1 hz with rfl | h
  ·exact Je (Sc _ zD) (show nc<18446744073709551616 by decide)
  ·exact hr z h) (by simp [maxLen];omega)) zS zT hm
 exact this
theorem zHR {w:vu} {g:Nat} {t:vy} {y0 y1 y2 y3 y4:vw} (k:Blk w g t #[y0,y1,y2,y3,y4]) (x0 x1 x2 x3 x4:vw):Blk (((((w.setCell ⟨g,0,vB⟩ x0).setCell ⟨g,1,vB⟩ x1).setCell ⟨g,2,vB⟩ x2).setCell ⟨g,3,vB⟩ x3).setCell ⟨g,4,vB⟩ x4) g t #[x0,x1,x2,x3,x4]:=by
 have h:=(((((k.set_ 0 x0).set_ 1 x1).set_ 2 x2).set_ 3 x3).set_ 4 x4)
 simpa using h
theorem zHS {w:vu} {g:Nat} (x0 x1 x2 x3 x4:vw):w.grownBy (((((w.setCell ⟨g,0,vB⟩ x0).setCell ⟨g,1,vB⟩ x1).setCell ⟨g,2,vB⟩ x2).setCell ⟨g,3,vB⟩ x3).setCell ⟨g,4,vB⟩ x4) (vD g):=by
 iterate 5 refine Li ?_ (.inl rfl) _
 exact mg w _
def Ki (n:Nat) (f:Nat -> vw):Array vw:=((List.range n).map f).toArray
theorem zV {n k:Nat} (f:Nat -> vw) (h:k<n):(Ki n f)[k]?=vD (f k):=by simp [Ki,h]
theorem AV {n:Nat} {f g:Nat -> vw} (h:∀ i,i<n -> f i=g i):Ki n f=Ki n g:=by
 unfold Ki
 congr 1
 exact Nw fun i hi=>h i (Mj.1 hi)
theorem zDi {n k:Nat} (f:Nat -> vw) (v:vw):(Ki n f).setIfInBounds k v=Ki n (fun i=>if i=k then v else f i):=by
 apply Array.ext
 ·simp [Ki]
 ·intro i h1 h2
  simp [Ki] at h1 h2
  rw [Array.getElem_setIfInBounds (by simpa [Ki] using h1)]
  simp only [Ki];split
  ·subst_vars;simp
  ·rename_i db
   simp [show ¬i=k from fun e=>db e.symm]
theorem u7 (n:Nat):madeCells (ve vB 0 0).cells (n*1)=Ki n fun _=>ve vB 0 0:=by
 apply Array.toList_inj.1
 rw [show (ve vB 0 0).cells=#[ve vB 0 0] from rfl,toList_madeCells_one]
 exact List.ext_getElem (by simp [Ki]) fun i h1 h2=>by simp [Ki]
theorem F7 (n:Nat) (hn:n <= 1000000) (w:vu) :
  (Instr.makeSlice 39 (vd vq n) (vd vq n)).run prog w= .ok (ve (vD ⟨w.1.size,0,vB⟩) n n) (w.alloc (.cells (Ki n fun _=>ve vB 0 0) 28)):=by
 have:=aQ (P:=prog) So n zO zO w;rw [u7] at this;exact this
theorem OI {p b:Nat} (hp:0<p) (l:List Nat):∀ i k,Ek p b l i k<p
 | 0,_=>hp
 | i+1,k=>by
  simp only [Ek,sg];split
  ·exact Sc _ hp
  ·split
   ·exact Sc _ hp
   ·exact OI hp l i k
theorem I7 {L:Tb} (hp:0<L.p) (msg Xe:List Nat) (k:Nat):Qx L msg Xe k<L.p:=by
 unfold Qx oQ;split
 ·exact Sc _ hp
 ·exact OI hp _ _ _
theorem rN {p b:Nat} (hp:0<p) (l:List Nat):∀ k,Px p b l k<p
 | 0=>hp
 | _+1=>Sc _ hp
def WL (L:Tb) (m r:List (List Nat)) (k:Nat):List Nat:=(List.range (L.block+(r.getD k []).length)).map (Qx L (m.getD k []) (r.getD k []))
def dG (L:Tb) (m r:List (List Nat)) (n:Nat):List (List Nat):=(List.range n).map (WL L m r)
theorem zGh (L:Tb) (m r:List (List Nat)) (k:Nat):dG L m r k++[WL L m r k]=dG L m r (k+1):=by simp [dG,List.range_succ]
def rT (L:Tb) (q:List Nat):List Nat:=(List.range (L.block+q.length)).map (Ek L.p L.block q q.length)
def FD (L:Tb) (m r:List (List Nat)) (c l q:List Nat):List (List Nat):=dG L m r m.length++[c,Qh L l,rT L q]
def QM (L:Tb) (ps:List (List Nat)) (i j:Nat):Nat:=Il L.p L.n L.n.log2 (ps.getD j []) (pc L.p).1 i
theorem G4 {N:Nat} {w w':vu} {v v' x y z:vw} {cs:List vw} {l:List (List Nat)} {a b c:List Nat} (h:gh N w v cs l) (hx:sh N v.ownBlock w x a) (hy:sh N v.ownBlock w y b) (hz:sh N v.ownBlock w z c)
  (hg:w.grownBy w' v.ownBlock) (hv:v'.ownBlock=v.ownBlock \/ v'.ownBlock=vD w.1.size):gh N w' v' (cs++[x,y,z]) (l++[a,b,c]):=by
 have key:∀ {z:vw} {m:List Nat},sh N v.ownBlock w z m -> sh N v'.ownBlock w' z m:=fun {z m} hz u hu=>by
  refine hz u fun b h1 h2 h3=>?_
  refine (hu b h1 (zQ hg.size) ?_).trans (hg.block b h2 (fun e=>h3 e))
  rcases hv with e | e
  ·rw [e];exact h3
  ·rw [e];intro e2;have:=Nb e2;omega
 refine ⟨by simp [h.1],fun i h1 h2=>?_⟩
 by_cases hi:i<cs.length
 ·rw [EA hi,EA (zQ h.1)]
  exact key (h.2 i hi _)
 ·have e0:=h.1
  have uv:i<cs.length+3:=by simpa using h1
  rw [JJ zO,JJ zO];have:i-cs.length=0 \/ i-cs.length=1 \/ i-cs.length=2:=by omega
  have e1:i-l.length=i-cs.length:=by omega
  simp only [e1];rcases this with e | e | e <;> simp only [e]
  ·exact key hx
  ·exact key hy
  ·exact key hz
theorem zAl (w:vu) (x y z:vw) (t:vy):Rd (w.alloc (.cells #[x,y,z] t)) 1 (vD ⟨w.1.size,0,vB⟩) 3 [x,y,z]:=by
 refine ⟨rfl,fun _=>⟨_,rfl,fun j u hj=>?_⟩⟩
 rw [jv,Re,(Blk.new w t #[x,y,z]).cell]
 simpa using hj
theorem PN {N g n:Nat} {gb:Option Nat} {w:vu} {t:vy} {f:Nat -> Nat} (h:Blk w g t (Ya n f)) (hf:∀ i,i<n -> f i<18446744073709551616) (hn:n <= maxLen) (hN:N <= g) (hg:vD g≠gb):sh N gb w (ve (vD ⟨g,0,vB⟩) n n) ((List.range n).map f):=by
 rw [TE] at h;exact zAE h zS (fun x hx=>by
  obtain ⟨i,hi,rfl⟩:=ee.1 hx;exact hf i (Mj.1 hi)) hn hN hg
theorem DS {L:Tb} (h:Ad L):fl L.p L.n /\ L.n=2^L.n.log2:=by
 obtain ⟨j,hj⟩:=h.n;refine ⟨⟨by have:=h.nk;have:=h.k;have:=h.b1;omega,by have:=h.n2;omega,⟨j,hj⟩,h.nd⟩,?_⟩
 rw [hj,Nat.log2_two_pow]
theorem zDe {p:Nat} (hp:0<p):∀ (j:Nat) (a:Nat -> Nat) (w k:Nat),(∀ i,a i<p) -> Jl p j a w k<p
 | 0,_,_,k,h=>h k
 | j+1,a,w,k,_=>by
  simp only [Jl];split <;> exact Sc _ hp
theorem fZ {p n:Nat} (hp:0<p) (l:List Nat) (s:Nat):∀ i k,Kn p n l s i k<p
 | 0,_=>hp
 | i+1,k=>by
  simp only [Kn,sg];split
  ·exact Sc _ hp
  ·exact fZ hp l s i k
theorem qV {p:Nat} (hp:0<p) (n j:Nat) (l:List Nat) (s k:Nat):Il p n j l s k<p:=zDe hp _ _ _ _ (fZ hp _ _ _)
theorem C4 {p:Nat} (h:jc p=true):(pc p).1%p≠0:=by
 rcases Wv h with rfl | rfl | rfl | rfl | rfl | rfl | rfl <;> decide
theorem Z8 (L:Tb) (m r:List (List Nat)) (c l q:List Nat):(FD L m r c l q).length=m.length+3:=by simp [FD,dG]
theorem zGj {L:Tb} {m r:List (List Nat)} {c l q:List Nat} (hb:L.block <= 256) (hr:∀ x∈r,x.length <= 2000) (h1:c.length <= 2000) (h2:l.length <= 2000) (h3:q.length <= 2000):∀ x∈FD L m r c l q,x.length <= 8192:=by
 intro x hx;unfold FD at hx;rcases Tp.1 hx with hx | hx
 ·obtain ⟨k,-,rfl⟩:=ee.1 hx
  simp only [WL,Tm,Sp];have:(r.getD k []).length <= 2000:=by
   rw [Hc];cases h:r[k]? with
   | none=>simp
   | some y=>exact hr y (List.mem_of_getElem? h)
  omega
 ·simp at hx
  rcases hx with rfl | rfl | rfl
  ·omega
  ·simp [Qh];omega
  ·simp [rT];omega
def Sx (L:Tb) (msg Xe:List Nat):List Nat:=Gh (Mg L.p ((List.range msg.length).map (tu L.p msg 1)) (Dg L.p (Ih L.p L.block) Xe)) L.k
def Ck (L:Tb) (q:List Nat):List Nat:=Gh (Dg L.p (Ih L.p L.block) q) (2*L.k-1)
theorem qG (p b:Nat):(Ih p b).length=b+1:=by simp [Ih]
theorem O5 {p:Nat} (hp:0<p) (l:List Nat) (s i:Nat):tu p l s i<p:=Sc _ hp
theorem zG6 (L:Tb) (v0 v1 v2 v4:vw) (B:Option vx) (m d:Nat) (q:List Nat) (w:vu) (hL:Ad L) (g0:slc v0) (g1:slc v1) (g2:slc v2) (g4:slc v4) (hk:RWd w [ve B m d] q) (hm:m <= 30000) :
  vA prog 159 #[vf (Ub L),vf #[v0,v1,v2,ve B m d,v4]] w fun e w'=>∃ v,e=vn v /\ RWd w' [v] (Ck L q) /\ vz w.1.size w w':=by
 obtain ⟨Sd,Vb⟩:=Cc hL.p;have Fa:=hL.b2;have og:L.k <= 400:=by have:=hL.k;have:=hL.q2;omega
 have Dm:2 <= L.k:=by have:=hL.k;have:=hL.b1;omega
 have mf:=(Pb hk).1;obtain ⟨A0,n0,c0,rfl⟩:=g0;obtain ⟨A1,n1,c1,rfl⟩:=g1;obtain ⟨A2,n2,c2,rfl⟩:=g2;obtain ⟨A4,n4,c4,rfl⟩:=g4;obtain ⟨t,ht⟩:=zEX (2*L.k-1);obtain ⟨u,hu⟩:=zEX (2*L.k);have HZ:=zH (fun w=>JX L w hL)
 have HM:=zH (fun A n c w' (hb:vz w.1.size w w') ha hn=>rQ L.p A B n c m d (Ih L.p L.block) q w' hL.p ha (Wa hb hk) hn zO)
 have HP:=zH (fun A n c l w hl hn=>zG0 A n c t l w hl hn zO)
 have HR:=zH (show Ck L q=Gh (Dg L.p (Ih L.p L.block) q) t by rw [Ck,ht])
 rw [HR.out];have h1:=zH (show (Dg L.p (Ih L.p L.block) q).length <= 40000 by have:=uD L.p (Ih L.p L.block) q;rw [qG] at this;omega)
 have h3:=zH (qG L.p L.block);have h4:L.block <= 256:=Fa;have e1:(2:Int)*L.k=(u:Int):=by omega
 have e2:=Xd u;have e3:(u:Int)-1=(t:Int):=by omega
 have e4:=Xd t;generalize Dg L.p (Ih L.p L.block) q=M at *;clear HR hL hk mf Sd Vb og Dm Fa hm ht hu;unfold Ub at *;obtain ⟨kl,kc,da,-⟩:=Xf w 35 41 #[vd vo L.p,vd vq L.block,vd vq L.queries,vd vq L.k,vd vq L.n,vd vq L.secret,vd vq L.rows,vd vq L.a,vd vq L.b,vd vq L.b,vd vq L.b] #[ve A0 n0 c0,ve A1 n1 c1,ve A2 n2 c2,ve B m d,ve A4 n4 c4];go_enter func159,ntmps159
 go_upto_region 1 with fail
 generalize (w.alloc _).alloc _=w2 at kl kc da |-;have cl:=kl.cell;have ll:=kl.lt;have cc:=kc.cell;have lc:=kc.lt;refine Pd (Rc) [3,6,11] [0,1,2,4,5,7,8,9,10,3,6,11,12] zK zK ?_;refine oe (Da) ?_;intro Wc Ga ja;have Pa:=Uf Ga;replace da:=ta da Pa;refine Mc ?_;refine ud Da rfl rfl rfl ((HZ.out _).mono ?_);rintro e w3 ⟨v3,rfl,hZ,Ra⟩;refine ⟨_,rfl,Ra,?_⟩;replace ja:=zM Da ja (Ra);refine zPU ?_;replace da:=ta da Ra;obtain ⟨A3,c3,rfl⟩:=eh hZ;refine Mc ?_;refine ud Da rfl rfl rfl ((HM.out _ _ _ _ da hZ (by rw [h3.out];omega)).mono ?_)
 rintro e w4 ⟨v4,rfl,hM,Ib⟩;refine ⟨_,rfl,Ib,?_⟩;replace ja:=zM Da ja (Ib);refine zPU ?_;replace da:=ta da Ib;obtain ⟨A5,c5,rfl⟩:=eh hM;refine Mc ?_;refine ud Da rfl rfl rfl ((HP.out _ _ _ _ _ hM (zQ h1.out)).mono ?_);rintro e w6 ⟨v6,rfl,hP,Lc⟩;refine ⟨_,rfl,Lc,?_⟩;replace ja:=zM Da ja (Lc);refine zPU ?_;replace da:=ta da Lc;refine Mc ?_;refine Vc ?_;go_wp2;go_ret
 exact ⟨_,rfl,hP,da⟩
theorem P9 (L:Tb) (v0 v1 v2 v3 v4:vw) (w:vu) (g0:slc v0) (g1:slc v1) (g2:slc v2) (g3:slc v3) (g4:slc v4) :
  vA prog 157 #[vf (Ub L),vf #[v0,v1,v2,v3,v4]] w fun e w'=>e=vn v1 /\ vz w.1.size w w':=by
 obtain ⟨A0,n0,c0,rfl⟩:=g0;obtain ⟨A1,n1,c1,rfl⟩:=g1;obtain ⟨A2,n2,c2,rfl⟩:=g2;obtain ⟨A3,n3,c3,rfl⟩:=g3;obtain ⟨A4,n4,c4,rfl⟩:=g4;unfold Ub at *;obtain ⟨kl,kc,da,-⟩:=Xf w 35 41 #[vd vo L.p,vd vq L.block,vd vq L.queries,vd vq L.k,vd vq L.n,vd vq L.secret,vd vq L.rows,vd vq L.a,vd vq L.b,vd vq L.b,vd vq L.b] #[ve A0 n0 c0,ve A1 n1 c1,ve A2 n2 c2,ve A3 n3 c3,ve A4 n4 c4];go_enter func157,ntmps157
 go_upto_region 1 with fail
 generalize (w.alloc _).alloc _=w2 at kl kc da |-;have cc:=kc.cell;have lc:=kc.lt;go_wp2;go_ret
 exact ⟨rfl,da⟩
theorem zG2 (L:Tb) (w:vu) (hL:Ad L) :
  vA prog 160 #[vf (Ub L)] w fun e w'=>∃ v1 v2,e=vn (.tuple #[v1,v2]) /\ RWd w' [v1] ((List.range L.block).map (Zp L.p 1 L.block)) /\ RWd w' [v2] ((List.range L.n).map (Zp L.p (pc L.p).1 L.n)) /\ vz w.1.size w w':=by
 obtain ⟨Sd,Vb⟩:=Cc hL.p;obtain ⟨hlen,-⟩:=EL hL;obtain ⟨U4,-⟩:=DS hL;have iD:=B4 hL.p;have H1:=zH (fun w=>uT L.p 1 L.block w hL.p hlen (by rw [Lk zO];decide))
 have H2:=zH (fun w=>uT L.p (pc L.p).1 L.n w hL.p U4 (C4 hL.p))
 have HG:=zH (fun w=>T9 L.p w hL.p)
 have dj:=zH (show ∀ s n,∀ x∈(List.range n).map (Zp L.p s n),x<18446744073709551616 from fun s n x hx=>by
  obtain ⟨i,-,rfl⟩:=ee.1 hx;exact Je (zDH zO (Sc _ zO) i) Vb)
 generalize (pc L.p).1=gn at *;clear hL Sd Vb hlen U4 iD;unfold Ub at *;obtain ⟨kl,da⟩:=zN w 35 #[vd vo L.p,vd vq L.block,vd vq L.queries,vd vq L.k,vd vq L.n,vd vq L.secret,vd vq L.rows,vd vq L.a,vd vq L.b,vd vq L.b,vd vq L.b];go_enter func160,ntmps160
 go_wp2_with fail
 generalize w.alloc _=w1 at kl da |-;refine (H1.out _).mono ?_;rintro e w2 ⟨v1,rfl,oa,Ca⟩;replace kl:=pa kl Ca;replace da:=ta da Ca;clear Ca;obtain ⟨A1,c1,rfl,-⟩:=Yb oa;have hI:=Sf oa (dj.out _ _);clear oa;have cl:=kl.cell;have ll:=kl.lt;go_upto_region 2 with fail
 refine Pd (Rc) [4,7] [0,1,2,3,5,6,4,7,8,9,10,11,12] zK zK ?_;refine oe (Da) ?_;intro Wc Ga ja;have Pa:=Uf Ga;replace da:=ta da Pa;replace hI:=Wa Pa hI;refine Mc ?_;refine ud Da rfl rfl rfl ((HG.out _).mono ?_);rintro e w3 ⟨rfl,Ra⟩;refine ⟨_,rfl,Ra,?_⟩;replace ja:=zM Da ja (Ra);refine zPU ?_;replace da:=ta da Ra;replace hI:=Wa Ra hI;refine Mc ?_;refine ud Da rfl rfl rfl ((H2.out _).mono ?_);rintro e w4 ⟨v4,rfl,oa,Ib⟩;refine ⟨_,rfl,Ib,?_⟩;replace ja:=zM Da ja (Ib);refine zPU ?_;replace da:=ta da Ib;replace hI:=Wa Ib hI;obtain ⟨A4,c4,rfl,-⟩:=Yb oa;have hM:=Sf oa (dj.out _ _);clear oa;refine Mc ?_;refine Vc ?_;go_wp2
 go_ret2
 exact ⟨_,_,rfl,hI,hM,da⟩
theorem X9 (L:Tb) (v0 v1 v3 v4:vw) (A:Option vx) (n c:Nat) (l:List Nat) (w:vu) (hL:Ad L) (h0:slc v0) (h1:slc v1) (h3:slc v3) (h4:slc v4) (hl:RWd w [ve A n c] l) (hn:n <= 60000) :
  vA prog 158 #[vf (Ub L),vf #[v0,v1,ve A n c,v3,v4]] w fun e w'=>∃ v,e=vn v /\ w'.ownsRow w.1.size 22 1 v (n+1) (Qa (Qh L l)) /\ vz w.1.size w w':=by
 have hp:=hL.p;have Oa:=hL.b1;have Fa:=hL.b2;have HS:=zH (fun a b w=>zAg L.p a b w hp)
 obtain ⟨rfl,ld,yf,ya,Na⟩:=Pb hl;obtain ⟨A0,n0,c0,rfl⟩:=h0;obtain ⟨A1,n1,c1,rfl⟩:=h1;obtain ⟨A3,n3,c3,rfl⟩:=h3;obtain ⟨A4,n4,c4,rfl⟩:=h4;clear hl hL ld yf hp;have gb:(L.block:Int) <= 256:=by omega
 have gb1:(2:Int)<=L.block:=by omega
 unfold Ub at *;obtain ⟨kl,kc,da,Db⟩:=Xf w 35 41 #[vd vo L.p,vd vq L.block,vd vq L.queries,vd vq L.k,vd vq L.n,vd vq L.secret,vd vq L.rows,vd vq L.a,vd vq L.b,vd vq L.b,vd vq L.b] #[ve A0 n0 c0,ve A1 n1 c1,ve A l.length c,ve A3 n3 c3,ve A4 n4 c4];go_enter func158,ntmps158
 go_upto_region 1 with fail
 generalize (w.alloc _).alloc _=w1 at kl kc da Db |-;have HZ:=zH Db;clear Db;have td:=Na.below da;have Tf:=World.ownsRow_lit (base:=w1.1.size) (e:=22) (size:=1) w1 #[vd vo 0] 1 zR (by simp [maxLen]) rfl
 have ma:=zA w1 (.cells #[vd vo 0] 22);have cc:=kc.cell;have lc:=kc.lt;go_upto_region 2 with (at_builtin;refine Wd rfl _ _ rfl jg rfl Tf rfl (td.below ma) (De l) zO zS ?_;intro v' w2 oa Ma Cb)
 have hB:=ie Tf Ma zS;replace hB:=ma.trans hB;clear Tf Ma Cb ma td cc lc;replace kl:=pa kl hB;replace da:=ta da hB;clear hB kc;obtain ⟨g,cap,rfl,Nh,-⟩:=World.ownsRow.form oa zO;have Xn:w.1.size+2 <= g:=by have:=HZ.out;omega
 have e0:(1+l.length)=l.length+1:=Nat.add_comm _ _;rw [e0] at oa |-;replace oa:w2.ownsRow w.1.size 22 1 (ve (vD ⟨g,0,vB⟩) (l.length+1) cap) (l.length+1) (Qa (0 :: l)):=Hg oa (zQ HZ.out);obtain ⟨n,pg⟩:=zEX (l.length+1);rw [<- pg] at oa |-;have Lf:=zH pg;clear pg e0 Nh HZ;have gn:(n:Int) <= 60001:=by have:=Lf.out;omega
 have cl:=kl.cell;go_wp2_with fail
 clear cl;go_loopw [6] (fun y wr=>∃ k i:Nat,y=vd vq i /\ Hid (i=(k+1)*L.block /\ k*L.block <= l.length) /\ i <= 61000 /\ 1 <= i /\ Blk wr w.1.size 35 #[vd vo L.p,vd vq L.block,vd vq L.queries,vd vq L.k,vd vq L.n,vd vq L.secret,vd vq L.rows,vd vq L.a,vd vq L.b,vd vq L.b,vd vq L.b] /\ wr.ownsRow w.1.size 22 1 (ve (vD ⟨g,0,vB⟩) n cap) n (Qa (Px L.p L.block l k :: l)) /\ vz w.1.size w wr) (fun y _=>61000-(intOf y).toNat)
 case atStart=>exact ⟨0,L.block,rfl,⟨zO,zO⟩,zO,zO,kl,oa,da⟩
 case round =>
  clear kl oa da;obtain ⟨k,i,rfl,HK,Zn,Ff,kl,oa,da⟩:=hrel;have q0:(0:Int)<i:=by omega
  have q9:(i:Int) <= 61000:=by omega
  by_cases Qk:i<n
  ·have q1:(i:Int)<n:=by omega
   have q2:(0:Int)<=i:=by omega
   have q3:(0:Int)<n:=by omega
   have q5:0<n:=by omega
   obtain ⟨x,hx⟩:=zEX (Px L.p L.block l k);obtain ⟨y,hy⟩:=zEX (l.getD (i-1) 0);obtain ⟨z,hz⟩:=zEX ((x+qg L.p y)%L.p);obtain ⟨t,ht⟩:=zEX (i+L.block);have e1:(i:Int)+L.block=(t:Int):=by omega
   have e2:=Xd t;have Mf:=zH (show (Qa (x :: l)).set 0 (vd vo z)=Qa (Px L.p L.block l (k+1) :: l) by
    rw [hz,hx,hy,HK.out.1];rfl)
   have HT:Hid (t=(k+1+1)*L.block /\ (k+1)*L.block <= l.length):=by
    have h:=HK.out;have h2:=Lf.out;have h3:(k+1+1)*L.block=(k+1)*L.block+L.block:=Nat.succ_mul _ _;exact ⟨zO,zO⟩
   have ht3:t <= 61000:=by have:=Lf.out;omega
   have ht4:1 <= t:=by omega
   have HC:=zH (fun w=>by have:=HS.out x y w;rw [<- hz] at this;exact this)
   rw [<- hx] at oa;have c0:wr.cell? ⟨g,0,vB⟩=vD (vd vo x):=by rw [oa.cellAt 0 zO];rfl
   have ci:wr.cell? ⟨g,i,vB⟩=vD (vd vo y):=by
    rw [oa.cellAt i zO,cH (by simp;have:=Lf.out;omega)]
    have:(x :: l)[i]'(by simp;have:=Lf.out;omega)=y:=by
     rw [hy,List.getElem_cons,dif_neg zO,Hc,Ec (show i-1<l.length by have:=Lf.out;omega)]
     rfl
    rw [this]
   clear hx hy hz ht HK;have cf:=kl.cell;have lf:=kl.lt;have lg:g<wr.1.size:=Bg _ _ c0;go_upto_region 5 with fail
   refine tg (Rc) (Da) [12] [12] [0,1,2,3,4,5,6,7,8,9,10,11,12] zK zK ?_;refine ug (Da) ?_;intro Wc ja;refine Cd ?_;refine yd Da rfl rfl rfl rfl (fun w' hR=>HC.out _) ?_
   refine zPU ?_;refine Cd ?_;refine Xj rfl rfl rfl rfl ?_;intro wh Tc;replace ja:=zM Da ja Tc;have Ic:=ta (Kb wr.1.size wr).drew ja;replace kl:=pa kl Ic;replace oa:=Za oa Ic zR;replace da:=ta da Ic;clear Ic ja Tc cf lf lg c0 ci;have c2:wh.cell? ⟨g,0,vB⟩=vD (vd vo x):=by rw [oa.cellAt 0 zO];rfl
   have f2:=oa.frozenAt;go_simp;refine ⟨fun h=>Bool.noConfusion h,?_⟩
   obtain ⟨je,hg⟩:=oa.stored 0 (vd vo z);rw [Mf.out] at je;replace kl:=sf kl hg;replace da:=Ee da hg;clear hg f2 c2 oa;generalize wh.setCell _ _=we at kl je da |-;refine Fk rfl ?_;have cl:=kl.cell;go_wp2_with fail
   go_roundw
   case rel=>exact ⟨k+1,t,by go_num,HT.out,ht3,ht4,kl,je,da⟩
   case measure=>simp [intOf];omega
  ·have q1:¬((i:Int)<n):=by omega
   have HE:=zH (show Px L.p L.block l k=Px L.p L.block l (l.length / L.block) by
    have h:=HK.out;have h2:=Lf.out;have:l.length / L.block=k:=by
     rw [Nat.div_eq_iff zO];have h3:(k+1)*L.block=k*L.block+L.block:=Nat.succ_mul _ _;omega
    rw [this])
   go_wp2;go_ret
   rw [HE.out] at oa;exact ⟨_,rfl,by rw [<- Lf.out];exact oa,da⟩
def ye {α:Type} (a b c d:α) (i:Nat):α:=if i=0 then a else if i=1 then b else if i=2 then c else d
theorem bY {α:Type} (a b c d:α) {i:Nat} (h:i<4):(#[a,b,c,d]:Array α)[i]?=vD (ye a b c d i):=by
 rcases (show i=0 \/ i=1 \/ i=2 \/ i=3 by omega) with rfl | rfl | rfl | rfl <;> rfl
theorem zEu (L:Tb) {i:Nat} (h:i<4):(#[vd vo L.p,vd vq L.block,vd vq L.queries,vd vq L.k,vd vq L.n,vd vq L.secret,vd vq L.rows,vd vq L.a,vd vq L.b,vd vq L.b,vd vq L.b]:Array vw)[7+i]?=vD (vd vq ((ye L.a L.b L.b L.b i:Nat):Int)):=by
 rcases (show i=0 \/ i=1 \/ i=2 \/ i=3 by omega) with rfl | rfl | rfl | rfl <;> rfl
def QC (B:Nat) (v:List Nat) (k:Nat):List Nat:=(List.range B).map fun j=>v.getD (k*B+j) 0
def ir (B:Nat) (v:List Nat) (n:Nat):List (List Nat):=(List.range n).map (QC B v)
def Yp (B:Nat) (l:Nat -> List Nat) (ps:Nat -> Nat) (i:Nat):List (List Nat):=(List.range i).flatMap fun i=>ir B (l i) (ps i)
def ar (B:Nat) (l:Nat -> List Nat) (ps:Nat -> Nat):List (List Nat):=Yp B l ps 4
theorem eV (B:Nat) (l:Nat -> List Nat) (ps:Nat -> Nat) (i:Nat):Yp B l ps (i+1)=Yp B l ps i++ir B (l i) (ps i):=by
 rw [Yp,List.range_succ,List.flatMap_append];simp [Yp]
theorem GZ (B:Nat) (v:List Nat) (k:Nat):ir B v (k+1)=ir B v k++[QC B v k]:=by simp [ir,List.range_succ]
theorem zBk {n j:Nat} {F:Nat -> Nat} (h:∀ i,j <= i -> i<n -> F i=0):Ya n (Ug F (fun _=>0) j)=Ya n F:=iq fun i hi=>by
 unfold Ug;split
 ·rfl
 ·exact (h i zO hi).symm
theorem MV {M N:Nat} {w:vu} {v:vw} {cs:List vw} {l:List (List Nat)} (h:gh N w v cs l) (hN:M <= N):gh M w v cs l :=
 ⟨h.1,fun i h1 h2 u hu=>h.2 i h1 h2 u fun b b1 b2 b3=>hu b zO b2 b3⟩
theorem R9 (L:Tb) (v0 v1 v2 v3:vw) (l0 l1 l2 l3:List Nat) (w:vu) (hL:Ad L) (hv:∀ i,i<4 -> RWd w [ye v0 v1 v2 v3 i] (ye l0 l1 l2 l3 i)) :
  vA prog 151 #[vf (Ub L),vf #[v0,v1,v2,v3]] w fun e w'=>∃ n v cs,e=vn v /\ w'.ownsRow w.1.size 28 1 v n cs /\ gh w.1.size w' v cs (ar L.block (ye l0 l1 l2 l3) (ye L.a L.b L.b L.b)) /\ vz w.1.size w w':=by
 have Oa:=hL.b1;have Fa:=hL.b2;have im:=zH (show ∀ i,ye L.a L.b L.b L.b i <= 100000 from fun i=>by
  have:=hL.a;have:=hL.b;unfold ye
  repeat' split
  all_goals omega)
 have AG:=zH (fun i (h:i<4)=>zEu L h)
 have HV:=zH hv;have HG:=zH (fun i (h:i<4)=>bY v0 v1 v2 v3 h)
 obtain ⟨l,hl⟩:=zEX (ye l0 l1 l2 l3);obtain ⟨ps,Rk⟩:=zEX (ye L.a L.b L.b L.b);have ey:=zH (show ar L.block (ye l0 l1 l2 l3) (ye L.a L.b L.b L.b)=Yp L.block l ps 4 by rw [hl,Rk];rfl)
 rw [ey.out];rw [<- hl] at HV;rw [<- Rk] at im AG;have Io:=zH (show Yp L.block l ps 0=[] from rfl)
 have fA:=zH (eV L.block l ps);have mk:=Rv L.block zO;clear hv hl Rk ey hL;unfold Ub at *;obtain ⟨kl,kv,da,Db⟩:=Xf w 35 219 #[vd vo L.p,vd vq L.block,vd vq L.queries,vd vq L.k,vd vq L.n,vd vq L.secret,vd vq L.rows,vd vq L.a,vd vq L.b,vd vq L.b,vd vq L.b] #[v0,v1,v2,v3];go_enter func151,ntmps151
 go_upto_region 1 with fail
 generalize (w.alloc _).alloc _=w1 at kl kv da Db |-;obtain ⟨N,hN⟩:=zEX (w1.1.size);have HWN:=zH (show w.1.size <= N by omega)
 have Uo:w.1.size+1<N:=by omega
 have uf:N <= w1.1.size:=by omega
 clear Db hN;obtain ⟨LC,vH⟩:∃ LC:Array vw,LC=#[vd vo L.p,vd vq L.block,vd vq L.queries,vd vq L.k,vd vq L.n,vd vq L.secret,vd vq L.rows,vd vq L.a,vd vq L.b,vd vq L.b,vd vq L.b]:=⟨_,rfl⟩;have dj:=zH (show LC[1]?=vD (vd vq L.block) by rw [vH];rfl)
 have HL7:=zH (show ∀ i,i<4 -> LC[7+i]?=vD (vd vq (ps i:Int)) from fun i h=>by rw [vH];exact AG.out i h)
 rw [<- vH] at kl;clear vH AG;obtain ⟨VC,hVC⟩:∃ VC:Array vw,VC=#[v0,v1,v2,v3]:=⟨_,rfl⟩;have HVC:=zH (show ∀ i,i<4 -> VC[i]?=vD (ye v0 v1 v2 v3 i) from fun i h=>by rw [hVC];exact HG.out i h)
 rw [<- hVC] at kv;clear hVC HG;generalize hBL:L.block=B at *;have HBL:=zH hBL;clear hBL;have g1:(0:Int)<B:=by omega
 have g2:(B:Int) <= 256:=by omega
 go_wp2_with fail
 go_loopw [5,6] (fun u y wr=>∃ (i n:Nat) (v:vw) (cs:List vw),v=u /\ i <= 4 /\ y=vd vq i /\ n <= i*100000 /\ Blk wr w.1.size 35 LC /\ Blk wr (w.1.size+1) 219 VC /\ wr.ownsRow N 28 1 v n cs /\ gh N wr v cs (Yp B l ps i) /\ vz w.1.size w wr /\ N <= wr.1.size) (fun _ y _=>4-(intOf y).toNat)
 case atStart=>exact ⟨0,0,_,[],rfl,zO,rfl,zO,kl,kv,⟨rfl, .inl ⟨rfl,rfl⟩⟩,by rw [Io.out];exact tH _ _ _,da,uf⟩
 case round =>
  clear kl kv da uf;obtain ⟨i,n0,v,cs,rfl,hi,rfl,gu,kl,kv,oa,Ta,da,uf⟩:=hrel;by_cases ya:i<4
  ·have q1:(i:Int)<4:=by omega
   have Kx:=HV.out i ya;have Rk:=im.out i;obtain ⟨p,hp⟩:=zEX (ps i);have HL7i:=zH (HL7.out i ya);have yU:=zH (HVC.out i ya);have Ew:=zH (fA.out i);obtain ⟨li,yk⟩:=zEX (l i);obtain ⟨si,DF⟩:=zEX (ye v0 v1 v2 v3 i);rw [<- DF] at Kx yU;rw [<- yk] at Kx Ew;rw [<- hp] at Rk HL7i Ew;clear hp yk DF;obtain ⟨Ai,ci,rfl⟩:=eh Kx;obtain ⟨-,ld,yf,hltl,-⟩:=Pb Kx;have gli:=ti ld yf;obtain ⟨P0,hP0⟩:=zEX (Yp B l ps i);rw [<- hP0] at Ta Ew;have uA:=zH (show P0++ir B li 0=P0 by simp [ir])
   have Qq:=zH (show ∀ k,(P0++ir B li k)++[QC B li k]=P0++ir B li (k+1) from fun k=>by rw [GZ,zy])
   have HVI:=zH Kx;have mU:=zH hltl;have HX:=zH yf;clear hP0 Kx hltl ld yf;go_wp2_with fail
   go_loopw [5,7] (fun u y wr=>∃ (k n:Nat) (v:vw) (cs:List vw),v=u /\ k <= p /\ y=vd vq k /\ n <= i*100000+k /\ Blk wr w.1.size 35 LC /\ Blk wr (w.1.size+1) 219 VC /\ wr.ownsRow N 28 1 v n cs /\ gh N wr v cs (P0++ir B li k) /\ vz w.1.size w wr /\ N <= wr.1.size) (fun _ y _=>p-(intOf y).toNat)
   case atStart=>exact ⟨0,n0,_,cs,rfl,Qb _,rfl,by rw [Oo];exact gu,kl,kv,oa,by rw [uA.out];exact Ta,da,uf⟩
   case round =>
    clear kl kv da uf oa Ta gu;obtain ⟨k,n1,v,cs,rfl,hk,rfl,Ue,kl,kv,oa,Ta,da,uf⟩:=hrel;have c7:=kl.cell (7+i);rw [HL7i.out] at c7;have c1:=kl.cell 1;rw [dj.out] at c1;by_cases hltk:k<p
    ·have q2:(k:Int)<p:=by omega
     obtain ⟨wo,xB⟩:=zEX (wr);subst xB;have bR:=zH (Qq.out k);go_wp2_with fail
     have kg:=Blk.new wo 22 (Ya B fun _=>0)
     have te:=zA wo (.cells (Ya B fun _=>0) 22)
     have uc:∀ q,v.ownBlock=vD q -> q<wo.1.size:=fun q e=>(oa.lt q e).2
     have hgN:N <= wo.1.size:=uf;clear c7 c1;generalize wo.alloc _=w2 at kg te |-;obtain ⟨F,hF⟩:∃ F:Nat -> Nat,F=fun j=>li.getD (k*B+j) 0:=⟨_,rfl⟩
     have HF:=zH (show ∀ j,F j=li.getD (k*B+j) 0 from fun j=>by rw [hF])
     have Sz:=zH (show (List.range B).map F=QC B li k by rw [hF];rfl)
     obtain ⟨kb,hkb⟩:=zEX (k*B);rw [<- hkb] at HF;have hkb2:kb <= 100000*256:=by rw [hkb];exact Nat.mul_le_mul zO Fa
     have ek:(k:Int)*B=(kb:Int):=by rw [hkb];exact (Vh _ _).symm
     have TJ:=Xd kb;have H0:=zH (jM B F fun _=>0)
     have Ho:=zH (show ∀ j,F j<18446744073709551616 from fun j=>by
      rw [HF.out,Hc];cases h:li[kb+j]? with
      | none=>decide
      | some x=>exact mU.out x (List.mem_of_getElem? h))
     clear hF hkb;go_loopw [9] (fun y wr=>∃ j:Nat,j <= B /\ y=vd vq j /\ Blk wr wo.1.size 22 (Ya B (Ug F (fun _=>0) j)) /\ vz wo.1.size wo wr) (fun y _=>B-(intOf y).toNat)
     case atStart=>exact ⟨0,zO,rfl,by rw [H0.out];exact kg,te⟩
     case round =>
      clear kg te;obtain ⟨j,hj,rfl,kg,te⟩:=hrel;obtain ⟨t,ht⟩:=zEX (kb+j);have et:(kb:Int)+j=(t:Int):=by omega
      have et2:=Xd t;have HT:=zH ht;have c1:=(pa kl te).cell 1;rw [dj.out] at c1;have ci:=(pa kv te).cell i;rw [yU.out] at ci;have lk:=(pa kl te).lt;have lv:=(pa kv te).lt;have lg:=kg.lt;have q9:(0:Int)<=j:=by omega
      have q8:(0:Int)<=i:=by omega
      clear ht;by_cases YH:j<B
      ·have q3:(j:Int)<B:=by omega
       have d3:decide ((j:Int)<B)=true:=xc q3;by_cases Zo:t<li.length
       ·have q4:(t:Int)<li.length:=by omega
        have q5:(0:Int)<=t:=by omega
        have d4:decide ((t:Int)<li.length)=true:=xc q4;have tb:=ta da te;obtain ⟨b,q,rfl,dc,hc⟩:=Hf ((Pb HVI.out).2.2.2.2.below tb) Zo;have HZ:=zH (show li.getD t 0=F j by rw [HF.out,HT.out])
        rw [HZ.out] at hc;obtain ⟨z,hz⟩:=zEX (F j);have Mf:=zH (lG (n:=B) (G:=fun _=>0) hz)
        rw [<- hz] at hc;clear hz HZ tb;go_upto_region 10 with fail
        refine Pd (Rc) [] [0,1,2,3,4,5,6,7,8,9,10,11,12,13,14,15,16] zK zK ?_;refine oe (Da) ?_;intro Wc Ga ja;have Pa:=Uf Ga;refine Mc ?_;refine Vc ?_;replace kg:=pa kg Pa;replace te:=ta te Pa;have sj:=(Pa.cell (p:=⟨b,q+t,vB⟩) dc).trans hc;replace dc:=We dc Pa.size;clear c1 ci lk lv lg ja hc;generalize Wc=w3 at kg te sj dc |-;have c1:=(pa kl te).cell 1;rw [dj.out] at c1;have ci:=(pa kv te).cell i;rw [yU.out] at ci;have lk:=(pa kl te).lt;have lv:=(pa kv te).lt;have lg:=kg.lt;have cg:=kg.cell j;rw [PD _ _ YH] at cg;go_upto_region 12 with fail
        refine tg (Rc) (Da) [14] [14] [0,1,2,3,4,5,6,7,8,9,10,11,12,13,14] zK zK ?_;refine ug (Da) ?_;intro Wc ja;refine Cd ?_;refine Xj rfl rfl rfl rfl ?_;intro wh Tc;replace ja:=zM Da ja Tc;have Ic:=ta (Kb w3.1.size w3).drew ja;replace kg:=pa kg Ic;replace te:=ta te Ic;clear Ic ja Tc lk lv lg c1 ci cg sj dc;have c2:=kg.cell j;rw [PD _ _ YH] at c2;have f2:=kg.frozen;go_simp;refine ⟨fun h=>Bool.noConfusion h,?_⟩
        have hg:=Hh (w:=wh) wo.1.size j (vd vo z);replace kg:=kg.set_ j (vd vo z);rw [Mf.out] at kg;replace te:=te.trans (om hg te.size zR);clear hg f2 c2;generalize wh.setCell _ _=we at kg te |-;refine Fk rfl ?_;go_wp2_with fail
        go_roundw
        case rel=>exact ⟨j+1,zO,by go_num,kg,te⟩
        case measure=>simp [intOf];omega
       ·have d4:decide ((t:Int)<li.length)=false:=Xb zO
        have Mf:=zH (show Ya B (Ug F (fun _=>0) j)=Ya B F from zBk fun x h1 _=>by
         rw [HF.out,rH];have:=HT.out;omega)
        go_upto_region 10 with fail
        refine Pd (Rc) [] [0,1,2,3,4,5,6,7,8,9,10,11,12,13,14,15,16] zK zK ?_;refine oe (Da) ?_;intro Wc Ga ja;have Pa:=Uf Ga;refine Mc ?_;refine Vc ?_;replace kg:=pa kg Pa;replace te:=ta te Pa;clear c1 ci lk lv lg ja;generalize Wc=w3 at kg te |-;rw [Mf.out] at kg;replace kl:=pa kl te;replace kv:=pa kv te;replace da:=ta da te;replace uf:=jb uf te.size;replace oa:=Za oa te zR;replace Ta:=Ef Ta te;have hx:=PN (N:=N) (gb:=v.ownBlock) kg (fun j _=>Ho.out j) (by simp [maxLen];omega) hgN (fun e=>by have:=uc _ e.symm;omega)
        rw [Sz.out] at hx;clear kg;go_wp2_with (at_builtin;refine Wd rfl _ _ rfl So rfl (oa.alloc _) rfl (gg _ _ _) (by intro u hu;simp at hu;subst hu;rfl) zO zT ?_)
        intro v' wn Ua Ma Cb;have ma:=zA w3 (.cells #[ve (vD ⟨wo.1.size,0,vB⟩) B B] 28);replace Ta:=Ef Ta ma;replace hx:=Lm hx ma.size (fun b _ h2 _=>ma.block b h2)
        have Ag:=YC Ta hx Ma (by simpa using Cb)
        rw [bR.out] at Ag;have yv:=ie (oa.alloc _) Ma zT;have Jc:w.1.size <= N:=by omega
        have Qr:∀ q,v.ownBlock=vD q -> N <= q:=fun q e=>(oa.lt q e).1
        replace kl:=pa kl ma;replace kv:=pa kv ma;replace da:=ta da ma;replace uf:=jb uf ma.size;replace kl:=kl.grown Ma (fun e=>by first | (have:=Qr _ e;omega) | (have:=Qr _ e.symm;omega))
        replace kv:=kv.grown Ma (fun e=>by first | (have:=Qr _ e;omega) | (have:=Qr _ e.symm;omega))
        replace da:=da.trans (yv.mono Jc);replace uf:=jb uf Ma.size;clear Ma Cb yv ma oa Ta hx te;go_wp2
        go_roundw
        case rel=>exact ⟨k+1,n1+1,_,_,rfl,zO,by go_num,zO,kl,kv,Ua,Ag,da,uf⟩
        case measure=>simp [intOf];omega
      ·have d3:decide ((j:Int)<B)=false:=Xb zO
       have Mf:=zH (show Ya B (Ug F (fun _=>0) j)=Ya B F from zBk fun x h1 h2=>zO)
       go_upto_region 10 with fail
       refine Pd (Rc) [] [0,1,2,3,4,5,6,7,8,9,10,11,12,13,14,15,16] zK zK ?_;refine oe (Da) ?_;intro Wc Ga ja;have Pa:=Uf Ga;refine Mc ?_;refine Vc ?_;replace kg:=pa kg Pa;replace te:=ta te Pa;clear c1 ci lk lv lg ja;generalize Wc=w3 at kg te |-;rw [Mf.out] at kg;replace kl:=pa kl te;replace kv:=pa kv te;replace da:=ta da te;replace uf:=jb uf te.size;replace oa:=Za oa te zR;replace Ta:=Ef Ta te;have hx:=PN (N:=N) (gb:=v.ownBlock) kg (fun j _=>Ho.out j) (by simp [maxLen];omega) hgN (fun e=>by have:=uc _ e.symm;omega)
       rw [Sz.out] at hx;clear kg;go_wp2_with (at_builtin;refine Wd rfl _ _ rfl So rfl (oa.alloc _) rfl (gg _ _ _) (by intro u hu;simp at hu;subst hu;rfl) zO zT ?_)
       intro v' wn Ua Ma Cb;have ma:=zA w3 (.cells #[ve (vD ⟨wo.1.size,0,vB⟩) B B] 28);replace Ta:=Ef Ta ma;replace hx:=Lm hx ma.size (fun b _ h2 _=>ma.block b h2)
       have Ag:=YC Ta hx Ma (by simpa using Cb)
       rw [bR.out] at Ag;have yv:=ie (oa.alloc _) Ma zT;have Jc:w.1.size <= N:=by omega
       have Qr:∀ q,v.ownBlock=vD q -> N <= q:=fun q e=>(oa.lt q e).1
       replace kl:=pa kl ma;replace kv:=pa kv ma;replace da:=ta da ma;replace uf:=jb uf ma.size;replace kl:=kl.grown Ma (fun e=>by first | (have:=Qr _ e;omega) | (have:=Qr _ e.symm;omega))
       replace kv:=kv.grown Ma (fun e=>by first | (have:=Qr _ e;omega) | (have:=Qr _ e.symm;omega))
       replace da:=da.trans (yv.mono Jc);replace uf:=jb uf Ma.size;clear Ma Cb yv ma oa Ta hx te;go_wp2
       go_roundw
       case rel=>exact ⟨k+1,n1+1,_,_,rfl,zO,by go_num,zO,kl,kv,Ua,Ag,da,uf⟩
       case measure=>simp [intOf];omega
    ·obtain rfl:k=p:=by omega
     have q2:¬((k:Int)<k):=by omega
     rw [<- Ew.out] at Ta;go_wp2_with fail
     go_roundw
     case rel=>exact ⟨i+1,n1,_,cs,rfl,zO,by go_num,zO,kl,kv,oa,Ta,da,uf⟩
     case measure=>simp [intOf];omega
  ·obtain rfl:i=4:=by omega
   rw [<- HBL.out] at Ta;go_wp2;go_ret
   exact ⟨_,_,_,rfl,Hg oa HWN.out,MV Ta HWN.out,da⟩
theorem zGI (L:Tb) (v0 v1 v2 v3:vw) (l0 l1 l2 l3:List Nat) (w:vu) (hL:Ad L) (hv:∀ i,i<4 -> RWd w [ye v0 v1 v2 v3 i] (ye l0 l1 l2 l3 i)) :
  vA prog 151 #[vf (Ub L),vf #[v0,v1,v2,v3]] w fun e w'=>∃ v,e=vn v /\ Kd w' [v] (ar L.block (ye l0 l1 l2 l3) (ye L.a L.b L.b L.b)) /\ vz w.1.size w w':=by
 refine (R9 L v0 v1 v2 v3 l0 l1 l2 l3 w hL hv).mono ?_;rintro e w' ⟨n,v,cs,rfl,ho,hg,hb⟩;exact ⟨v,rfl,sH hg ho,hb⟩
theorem zAf (x y z:vw) (w:vu) (hx:slc x) (hy:slc y) (hz:slc z) :
  vA prog 150 #[vf #[x,y,z]] w fun e w'=>e=vn (vf #[x,y,z]) /\ vz w.1.size w w':=by
 obtain ⟨A0,n0,c0,rfl⟩:=hx;obtain ⟨A1,n1,c1,rfl⟩:=hy;obtain ⟨A2,n2,c2,rfl⟩:=hz;obtain ⟨kr,ka,da,-⟩:=Xf w 211 220 #[ve A0 n0 c0,ve A1 n1 c1,ve A2 n2 c2] #[ve vB 0 0,ve vB 0 0,ve vB 0 0];go_enter func150,ntmps150
 go_upto_region 1 with fail
 generalize (w.alloc _).alloc _=w1 at kr ka da |-;have ME:=kr.cell;obtain ⟨cc2,f2⟩:=ka.cells';have l1:=kr.lt;have l2:=ka.lt;go_wp2_with fail
 have k3:=Dp ka (ve A0 n0 c0) (ve A1 n1 c1) (ve A2 n2 c2);have hg:=Ep (w:=w1) (g:=w.1.size+1) (ve A0 n0 c0) (ve A1 n1 c1) (ve A2 n2 c2);replace da:=Ee da hg;revert k3 da
 generalize ((vE _ _ _).setCell _ _).setCell _ _=wf;intro k3 da;have c4:=k3.cell;exact Uc (v:=vf #[ve A0 n0 c0,ve A1 n1 c1,ve A2 n2 c2]) (by simp [results,results150,go_sem,c4]) rfl ⟨rfl,da⟩
theorem zD6:(prog.info? 206).map (fun i=>(i.zero,i.size,i.bytes))=vD (vD (ve vB 0 0),1,24):=by kernel_rfl
theorem zBN {w:vu}:((isAgg 206).run prog w)= .ok false w:=by simp [isAgg,run_underlying underlying206]
theorem zHV {w:vu}:((sizeOf 206).run prog w)= .ok 1 w:=by
 obtain ⟨i0,hi,Hi,Vd,Pg⟩:=info_parts zD6;simp [sizeOf,typeInfo,hi,Vd]
theorem SP {w:vu} {x y z:vw} {k:Nat} (h:k<3):(Instr.index 220 (vf #[x,y,z]) (vd vq k)).run prog w= .ok (if k=0 then x else if k=1 then y else z) w :=
 wQ (i:=k) underlying220 zBN zHV h (by
  rcases (show k=0 \/ k=1 \/ k=2 by omega) with rfl | rfl | rfl <;> rfl)
theorem OM {V0:vw} {xs:Nat -> vw} {k:Nat} (h:k<3):(#[V0,xs 0,xs 1,xs 2]:Array vw)[k+1]?=vD (xs k):=by
 rcases (show k=0 \/ k=1 \/ k=2 by omega) with rfl | rfl | rfl <;> rfl
theorem QN {N:Nat} {gb:Option Nat} {w:vu} {v:vw} {l:List Nat} (h:sh N gb w v l):RWd w [v] l:=h w fun _ _ _ _=>rfl
def me (xs:Nat -> vw) (k:Nat) (v:vw) (j:Nat):vw:=if j=k then v else xs j
theorem UU {V0 v:vw} {xs:Nat -> vw} {k:Nat} (h:k<3):(#[V0,xs 0,xs 1,xs 2]:Array vw).setIfInBounds (k+1) v=#[V0,me xs k v 0,me xs k v 1,me xs k v 2]:=by
 rcases (show k=0 \/ k=1 \/ k=2 by omega) with rfl | rfl | rfl <;> rfl
theorem zBn (xs:Nat -> vw) (k:Nat) (u v:vw):me (me xs k u) k v=me xs k v:=by
 funext j
 unfold me;split <;> rfl
theorem zBm (xs:Nat -> vw) (k:Nat):me xs k (xs k)=xs:=by
 funext j
 unfold me;split
 ·rename_i h;rw [h]
 ·rfl
theorem BR {g N b:Nat} {w w':vu} {t:vy} {cs:Array vw} (k:Blk w b t cs) (h:Ik g N w w') (hb:b<N) (db:b≠g):Blk w' b t cs:=by
 unfold Blk at *;rw [h.2.2.2.2 b hb db];exact k
def Od (r:sc) (k:Nat):List (Int × Nat):=if k=0 then r.a else if k=1 then r.b else r.c
def Ri (p:Nat) (rows:List sc) (ws:List Nat) (k:Nat):List Nat:=rows.map fun r=>Gg p (Od r k) ws
def tz (L:Tb) (rows:List sc) (ws:List Nat) (pu:Nat):List (List Nat):=ar L.block (ye (ws.drop (1+pu)) (Ri L.p rows ws 0) (Ri L.p rows ws 1) (Ri L.p rows ws 2)) (ye L.a L.b L.b L.b)
theorem zEF {p:Nat} (hp:0<p) (ws:List Nat) {s:Nat} (hs:s<p) (t:Int × Nat):CB p ws s t<p:=by
 unfold CB;split
 ·exact Sc _ hp
 ·exact hs
theorem Q6 {p:Nat} (hp:0<p) (l:List (Int × Nat)) (ws:List Nat):Gg p l ws<p:=by
 have key:∀ (l:List (Int × Nat)) (s:Nat),s<p -> l.foldl (CB p ws) s<p:=fun l=>by
  induction l with
  | nil=>exact fun s hs=>hs
  | cons t l ih=>exact fun s hs=>ih _ (zEF hp ws hs t)
 exact key l 0 hp
theorem zGU (L:Tb) (pu:Nat) (vars:Int) (A B:Option vx) (n c m d:Nat) (rows:List sc) (ws:List Nat) (w:vu) (hL:Ad L) (hr:RSl 3 yg w [ve A n c] rows) (hw:RWd w [ve B m d] ws) (hlen:1+pu <= ws.length) (hn:rows.length <= 16384) :
  vA prog 70 #[vf (Ub L),Xc L.p (pu:Int) vars (ve A n c),ve B m d] w fun e w'=>∃ n v cs,e=vn v /\ w'.ownsRow w.1.size 28 1 v n cs /\ gh w.1.size w' v cs (tz L rows ws pu) /\ vz w.1.size w w':=by
 obtain ⟨mf,jn,hdx,ya,tp⟩:=Pb hw;subst mf;have gm:=ti jn hdx;obtain ⟨s,hs⟩:=zEX (1+pu);have e1:(1:Int)+pu=(s:Int):=by omega
 have e2:=Xd s;have e3:(s:Int)<=ws.length:=by omega
 have e4:s <= ws.length:=by omega
 have e5:(0:Int)<=s:=by omega
 rw [show tz L rows ws pu=ar L.block (ye (ws.drop s) (Ri L.p rows ws 0) (Ri L.p rows ws 1) (Ri L.p rows ws 2)) (ye L.a L.b L.b L.b) by rw [hs];rfl]
 unfold Ub Xc at *;obtain ⟨kl,kt,kv,da,Db⟩:=Sw w 35 25 219 #[vd vo L.p,vd vq L.block,vd vq L.queries,vd vq L.k,vd vq L.n,vd vq L.secret,vd vq L.rows,vd vq L.a,vd vq L.b,vd vq L.b,vd vq L.b] #[vd vo L.p,vd vq pu,vd vq vars,ve A n c] #[ve vB 0 0,ve vB 0 0,ve vB 0 0,ve vB 0 0];clear hs;have oz:RWd w [ve (if d=s then B else Option.map (fun x=>x.add s) B) (ws.length-s) (d-s)] (ws.drop s):=by
  have hc:=tp.cut (k:=s) e4 jn;rw [Ns] at hc;refine ⟨_,_,_,rfl,zO,zO,?_,fun x hx=>ya x (List.mem_of_mem_drop hx)⟩
  have e:Qa (ws.drop s)=(Qa ws).drop s:=by simp [Qa]
  rw [e];exact hc
 have py:=zH (fun x y z w hx hy hz=>zAf x y z w hx hy hz)
 have HVl:=zH (fun A len c l w' (hb:vz w.1.size w w') hl=>wT L.p A B len c ws.length d l ws w' hl (Wa hb hw) hL.p)
 have bO:=zH (fun v0 v1 v2 v3 l0 l1 l2 l3 w h=>R9 L v0 v1 v2 v3 l0 l1 l2 l3 w hL h)
 obtain ⟨A',n',c',he,Lr,Nd,ki,Na⟩:=hr;simp at he
 obtain ⟨rfl,rfl,rfl⟩:=he;subst Lr;have gr:(rows.length:Int) <= 16384:=by omega
 have Qq:=zH (show ∀ k i (h:i<rows.length),(Ri L.p rows ws k).take i++[Gg L.p (Od rows[i] k) ws]=(Ri L.p rows ws k).take (i+1) from fun k i h=>by
  rw [Cy (by simpa [Ri] using h)]
  simp [Ri])
 have Is:=zH (show ∀ k,(Ri L.p rows ws k).take rows.length=Ri L.p rows ws k from fun k=>EC (by simp [Ri]))
 have wJ:=zH (show ∀ k,∀ x∈Ri L.p rows ws k,x<18446744073709551616 from fun k x hx=>by
  obtain ⟨r,-,rfl⟩:=ee.1 hx;exact Je (Q6 (zQ (Cc hL.p)) _ _) (Cc hL.p).2)
 obtain ⟨vals,RP⟩:=zEX (Ri L.p rows ws);rw [<- RP] at Qq Is wJ |-;obtain ⟨B0,cK⟩:=zEX ((if d=s then B else Option.map (fun x=>x.add s) B))
 have UI:=zH cK;rw [<- cK] at oz;clear RP hL hlen tp ya hw cK;go_enter func70,ntmps70
 go_upto_region 2 with fail
 generalize ((w.alloc _).alloc _).alloc _=w1 at kl kt kv da Db |-;have c1:=kt.cell 1;have c2:=kv.cell 0;have f2:=kv.frozen;have l1:=kt.lt;have l2:=kv.lt;go_upto_region 3 with fail
 rw [<- UI.out];clear c1 c2 f2 l1 l2 e1 e2 e3 e4 e5 UI;have hg:=Hh (w:=w1) (w.1.size+1+1) 0 (ve B0 (ws.length-s) (d-s));replace kv:=kv.set_ 0 (ve B0 (ws.length-s) (d-s));replace kv:Blk (w1.setCell ⟨w.1.size+1+1,0,vB⟩ (ve B0 (ws.length-s) (d-s))) (w.1.size+1+1) 219 #[ve B0 (ws.length-s) (d-s),ve vB 0 0,ve vB 0 0,ve vB 0 0]:=by simpa using kv
 replace kl:=kl.grown hg (fun e=>by have:=Nb e;omega)
 replace kt:=kt.grown hg (fun e=>by have:=Nb e;omega)
 have tf:w.1.size+3 <= (w1.setCell ⟨w.1.size+1+1,0,vB⟩ (ve B0 (ws.length-s) (d-s))).1.size:=by have:=hg.size;omega
 replace da:=Ee da hg;clear hg Db;generalize ws.length-s=n0 at *;generalize d-s=d0 at *;generalize w1.setCell _ _=w2 at kl kt kv da tf |-;obtain ⟨V0,jq⟩:∃ V0:vw,V0=ve B0 n0 d0:=⟨_,rfl⟩;have uA:=zH jq;rw [<- jq] at kv oz;clear jq;obtain ⟨TC,aF⟩:∃ TC:Array vw,TC=#[vd vo L.p,vd vq pu,vd vq vars,ve A rows.length c]:=⟨_,rfl⟩;have pC:=zH (show TC[0]?=vD (vd vo L.p) by rw [aF];rfl)
 have HT3:=zH (show TC[3]?=vD (ve A rows.length c) by rw [aF];rfl)
 rw [<- aF] at kt;clear aF;obtain ⟨gv,Jv⟩:=zEX (w.1.size+1+1);have n1:w.1.size<gv:=by omega
 have n2:w.1.size+1<gv:=by omega
 have n3:w.1.size≠gv:=by omega
 have n4:w.1.size+1≠gv:=by omega
 have n5:gv+1=w.1.size+3:=by omega
 rw [<- Jv] at kv |-;clear Jv;go_wp2_with fail
 go_loopw [8] (fun y wr=>∃ (k:Nat) (xs:Nat -> vw),k <= 3 /\ y=vd vq k /\ Blk wr w.1.size 35 #[vd vo L.p,vd vq L.block,vd vq L.queries,vd vq L.k,vd vq L.n,vd vq L.secret,vd vq L.rows,vd vq L.a,vd vq L.b,vd vq L.b,vd vq L.b] /\ Blk wr (w.1.size+1) 25 TC /\ Blk wr gv 219 #[V0,xs 0,xs 1,xs 2] /\ (∀ j,j<k -> sh (gv+1) vB wr (xs j) (vals j)) /\ (∀ j,k <= j -> xs j=ve vB 0 0) /\ vz w.1.size w wr /\ gv+1 <= wr.1.size) (fun y _=>3-(intOf y).toNat)
 case atStart=>exact ⟨0,fun _=>ve vB 0 0,zO,rfl,kl,kt,kv,fun j h=>zO,fun j _=>rfl,da,zO⟩
 case round =>
  clear kl kt kv da tf;obtain ⟨k,xs,hk,rfl,kl,kt,kv,tx,EF,da,tf⟩:=hrel;by_cases ya:k<3
  ·have q1:(k:Int)<3:=by omega
   obtain ⟨wo,xB⟩:=zEX (wr);subst xB;have Uj:=EF k zR;have Ou:=zH tx;have HTD:=zH EF;have HVNk:=zH (Qq.out k);have HVAk:=zH (Is.out k);have HVTk:=zH (wJ.out k);obtain ⟨vk,hvk⟩:=zEX (vals k);have HVK:=zH hvk;rw [<- hvk] at HVNk HVAk HVTk;have NP:me xs k (ve vB 0 0)=xs:=by rw [<- Uj,zBm]
   have kv1:Blk wo gv 219 #[V0,me xs k (ve vB 0 0) 0,me xs k (ve vB 0 0) 1,me xs k (ve vB 0 0) 2]:=by rw [NP];exact kv
   have ix:=fun (w:vu) (x y z:vw)=>SP (w:=w) (x:=x) (y:=y) (z:=z) ya
   obtain ⟨k1,og⟩:=zEX (k+1);have ek:(k:Int)+1=(k1:Int):=by omega
   have TJ:=Xd k1;have Vi:=zH og;have qk:k1<4:=by omega
   have qk2:(k1:Int)<4:=by omega
   clear Uj NP tx EF hvk kv og;go_wp2_with fail
   go_loopw [9] (fun y wr=>∃ (i:Nat) (x:vw),i <= rows.length /\ y=vd vq i /\ Blk wr gv 219 #[V0,me xs k x 0,me xs k x 1,me xs k x 2] /\ wr.ownsRow wo.1.size 22 1 x i (Qa (vk.take i)) /\ Ik gv wo.1.size wo wr) (fun y _=>rows.length-(intOf y).toNat)
   case atStart=>exact ⟨0,ve vB 0 0,zO,rfl,kv1,⟨rfl, .inl ⟨rfl,rfl⟩⟩,(yb _ _).refl _⟩
   case round =>
    clear kv1;obtain ⟨i,x,hi,rfl,kv,oa,Va⟩:=hrel;have nD:wo.1.size <= wr.1.size:=Va.2.2.2.1;have y1:w.1.size<wo.1.size:=by omega
    have y2:w.1.size+1<wo.1.size:=by omega
    have y3:gv<wo.1.size:=by omega
    have Vj:=BR kt Va y2 n4;have tb:vz w.1.size w wr:=da.trans ⟨Va.1,Va.2.1,Va.2.2.1,Va.2.2.2.1,fun b hb=>Va.2.2.2.2 b zO zO⟩
    have t3:=Vj.cell 3;rw [HT3.out] at t3;have lt:=Vj.lt;by_cases Ys:i<rows.length
    ·have q2:(i:Int)<rows.length:=by omega
     have q3:(0:Int)<=i:=by omega
     have q4:(0:Int)<=k1:=by omega
     obtain ⟨b,q,rfl⟩:=Na.base zO zO;obtain ⟨cs,-,hc,u0,u1,u2,rfl,jz,mz,jt⟩:=(Na.below Bh tb).get Ys;obtain ⟨um,UK,Un,-⟩:=Na.get Ys;have Rb:b<w.1.size:=by
      have h:=Un 0 zO;rw [Oo,Ec zO] at h;exact Bg _ _ h
     clear UK Un;have r0:wr.cell? ⟨b,q+i*3,vB⟩=vD u0:=hc 0 zO;have r1:wr.cell? ⟨b,q+i*3+1,vB⟩=vD u1:=hc 1 zO;have r2:wr.cell? ⟨b,q+i*3+2,vB⟩=vD u2:=hc 2 zO;have y4:b<wo.1.size:=by omega
     have y5:b≠wo.1.size:=by omega
     have y6:gv≠wo.1.size:=by omega
     have y7:w.1.size+1≠wo.1.size:=by omega
     have lb:b<wr.1.size:=by omega
     have t0:=Vj.cell 0;rw [pC.out] at t0;obtain ⟨II,Ve⟩:=zEX ((if k=0 then u0 else if k=1 then u1 else u2))
     have yj:RLin wr [II] (Od rows[i] k):=by
      rw [Ve];unfold Od;rcases (show k=0 \/ k=1 \/ k=2 by omega) with h | h | h <;> subst h
      ·exact jz
      ·exact mz
      ·exact jt
     have ix1:=fun (w:vu)=>by have:=ix w u0 u1 u2;rw [<- Ve] at this;exact this
     have Hi:=RSl.slc jz;have Vd:=RSl.slc mz;have Pg:=RSl.slc jt;obtain ⟨As,ns,Qc,rfl⟩:=RSl.slc yj;have oO:=zH (HVNk.out i Ys);obtain ⟨Ax,cx,rfl,-⟩:=Yb oa;have cv:wr.cell? ⟨gv,k1,vB⟩=vD (ve Ax i cx):=by
      rw [kv.cell,Vi.out,OM ya];simp [me]
     obtain ⟨z,hz⟩:=zEX (Gg L.p (Od rows[i] k) ws);have xA:=zH (fun w' (hb:vz w.1.size w w') (UK:RLin w' [ve As ns Qc] (Od rows[i] k))=>by have:=HVl.out As ns Qc (Od rows[i] k) w' hb UK;rw [<- hz] at this;exact this)
     rw [<- hz] at oO;have lv:=kv.lt;clear ix Ve hz hc jz mz jt;generalize Od rows[i] k=lside at *;go_upto_region 9 with fail
     refine Jz (Ik wo.1.size wo.1.size) [13,17,18,19,21] [21] [0,1,2,3,4,5,6,7,8,9,10,11,12,14,16,13,15,17,18,19,20,21] zK zK ?_;refine Lz (yb wo.1.size wo.1.size) ?_;intro Wc Ga ja;have Pa:=Uf Ga;have Gc:wo.1.size <= Wc.1.size:=by have:=Pa.size;omega
     replace kv:=pa kv Pa;replace oa:=Za oa Pa zR;replace tb:=ta tb Pa;replace yj:=Ph _ _ _ _ Pa yj;replace Va:=(yb gv wo.1.size).trans _ _ _ Va (Td Pa nD);clear Ga Pa;refine ig ?_;refine tn (yb wo.1.size wo.1.size) rfl rfl rfl (fun _=>by go_simp <;> rfl) ((py.out u0 u1 u2 _ Hi Vd Pg).mono ?_)
     rintro e w5 ⟨rfl,Bb⟩;refine ⟨_,rfl,fun _=>Td Bb Gc,?_⟩
     replace ja:=(yb wo.1.size wo.1.size).trans _ _ _ ja (Td Bb Gc);refine zPU ?_;have pj:wo.1.size <= w5.1.size:=by have:=Bb.size;omega
     replace kv:=pa kv Bb;replace oa:=Za oa Bb zR;replace tb:=ta tb Bb;replace yj:=Ph _ _ _ _ Bb yj;replace Va:=(yb gv wo.1.size).trans _ _ _ Va (Td Bb Gc);clear Bb;refine ig ?_;refine tn (yb wo.1.size wo.1.size) rfl rfl rfl (fun _=>by go_simp <;> rfl) ((xA.out _ tb yj).mono ?_)
     rintro e w6 ⟨rfl,Lc⟩;refine ⟨_,rfl,fun _=>Td Lc pj,?_⟩
     replace ja:=(yb wo.1.size wo.1.size).trans _ _ _ ja (Td Lc pj);refine zPU ?_;have Ml:wo.1.size <= w6.1.size:=by have:=Lc.size;omega
     replace kv:=pa kv Lc;replace oa:=Za oa Lc zR;replace tb:=ta tb Lc;replace Va:=(yb gv wo.1.size).trans _ _ _ Va (Td Lc pj);clear Lc yj;refine ig ?_;refine fh (yb wo.1.size wo.1.size) rfl rfl rfl ?_;go_simp;have ma:=zA w6 (.cells #[vd vo z] 22);have td:=gg w6 (vd vo z) 22;refine ⟨fun _=>Td ma Ml,?_⟩
     replace kv:=pa kv ma;replace oa:=Za oa ma zR;replace tb:=ta tb ma;replace Va:=(yb gv wo.1.size).trans _ _ _ Va (Td ma Ml);have ed:=jb Ml ma.size
     refine zPU ?_
     generalize w6.alloc _=w7 at kv oa Va td tb ed |-;generalize w6.1.size=g6 at td |-;clear ma Ml pj ja t0 t3 r0 r1 r2 cv;have ja:=(yb wo.1.size wo.1.size).refl w7;refine ig ?_;refine fh (yb wo.1.size wo.1.size) rfl rfl rfl ?_;refine Cs _ _ rfl jg rfl oa rfl td (De [z]) zO ed ?_;intro v' wn Ua Ma Cb;have uc:∀ q,(ve Ax i cx).ownBlock=vD q -> wo.1.size <= q:=fun q e=>(oa.lt q e).1
     refine ⟨fun _=>Sn Ma ed uc,?_⟩
     replace kv:=kv.grown Ma (fun e=>by first | (have:=uc _ e;omega) | (have:=uc _ e.symm;omega))
     replace Va:=(yb gv wo.1.size).trans _ _ _ Va (Sn Ma ed uc);replace Ua:wn.ownsRow wo.1.size 22 1 v' (i+1) (Qa (vk.take (i+1))):=Qi (b:=[z]) Ua oO.out;obtain ⟨Aw,cw,rfl,-⟩:=Yb Ua;have Ud:=jb ed Ma.size;clear oa Ma Cb uc ed td ja;have ja:=(yb wo.1.size wo.1.size).refl wn;have cv:wn.cell? ⟨gv,k1,vB⟩=vD (ve Ax i cx):=by
      rw [kv.cell,Vi.out,OM ya];simp [me]
     have fv2:=kv.frozen
     refine zPU ?_
     refine ig ?_;refine fh (yb wo.1.size wo.1.size) rfl rfl rfl ?_;go_simp;refine ⟨fun h=>Bool.noConfusion h,?_⟩
     have Ob:=Hh (w:=wn) gv k1 (ve Aw (i+1) cw);replace kv:=kv.set_ k1 (ve Aw (i+1) cw);rw [Vi.out,UU ya,zBn,<- Vi.out] at kv;have je:=ui Ua Ob y3;replace Va:=(yb gv wo.1.size).trans _ _ _ Va (XC Ob Ud);clear Ua Ob cv fv2 ja;generalize wn.setCell _ _=wz at kv je Va |-;have ja:=(yb wo.1.size wo.1.size).refl wz;refine ig ?_;refine Kz ?_;go_wp2
     go_roundw
     case rel=>exact ⟨i+1,ve Aw (i+1) cw,zO,by go_num,kv,je,Va⟩
     case measure=>simp [intOf];omega
    ·obtain rfl:i=rows.length:=by omega
     have q2:¬((rows.length:Int)<rows.length):=by omega
     rw [HVAk.out] at oa;have zL:=BR kl Va y1 n3;have hx:=Dz (N:=gv+1) (gb:=vB) oa HVTk.out zO (fun q e=>by cases e)
     have HVK':=HVK.out;have kh:=zH (show ∀ j,j<k+1 -> sh (gv+1) vB wr (me xs k x j) (vals j) from fun j hj=>by
      unfold me;split
      ·rename_i h;rw [h,<- HVK'];exact hx
      ·rename_i h
       refine Lm (Ou.out j zO) nD fun b h1 h2 _=>Va.2.2.2.2 b h2 zO)
     have qy:=zH (show ∀ j,k+1 <= j -> me xs k x j=ve vB 0 0 from fun j hj=>by
      unfold me;rw [Gb zO];exact HTD.out j zO)
     clear hx HVK';go_wp2_with fail
     go_roundw
     case rel=>exact ⟨k+1,me xs k x,zO,by go_num,zL,Vj,kv,kh.out,qy.out,tb,zO⟩
     case measure=>simp [intOf];omega
  ·obtain rfl:k=3:=by omega
   have h0:=QN (tx 0 zO);have h1:=QN (tx 1 zO);have h2:=QN (tx 2 zO);obtain ⟨A1,c1,e1⟩:=eh h0;obtain ⟨A2,c2,e2⟩:=eh h1;obtain ⟨A3,c3,e3⟩:=eh h2;have hv:=Wa da oz;have HH:=zH (fun (w':vu) (hb:vz wr.1.size wr w')=>bO.out V0 (xs 0) (xs 1) (xs 2) (ws.drop s) (vals 0) (vals 1) (vals 2) w' fun i hi=>by
    rcases (show i=0 \/ i=1 \/ i=2 \/ i=3 by omega) with rfl | rfl | rfl | rfl
    ·exact Wa hb hv
    ·exact Wa hb h0
    ·exact Wa hb h1
    ·exact Wa hb h2)
   rw [e1,e2,e3,uA.out] at kv HH;have cl:=kl.cell;have cv:=kv.cell;have ll:=kl.lt;have lv:=kv.lt;clear tx EF h0 h1 h2 hv e1 e2 e3;unfold Ub at HH;go_wp2_with fail
   refine (HH.out _ (Kb _ _)).mono ?_;rintro e w9 ⟨nv,v,cs,rfl,hov,Jv,Ca⟩;go_wp2;go_ret
   exact ⟨_,_,_,rfl,Hg hov da.size,MV Jv da.size,ta da Ca⟩
def Wp (s c k:Nat):List (List Nat):=(List.range k).map fun i=>[s,c+i]
theorem I6 (s c k:Nat):(Wp s c k).length=k:=by simp [Wp]
theorem BZ (O:Jb) (s c i:Nat):Nc O 19 (Wp s c (i+1))=Qd (Nc O 19 (Wp s c i)) 19 [s,c+i]:=by
 unfold Nc Wp;rw [List.range_succ,List.map_append,List.foldl_append]
 rfl
def Yq (O:Jb) (s c i:Nat):Nat:=Ae (Nc O 19 (Wp s c i)) 19 [s,c+i]
def Gu (l:List Nat) (i j:Nat):List Nat:=(l.set i (l.getD j 0)).set j (l.getD i 0)
def Fe (f:Nat -> Nat) (n:Nat):Nat -> List Nat
 | 0=>List.range n
 | i+1=>Gu (Fe f n i) i (i+f i%(n-i))
theorem N6 (l:List Nat) (i j:Nat):(Gu l i j).length=l.length:=by simp [Gu]
theorem Qv (f:Nat -> Nat) (n:Nat):∀ i,(Fe f n i).length=n
 | 0=>by simp [Fe]
 | i+1=>by rw [Fe,N6,Qv f n i]
theorem zH5 {l:List Nat} {i j x:Nat} (hi:i<l.length) (hj:j<l.length) (h:x∈Gu l i j):x∈l:=by
 unfold Gu at h;have hg:∀ k,k<l.length -> l.getD k 0∈l:=fun k hk=>by rw [Hc,Ec hk];exact Qe hk
 rcases List.mem_or_eq_of_mem_set h with h | rfl
 ·rcases List.mem_or_eq_of_mem_set h with h | rfl
  ·exact h
  ·exact hg j hj
 ·exact hg i hi
theorem jT (f:Nat -> Nat) (n:Nat):∀ i,i <= n -> ∀ x∈Fe f n i,x<n
 | 0,_,x,hx=>by simpa [Fe] using hx
 | i+1,h,x,hx=>by
  rw [Fe] at hx;refine jT f n i zO x (zH5 (by rw [Qv];omega) (by rw [Qv];have:=Sc (f i) (show 0<n-i by omega);omega) hx)
def GD (O:Jb) (s c n count:Nat):List Nat:=((Fe (Yq O s c) n count).take count).mergeSort fun x y=>decide (x <= y)
theorem JS (O:Jb) (s c n count:Nat) (h:count <= n):(GD O s c n count).length=count:=by
 unfold GD;rw [List.length_mergeSort,List.length_take,Qv,Nat.min_eq_left h]
theorem b9 (O:Jb) (s c n count:Nat) (h:count <= n):∀ x∈GD O s c n count,x<n:=fun x hx=>by
 unfold GD at hx;rw [List.mem_mergeSort] at hx;exact jT _ n count h x (List.mem_of_mem_take hx)
theorem CZ {f g:Nat -> Nat} {n:Nat}:∀ i,(∀ k,k<i -> f k=g k) -> Fe f n i=Fe g n i
 | 0,_=>rfl
 | i+1,h=>by rw [Fe,Fe,CZ i fun k hk=>h k zO,h i zO]
def TP (l:List Nat):Prop:=∀ i j,i<l.length -> j<l.length -> l.getD i 0=l.getD j 0 -> i=j
theorem zEb (n:Nat):TP (List.range n):=fun i j hi hj h=>by
 simp at hi hj
 simpa [Hc,hi,hj] using h
theorem zDJ {l:List Nat} {i j:Nat} (hi:i<l.length) (hj:j<l.length) (k:Nat):(Gu l i j).getD k 0=if k=j then l.getD i 0 else if k=i then l.getD j 0 else l.getD k 0:=by
 unfold Gu;simp only [Hc];rw [List.getElem?_set,List.getElem?_set];by_cases h1:k=j
 ·subst h1
  simp [hj]
 ·have uv:¬j=k:=fun e=>h1 e.symm
  by_cases h2:k=i
  ·subst h2
   simp [h1,uv,hi]
  ·have h2':¬i=k:=fun e=>h2 e.symm
   simp [h1,uv,h2,h2']
def iM (i j k:Nat):Nat:=if k=j then i else if k=i then j else k
theorem zAY {l:List Nat} {i j:Nat} (hi:i<l.length) (hj:j<l.length) (k:Nat):(Gu l i j).getD k 0=l.getD (iM i j k) 0:=by
 rw [zDJ hi hj];unfold iM;split
 ·rfl
 ·split <;> rfl
theorem zAZ {i j k n:Nat} (hi:i<n) (hj:j<n) (hk:k<n):iM i j k<n:=by
 unfold iM;split
 ·exact hi
 ·split
  ·exact hj
  ·exact hk
theorem zH6 {i j a b:Nat} (h:iM i j a=iM i j b):a=b:=by
 unfold iM at h;have key:∀ k,(k=j /\ (if k=j then i else if k=i then j else k)=i) \/ (k≠j /\ k=i /\ (if k=j then i else if k=i then j else k)=j) \/ (k≠j /\ k≠i /\ (if k=j then i else if k=i then j else k)=k):=fun k=>by
  by_cases h1:k=j
  ·exact .inl ⟨h1,Lb h1⟩
  ·by_cases h2:k=i
   ·exact .inr (.inl ⟨h1,h2,by rw [Gb h1,Lb h2]⟩)
   ·exact .inr (.inr ⟨h1,h2,by rw [Gb h1,Gb h2]⟩)
 have ka:=key a;have kb:=key b;generalize (if a=j then i else if a=i then j else a)=x at *
 generalize (if b=j then i else if b=i then j else b)=y at *
 omega
theorem zEc {l:List Nat} {i j:Nat} (hi:i<l.length) (hj:j<l.length) (h:TP l):TP (Gu l i j):=fun a b ha hb e=>by
 rw [N6] at ha hb;rw [zAY hi hj,zAY hi hj] at e;exact zH6 (h _ _ (zAZ hi hj ha) (zAZ hi hj hb) e)
theorem K5 (f:Nat -> Nat) (n:Nat):∀ i,i <= n -> TP (Fe f n i)
 | 0,_=>zEb n
 | i+1,h=>by
  rw [Fe];exact zEc (by rw [Qv];omega) (by rw [Qv];have:=Sc (f i) (show 0<n-i by omega);omega) (K5 f n i zO)
theorem zFh {l:List Nat} (h:TP l):l.Nodup:=List.pairwise_iff_getElem.2 fun i j hi hj hij e=>by
 have:=h i j hi hj (by simpa [Hc,hi,hj] using e)
 omega
theorem zAO:∀ (a b:List Nat),a.Pairwise (· < ·) -> b.Pairwise (· < ·) -> (∀ x,x∈a↔x∈b) -> a=b
 | [],[],_,_,_=>rfl
 | [],y :: b,_,_,h=>absurd ((h y).2 List.mem_cons_self) zS
 | x :: a,[],_,_,h=>absurd ((h x).1 List.mem_cons_self) zS
 | x :: a,y :: b,ha,hb,h=>by
  obtain ⟨Wo,uK⟩:=List.pairwise_cons.1 ha;obtain ⟨Oa,Fa⟩:=List.pairwise_cons.1 hb;have exy:x=y:=by
   rcases Kk.1 ((h x).1 List.mem_cons_self) with e | e
   ·exact e
   ·rcases Kk.1 ((h y).2 List.mem_cons_self) with e' | e'
    ·exact e'.symm
    ·have:=Oa x e
     have:=Wo y e';omega
  subst exy;rw [zAO a b uK Fa fun z=>?_]
  have hz:=h z;simp only [Kk] at hz;constructor
  ·intro hm
   rcases hz.1 (.inr hm) with e | e
   ·have:=Wo z hm;omega
   ·exact e
  ·intro hm
   rcases hz.2 (.inr hm) with e | e
   ·have:=Oa z hm;omega
   ·exact e
theorem zEK {l:List Nat} (hn:l.Nodup) (hs:l.Pairwise (· <= ·)):l.Pairwise (· < ·):=by
 refine (hs.and hn).imp ?_;rintro a b ⟨h1,h2⟩;exact Nat.lt_of_le_of_ne h1 h2
theorem zGl (f:Nat -> Nat) (n count:Nat) (h:count <= n):(((Fe f n count).take count).mergeSort fun x y=>decide (x <= y))=(List.range n).filter fun x=>((Fe f n count).take count).contains x:=by
 have XK:((Fe f n count).take count).Nodup:=(List.take_sublist _ _).nodup (zFh (K5 f n count h));refine zAO _ _ (zEK ((List.mergeSort_perm _ _).nodup_iff.2 XK) ?_) ((List.pairwise_lt_range).filter _) fun x=>?_
 ·have:=List.pairwise_mergeSort (le:=fun x y:Nat=>decide (x <= y)) (fun a b c h1 h2=>by simp at h1 h2 |-;omega) (fun a b=>by simp;omega) ((Fe f n count).take count)
  exact this.imp fun h=>by simpa using h
 ·rw [List.mem_mergeSort,Hl,Mj,xE]
  exact ⟨fun hx=>⟨jT f n count h x (List.mem_of_mem_take hx),hx⟩,fun hx=>hx.2⟩
theorem zGg (f:Nat -> Nat) (n i:Nat):(Fe f n (i+1)).take i=(Fe f n i).take i:=by
 rw [Fe];unfold Gu;rw [List.take_set_of_le zO,List.take_set_of_le zR]
def Cg (p:Nat) (x y:Int):Prop:=(p:Int)∣x-y
theorem Cg.rfl' {p:Nat} {x:Int}:Cg p x x:=⟨0,zO⟩
theorem Cg.of_eq {p:Nat} {x y:Int} (h:x=y):Cg p x y:=h ▸ Cg.rfl'
theorem Cg.symm {p:Nat} {x y:Int} (h:Cg p x y):Cg p y x:=by
 obtain ⟨c,hc⟩:=h;exact ⟨-c,by rw [Int.mul_neg,<- hc];omega⟩
theorem Cg.trans {p:Nat} {x y z:Int} (h:Cg p x y) (h2:Cg p y z):Cg p x z:=by
 obtain ⟨c,hc⟩:=h;obtain ⟨d,hd⟩:=h2;exact ⟨c+d,by rw [Int.mul_add,<- hc,<- hd];omega⟩
theorem Cg.add {p:Nat} {x y u v:Int} (h:Cg p x y) (h2:Cg p u v):Cg p (x+u) (y+v):=by
 obtain ⟨c,hc⟩:=h;obtain ⟨d,hd⟩:=h2;exact ⟨c+d,by rw [Int.mul_add,<- hc,<- hd];omega⟩
theorem Cg.mul {p:Nat} {x y u v:Int} (h:Cg p x y) (h2:Cg p u v):Cg p (x*u) (y*v):=by
 obtain ⟨c,hc⟩:=h;obtain ⟨d,hd⟩:=h2;refine ⟨c*u+y*d,?_⟩;have e:x*u-y*v=(x-y)*u+y*(u-v):=by rw [Int.sub_mul,Int.mul_sub];omega
 rw [e,hc,hd,Int.mul_add,Ks,<- Ks y,Rp y (p:Int),Ks]
theorem Cg.neg {p:Nat} {x y:Int} (h:Cg p x y):Cg p (-x) (-y):=by
 obtain ⟨c,hc⟩:=h;exact ⟨-c,by rw [Int.mul_neg,<- hc];omega⟩
theorem Cg.mod {p:Nat} (x:Nat):Cg p ((x%p:Nat):Int) (x:Int):=by
 refine ⟨-((x / p:Nat):Int),?_⟩;have h:=FA x p;have h2:((p*(x / p)+x%p:Nat):Int)=(x:Int):=by rw [h]
 rw [Hw,Vh] at h2;rw [Int.mul_neg];omega
theorem Cg.pow {p:Nat} {x y:Int} (h:Cg p x y) (k:Nat):Cg p (x^k) (y^k):=by
 induction k with
 | zero=>exact Cg.of_eq (by rw [Int.pow_zero,Int.pow_zero])
 | succ k ih=>rw [Zk,Zk];exact ih.mul h
theorem Cg.eq {p a b:Nat} (h:Cg p (a:Int) (b:Int)) (ha:a<p) (hb:b<p):a=b:=by
 obtain ⟨c,hc⟩:=h;rcases Int.lt_trichotomy c 0 with h1 | h1 | h1
 ·have:(p:Int)*c <= (p:Int)*(-1):=Int.mul_le_mul_of_nonneg_left zO zO
  omega
 ·subst h1;omega
 ·have:(p:Int)*1 <= (p:Int)*c:=Int.mul_le_mul_of_nonneg_left zO zO
  omega
def Dc (a:Nat -> Int) (x:Int):Nat -> Int
 | 0=>0
 | n+1=>Dc a x n+a n*x^n
theorem Ny {p:Nat} {a b:Nat -> Int} {x y:Int} (h:∀ i,Cg p (a i) (b i)) (hx:Cg p x y):∀ n,Cg p (Dc a x n) (Dc b y n)
 | 0=>Cg.rfl'
 | n+1=>(Ny h hx n).add ((h n).mul (hx.pow n))
theorem oV (a:Nat -> Int) (x:Int):∀ n,Dc a x (2*n)=Dc (fun i=>a (2*i)) (x*x) n+x*Dc (fun i=>a (2*i+1)) (x*x) n
 | 0=>by simp [Dc]
 | n+1=>by
  have e:(x*x)^n=x^(2*n):=by rw [Yk];congr 1;rw [Zk,Zk,Int.pow_zero,Ls]
  show Dc a x (2*n)+a (2*n)*x^(2*n)+a (2*n+1)*x^(2*n+1)=_
  rw [oV a x n];show _=(Dc (fun i=>a (2*i)) (x*x) n+a (2*n)*(x*x)^n)+x*(Dc (fun i=>a (2*i+1)) (x*x) n+a (2*n+1)*(x*x)^n)
  rw [e,Zk]
  grind
theorem lT (p w:Nat):∀ k,Cg p (Du p w k:Int) ((w:Int)^k)
 | 0=>Cg.rfl'
 | k+1=>by
  show Cg p ((Du p w k*w%p:Nat):Int) _
  refine (Cg.mod _).trans ?_;rw [Vh,Zk];exact (lT p w k).mul Cg.rfl'
theorem dQ (p a:Nat) (hp:0<p):Cg p (qg p a:Int) (-(a:Int)):=by
 have h1:Cg p ((a%p:Nat):Int) (a:Int):=Cg.mod a;refine Cg.trans ?_ h1.neg;have h:=Sc a hp;unfold qg;split
 ·rename_i h0
  rw [h0];exact Cg.rfl'
 ·exact ⟨1,zO⟩
theorem RR (p:Nat) (hp:0<p):∀ (j:Nat) (a:Nat -> Nat) (w:Nat),(j=0 \/ Cg p ((w:Int)^(2^(j-1))) (-1)) -> ∀ k,k<2^j -> Cg p (Jl p j a w k:Int) (Dc (fun i=>(a i:Int)) ((w:Int)^k) (2^j))
 | 0,a,w,_,k,hk=>by
  obtain rfl:k=0:=by omega
  show Cg p (a 0:Int) _
  exact Cg.of_eq (by simp [Dc])
 | j+1,a,w,hw,k,hk=>by
  have xl:Cg p ((w:Int)^(2^j)) (-1):=by
   rcases hw with h | h
   ·omega
   ·exact h
  have hw2:j=0 \/ Cg p (((w*w%p:Nat):Int)^(2^(j-1))) (-1):=by
   rcases Jn j with h | h
   ·exact Or.inl h
   ·refine Or.inr (((Cg.mod (p:=p) (w*w)).pow _).trans ?_)
    have e:((w*w:Nat):Int)^(2^(j-1))=(w:Int)^(2^j):=by
     rw [Vh,show 2^j=2*2^(j-1) by rw [xg,<- Zg];congr 1;omega,Yk]
     congr 1
     rw [Zk,Zk,Int.pow_zero,Ls]
    rw [e];exact xl
  have key:∀ i,i<2^j -> ∀ x:Int,Cg p (x*x) (((w:Int)^i)*((w:Int)^i)) -> Cg p ((Jl p j (fun i=>a (2*i)) (w*w%p) i:Int)+x*(Jl p j (fun i=>a (2*i+1)) (w*w%p) i:Int)) (Dc (fun i=>(a i:Int)) x (2^(j+1))):=by
   intro i hi x hx;have e0:Cg p (((w*w%p:Nat):Int)^i) (x*x):=by
    refine ((Cg.mod (p:=p) (w*w)).pow _).trans (Cg.trans (Cg.of_eq ?_) hx.symm);rw [Vh,Int.mul_pow]
   have h1:=(RR p hp j (fun i=>a (2*i)) (w*w%p) hw2 i hi).trans (Ny (fun _=>Cg.rfl') e0 _)
   have h2:=(RR p hp j (fun i=>a (2*i+1)) (w*w%p) hw2 i hi).trans (Ny (fun _=>Cg.rfl') e0 _)
   rw [show 2^(j+1)=2*2^j by rw [Zg,xg],oV]
   exact h1.add (Cg.rfl'.mul h2)
  rw [Jl];simp only [];split
  ·rename_i ya
   refine (Cg.mod _).trans (Cg.trans ?_ (key k ya ((w:Int)^k) Cg.rfl'));rw [Hw];refine Cg.rfl'.add ((Cg.mod _).trans ?_);rw [Vh];exact (lT p w k).mul Cg.rfl'
  ·rename_i TH
   obtain ⟨i,rfl⟩:∃ i,k=2^j+i:=⟨k-2^j,zO⟩;have hi:i<2^j:=by rw [Zg] at hk;omega
   rw [Nat.add_sub_cancel_left];have ex:Cg p ((w:Int)^(2^j+i)) (-((w:Int)^i)):=by
    rw [Int.pow_add];refine (xl.mul Cg.rfl').trans (Cg.of_eq zO)
   refine (Cg.mod _).trans (Cg.trans ?_ (key i hi ((w:Int)^(2^j+i)) ?_))
   ·rw [Hw]
    refine Cg.rfl'.add ((dQ p _ hp).trans ?_);refine ((Cg.mod _).neg).trans ?_;rw [Vh];refine (((lT p w i).mul Cg.rfl').neg).trans ?_;rw [<- Int.neg_mul];exact ex.symm.mul Cg.rfl'
   ·refine (ex.mul ex).trans (Cg.of_eq ?_)
    rw [Int.neg_mul_neg]
def MD (p:Nat):Nat -> Nat -> Nat -> Nat
 | 0,_,_=>1
 | f+1,b,e=>if e%2=1 then b*MD p f (b*b%p) (e / 2)%p else MD p f (b*b%p) (e / 2)
theorem DQ (p:Nat):∀ (f b e:Nat),e<2^f -> Cg p (MD p f b e:Int) ((b:Int)^e)
 | 0,b,e,h=>by
  obtain rfl:e=0:=by omega
  exact Cg.of_eq (by simp [MD])
 | f+1,b,e,h=>by
  have h2:e / 2<2^f:=by rw [Zg] at h;omega
  have ih:=(DQ p f (b*b%p) (e / 2) h2).trans ((Cg.mod (p:=p) (b*b)).pow _);have e1:((b*b:Nat):Int)^(e / 2)=(b:Int)^(2*(e / 2)):=by
   rw [Vh,Yk]
   congr 1
   rw [Zk,Zk,Int.pow_zero,Ls]
  rw [e1] at ih;rw [MD];split
  ·rename_i h1
   refine (Cg.mod _).trans ?_;rw [Vh,show (b:Int)^e=(b:Int)*b^(2*(e / 2)) by rw [Rp,<- Zk];congr 1;omega]
   exact Cg.rfl'.mul ih
  ·rw [show 2*(e / 2)=e by omega] at ih
   exact ih
theorem zDC {p:Nat} (h:jc p=true):MD p 64 (pc p).1 ((p-1) / 2)=p-1 /\ (p-1)%2=0 /\ (p-1) / 2<2^64:=by
 rcases Wv h with rfl | rfl | rfl | rfl | rfl | rfl | rfl <;> decide +kernel
theorem zDD {p:Nat} (h:jc p=true):Cg p (((pc p).1:Int)^((p-1) / 2)) (-1):=by
 obtain ⟨h1,-,h3⟩:=zDC h;have h4:=DQ p 64 (pc p).1 ((p-1) / 2) h3;rw [h1] at h4;refine h4.symm.trans ⟨1,?_⟩;have:=(Cc h).1;omega
theorem PX {p n j:Nat} (h:jc p=true) (hn:fl p n) (hj:n=2^j):j=0 \/ Cg p ((Tg p n:Int)^(2^(j-1))) (-1):=by
 rcases Jn j with h0 | h0
 ·exact Or.inl h0
 ·right
  refine ((Cg.mod (p:=p) _).pow _).trans (Cg.trans (Cg.of_eq ?_) (zDD h));rw [Xu,<- Yk]
  congr 1
  have e:n=2*2^(j-1):=by rw [hj,xg,<- Zg];congr 1;omega
  have hd:=hn.dvd;have ao:=hn.pos;obtain ⟨q,hq⟩:∃ q,p-1=n*q:=⟨(p-1) / n,by have:=FA (p-1) n;omega⟩
  rw [hq,Nat.mul_div_cancel_left _ zO,e,Nat.mul_assoc,Nat.mul_div_cancel_left _ zO,xg]
theorem zBh {p:Nat} (h:jc p=true):MD p 64 2 (p-1)=1 /\ MD p 64 (pc p).1 (p-1)=1 /\ p-1<2^64:=by
 rcases Wv h with rfl | rfl | rfl | rfl | rfl | rfl | rfl <;> decide +kernel
theorem zIj {p:Nat} (h:jc p=true):Cg p ((2:Int)^(p-1)) 1:=by
 obtain ⟨h1,-,h3⟩:=zBh h;have h4:=DQ p 64 2 (p-1) h3;rw [h1] at h4;exact h4.symm
theorem ZJ {p:Nat} (h:jc p=true):Cg p (((pc p).1:Int)^(p-1)) 1:=by
 obtain ⟨-,h1,h3⟩:=zBh h;have h4:=DQ p 64 (pc p).1 (p-1) h3;rw [h1] at h4;exact h4.symm
theorem zEj {p n j:Nat} (h:jc p=true) (hj:n=2^j):Cg p ((n:Int)*((n^(p-2)%p:Nat):Int)) 1:=by
 have hp:=Cc h;refine (Cg.rfl'.mul (Cg.mod _)).trans ?_;have e:(n:Int)*((n^(p-2):Nat):Int)=((2:Int)^(p-1))^j:=by
  rw [Xu,hj,Xu,Rp,<- Zk,<- Yk,<- Yk,Nat.succ_eq_add_one,show p-2+1=p-1 by omega,xg]
  rfl
 rw [e];refine ((zIj h).pow j).trans (Cg.of_eq ?_);exact Int.one_pow
theorem QX {p n:Nat} (h:jc p=true) (hn:fl p n):Cg p ((Tg p n:Int)^n) 1:=by
 refine ((Cg.mod (p:=p) _).pow _).trans (Cg.trans (Cg.of_eq ?_) (ZJ h));rw [Xu,<- Yk]
 congr 1
 have hd:=hn.dvd;have:=FA (p-1) n;rw [xg];omega
theorem UW {p n:Nat} (h:jc p=true) (hn:fl p n):Cg p ((Tg p n:Int)*((Tg p n^(p-2)%p:Nat):Int)) 1:=by
 have hp:=Cc h;refine (Cg.rfl'.mul (Cg.mod _)).trans ?_;have e:(Tg p n:Int)*((Tg p n^(p-2):Nat):Int)=((Tg p n:Int)^n)^((p-1) / n):=by
  have hd:=hn.dvd;have h2:=FA (p-1) n;rw [Xu,Rp,<- Zk,<- Yk]
  congr 1
  omega
 rw [e];exact ((QX h hn).pow _).trans (Cg.of_eq Int.one_pow)
theorem K0 {p:Nat}:∀ (j:Nat) (x:Int) (t:Nat),t<j -> Cg p (x^(2^t)) (-1) -> Cg p (Dc (fun _=>1) x (2^j)) 0
 | 0,_,t,ht,_=>absurd ht (Nat.not_lt_zero t)
 | j+1,x,t,ht,hx=>by
  rw [show 2^(j+1)=2*2^j by rw [Zg,xg],oV]
  show Cg p (Dc (fun _=>1) (x*x) (2^j)+x*Dc (fun _=>1) (x*x) (2^j)) 0
  cases t with
  | zero =>
   rw [Nat.pow_zero,Zk,Int.pow_zero,Ls] at hx;exact (Cg.rfl'.add (hx.mul Cg.rfl')).trans (Cg.of_eq zO)
  | succ t =>
   have ih:=K0 j (x*x) t zO (by
    refine Cg.trans (Cg.of_eq ?_) hx;rw [show x*x=x^2 by rw [Zk,Zk,Int.pow_zero,Ls],<- Yk]
    congr 1
    rw [Zg,xg])
   exact (ih.add (Cg.rfl'.mul ih)).trans (Cg.of_eq zO)
theorem b8:∀ o:Nat,(-1:Int)^(2*o+1)=-1
 | 0=>zD
 | o+1=>by rw [show 2*(o+1)+1=(2*o+1)+1+1 by omega,Zk,Zk,b8 o];decide
theorem zAN {p:Nat}:∀ (j:Nat) (w:Int) (d:Nat),Cg p (w^(2^(j-1))) (-1) -> 0<d -> d<2^j -> ∃ t,t<j /\ Cg p ((w^d)^(2^t)) (-1)
 | 0,_,d,_,h0,h1=>zO
 | j+1,w,d,hw,h0,h1=>by
  rcases Nat.mod_two_eq_zero_or_one d with h | h
  ·obtain ⟨e,rfl⟩:∃ e,d=2*e:=⟨d / 2,zO⟩
   have hj:j≠0:=by rintro rfl;omega
   have he:e<2^j:=by rw [Zg] at h1;omega
   obtain ⟨t,ht,hc⟩:=zAN j (w^2) e (by
    refine Cg.trans (Cg.of_eq ?_) hw;rw [<- Yk]
    congr 1
    show 2*2^(j-1)=2^j
    rw [xg,<- Zg]
    congr 1
    omega) zO he
   exact ⟨t,zO,by rw [Yk (a:=w)];exact hc⟩
  ·obtain ⟨o,rfl⟩:∃ o,d=2*o+1:=⟨d / 2,zO⟩
   refine ⟨j,zO,?_⟩;rw [<- Yk,xg,Yk];exact (Cg.pow hw _).trans (Cg.of_eq (b8 o))
theorem zAs {p j d:Nat} {w:Int} (hw:Cg p (w^(2^(j-1))) (-1)) (h0:0<d) (h1:d<2^j):Cg p (Dc (fun _=>1) (w^d) (2^j)) 0:=by
 obtain ⟨t,ht,hc⟩:=zAN j w d hw h0 h1;exact K0 j _ t ht hc
end Go.Proofs.YteoghgbnielkpaaGreat
