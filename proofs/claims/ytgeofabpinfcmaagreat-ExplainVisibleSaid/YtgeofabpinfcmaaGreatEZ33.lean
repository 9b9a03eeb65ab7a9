/- A part of the proof. No condition. -/
import Derived.Test.YtgeofabpinfcmaaGreatProg
import Derived.Test.YtgeofabpinfcmaaGreatEZ29
import Derived.Test.YtgeofabpinfcmaaGreatEZ28
import Derived.Test.YtgeofabpinfcmaaGreatEZ27

set_option maxRecDepth 100000
set_option maxHeartbeats 8000000
set_option linter.unusedVariables false
set_option linter.unusedSimpArgs false
namespace Go.Proofs.YtgeofabpinfcmaaGreat
def xq (f:Nat -> Nat) (n:Nat):List (List Nat):=(List.range n).map fun k=>[f k]
def Jz (p a b:Nat):Nat:=(a+oc p b)%p
def XG (L:Ja) (cs:List (List Nat)) (al be:Nat) (a b c:List Nat) (x:Nat) (v:List Nat):List Nat :=
 [Jz L.p (Bc L.p a x) (Bc L.p (Yi L.p (xq (fun k=>v.getD k 0) v.length) al v.length) 0),
  Jz L.p (Bc L.p b x) (Bc L.p (Oi L.p (xq (fun k=>v.getD k 0) v.length) (xq (fun k=>Bc L.p ((Ig L.p cs).getD k []) x) v.length) v.length) 0),
  Jz L.p (Bc L.p c x) (Bc L.p (bh L.p L.a L.b (xq (fun k=>v.getD k 0) v.length) be L.b) 0)]
theorem sE {f:Nat -> Nat} {n k:Nat} (h:k<n):(xq f n).getD k []=[f k]:=by
 rw [xq,List.getD_eq_getElem?_getD,List.getElem?_map,List.getElem?_range h]
 rfl
theorem KD (v:Nat) (x:Int):Jb [v] x=(v:Int):=by
 show 0+(v:Int)*x^0=_
 rw [Int.pow_zero];omega
theorem nT {p:Nat} (hp:0<p) (a b:Nat):Cg p (Jz p a b:Int) ((a:Int)-(b:Int)) :=
 (Es _ _).trans ((Cg.rfl'.add (Nn p b hp)).trans (Cg.of_eq (by omega)))
theorem RV {p:Nat} (hp:1<p) (a b:List Nat) (x:Int):Cg p (Jb (yj p a b) x) (Jb a x-Jb b x):=by
 unfold yj;refine (ow a _ x).trans ((Cg.rfl'.add ((bF b _ x).trans ((Nn p 1 (by omega)).mul Cg.rfl'))).trans (Cg.of_eq ?_))
 rw [show (((1:Nat):Int))=1 from rfl,Int.neg_mul,Int.one_mul]
 omega
theorem RJ {p:Nat} (rows:List (List Nat)) (al:Nat) (x:Int):∀ i,Cg p (Jb (Yi p rows al i) x) (Sa (fun j=>(yg p al (j+1):Int)*Jb (rows.getD j []) x) i)
 | 0=>Cg.rfl'
 | i+1=>by
  rw [Yi,Sa];exact (ow _ _ x).trans ((RJ rows al x i).add (bF _ _ x))
theorem sL {p:Nat} (rows ws:List (List Nat)) (x:Int):∀ i,Cg p (Jb (Oi p rows ws i) x) (Sa (fun j=>Jb (ws.getD j []) x*Jb (rows.getD j []) x) i)
 | 0=>Cg.rfl'
 | i+1=>by
  rw [Oi,Sa];exact (ow _ _ x).trans ((sL rows ws x i).add (gH _ _ x))
theorem oM {p:Nat} (hp:1<p) (a b:Nat) (rows:List (List Nat)) (be:Nat) (x:Int):∀ i,Cg p (Jb (bh p a b rows be i) x) (Sa (fun j=>(yg p be (j+1):Int)*(Jb (rows.getD (a+j) []) x*Jb (rows.getD (a+b+j) []) x-Jb (rows.getD (a+b+b+j) []) x)) i)
 | 0=>Cg.rfl'
 | i+1=>by
  rw [bh,Sa];refine (ow _ _ x).trans ((oM hp a b rows be x i).add ((bF _ _ x).trans (Cg.rfl'.mul ?_)));unfold oB;refine (RV hp _ _ x).trans ?_;obtain ⟨c,hc⟩:=gH (p:=p) (rows.getD (a+i) []) (rows.getD (a+b+i) []) x;exact ⟨c,by rw [<- hc];omega⟩
theorem lV {p:Nat} (f:Nat -> Nat) (al n:Nat):Cg p (Bc p (Yi p (xq f n) al n) 0:Int) (Sa (fun j=>(yg p al (j+1):Int)*(f j:Int)) n):=by
 refine (ik _).trans ((RJ _ _ _ _).trans (Ti _ fun j hj=>?_))
 rw [sE hj,KD];exact Cg.rfl'
theorem CX {p:Nat} (f g:Nat -> Nat) (n:Nat):Cg p (Bc p (Oi p (xq f n) (xq g n) n) 0:Int) (Sa (fun j=>(g j:Int)*(f j:Int)) n):=by
 refine (ik _).trans ((sL _ _ _ _).trans (Ti _ fun j hj=>?_))
 rw [sE hj,sE hj,KD,KD];exact Cg.rfl'
theorem rM {p:Nat} (hp:1<p) {a b n:Nat} (hn:a+b+b+b=n) (f:Nat -> Nat) (be:Nat):Cg p (Bc p (bh p a b (xq f n) be b) 0:Int) (Sa (fun j=>(yg p be (j+1):Int)*((f (a+j):Int)*(f (a+b+j):Int)-(f (a+b+b+j):Int))) b):=by
 refine (ik _).trans ((oM hp _ _ _ _ _ _).trans (Ti _ fun j hj=>?_))
 rw [sE (by omega),sE (by omega),sE (by omega),KD,KD,KD]
 exact Cg.rfl'
def cm2 (p a b be:Nat) (f:Nat -> Nat) (e:Nat):Nat -> Nat
 | 0=>e
 | j+1=>Jz p (cm2 p a b be f e j) (yg p be (j+1)*Jz p (f (a+j)*f (a+b+j)%p) (f (a+b+b+j))%p)
theorem K5 {p:Nat} (hp:0<p) (a b:Nat):Jz p a b<p:=Nat.mod_lt _ hp
theorem VO {p:Nat} (a b:List Nat):∀ k,Cg p (bH p a b k:Int) (Sa (fun m=>(a.getD m 0:Int)*(b.getD m 0:Int)) k)
 | 0=>Cg.rfl'
 | k+1=>by
  rw [bH,Sa];refine (Es _ _).trans ((VO a b k).add ((KA _ _).trans ((Cg.mod _).mul (Cg.mod _))))
end Go.Proofs.YtgeofabpinfcmaaGreat
namespace Go.Proofs.YtgeofabpinfcmaaGreat
open Go.RowKit
theorem p4 (A1 A2:Option Addr) (n1 c1 n2 c2:Nat) (l1 l2:List Nat) (w:World) (h1:RWd w [.slice A1 n1 c1] l1) (h2:RWd w [.slice A2 n2 c2] l2) :
  Calls Tryz.prog 110 #[.slice A1 n1 c1, .slice A2 n2 c2] w fun e w'=>e= .returned (.bool (decide (l1=l2))) /\ Below w.heap.size w w':=by
 obtain ⟨rfl,a1,a2,a3,r1⟩:=Ra h1;obtain ⟨rfl,b1,b2,b3,r2⟩:=Ra h2;have gm:=Kf a1 a2;have pB:=Kf b1 b2;clear h1 h2 a1 a2 b1 b2 a3 b3;by_cases hn:l1.length=l2.length
 rotate_left
 ·have t1:((l1.length:Int) != (l2.length:Int))=true:=by rw [bne_iff_ne];omega
  have t2:((l1.length:Int) == (l2.length:Int))=false:=by rw [beq_eq_false_iff_ne];omega
  have HF:=zH (show decide (l1=l2)=false from decide_eq_false fun h=>hn (by rw [h]))
  rw [HF.out];generalize l1.length=m1 at *;generalize l2.length=m2 at *;clear r1 r2 hn;go_enter Tryz.func110,Tryz.ntmps110
  go_wp2;go_ret
  exact ⟨rfl,Below.refl _ _⟩
 have t1:((l1.length:Int) != (l2.length:Int))=false:=by rw [bne_eq_false_iff_eq];omega
 have t2:((l1.length:Int) == (l2.length:Int))=true:=by rw [beq_iff_eq];omega
 obtain ⟨n,Md⟩:∃ n,l1.length=n:=⟨_,rfl⟩;have re:l2.length=n:=by omega
 rw [Md] at r1;rw [re] at r2;rw [Md,re] at t1 t2;rw [Md] at gm;rw [Md,re];obtain ⟨ans,ha⟩:=zEX (decide (l1=l2));rw [<- ha];have HA:=zH ha;have H1:=zH Md;have H2:=zH re;clear hn Md re pB ha;go_enter Tryz.func110,Tryz.ntmps110
 go_wp2_with fail
 go_loopw [13] (fun y wr=>∃ i:Nat,i <= n /\ y= .int .i64 i /\ Hid (l1.take i=l2.take i) /\ Below w.heap.size w wr) (fun y _=>n-(intOf y).toNat)
 case atStart=>exact ⟨0,Nat.zero_le _,rfl,rfl,Below.refl _ _⟩
 case round =>
  obtain ⟨i,hi,rfl,HT,Qa⟩:=hrel;by_cases za:i<n
  ·have g1:(0:Int) <= (i:Int):=by omega
   have g2:(i:Int)<(n:Int):=by omega
   have q1:=r1.below Qa;have q2:=r2.below Qa;rw [<- H1.out] at q1;rw [<- H2.out] at q2;obtain ⟨x1,y1,rfl,v1,d1⟩:=Vd q1 (j:=i) (by rw [H1.out];exact za)
   obtain ⟨x2,y2,rfl,v2,d2⟩:=Vd q2 (j:=i) (by rw [H2.out];exact za)
   clear q1 q2;by_cases he:l1.getD i 0=l2.getD i 0
   ·have Dh:=zH (OM HT.out (by rw [H1.out];exact za) (by rw [H2.out];exact za) he)
    rw [<- he] at d2;generalize l1.getD i 0=z at *;have u1:((z:Int) != (z:Int))=false:=by rw [bne_eq_false_iff_eq]
    have u2:((z:Int) == (z:Int))=true:=by rw [beq_iff_eq]
    clear he HT;go_wp2_with fail
    refine Hd (Ib) (xa) [] [] [0,1,2,3,4,5,6,7,8] (by kernel_rfl) (by kernel_rfl) ?_
    refine Jd (xa) ?_;intro Wc ja;refine Ic ?_;refine eh rfl ?_;intro wd Tb;replace ja:=(xa).trans _ _ _ ja Tb;clear Tb;go_wp2;replace Qa:=oa Qa.drew ja
    go_roundw
    case rel=>exact ⟨i+1,by omega,by go_num,Dh.out,Qa⟩
    case measure=>simp [intOf];omega
   ·have HF:=zH (HA.out.trans (NM he))
    generalize l1.getD i 0=z1 at *;generalize l2.getD i 0=z2 at *;have u1:((z1:Int) != (z2:Int))=true:=by rw [bne_iff_ne];omega
    have u2:((z1:Int) == (z2:Int))=false:=by rw [beq_eq_false_iff_ne];omega
    clear he HT;go_wp2_with fail
    refine Hd (Ib) (xa) [] [] [0,1,2,3,4,5,6,7,8] (by kernel_rfl) (by kernel_rfl) ?_
    refine Jd (xa) ?_;intro Wc ja;refine Ic ?_;refine eh rfl ?_;intro wd Tb;replace ja:=(xa).trans _ _ _ ja Tb;clear Tb;go_wp2;go_ret
    exact ⟨by rw [HF.out];rfl,oa Qa.drew ja⟩
  ·obtain rfl:i=n:=by omega
   have HF:=zH (HA.out.trans (decide_eq_true (by have:=HT.out;rwa [<- H1.out,List.take_length,H1.out,<- H2.out,List.take_length] at this)))
   go_wp2;go_ret
   exact ⟨by rw [HF.out];rfl,Qa⟩
def TJ (L:Ja) (cs:List (List Nat)) (al be:Nat) (a b q:List Nat) (i:Int) (v:List Nat):Bool :=
 Rq L a b q&&decide (0 <= i)&&decide (i<(L.n:Int))&&td v (L.a+L.b+L.b+L.b+3) L.p&&decide (XG L cs al be a b q (Vb L.p (tb L.p).1 L.n i.toNat) (v.take (L.a+L.b+L.b+L.b))=v.drop (L.a+L.b+L.b+L.b))
theorem UJ {L:Ja} {cs:List (List Nat)} {al be i:Nat} {a b q v l:List Nat} (hf:Rq L a b q=true) (hi:i<L.n) (hv:v.length=L.a+L.b+L.b+L.b) (df:∀ x∈v,x<L.p) (hl:l.length=3) (RB:∀ x∈l,x<L.p) :
  TJ L cs al be a b q (i:Int) (v++l)=decide (XG L cs al be a b q (Vb L.p (tb L.p).1 L.n i) v=l):=by
 have e1:td (v++l) (L.a+L.b+L.b+L.b+3) L.p=true:=by
  unfold td;rw [Bool.and_eq_true,decide_eq_true_eq,List.all_eq_true];refine ⟨by rw [List.length_append];omega,fun x hx=>?_⟩
  rw [decide_eq_true_eq];rcases List.mem_append.1 hx with h | h
  ·exact df x h
  ·exact RB x h
 have e2:decide ((0:Int) <= (i:Int))=true:=decide_eq_true (by omega)
 have e3:decide ((i:Int)<(L.n:Int))=true:=decide_eq_true (by omega)
 unfold TJ;rw [hf,e1,e2,e3,List.take_left' hv,List.drop_left' hv,Int.toNat_natCast]
 rfl
theorem Cg.less {p:Nat} {x y u v:Int} (h:Cg p x y) (h2:Cg p u v):Cg p (x-u) (y-v):=by
 rw [Int.sub_eq_add_neg,Int.sub_eq_add_neg];exact h.add h2.neg
theorem KU {L:Ja} (m r:List (List Nat)) (co:List Nat) (al:Nat) (x:Int):Cg L.p (Jb (Pd L m r co al) x) (Jb co x+Sa (fun j=>(yg L.p al (j+1):Int)*Jb ((Cd L m r).getD j []) x) m.length):=by
 unfold Pd;rw [hH];exact (ow _ _ _).trans (Cg.rfl'.add (RJ _ _ _ _))
theorem mO {L:Ja} (cs m r:List (List Nat)) (li:List Nat) (x:Int):Cg L.p (Jb (Nc L cs m r li) x) (Jb (Bd L li) x+Sa (fun j=>Jb ((Ig L.p cs).getD j []) x*Jb ((Cd L m r).getD j []) x) m.length):=by
 unfold Nc;rw [hH];exact (ow _ _ _).trans (Cg.rfl'.add (sL _ _ _ _))
theorem oO {L:Ja} (hp:1<L.p) (m r:List (List Nat)) (qu:List Nat) (be:Nat) (x:Int):Cg L.p (Jb (pd L m r qu be) x) (Jb (Gg L qu) x+Sa (fun j=>(yg L.p be (j+1):Int)*(Jb ((Cd L m r).getD (L.a+j) []) x*Jb ((Cd L m r).getD (L.a+L.b+j) []) x-Jb ((Cd L m r).getD (L.a+L.b+L.b+j) []) x)) L.b):=by
 unfold pd;rw [hH];exact (ow _ _ _).trans (Cg.rfl'.add (oM hp _ _ _ _ _ _))
theorem ZM {p:Nat} (hp:0<p) {a c:List Nat} {s x:Nat} {S:Int} (h1:Cg p (Jb a x) (Jb c x+S)) (h2:Cg p (s:Int) S):Jz p (Bc p a x) s=Bc p c x:=by
 refine Cg.eq (p:=p) ?_ (K5 hp _ _) (qn hp _ _);refine (nT hp _ _).trans ?_;refine Cg.trans ?_ (ik c).symm;refine (Cg.less ((ik a).trans h1) h2).trans (Cg.of_eq ?_);omega
theorem pV {L:Ja} (hL:Db L) {cs:List (List Nat)} {a b c co ml qd:List Nat} {R:List (List Nat)} {al be x:Nat} {v:List Nat} (hv:v.length=L.a+L.b+L.b+L.b) (xt:∀ j,j<v.length -> v.getD j 0=Bc L.p (R.getD j []) x)
  (ha:Cg L.p (Jb a x) (Jb co x+Sa (fun j=>(yg L.p al (j+1):Int)*Jb (R.getD j []) x) v.length))
  (hb:Cg L.p (Jb b x) (Jb ml x+Sa (fun j=>Jb ((Ig L.p cs).getD j []) x*Jb (R.getD j []) x) v.length))
  (hc:Cg L.p (Jb c x) (Jb qd x+Sa (fun j=>(yg L.p be (j+1):Int)*(Jb (R.getD (L.a+j) []) x*Jb (R.getD (L.a+L.b+j) []) x-Jb (R.getD (L.a+L.b+L.b+j) []) x)) L.b)) :
  XG L cs al be a b c x v=[Bc L.p co x,Bc L.p ml x,Bc L.p qd x]:=by
 obtain ⟨hp,-⟩:=Va hL.p;have mc:0<L.p:=by omega
 have hf:∀ j,j<v.length -> Cg L.p ((v.getD j 0:Nat):Int) (Jb (R.getD j []) x):=fun j h=>by rw [xt j h];exact ik _
 unfold XG;rw [ZM mc ha ((lV _ al _).trans (Ti _ fun j hj=>Cg.rfl'.mul (hf j hj)))]
 rw [ZM mc hb ((CX _ _ _).trans (Ti _ fun j hj=>(ik _).mul (hf j hj)))]
 rw [ZM mc hc ((rM (by omega) hv.symm _ be).trans (Ti _ fun j hj=>Cg.rfl'.mul (((hf _ (by omega)).mul (hf _ (by omega))).less (hf _ (by omega)))))]
theorem CR {L:Ja} (hL:Db L) {m r:List (List Nat)} (h:Kg L m r) (co li qu:List Nat) {j:Nat} (hj:j<m.length):(Ge L m r co li qu).getD j []=(Cd L m r).getD j []:=by
 rw [Xu hL h hj];have h1:(Ge L m r co li qu).getD j []=Cx L m r j:=by
  unfold Ge;rw [List.getD_eq_getElem?_getD,List.getElem?_append_left (by simp [dp];exact hj)]
  simp [dp,hj]
 have h2:(r.getD j []).length=L.queries:=Bm h.rr (by rw [h.rl];exact hj)
 rw [h1];unfold Cx yl Bs;rw [h2,<- hL.k]
theorem ZY (L:Ja) (m r:List (List Nat)) (co li qu:List Nat):(Ge L m r co li qu).getD m.length []=co /\ (Ge L m r co li qu).getD (m.length+1) []=Bd L li /\ (Ge L m r co li qu).getD (m.length+2) []=ZF L qu:=by
 have hl:(dp L m r m.length).length=m.length:=by simp [dp]
 unfold Ge;simp only [List.getD_eq_getElem?_getD];refine ⟨?_,?_,?_⟩
 ·rw [List.getElem?_append_right (by omega),hl,Nat.sub_self];rfl
 ·rw [List.getElem?_append_right (by omega),hl,Nat.add_sub_cancel_left];rfl
 ·rw [List.getElem?_append_right (by omega),hl,Nat.add_sub_cancel_left];rfl
theorem JO {L:Ja} (hL:Db L) {cs m r:List (List Nat)} (h:Kg L m r) (qe:∀ x∈cs,x.length=L.block) (Vf:cs.length=m.length) {co li qu:List Nat} (hc:co.length=L.k /\ ∀ y∈co,y<L.p) (hl:li.length=L.k+L.block-2 /\ ∀ y∈li,y<L.p) (hq:qu.length=L.block+2*L.queries-1) (al be:Nat) {i:Nat} (hi:i<L.n) :
  TJ L cs al be (Pd L m r co al) (Nc L cs m r li) (pd L m r qu be) (i:Int) ((List.range (m.length+3)).map (Bg L (Ge L m r co li qu) i))=true:=by
 obtain ⟨hp,-⟩:=Va hL.p;have mc:0<L.p:=by omega
 obtain ⟨Md,re⟩:=nx hL;have Ws:∀ j,Bg L (Ge L m r co li qu) i j=Bc L.p ((Ge L m r co li qu).getD j []) (Vb L.p (tb L.p).1 L.n i):=fun j=>by
  unfold Bg;exact dF hL.p Md re _ hi
 obtain ⟨F,hF⟩:=zEX ((List.range m.length).map (Bg L (Ge L m r co li qu) i));have hFl:F.length=m.length:=by rw [hF];simp
 have YD:(List.range (m.length+3)).map (Bg L (Ge L m r co li qu) i)=F++[Bg L (Ge L m r co li qu) i m.length,Bg L (Ge L m r co li qu) i (m.length+1),Bg L (Ge L m r co li qu) i (m.length+2)]:=by
  rw [hF,show m.length+3=m.length+1+1+1 by omega,List.range_succ,List.range_succ,List.range_succ]
  simp
 obtain ⟨p0,p1,p2⟩:=ZY L m r co li qu;rw [YD,Ws m.length,Ws (m.length+1),Ws (m.length+2),p0,p1,p2];rw [UJ (xD hL h qe Vf hc hl hq al be) hi (by rw [hFl];exact h.ml) (fun x hx=>by
  rw [hF] at hx;obtain ⟨j,-,rfl⟩:=List.mem_map.1 hx;rw [Ws];exact qn mc _ _) rfl (fun x hx=>by
  simp only [List.mem_cons,List.not_mem_nil,or_false] at hx;rcases hx with rfl | rfl | rfl <;> exact qn mc _ _)]
 refine decide_eq_true ?_;refine pV hL (R:=Cd L m r) (by rw [hFl];exact h.ml) (fun j hj=>?_) ?_ ?_ ?_
 ·have hj':j<m.length:=by rw [<- hFl];exact hj
  rw [hF,Qf,if_pos hj',Ws,CR hL h _ _ _ hj']
 ·rw [hFl];exact KU _ _ _ _ _
 ·rw [hFl];exact mO _ _ _ _ _
 ·refine (oO (by omega) m r qu be _).trans ?_
  rw [Dx hL hq];exact Cg.rfl'
def uE (L:Ja) (t:Nat) (a b q:List Nat):Bool:=Rq L a b q&&((List.range L.block).all fun k=>decide (Bc L.p q (Vb L.p 1 L.block k)=0))&&decide (Nt L.p (fun k=>Bc L.p b (Vb L.p 1 L.block k)) L.block=t)
theorem GU {n:Nat} {f:Nat -> Bool} (h:∀ k,k<n -> f k=true):(List.range n).all f=true:=by
 rw [List.all_eq_true];exact fun k hk=>h k (List.mem_range.1 hk)
end Go.Proofs.YtgeofabpinfcmaaGreat
