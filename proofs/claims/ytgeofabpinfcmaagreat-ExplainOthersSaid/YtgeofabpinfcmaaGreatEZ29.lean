/- A part of the proof. No condition. -/
import Derived.Test.YtgeofabpinfcmaaGreatProg
import Derived.Test.YtgeofabpinfcmaaGreatEZ25
import Derived.Test.YtgeofabpinfcmaaGreatEZ28
import Derived.Test.YtgeofabpinfcmaaGreatEZ26
import Derived.Test.YtgeofabpinfcmaaGreatEZ22

set_option maxRecDepth 100000
set_option maxHeartbeats 8000000
set_option linter.unusedVariables false
set_option linter.unusedSimpArgs false
namespace Go.Proofs.YtgeofabpinfcmaaGreat
def Cd (L:Ja) (m r:List (List Nat)):List (List Nat):=(List.range m.length).map (Vl L m r)
def Pd (L:Ja) (m r:List (List Nat)) (co:List Nat) (al:Nat):List Nat:=Te (Pe L.p co (Yi L.p (Cd L m r) al m.length)) L.k
def Nc (L:Ja) (cs m r:List (List Nat)) (li:List Nat):List Nat:=Te (Pe L.p (Bd L li) (Oi L.p (Cd L m r) (Ig L.p cs) m.length)) (L.k+L.block-1)
def pd (L:Ja) (m r:List (List Nat)) (qu:List Nat) (be:Nat):List Nat:=Te (Pe L.p (Gg L qu) (bh L.p L.a L.b (Cd L m r) be L.b)) (2*L.k-1)
structure Kg (L:Ja) (m r:List (List Nat)):Prop where
 ml:m.length=L.a+L.b+L.b+L.b
 rl:r.length=m.length
 mr:∀ x∈m,x.length=L.block
 rr:∀ x∈r,x.length=L.queries
theorem Bm {l:List (List Nat)} {P:List Nat -> Prop} (h:∀ x∈l,P x) {i:Nat} (hi:i<l.length):P (l.getD i []):=by
 rw [Sq hi];exact h _ (List.getElem_mem hi)
theorem Xu {L:Ja} (hL:Db L) {m r:List (List Nat)} (h:Kg L m r) {i:Nat} (hi:i<m.length):(Cd L m r).getD i []=yl L m r i:=by
 have e:(Cd L m r).getD i []=Vl L m r i:=by
  rw [Cd,List.getD_eq_getElem?_getD,List.getElem?_map,List.getElem?_range hi]
  rfl
 have h1:=Bm h.mr hi;have h2:=Bm h.rr (show i<r.length by rw [h.rl];exact hi)
 rw [e,Vl,LS hL h1 h2,Bi,h2,<- hL.k]
 rfl
theorem CI (L:Ja) (m r:List (List Nat)):(Cd L m r).length=m.length:=by simp [Cd]
theorem fG {L:Ja} (hL:Db L) {m r:List (List Nat)} (h:Kg L m r):∀ x∈Cd L m r,x.length=L.k:=fun x hx=>by
 obtain ⟨i,hi,rfl⟩:=List.getElem_of_mem hx;rw [CI] at hi;have e:=Xu hL h hi;rw [Sq (by rw [CI];exact hi)] at e
 rw [e];simp [yl]
theorem mT (p a b c:Nat):((a+b)%p+c%p)%p=(a+(b+c%p)%p)%p:=by
 rw [Nat.mod_add_mod,Nat.add_mod_mod a,Nat.add_assoc]
theorem MG {p s t k:Nat} {F G:Nat -> Nat} (h:k<t):Kk p s F G t k=(F k+s*G k%p)%p:=by
 unfold Kk He;rw [if_pos h]
theorem CU {p s t k:Nat} {F G:Nat -> Nat} (h:¬k<t):Kk p s F G t k=F k:=by
 unfold Kk He;rw [if_neg h]
theorem SJ {L:Ja} (hL:Db L) {m r:List (List Nat)} (h:Kg L m r) {co:List Nat} (hc:co.length=L.k) (za:∀ y∈co,y<L.p) (al:Nat) :
  (List.range L.k).map (xx L.p L.k al (fun k=>co.getD k 0) (Bs L m r) m.length)=Pd L m r co al:=by
 have hp:=Va hL.p;have hl:(Pd L m r co al).length=L.k:=by
  rw [Pd,Uu];have h1:=nn L.p co (Yi L.p (Cd L m r) al m.length);have h2:=VE (p:=L.p) (al:=al) (fun x hx=>Nat.le_of_eq (fG hL h x hx)) m.length
  omega
 refine Om (by rw [hl];simp) fun k hk=>?_
 simp at hk
 rw [Qf,if_pos hk,Pd,Ir,Jk];have key:∀ i,i <= m.length -> xx L.p L.k al (fun k=>co.getD k 0) (Bs L m r) i k=(co.getD k 0+(Yi L.p (Cd L m r) al i).getD k 0)%L.p:=fun i=>by
  induction i with
  | zero =>
   intro _;rw [xx,Yi];exact (Nat.mod_eq_of_lt (by simpa using Wg (by omega) za k)).symm
  | succ i ih =>
   intro hi;rw [xx,MG hk,ih (by omega),Yi,Jk,Hz,Xu hL h (by omega),yl,Qf,if_pos hk,Nat.mul_comm (yg L.p al (i+1)),mT]
 exact key _ zR
theorem uU {L:Ja} (hL:Db L) {cs:List (List Nat)} (qe:∀ x∈cs,x.length=L.block) {i:Nat} (hi:i<cs.length):(Ig L.p cs).getD i []=(List.range L.block).map (Nj L.p L.block L.block.log2 (cs.getD i [])):=by
 obtain ⟨hlen,j,hj⟩:=Uk hL;have En:L.block.log2=j:=by rw [hj];exact Nat.log2_two_pow
 have h1:=Bm qe hi;have e:(Ig L.p cs).getD i []=Px L.p cs i:=by
  rw [Ig,List.getD_eq_getElem?_getD,List.getElem?_map,List.getElem?_range hi]
  rfl
 rw [e,Px,h1];refine List.map_congr_left fun k hk=>?_
 have hk':=List.mem_range.1 hk;rw [kL (j:=j) _ hL.p (by rw [h1];exact hlen) (by rw [h1];exact hj) (by omega),h1,En]
theorem IL {p:Nat} (hp:0<p) (a b:List Nat) (k:Nat):(Be p a b).getD k 0<p:=Wg hp (fun _ h=>KQ hp h) k
theorem MU {L:Ja} (hL:Db L) {cs m r:List (List Nat)} (h:Kg L m r) (qe:∀ x∈cs,x.length=L.block) (Vf:cs.length=m.length) {i k:Nat} (hi:i<m.length) (hk:k<L.k+L.block-1) :
  sy L cs m r i k=(Be L.p ((Ig L.p cs).getD i []) ((Cd L m r).getD i [])).getD k 0:=by
 have hp:=Va hL.p;have Ga:=hL.b1;have tg:=hL.k;have hnk:=hL.nk;have Xf:=hL.q1;have h2:2 <= L.k+L.block-1:=by omega
 obtain ⟨hM,-⟩:=PH hL h2 (by omega)
 obtain ⟨e,hle,-⟩:=jF h2;rw [uU hL qe (by omega),Xu hL h hi]
 unfold sy;refine Cg.eq (p:=L.p) (FQ hL.p hM e _ _ (by simp;omega) (by simp [yl];omega) k (by omega)) (GQ (by omega) _ _ _) (IL (by omega) _ _ _)
theorem zL {L:Ja} (hL:Db L) {cs m r:List (List Nat)} (h:Kg L m r) (qe:∀ x∈cs,x.length=L.block) (Vf:cs.length=m.length) {li:List Nat} (hl:li.length=L.k+L.block-2) (za:∀ y∈li,y<L.p) :
  (List.range (L.k+L.block-1)).map (Bx L.p (L.k+L.block-1) (fun k=>(Bd L li).getD k 0) (sy L cs m r) m.length)=Nc L cs m r li:=by
 have hp:=Va hL.p;have Ga:=hL.b1;have tg:=hL.k;have Xf:=hL.q1;have Ud:(Bd L li).length=L.k+L.block-1:=by rw [Bd,List.length_cons];omega
 have hmlt:∀ k,(Bd L li).getD k 0<L.p:=fun k=>by
  cases k with
  | zero=>exact bE (by omega) _ _
  | succ k=>exact Wg (by omega) za k
 have Jm:∀ x∈Ig L.p cs,x.length <= L.block:=fun x hx=>by
  obtain ⟨i,hi,rfl⟩:=List.mem_map.1 hx;rw [Px,List.length_map,List.length_range,Bm qe (List.mem_range.1 hi)];exact zR
 have Eg:(Nc L cs m r li).length=L.k+L.block-1:=by
  rw [Nc,Uu];have h1:=nn L.p (Bd L li) (Oi L.p (Cd L m r) (Ig L.p cs) m.length);have h2:=RF (p:=L.p) (fun x hx=>Nat.le_of_eq (fG hL h x hx)) Jm m.length
  omega
 refine Om (by rw [Eg];simp) fun k hk=>?_
 simp at hk
 rw [Qf,if_pos (by omega),Nc,Ir,Jk]
 have key:∀ i,i <= m.length -> Bx L.p (L.k+L.block-1) (fun k=>(Bd L li).getD k 0) (sy L cs m r) i k=((Bd L li).getD k 0+(Oi L.p (Cd L m r) (Ig L.p cs) i).getD k 0)%L.p:=fun i=>by
  induction i with
  | zero =>
   intro _;rw [Bx,Oi];exact (Nat.mod_eq_of_lt (by simpa using hmlt k)).symm
  | succ i ih =>
   intro hi;rw [Bx,MG (by omega),ih (by omega),Oi,Jk,MU hL h qe Vf (by omega) (by omega),Nat.one_mul,mT]
   rw [Nat.mod_eq_of_lt (IL (p:=L.p) (by omega) _ _ _)]
 exact key _ zR
theorem NU {L:Ja} (hL:Db L) {m r:List (List Nat)} (h:Kg L m r) {j k:Nat} (hj:j<L.b) (hk:k<2*L.k-1) :
  ou L m r j k=(Be L.p ((Cd L m r).getD (L.a+j) []) ((Cd L m r).getD (L.a+L.b+j) [])).getD k 0:=by
 have hp:=Va hL.p;have Ga:=hL.b1;have tg:=hL.k;have hnk:=hL.nk;have Xf:=hL.q1;have Ud:=h.ml;have h2:2 <= 2*L.k-1:=by omega
 obtain ⟨hM,-⟩:=PH hL h2 (by omega)
 obtain ⟨e,hle,-⟩:=jF h2;rw [Xu hL h (by omega),Xu hL h (by omega)]
 unfold ou;refine Cg.eq (p:=L.p) (FQ hL.p hM e _ _ (by simp [yl];omega) (by simp [yl];omega) k (by omega)) (GQ (by omega) _ _ _) (IL (by omega) _ _ _)
theorem KA {p:Nat} (a b:Nat):Cg p ((a*b%p:Nat):Int) ((a:Int)*(b:Int)):=(Cg.mod _).trans (Cg.of_eq (Int.natCast_mul _ _))
theorem Es {p:Nat} (a b:Nat):Cg p (((a+b)%p:Nat):Int) ((a:Int)+(b:Int)):=(Cg.mod _).trans (Cg.of_eq (Int.natCast_add _ _))
theorem BP {p:Nat} (hp:1<p) (a b:List Nat) (k:Nat):Cg p ((yj p a b).getD k 0:Int) ((a.getD k 0:Int)-(b.getD k 0:Int)):=by
 rw [yj,Jk,Hz];refine (Es _ _).trans ?_;have h1:=(KA (p:=p) (b.getD k 0) (oc p 1)).trans (Cg.rfl'.mul (Nn p 1 (by omega)))
 refine (Cg.rfl'.add h1).trans (Cg.of_eq ?_);have:(((1:Nat):Int))=1:=rfl;rw [this,Int.mul_neg,Int.mul_one]
 rfl
theorem sM {L:Ja} (hL:Db L) {m r:List (List Nat)} (h:Kg L m r) {qu:List Nat} (hq:qu.length=L.block+2*L.queries-1) (be:Nat) :
  (List.range (2*L.k-1)).map (Vu L.p L.k (2*L.k-1) be (pg L.p L.block qu qu.length) (ou L m r) (EA L m r) L.b)=pd L m r qu be:=by
 have hp:=Va hL.p;have Ga:=hL.b1;have tg:=hL.k;have Xf:=hL.q1;have Ud:=h.ml;have hql:(Gg L qu).length=2*L.k-1:=by rw [Dx hL hq,Pg,List.length_map,List.length_range];omega
 have Eg:(pd L m r qu be).length=2*L.k-1:=by
  rw [pd,Uu];have h1:=nn L.p (Gg L qu) (bh L.p L.a L.b (Cd L m r) be L.b);have h2:=YF (p:=L.p) (a:=L.a) (b:=L.b) (be:=be) (fun x hx=>Nat.le_of_eq (fG hL h x hx)) L.b
  omega
 refine Om (by rw [Eg];simp) fun k hk=>?_
 simp at hk
 rw [Qf,if_pos hk,pd,Ir,Jk];have key:∀ j,j <= L.b -> Cg L.p (Vu L.p L.k (2*L.k-1) be (pg L.p L.block qu qu.length) (ou L m r) (EA L m r) j k:Int) (((Gg L qu).getD k 0:Int)+((bh L.p L.a L.b (Cd L m r) be j).getD k 0:Int)):=fun j=>by
  induction j with
  | zero =>
   intro _;rw [Vu,bh,Dx hL hq,Pg,Qf,if_pos (by omega)]
   exact Cg.of_eq (by simp)
  | succ j ih =>
   intro hj;have ih:=ih (by omega)
   have hz:EA L m r j k=if k<L.k then ((Cd L m r).getD (L.a+L.b+L.b+j) []).getD k 0 else EA L m r j k:=by
    split
    ·rename_i hkL
     rw [Xu hL h (by omega),yl,Qf,if_pos hkL]
     rfl
    ·rfl
   obtain ⟨F,hF⟩:=zEX (Vu L.p L.k (2*L.k-1) be (pg L.p L.block qu qu.length) (ou L m r) (EA L m r) j);obtain ⟨P,hP⟩:=zEX (yg L.p be (j+1));rw [<- hF] at ih;rw [Vu,bh,Jk,Hz,<- hF,<- hP,oB];have hG:=BP (p:=L.p) (by omega) (Be L.p ((Cd L m r).getD (L.a+j) []) ((Cd L m r).getD (L.a+L.b+j) [])) ((Cd L m r).getD (L.a+L.b+L.b+j) []) k
   rw [<- NU hL h (by omega) hk] at hG
   generalize ((yj L.p (Be L.p ((Cd L m r).getD (L.a+j) []) ((Cd L m r).getD (L.a+L.b+j) [])) ((Cd L m r).getD (L.a+L.b+L.b+j) [])).getD k 0)=G at hG |-;have hR:Cg L.p ((((Gg L qu).getD k 0:Nat):Int)+((((bh L.p L.a L.b (Cd L m r) be j).getD k 0+G*P%L.p)%L.p:Nat):Int)) ((((Gg L qu).getD k 0:Nat):Int)+(((bh L.p L.a L.b (Cd L m r) be j).getD k 0:Nat):Int)+(G:Int)*(P:Int)):=by
    refine (Cg.rfl'.add ((Es _ _).trans (Cg.rfl'.add (KA _ _)))).trans (Cg.of_eq ?_);omega
   refine Cg.trans ?_ hR.symm;have h1:Cg L.p ((Kk L.p P F (ou L m r j) (2*L.k-1) k:Nat):Int) ((F k:Int)+(P:Int)*(ou L m r j k:Int)):=by
    rw [MG hk];exact (Es _ _).trans (Cg.rfl'.add (KA _ _))
   by_cases hkL:k<L.k
   ·rw [if_pos hkL] at hz
    rw [MG hkL];refine (Es _ _).trans ?_;refine (h1.add ((KA _ _).trans ((Nn L.p P (by omega)).mul Cg.rfl'))).trans ?_
    rw [hz];refine ((ih.add Cg.rfl').add Cg.rfl').trans ?_;refine Cg.trans (Cg.of_eq ?_) (Cg.rfl'.add (hG.mul Cg.rfl').symm)
    grind
   ·rw [CU hkL]
    refine h1.trans ?_;have Tg:((Cd L m r).getD (L.a+L.b+L.b+j) []).getD k 0=0:=ym (by rw [Xu hL h (by omega)];simp [yl];omega)
    rw [Tg] at hG;refine (ih.add Cg.rfl').trans ?_;refine Cg.trans (Cg.of_eq ?_) (Cg.rfl'.add (hG.mul Cg.rfl').symm)
    grind
 refine Cg.eq (p:=L.p) ((key _ zR).trans ?_) (aI (by omega) (fun k=>Mz (by omega) _ _ _) _ _) (Nat.mod_lt _ (by omega))
 exact (Es _ _).symm
theorem xD {L:Ja} (hL:Db L) {cs m r:List (List Nat)} (h:Kg L m r) (qe:∀ x∈cs,x.length=L.block) (Vf:cs.length=m.length) {co li qu:List Nat} (hc:co.length=L.k /\ ∀ y∈co,y<L.p) (hl:li.length=L.k+L.block-2 /\ ∀ y∈li,y<L.p) (hq:qu.length=L.block+2*L.queries-1) (al be:Nat) :
  Rq L (Pd L m r co al) (Nc L cs m r li) (pd L m r qu be)=true:=by
 have hp:=Va hL.p;rw [<- SJ hL h hc.1 hc.2,<- zL hL h qe Vf hl.1 hl.2,<- sM hL h hq];unfold Rq;simp only [List.length_map,List.length_range,decide_true,Bool.true_and,Bool.and_eq_true,List.all_eq_true,decide_eq_true_eq,List.mem_map,List.mem_range];refine ⟨⟨?_,?_⟩,?_⟩
 ·rintro x ⟨k,-,rfl⟩
  exact YL (by omega) (fun k=>Wg (by omega) hc.2 k) _ _
 ·rintro x ⟨k,-,rfl⟩
  refine aM (by omega) (fun k=>?_) _ _
  cases k with
  | zero=>exact bE (by omega) _ _
  | succ k=>exact Wg (by omega) hl.2 k
 ·rintro x ⟨k,-,rfl⟩
  exact aI (by omega) (fun k=>Mz (by omega) _ _ _) _ _
end Go.Proofs.YtgeofabpinfcmaaGreat
