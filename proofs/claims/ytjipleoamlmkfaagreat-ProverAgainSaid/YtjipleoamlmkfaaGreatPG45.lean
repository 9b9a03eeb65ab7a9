/- A part of the proof. No condition. -/
import Derived.Test.YtjipleoamlmkfaaGreatProg
import Derived.Test.YtjipleoamlmkfaaGreatPG41
import Derived.Carry
import Derived.Deep.AppendLies
import Derived.Laws.OwnMore
import Derived.Maps.OwnSet
import Derived.Maps.Views
import Derived.Test.YtjipleoamlmkfaaGreatPG43
import Derived.Test.YtjipleoamlmkfaaGreatPG33

set_option maxRecDepth 100000
set_option maxHeartbeats 8000000
set_option linter.unusedVariables false
set_option linter.unusedSimpArgs false
namespace Go.Proofs.YtjipleoamlmkfaaGreat
open Go.RowKit Go.Maps
theorem bQ (g:Nat) (L:Va) (j:Nat) (hL:Vc L) (hn:L.n=2^j) (hj:j <= 10) (p pub:Nat) (vars:Int) (T B:Option Addr) (R cT m d:Nat) (l:List Nat) (P:Ce) (S:PS) (w:World)
  (hl:RWd w [.slice B m d] l) (hP:Xg w P S) (Hk:(Bj L j P&&decide (m=pub)&&l.all (fun x=>decide (x<L.p)))=false) :
  Calls Tryz.prog 16 #[.pointer (some ⟨g,0,none⟩), .agg (Ua L),Ib p (pub:Int) vars (.slice T R cT), .slice B m d, .agg (Jc P S)] w fun e w' =>
   e= .returned (.tuple #[.agg #[.int .u64 0, .int .u64 0, .int .u64 0], .slice none 0 0]) /\ Below w.heap.size w w':=by
 obtain ⟨kl,kt,kp,kr,aa,Ra⟩:=Hy w 68 25 46 65 (Ua L) #[.int .u64 p, .int .i64 pub, .int .i64 vars, .slice T R cT] (Jc P S) #[.int .u64 0, .int .u64 0, .int .u64 0];have HV:=zH (fun w1 (hb:Below w.heap.size w w1)=>zJ L j P S w1 hL hn hj (rk hP hb))
 have Vp:=zH (fun w1 (hb:Below w.heap.size w w1)=>xA B m d l L.p w1 (ib hb hl))
 obtain ⟨bv,hbv⟩:=zEX (Bj L j P);obtain ⟨bl,Za⟩:=zEX (l.all (fun x=>decide (x<L.p)))
 rw [<- hbv,<- Za] at Hk;rw [<- hbv] at HV;rw [<- Za] at Vp;clear hl hP hL hn hj hbv Za Ra;unfold Ua Jc Ib at *;go_enter Tryz.func16,Tryz.ntmps16
 go_upto_region 1 with fail
 generalize (((w.alloc _).alloc _).alloc _).alloc _=w1 at kl kt kp kr aa |-;have cl:=kl.cell;have cp:=kp.cell;go_wp2_with fail
 refine (HV.out w1 aa).mono ?_;rintro e w2 ⟨rfl,xa⟩;replace kl:=ea kl xa;replace kt:=ea kt xa;replace kp:=ea kp xa;replace kr:=ea kr xa;replace aa:=ja aa xa;clear cl cp xa;have ct:=kt.cell;have cl:=kl.cell;have cr:=kr.cell;have fr:=kr.frozen;have kf:=Sw [.int .u64 0, .int .u64 0, .int .u64 0] kr rfl;have Ik:=pK (xs:=[.int .u64 0, .int .u64 0, .int .u64 0]) (g:=w.heap.size+3) aa (by omega)
 simp only [ng,Nat.zero_add,Nat.reduceAdd] at kf Ik;have HF:=zH (And.intro kf Ik);clear kf Ik;cases bv
 ·clear Hk
  go_wp2;generalize World.setCell (World.setCell (World.setCell w2 _ _) _ _) _ _=wf at HF |-;have cf:=HF.out.1.cell;exact bodyPost_ret (by simp [results,Tryz.results16,go_sem,cf]) rfl ⟨rfl,HF.out.2⟩
 by_cases hm:m=pub
 ·have d1:((m:Int) != (pub:Int))=false:=by simp [hm]
  have hb:bl=false:=by simpa [hm] using Hk
  subst hb;clear Hk hm;go_wp2_with fail
  refine (Vp.out w2 aa).mono ?_;rintro e _ ⟨rfl,rfl⟩;go_wp2;generalize World.setCell (World.setCell (World.setCell w2 _ _) _ _) _ _=wf at HF |-;have cf:=HF.out.1.cell;exact bodyPost_ret (by simp [results,Tryz.results16,go_sem,cf]) rfl ⟨rfl,HF.out.2⟩
 ·have d1:((m:Int) != (pub:Int))=true:=by rw [bne_iff_ne];omega
  clear Hk hm;go_wp2;generalize World.setCell (World.setCell (World.setCell w2 _ _) _ _) _ _=wf at HF |-;have cf:=HF.out.1.cell;exact bodyPost_ret (by simp [results,Tryz.results16,go_sem,cf]) rfl ⟨rfl,HF.out.2⟩
end Go.Proofs.YtjipleoamlmkfaaGreat
namespace Go.Proofs.YtjipleoamlmkfaaGreat
open Go.RowKit Go.Maps
def Pn (real:Bool) (Fc:Nat):La:=if real then ⟨false,0,0,[]⟩ else ⟨true,Fc,0,[]⟩
abbrev yA (p:Nat) (pub vars:Int) (A B:Option Addr) (n c m d:Nat) (bl bw qs Ub:Int) (real:Bool) (Fc:Nat):Array Value :=
 #[.int .u64 p, .int .i64 pub, .int .i64 vars, .slice A n c, .int .i64 bl, .int .i64 bw, .int .i64 qs, .slice B m d, .int .u64 Ub, .bool real, .int .u64 Fc]
theorem zL (p:Nat) (pub vars:Int) (A B:Option Addr) (n c m d:Nat) (bl bw qs Ub:Int) (real:Bool) (Fc:Nat) (w:World) (hs:Fc<18446744073709551616) :
  Calls Tryz.prog 8 #[.agg (yA p pub vars A B n c m d bl bw qs Ub real Fc)] w fun e w'=>∃ g F,e= .returned (.pointer (some ⟨g,0,none⟩)) /\ OrcAt w' g (Pn real Fc) F /\ (∀ b,F b -> w.heap.size <= b) /\ Below w.heap.size w w':=by
 have kb:=Blk.new w 32 (yA p pub vars A B n c m d bl bw qs Ub real Fc);have hb:=(Below.refl w.heap.size w).alloc zR (.cells (yA p pub vars A B n c m d bl bw qs Ub real Fc) 32);have HI:=zH (fun w=>GN Fc w hs)
 unfold yA at *;clear hs;cases real
 ·go_enter Tryz.func8,Tryz.ntmps8
  go_wp2_with fail
  generalize w.alloc _=w1 at kb hb |-;refine (HI.out w1).mono ?_;rintro e w2 ⟨g,F,rfl,h2,hF,xa⟩;have Gc:=hb.size;replace hb:=ja hb xa;have HH:=zH (And.intro h2 (And.intro hF hb));clear h2 hF hb xa kb;go_wp2;go_ret
  exact ⟨g,F,rfl,HH.out.1,fun b hb=>Nat.le_trans Gc (HH.out.2.1 b hb),HH.out.2.2⟩
 ·go_enter Tryz.func8,Tryz.ntmps8
  go_wp2_with fail
  generalize w.alloc _=w1 at kb hb |-;refine (NR w1).mono ?_;rintro e w2 ⟨g,F,rfl,h2,hF,xa⟩;have Gc:=hb.size;replace hb:=ja hb xa;have HH:=zH (And.intro h2 (And.intro hF hb));clear h2 hF hb xa kb;go_wp2;go_ret
  exact ⟨g,F,rfl,HH.out.1,fun b hb=>Nat.le_trans Gc (HH.out.2.1 b hb),HH.out.2.2⟩
end Go.Proofs.YtjipleoamlmkfaaGreat
namespace Go.Proofs.YtjipleoamlmkfaaGreat
open Go.RowKit
theorem QR (real:Bool) (Fc:Nat) (h:Fc<18446744073709551616):jG (Pn real Fc) 0:=by
 cases real
 ·exact ⟨fun _ q hq=>by simp [Pn] at hq,fun q hq=>by simp [Pn] at hq,by simp [Pn,Qc],by simpa [Pn] using h⟩
 ·exact ⟨fun _ q hq=>by simp [Pn] at hq,fun q hq=>by simp [Pn] at hq,by simp [Pn,Qc],by simp [Pn]⟩
theorem lF {l:List Nat} {n:Int} {p:Nat} (h:Cj l n p=true):(l.length:Int)=n:=by
 unfold Cj at h;simp only [Bool.and_eq_true,beq_iff_eq] at h;exact h.2
theorem QQ {L:Va} {j:Nat} {P:Ce} (h:Bj L j P=true):P.code.length=L.k /\ P.linear.length=L.k+L.block-1 /\ P.quad.length=2*L.k-1:=by
 unfold Bj at h;simp only [Bool.and_eq_true] at h;have h1:=lF h.2.1;have h2:=lF h.2.2.1;have h3:=lF h.2.2.2.1;omega
theorem TQ {L:Va} {j:Nat} {P:Ce} (hL:Vc L) (h:Bj L j P=true):(P.code++P.linear++P.quad).length <= 100000:=by
 obtain ⟨h1,h2,h3⟩:=QQ h;have a:=hL.k;have b:=hL.b2;have c:=hL.q2;simp only [List.length_append];omega
def Ky (L:Va) (j pub:Nat) (l:List Nat) (P:Ce):Bool:=Bj L j P&&decide (l.length=pub)&&l.all fun x=>decide (x<L.p)
def qv (L:Va) (j pub:Nat) (O:La) (dg:Nat) (l:List Nat) (P:Ce):ChR:=if Ky L j pub l P then tk (ef O L dg l) L.p P.root else ⟨0,0,0⟩
def vq (L:Va) (j pub:Nat) (O:La) (dg:Nat) (l:List Nat) (P:Ce):List Nat:=if Ky L j pub l P then Zr (ve (ef O L dg l) P.root) (P.code++P.linear++P.quad) L.n L.queries else []
def uv (L:Va) (j pub:Nat) (O:La) (dg:Nat) (l:List Nat) (P:Ce):La:=if Ky L j pub l P then Li (ve (ef O L dg l) P.root) (P.code++P.linear++P.quad) L.queries else O
theorem EI (s:Tr) (all:List Nat) (n q:Nat) (h:q <= n):(Zr s all n q).length=q:=DI _ _ _ _ _ h
theorem aQ {w:World} {g:Nat} {O:La} {F K:Nat -> Prop} (h:OrcAt w g O F) (L:Va) (j:Nat) (hL:Vc L) (hn:L.n=2^j) (hj:j <= 10) (p:Nat) (pub:Nat) (vars:Int) (T B:Option Addr) (R cT m d:Nat) (rows:List Ya) (l:List Nat) (P:Ce) (S:PS)
  (hr:RSl 3 Md w [.slice T R cT] rows) (hD:Du p (pub:Int) vars rows) (Ia:Gb p (pub:Int) vars rows=true) (hl:RWd w [.slice B m d] l) (hP:Hd K w fun u=>Xg u P S) (hK:∀ b,K b -> ¬F b) (hO:Qc O 700000) (fw:m <= 90000) :
  Calls Tryz.prog 16 #[.pointer (some ⟨g,0,none⟩), .agg (Ua L),Ib p (pub:Int) vars (.slice T R cT), .slice B m d, .agg (Jc P S)] w fun e w' =>
   ∃ A' dd F',e= .returned (.tuple #[.agg #[.int .u64 ((qv L j pub O (pd p (pub:Int) vars rows) l P).al:Int), .int .u64 ((qv L j pub O (pd p (pub:Int) vars rows) l P).rh:Int), .int .u64 ((qv L j pub O (pd p (pub:Int) vars rows) l P).be:Int)], .slice A' (vq L j pub O (pd p (pub:Int) vars rows) l P).length dd]) /\
    OrcAt w' g (uv L j pub O (pd p (pub:Int) vars rows) l P) F' /\ Moved F F' w w' /\
    w'.ownsRow w.heap.size 3 1 (.slice A' (vq L j pub O (pd p (pub:Int) vars rows) l P).length dd) (vq L j pub O (pd p (pub:Int) vars rows) l P).length (sg (Hh (vq L j pub O (pd p (pub:Int) vars rows) l P))):=by
 have Bh:=(zb hl).1;cases hc:Ky L j pub l P
 ·have h1:qv L j pub O (pd p (pub:Int) vars rows) l P=⟨0,0,0⟩:=by unfold qv;rw [hc];rfl
  have h2:vq L j pub O (pd p (pub:Int) vars rows) l P=[]:=by unfold vq;rw [hc];rfl
  have h3:uv L j pub O (pd p (pub:Int) vars rows) l P=O:=by unfold uv;rw [hc];rfl
  rw [h1,h2,h3];refine (bQ g L j hL hn hj p pub vars T B R cT m d l P S w hl (dj hP) (by rw [Bh];exact hc)).mono fun e w' ⟨he,hb⟩=>?_
  exact ⟨none,0,F,he,h.below hb,Ic hb,⟨rfl, .inl ⟨rfl,rfl⟩⟩⟩
 ·have h1:qv L j pub O (pd p (pub:Int) vars rows) l P=tk (ef O L (pd p (pub:Int) vars rows) l) L.p P.root:=by unfold qv;rw [hc];rfl
  have h2:vq L j pub O (pd p (pub:Int) vars rows) l P=Zr (ve (ef O L (pd p (pub:Int) vars rows) l) P.root) (P.code++P.linear++P.quad) L.n L.queries:=by unfold vq;rw [hc];rfl
  have h3:uv L j pub O (pd p (pub:Int) vars rows) l P=Li (ve (ef O L (pd p (pub:Int) vars rows) l) P.root) (P.code++P.linear++P.quad) L.queries:=by unfold uv;rw [hc];rfl
  unfold Ky at hc;simp only [Bool.and_eq_true,decide_eq_true_eq] at hc;have hlen:(vq L j pub O (pd p (pub:Int) vars rows) l P).length=L.queries:=by rw [h2];exact EI _ _ _ _ (by have:=hL.nk;have:=hL.k;omega)
  rw [hlen,h1,h2,h3];refine (cQ h L j hL hn hj (nc hL.p).2 p pub vars T B R cT m d rows l P S hr hD Ia hl hP hK hO hc.1.1 (by omega) fw hc.2 (TQ hL hc.1.1) (dj hP).root).mono fun e w' ⟨gr,dd,F',he,ho,hm,hw,_⟩=>?_
  exact ⟨some ⟨gr,0,none⟩,dd,F',he,ho,hm,hw⟩
end Go.Proofs.YtjipleoamlmkfaaGreat
namespace Go.Proofs.YtjipleoamlmkfaaGreat
open Go.RowKit Go.Maps
theorem YL (q:Qn) (A:Option Addr) (n c:Nat) (w:World) (hl:RWd w [.slice A n c] q.el) (hlen:q.el.length <= 10000000) :
  Calls Tryz.prog 57 #[.agg #[.int .u64 q.lab, .slice A n c, .int .u64 q.ans]] w fun e w'=>∃ A' c',e= .returned (.agg #[.int .u64 q.lab, .slice A' n c', .int .u64 q.ans]) /\ w'.ownsRow w.heap.size 22 1 (.slice A' n c') n (Ca q.el) /\ Below w.heap.size w w':=by
 obtain ⟨kx,kr,aa,Ra⟩:=ah w 133 133 #[.int .u64 q.lab, .slice A n c, .int .u64 q.ans] #[.int .u64 0, .slice none 0 0, .int .u64 0];have HC:=zH (fun w1 (hb:Below w.heap.size w w1)=>VG A n c q.el w1 (ib hb hl) hlen)
 clear hl hlen Ra;go_enter Tryz.func57,Tryz.ntmps57
 go_upto_region 1 with fail
 generalize (w.alloc _).alloc _=w1 at kx kr aa |-;have cx:=kx.cell;have lx:=kx.lt;have ne:w.heap.size≠w.heap.size+1:=by omega
 have KR:=zH kr;have HB:=zH aa;clear kx kr aa;refine Pc (tg (w.heap.size+1)) [4,8] [0,1,2,3,5,6,4,7,8] (by kernel_rfl) (by kernel_rfl) ?_
 refine bf (tc (w.heap.size+1)) ?_;intro Wc Ba da;have fe:=zH (show Blk Wc _ _ _ by rw [Ba.out];exact KR.out.drew)
 have sc:=zH (show Below w.heap.size w Wc by rw [Ba.out];exact HB.out.drew)
 clear Ba KR HB;refine Tg ?_;refine oc (tc (w.heap.size+1)) rfl rfl rfl (fun _=>by go_simp <;> rfl) ((HC.out Wc sc.out).mono ?_)
 rintro e w2 ⟨v,rfl,ma,xa⟩;refine ⟨_,rfl,pk xa,?_⟩;replace da:=(tc (w.heap.size+1)).trans _ _ _ da (pk xa);simp only [Act.put,zLa,zLb,zLc];have hv:∃ A' c',v= .slice A' n c':=by obtain ⟨A',c',e,-⟩:=Tb ma;exact ⟨A',c',e⟩
 obtain ⟨A',c',rfl⟩:=hv;have Oc:=fe.out.below xa fe.out.lt;have OW:=zH (mg ma sc.out.size);have OWE:=zH (RE ma Oc (by decide))
 have ym:=zH (ja sc.out xa);have cr:=Oc.cell;have fr:=Oc.frozen;clear ma xa fe;refine Tg ?_;refine de (tc (w.heap.size+1)) rfl rfl rfl ?_;go_simp;refine ⟨qK [.int .u64 q.lab, .slice A' n c', .int .u64 q.ans] 0 _,?_⟩
 try simp only [Act.put,zLa,zLb,zLc]
 refine pc ?_;have kf:=Sw [.int .u64 q.lab, .slice A' n c', .int .u64 q.ans] Oc rfl;have Ik:=pK (xs:=[.int .u64 q.lab, .slice A' n c', .int .u64 q.ans]) (g:=w.heap.size+1) ym.out (Nat.le_succ _);have owf:=zg OW.out (u:=ng w2 (w.heap.size+1) [.int .u64 q.lab, .slice A' n c', .int .u64 q.ans] 0) fun b hb=>Xr (fun e=>OWE.out b hb (by rw [e])) _ 0 w2
 simp only [ng,Nat.zero_add,Nat.reduceAdd] at kf Ik owf;generalize World.setCell (World.setCell (World.setCell w2 _ _) _ _) _ _=wf at kf Ik owf |-;have cf:=kf.cell;clear cr fr da cx;go_wp2;exact bodyPost_ret (by simp [results,Tryz.results57,go_sem,cf]) rfl ⟨A',c',rfl,owf,Ik⟩
end Go.Proofs.YtjipleoamlmkfaaGreat
namespace Go.Proofs.YtjipleoamlmkfaaGreat
open Go.RowKit
def bg (n:Nat) (f:Nat -> Nat -> Value):Array Value:=(Array.range (n*3)).map fun i=>f (i / 3) (i%3)
theorem pH (n:Nat) (f:Nat -> Nat -> Value):(bg n f).size=n*3:=by simp [bg]
theorem NA {n k j:Nat} (f:Nat -> Nat -> Value) (hk:k<n) (hj:j<3):(bg n f)[k*3+j]?=some (f k j):=by
 have h1:k*3+j<n*3:=by omega
 have h2:(k*3+j) / 3=k:=by omega
 have h3:(k*3+j)%3=j:=by omega
 simp [bg,h1,h2,h3]
theorem oH {n:Nat} {f g:Nat -> Nat -> Value} (h:∀ k j,k<n -> j<3 -> f k j=g k j):bg n f=bg n g:=by
 apply Array.ext
 ·simp [bg]
 ·intro i h1 h2
  simp only [pH] at h1;simp only [bg,Array.getElem_map,Array.getElem_range];exact h _ _ (by omega) (by omega)
theorem qD {n:Nat} (f:Nat -> Nat -> Value) (k j:Nat) (hj:j<3) (v:Value):(bg n f).setIfInBounds (k*3+j) v=bg n (fun k' j'=>if k'=k /\ j'=j then v else f k' j'):=by
 apply Array.ext
 ·simp [bg]
 ·intro i h1 h2
  simp only [pH] at h2;rw [Array.getElem_setIfInBounds (by simpa [bg] using h2)]
  simp only [bg,Array.getElem_map,Array.getElem_range];by_cases e:k*3+j=i
  ·rw [if_pos e,if_pos (by omega)]
  ·rw [if_neg e,if_neg (by omega)]
def Qp (j:Nat):Value:=if j=1 then .slice none 0 0 else .int .u64 0
theorem SM {n i:Nat} (cs:Nat -> Nat -> Value) (x y z:Value) :
  (((bg n fun k j=>if k<i then cs k j else Qp j).setIfInBounds (i*3) x).setIfInBounds (i*3+1) y).setIfInBounds (i*3+2) z =
   bg n fun k j=>if k<i+1 then (if k=i then (if j=0 then x else if j=1 then y else z) else cs k j) else Qp j:=by
 have h0:=qD (n:=n) (fun k j=>if k<i then cs k j else Qp j) i 0 (by omega) x
 rw [Nat.add_zero] at h0;rw [h0,qD _ i 1 (by omega) y,qD _ i 2 (by omega) z]
 refine oH fun k j hk hj=>?_
 by_cases e:k=i
 ·subst e
  rcases (show j=0 \/ j=1 \/ j=2 by omega) with e | e | e <;> subst e <;> simp
 ·by_cases e2:k<i
  ·simp [e,e2,show k<i+1 by omega]
  ·simp [e,e2,show ¬k<i+1 by omega]
theorem VN:(Tryz.prog.info? 133).map (fun i=>(i.zero,i.size,i.bytes))=some (some (.agg #[.int .u64 0, .slice none 0 0, .int .u64 0]),3,40):=by kernel_rfl
theorem el_qn:Gj Tryz.prog 51 133 3 40 (.agg #[.int .u64 0, .slice none 0 0, .int .u64 0]):=by
 obtain ⟨i0,hi,Ff,Zb,td⟩:=info_parts VN;exact ⟨Tryz.underlying51,⟨i0,hi,Ff,Zb,td⟩,rfl,by omega⟩
theorem JO (n:Nat):madeCells (Value.agg #[.int .u64 0, .slice none 0 0, .int .u64 0]).cells (n*3)=bg n fun _ j=>Qp j:=by
 rw [show (Value.agg #[.int .u64 0, .slice none 0 0, .int .u64 0]).cells=#[.int .u64 0, .slice none 0 0, .int .u64 0] from rfl]
 unfold madeCells bg;apply Array.ext
 ·simp
 ·intro i h1 h2
  simp only [Array.getElem_map,Array.getElem_range];show ((#[Value.int .u64 0, .slice none 0 0, .int .u64 0])[i%3]!)=Qp (i%3)
  rcases (show i%3=0 \/ i%3=1 \/ i%3=2 by omega) with e | e | e <;> rw [e] <;> rfl
theorem RO (n:Nat) (hn:n <= 1000000) (w:World) :
  (Instr.makeSlice 51 (.int .i64 n) (.int .i64 n)).run Tryz.prog w= .ok (.slice (some ⟨w.heap.size,0,none⟩) n n) (w.alloc (.cells (bg n fun _ j=>Qp j) 133)):=by
 have:=vB (P:=Tryz.prog) el_qn n (by omega) (by omega) w
 rw [JO] at this;exact this
theorem DP {w:World} {g:Nat} {O:La} {F:Nat -> Prop} {v:Value} {cs:List Value} {km sm pm:Nat} {E:Nat -> Prop} (h:OrcIn w g O F v cs km sm pm E) (hE:∀ q∈O.qs,q.lab<18446744073709551616 /\ q.ans<18446744073709551616):RQs w [v] O.qs :=
 kS h.own rfl fun i hi=>by
  have hq:O.qs[i]?=some O.qs[i]:=List.getElem?_eq_getElem hi;obtain ⟨h1,h2,s,h3,h4⟩:=h.rows.2 i _ hq;have hl:=h.rows.1;have hb:=hE _ (List.getElem_mem hi);refine ⟨s,?_,h4 w (fun _ _ _=>rfl),hb.1,hb.2⟩
  refine List.ext_getElem? fun j=>?_
  rw [List.getElem?_take];by_cases hj:j<3
  ·rw [if_pos hj,List.getElem?_drop]
   rcases (show j=0 \/ j=1 \/ j=2 by omega) with e | e | e <;> subst e
   ·exact h1
   ·exact h3
   ·exact h2
  ·rw [if_neg hj,List.getElem?_eq_none (by simp;omega)]
end Go.Proofs.YtjipleoamlmkfaaGreat
namespace Go.Proofs.YtjipleoamlmkfaaGreat
open Go.RowKit Go.Maps
theorem RJ {w:World} {g:Nat} {O:La} {F:Nat -> Prop} (h:OrcAt w g O F) (hl:O.qs.length <= 1000000) :
  Calls Tryz.prog 15 #[.pointer (some ⟨g,0,none⟩)] w fun e w'=>∃ gq,e= .returned (.slice (some ⟨gq,0,none⟩) O.qs.length O.qs.length) /\ RQs w' [.slice (some ⟨gq,0,none⟩) O.qs.length O.qs.length] O.qs /\ Below w.heap.size w w':=by
 have tp:=h.ok.qs;obtain ⟨v,cs,km,sm,pm,E,Pb⟩:=h;have hc:=Pb.blk.cell;have hg:=Pb.blk.lt;obtain ⟨A,n,c,hv,hlen,Sc,Gd,ra⟩:=DP Pb fun q hq=>⟨(tp q hq).lab,Ti (tp q hq).ans⟩
 simp at hv
 subst hv;have HQN:=zH tp;have hnl:n <= 1000000:=by omega
 rw [hlen];have Qe:=zH hlen;have gm:=uj Sc Gd;clear tp Pb hl hlen Gd;obtain ⟨zc,Ei⟩:=zEX (bg n fun _ j=>Qp j)
 have pe:=fun w=>RO n hnl w
 rw [<- Ei] at pe;have Ps:=zH Ei;clear Ei;go_enter Tryz.func15,Tryz.ntmps15
 go_wp2_with fail
 have ia:=(Below.refl w.heap.size w).alloc zR (.cells zc 133);have kq:=Blk.new w 133 zc;generalize w.alloc _=w1 at ia kq |-;generalize hgq:w.heap.size=gq at kq;have HGQ:=zH hgq;rw [Ps.out,show (bg n fun _ j=>Qp j)=bg n (fun k j=>if k<0 then undef else Qp j) from oH fun k j _ _=>by rw [if_neg (by omega)]] at kq
 have tl:=zH hgq.symm;clear pe hgq hc;go_loopw [17] (fun y wr=>∃ (i:Nat) (cs:Nat -> Nat -> Value),i <= n /\ y= .int .i64 i /\ Blk wr gq 133 (bg n fun k j=>if k<i then cs k j else Qp j) /\
  Hid (∀ k,k<i -> ∀ q,O.qs[k]?=some q -> Hd (fun b=>gq<b) wr fun u=>RQn u [cs k 0,cs k 1,cs k 2] q) /\ Below w.heap.size w wr) (fun y _=>n-(intOf y).toNat)
 case atStart=>exact ⟨0,fun _ _=>undef,Nat.zero_le _,rfl,kq,fun k hk=>by omega,ia⟩
 case round =>
  clear kq ia;obtain ⟨i,cq,hi,rfl,kq,HR,Qa⟩:=hrel;by_cases oa:i<n
  ·have g1:(0:Int) <= (i:Int):=by omega
   have g2:(i:Int)<(n:Int):=by omega
   obtain ⟨b1,q1,A1,n1,c1,l1,a1,qe,hqe,rfl,x0,x1,x2,Gc,Vy,Cm⟩:=jS (ra.below aO Qa) (show i<O.qs.length by rw [Qe.out];exact oa)
   obtain ⟨rfl,rfl,hlb,Nq⟩:=Cm;have HC:=zH (fun w1 (hb:Below wr.heap.size wr w1)=>YL qe A1 n1 c1 w1 (ib hb Gc) (by have:=(HQN.out qe (List.mem_of_getElem? hqe)).len;omega))
   have HQE:=zH hqe;have HLB:=zH (And.intro hlb Nq);have Iu:=zH (zb Gc).2.2.2.1;have Fb:=zH oa;clear Gc hqe hlb Nq oa;have ia:=(Below.refl wr.heap.size wr).alloc zR (.cells #[.int .u64 qe.lab, .slice A1 n1 c1, .int .u64 qe.ans] 133);have kx:=Blk.new wr 133 #[.int .u64 qe.lab, .slice A1 n1 c1, .int .u64 qe.ans];have Wo:gq<wr.heap.size:=kq.lt;have Jj:=zH (fun k hk q hq=>Mc (HR.out k hk q hq) (vf ia))
   replace kq:=ea kq ia;replace Qa:=ja Qa ia;go_upto_region 5 with fail
   generalize wr.alloc _=w2 at kx kq Qa ia Jj |-;have cx:=kx.cell;go_wp2_with fail
   refine (HC.out w2 ia).mono ?_;rintro e w3 ⟨A4,c4,rfl,ma,Ga⟩;have hgw2:gq<w2.heap.size:=kq.lt;have Ks:=zH (fun k hk q hq=>Mc (Jj.out k hk q hq) (vf Ga))
   replace kq:=ea kq Ga;replace Qa:=ja Qa Ga;have c0:w3.cell? ⟨gq,i*3,none⟩=_:=(kq.cell (i*3)).trans (NA (j:=0) _ Fb.out (by omega))
   have Ph:w3.cell? ⟨gq,i*3+1,none⟩=_:=(kq.cell (i*3+1)).trans (NA (j:=1) _ Fb.out (by omega))
   have Pm:w3.cell? ⟨gq,i*3+2,none⟩=_:=(kq.cell (i*3+2)).trans (NA (j:=2) _ Fb.out (by omega))
   have fq:=kq.frozen;have kq2:=((kq.set_ (i*3) (.int .u64 qe.lab)).set_ (i*3+1) (.slice A4 n1 c4)).set_ (i*3+2) (.int .u64 qe.ans);rw [SM] at kq2;have hwg:w.heap.size <= gq:=Nat.le_of_eq tl.out.symm;have RA:=((Qa.setCell (p:=⟨gq,i*3,none⟩) hwg (.int .u64 qe.lab)).setCell (p:=⟨gq,i*3+1,none⟩) hwg (.slice A4 n1 c4)).setCell (p:=⟨gq,i*3+2,none⟩) hwg (.int .u64 qe.ans);have ag:Vf (fun b=>gq<b) w3 (((w3.setCell ⟨gq,i*3,none⟩ (.int .u64 qe.lab)).setCell ⟨gq,i*3+1,none⟩ (.slice A4 n1 c4)).setCell ⟨gq,i*3+2,none⟩ (.int .u64 qe.ans)) :=
    Ey (Ey (Dy (Nat.lt_irrefl gq)) (Dy (Nat.lt_irrefl gq))) (Dy (Nat.lt_irrefl gq))
   have ko:=zH (show Hd (fun b=>gq<b) w3 (fun u=>RQn u [.int .u64 qe.lab, .slice A4 n1 c4, .int .u64 qe.ans] qe) from MD (EN (Yy ma) fun b hb=>by have:=(ma.lt b hb).1;omega) fun u hu=>⟨_,rfl,Fh hu Iu.out,HLB.out.1,HLB.out.2⟩)
   have DN:=zH (And.intro kq2 (And.intro RA ag));clear kq2 RA ag ma Ga kq Qa cx kx ia HC;go_wp2
   go_roundw
   case rel =>
    obtain ⟨kq2,RA,ag⟩:=DN.out;refine ⟨i+1,fun k j=>if k=i then (if j=0 then .int .u64 qe.lab else if j=1 then .slice A4 n1 c4 else .int .u64 qe.ans) else cq k j,Fb.out,by go_num,kq2,fun k hk q hq=>?_,RA⟩
    by_cases e:k=i
    ·subst e
     rw [HQE.out] at hq
     injection hq with hq
     subst hq
     simpa using Mc ko.out ag
    ·simp only [if_neg e]
     exact Mc (Ks.out k (by omega) q hq) ag
   case measure=>have:=Fb.out;simp [intOf];omega
  ·obtain rfl:i=n:=by omega
   go_wp2;go_ret
   refine ⟨gq,rfl,⟨some ⟨gq,0,none⟩,i,i,rfl,Qe.out,zR,by simp [maxLen];omega,fun k hk=>?_⟩,Qa⟩
   have Xq:k<i:=by rw [<- Qe.out];exact hk
   refine ⟨⟨gq,0,none⟩,[cq k 0,cq k 1,cq k 2],rfl,rfl,fun j hj=>?_,dj (HR.out k Xq _ (List.getElem?_eq_getElem hk))⟩
   have:=(kq.cell (k*3+j)).trans (NA (j:=j) _ Xq hj);rw [if_pos Xq] at this;rw [Kj,Nat.zero_add,this];rcases (show j=0 \/ j=1 \/ j=2 by omega) with e | e | e <;> subst e <;> rfl
end Go.Proofs.YtjipleoamlmkfaaGreat
