/- A part of the proof. No condition. -/
import Derived.Test.YtodmnanljoaocaaGreatPU7

set_option maxRecDepth 100000
set_option maxHeartbeats 8000000
set_option linter.unusedVariables false
set_option linter.unusedSimpArgs false
namespace Go.Proofs.YtodmnanljoaocaaGreat
open Go.RowKit Go.Maps
open Tryz
open Go renaming World->vv, Value->vw, Addr->vx, TypeId->vy, Calls->vA
open Go.Value renaming int->vd, slice->ve, agg->vf
open Go.IntKind renaming u64->vq, i64->vt
open Go.Ending renaming returned->vn
open Go.RowKit renaming Below->vz
open Go.World renaming setCell->vE
open Go.Act renaming put->vF
open Option renaming none->vB, some->vD
structure aJ (d:Nat) (ls:List (List Nat)):Prop where
 d10:d <= 10
 len:ls.length=d+1
 at_:∀ k,k <= d -> (ls.getD k []).length=2^(d-k)
theorem yX:∀ (d:Nat) (O:Oa) (l:List Nat),l.length=2^d -> (Ls d O l).length=d+1 /\ ∀ k,k <= d -> ((Ls d O l).getD k []).length=2^(d-k)
 | 0,O,l,h=>⟨rfl,fun k hk=>by
  obtain rfl:k=0:=by omega
  exact h⟩
 | d+1,O,l,h=>by
  have hn:(Mj O 17 (tp l)).length=2^d:=by rw [pR,rR,h,qj];omega
  obtain ⟨h1,h2⟩:=yX d (kd O 17 (tp l)) (Mj O 17 (tp l)) hn;refine ⟨by simp [Ls,h1],fun k hk=>?_⟩
  rcases k with _ | k
  ·exact h
  ·have:=h2 k zO
   simpa [Ls,show d+1-(k+1)=d-k by omega] using this
theorem zHR {d:Nat} (O:Oa) {l:List Nat} (hd:d <= 10) (h:l.length=2^d):aJ d (Ls d O l):=⟨hd,(yX d O l h).1,(yX d O l h).2⟩
theorem zGX {d:Nat} {ls:List (List Nat)} (h:aJ d ls):aI ls=(ls.getD d []).getD 0 0:=by
 unfold aI;have hl:=h.len;rw [List.getLastD_eq_getLast?,List.getLast?_eq_getElem?,Gc (l:=ls),show ls.length-1=d by omega]
theorem EW:∀ (ls:List (List Nat)) (i:Nat),Ay ls i=(List.range (ls.length-1)).map fun k=>(ls.getD k []).getD ((i / 2^k) ^^^ 1) 0
 | [],_=>rfl
 | [_],_=>rfl
 | l :: m :: r,i=>by
  rw [Ay,EW (m :: r) (i / 2)];simp only [pk,Nat.add_sub_cancel];rw [List.range_succ_eq_map,List.map_cons,List.map_map];simp only [List.getD_cons_zero,Nat.pow_zero,Nat.div_one,List.cons.injEq,true_and];refine NB fun k _=>?_
  simp only [Function.comp,List.getD_cons_succ,qj];rw [Nat.div_div_eq_div_mul,Jj 2]
theorem zIs:∀ b:Fin 1024,bits .xor vt (b.val:Int) 1=((b.val ^^^ 1:Nat):Int):=by decide +kernel
theorem LF {w:vv} {A:Option vx} {n c:Nat} {ls:List (List Nat)} (h:Ye w [ve A n c] ls) {i:Nat} (hi:i<ls.length) :
  ∃ b q A1 n1 c1,A=vD ⟨b,q,vB⟩ /\ b<w.1.size /\ w.cell? ⟨b,q+i,vB⟩=vD (ve A1 n1 c1) /\ n1=(ls.getD i []).length /\ RWd w [ve A1 n1 c1] (ls.getD i []):=by
 obtain ⟨b,q,A1,n1,c1,h1,h2,h3,h4⟩:=yp (Ki h).2.2.2 hi;have e:ls[i]=ls.getD i []:=by rw [Gc,Dc hi];rfl
 rw [e] at h4;exact ⟨b,q,A1,n1,c1,h1,h2,h3,(Mb h4).1,h4⟩
theorem zAC {d:Nat} {ls:List (List Nat)} (h:aJ d ls) {k:Nat} (hk:k <= d):0<(ls.getD k []).length:=by rw [h.at_ k hk];exact Nat.pow_pos zO
def RQn (w:vv) (cs:List vw) (q:Qn):Prop:=∃ s,cs=[vd vq q.lab,s,vd vq q.ans] /\ RWd w [s] q.el /\ q.lab<18446744073709551616 /\ q.ans<18446744073709551616
theorem RV:xz RQn:=fun w w' cs q hb h=>by
 obtain ⟨s,h1,h2,h3⟩:=h;exact ⟨s,h1,Sa hb h2,h3⟩
def Sd:vv -> List vw -> List Qn -> Prop:=RSl 3 RQn
theorem p4:xz Sd:=jg RV
theorem zGO {α:Type} {R:vv -> List vw -> α -> Prop} {sz:Nat} {w:vv} {A:Option vx} {l:List α} (db:0<sz) (h:RdL w sz R A l):∃ xs,Rd w sz A l.length xs /\ ∀ (i:Nat) (hi:i<l.length),R w ((xs.drop (i*sz)).take sz) l[i]:=by
 by_cases hl:0<l.length
 ·obtain ⟨a,Zg,rfl,-,-,-⟩:=h 0 hl
  have jv:∀ i j,i<l.length -> j<sz -> ∃ u,w.cell? (a.add (i*sz+j))=vD u:=fun i j hi hj=>by
   obtain ⟨a',cs,e,hlen,hc,-⟩:=h i hi
   injection e with e
   subst e;exact ⟨cs[j],by rw [hc j hj];exact Dc zO⟩
  have hget:∀ q,q<l.length*sz -> ((List.range (l.length*sz)).map fun q=>(w.cell? (a.add q)).getD undef)[q]?=w.cell? (a.add q):=fun q hq=>by
   obtain ⟨u,hu⟩:=jv (q / sz) (q%sz) (Nat.div_lt_of_lt_mul (by rw [Jj];exact hq)) (Ic _ db)
   rw [show q / sz*sz+q%sz=q by rw [Jj];exact PB q sz] at hu
   rw [List.getElem?_map,List.getElem?_range hq,hu];simp [hu]
  refine ⟨(List.range (l.length*sz)).map fun q=>(w.cell? (a.add q)).getD undef,⟨zS,fun _=>⟨a,rfl,fun q u hq=>?_⟩⟩,fun i hi=>?_⟩
  ·have ta:q<l.length*sz:=by
    have:=(List.getElem?_eq_some_iff.1 hq).1
    simpa using this
   rw [<- hget q ta];exact hq
  ·obtain ⟨a',cs,e,hlen,hc,hR⟩:=h i hi
   injection e with e
   subst e;have e2:(((List.range (l.length*sz)).map fun q=>(w.cell? (a.add q)).getD undef).drop (i*sz)).take sz=cs:=by
    refine List.ext_getElem? fun j=>?_
    rw [List.getElem?_take];split
    ·rename_i hj
     have ta:i*sz+j<l.length*sz:=by
      have:(i+1)*sz <= l.length*sz:=JD _ hi;rw [Nat.succ_mul] at this;omega
     rw [List.getElem?_drop,hget _ ta,hc j hj]
    ·rw [Kx zO]
   rw [e2];exact hR
 ·exact ⟨[],⟨by rw [show l.length=0 by omega];simp,fun h=>absurd h hl⟩,fun i hi=>absurd hi zO⟩
theorem R9 {α:Type} {R:vv -> List vw -> α -> Prop} {sz base n:Nat} {e:vy} {w:vv} {v:vw} {xs:List vw} {l:List α} (h:w.ownsRow base e sz v n xs) (hl:l.length=n)
  (hR:∀ (i:Nat) (hi:i<l.length),R w ((xs.drop (i*sz)).take sz) l[i]):RSl sz R w [v] l:=by
 obtain ⟨A,c,rfl,h1,h2,h3,-⟩:=mc h;refine ⟨A,n,c,rfl,hl,h1,h2,fun i hi=>?_⟩
 obtain ⟨ad,rfl,hc⟩:=h3.2 zO;have ta:(i+1)*sz <= xs.length:=by rw [h3.1];exact JD _ zO
 rw [Nat.succ_mul] at ta;refine ⟨ad,(xs.drop (i*sz)).take sz,rfl,by rw [List.length_take,JB];omega,fun j hj=>?_,hR i hi⟩
 rw [List.getElem?_take,Gb hj,List.getElem?_drop,hc _ _ (Dc zO),Dc zO]
theorem L9 {w:vv} {A:Option vx} {qs:List Qn} (h:RdL w 3 RQn A qs) {i:Nat} (hi:i<qs.length):∃ b q A1 n1 c1 lq aq qe,qs[i]?=vD qe /\ A=vD ⟨b,q,vB⟩ /\ w.cell? ⟨b,q+i*3,vB⟩=vD (vd vq ((lq:Nat):Int)) /\
  w.cell? ⟨b,q+i*3+1,vB⟩=vD (ve A1 n1 c1) /\ w.cell? ⟨b,q+i*3+2,vB⟩=vD (vd vq ((aq:Nat):Int)) /\ RWd w [ve A1 n1 c1] qe.el /\ b<w.1.size /\ (qe.lab=lq /\ qe.ans=aq /\ lq<18446744073709551616 /\ aq<18446744073709551616):=by
 obtain ⟨b,q,rfl⟩:=h.base zO zO;obtain ⟨cs,-,hc,s,rfl,hs,La,Da⟩:=h.get hi;have c0:=hc 0 zO;have c1:=hc 1 zO;have c2:=hc 2 zO;obtain ⟨A1,n1,tk,Nc,-⟩:=id hs
 injection Nc with Nc _
 subst Nc;have Zb:=Af _ _ c1;exact ⟨b,q,A1,n1,tk,qs[i].lab,qs[i].ans,qs[i],Dc hi,rfl,c0,c1,c2,hs,Zb,rfl,rfl,La,Da⟩
theorem RQn.one {w:vv} {cs:List vw} {q:Qn} (h:RQn w cs q):∀ u∈cs,u.oneCell'=true:=by
 obtain ⟨s,rfl,⟨A,n,c,e,-⟩,-⟩:=h
 injection e with e _
 subst e;intro u hu;simp at hu
 rcases hu with rfl | rfl | rfl <;> rfl
theorem O9 {w:vv} {xs:List vw} {l:List Qn} (hx:xs.length=l.length*3) (h:∀ (i:Nat) (hi:i<l.length),RQn w ((xs.drop (i*3)).take 3) l[i]):∀ u∈xs,u.oneCell'=true:=fun u hu=>by
 obtain ⟨q,hq,rfl⟩:=jt hu;have hi:q / 3<l.length:=by omega
 refine RQn.one (h (q / 3) hi) _ ?_;refine List.mem_of_getElem? (i:=q%3) ?_;rw [List.getElem?_take,Gb zO,List.getElem?_drop,show q / 3*3+q%3=q by omega,Dc hq]
theorem zCi (n:Nat) (w:vv) :
  vA prog 186 #[vd vq n] w fun e w'=>e=vn (.bool (decide (n<Ob))) /\ vz w.1.size w w':=by
 have HD:Hid (decide (n<Ob)=decide ((n:Int)<18446744069414584321)):=by
  unfold Hid Ob;by_cases h:n<18446744069414584321
  ·rw [Qb h,Qb zO]
  ·rw [Ib h,Ib zO]
 rw [HD.out];go_enter func186,ntmps186
 go_wp2;go_ret
 exact ⟨rfl,Bb _ _⟩
theorem vQ (A:Option vx) (n c:Nat) (l:List Nat) (w:vv) (hl:RWd w [ve A n c] l) :
  vA prog 104 #[ve A n c] w fun e w'=>e=vn (.bool (Uc l)) /\ vz w.1.size w w':=by
 obtain ⟨rfl,h1,h2,h3,hr⟩:=Mb hl;have gm:=Mh h1 h2;have HE:=zH (fun n w=>zCi n w)
 obtain ⟨n,hn⟩:=zEX (l.length);rw [<- hn] at gm hr |-;have HN:=zH hn;clear hl h1 h2 h3 hn;go_enter func104,ntmps104
 go_wp2_with fail
 go_loopw [3] (fun y wr=>∃ i:Nat,i <= n /\ y=vd vt i /\ Hid (∀ k<i,l.getD k 0<Ob) /\ vz w.1.size w wr) (fun y _=>n-(intOf y).toNat)
 case atStart=>exact ⟨0,Rb _,rfl,fun k hk=>zO,Bb _ _⟩
 case round =>
  obtain ⟨i,hi,rfl,HT,Wa⟩:=hrel;by_cases ta:i<n
  ·have g1:(0:Int)<=i:=by omega
   have g2:(i:Int)<n:=by omega
   have q1:=hr.below Wa;rw [HN.out] at q1;obtain ⟨x1,y1,rfl,v1,d1⟩:=Ve q1 (j:=i) (by rw [<- HN.out];exact ta)
   have Pc:=zH ta;clear q1 ta;obtain ⟨z,hz⟩:=zEX (l.getD i 0);rw [<- hz] at d1;have HZ:=zH hz;clear hz;go_wp2_with fail
   refine (HE.out z wr).mono ?_;rintro e w2 ⟨rfl,Da⟩;replace Wa:=pa Wa Da;by_cases hq:z<Ob
   ·have dq:=Qb hq
    have zx:=zH (show ∀ k<i+1,l.getD k 0<Ob from fun k hk=>by
     by_cases e:k<i
     ·exact HT.out k e
     ·obtain rfl:k=i:=by omega
      rw [<- HZ.out];exact hq)
    clear hq HT;go_wp2
    go_roundw
    case rel=>exact ⟨i+1,Pc.out,by go_num,zx.out,Wa⟩
    case measure=>have:=Pc.out;simp [intOf];omega
   ·have dq:=Ib hq
    have HF:=zH (show Uc l=false from List.all_eq_false.2 ⟨z,by rw [HZ.out];exact bM 0 (by rw [<- HN.out];exact Pc.out),by simp [hq]⟩)
    clear hq;go_wp2;go_ret
    exact ⟨by rw [HF.out];rfl,Wa⟩
  ·obtain rfl:n=i:=by omega
   have HF:=zH (show Uc l=true from Wg.2 fun x hx=>by
    obtain ⟨k,hk,rfl⟩:=jt hx;have:=HT.out k (by rw [HN.out];exact hk)
    rw [Gc,Dc hk] at this;exact Qb this)
   go_wp2;go_ret
   exact ⟨by rw [HF.out];rfl,Wa⟩
def OG (qs:List Qn) (lab:Nat) (el:List Nat):Int:=match qs.findIdx? (aj lab el) with
 | some i=>(i:Int)
 | none=>-1
theorem zCF {qs:List Qn} {lab:Nat} {el:List Nat} {i:Nat} {q:Qn} (hi:qs[i]?=vD q) (h0:∀ k,k<i -> ∀ q,qs[k]?=vD q -> aj lab el q=false) (h1:aj lab el q=true):OG qs lab el=(i:Int):=by
 obtain ⟨hl,rfl⟩:=List.getElem?_eq_some_iff.1 hi;have:qs.findIdx? (aj lab el)=vD i:=by
  rw [List.findIdx?_eq_some_iff_getElem];exact ⟨hl,h1,fun j hj=>by rw [h0 j hj _ (Dc zO)];exact Ss⟩
 unfold OG;rw [this]
theorem zCH {qs:List Qn} {lab:Nat} {el:List Nat} (h0:∀ k,k<qs.length -> ∀ q,qs[k]?=vD q -> aj lab el q=false):OG qs lab el=-1:=by
 have:qs.findIdx? (aj lab el)=vB:=by
  rw [List.findIdx?_eq_none_iff];intro x hx;obtain ⟨k,hk,rfl⟩:=jt hx;exact h0 k hk _ (Dc hk)
 unfold OG;rw [this]
theorem WZ (qs:List Qn) (lab:Nat) (el:List Nat):(OG qs lab el=-1 /\ oe qs lab el=vB) \/ ∃ (i:Nat) (h:i<qs.length),OG qs lab el=(i:Int) /\ oe qs lab el=vD qs[i].ans:=by
 unfold OG oe;cases h:qs.findIdx? (aj lab el) with
 | none =>
  rw [List.findIdx?_eq_none_iff] at h;refine .inl ⟨rfl,?_⟩;rw [List.find?_eq_none.2 fun x hx=>by rw [h x hx];exact Ss]
  rfl
 | some i =>
  rw [List.findIdx?_eq_some_iff_getElem] at h;obtain ⟨hi,h1,h2⟩:=h;refine .inr ⟨i,hi,rfl,?_⟩;have:qs.find? (aj lab el)=vD qs[i]:=by
   rw [List.find?_eq_some_iff_getElem];exact ⟨h1,i,hi,rfl,fun j hj=>by rw [uo];exact Bool.eq_false_iff.2 (h2 j hj)⟩
  rw [this]
  rfl
theorem VZ (A B:Option vx) (n c m d lab:Nat) (qs:List Qn) (el:List Nat) (w:vv) (hq:Sd w [ve A n c] qs) (hl:RWd w [ve B m d] el) :
  vA prog 189 #[ve A n c,vd vq lab,ve B m d] w fun e w'=>e=vn (vd vt (OG qs lab el)) /\ vz w.1.size w w':=by
 obtain ⟨A',n',c',he,hlen,Ce,Eg,Ka⟩:=hq;simp at he
 obtain ⟨rfl,rfl,rfl⟩:=he;have gm:=Mh Ce Eg;have HSm:=zH (fun A1 n1 c1 l1 w1 (hb:vz w.1.size w w1) (h1:RWd w1 [ve A1 n1 c1] l1)=>zHg A1 B n1 c1 m d l1 el w1 h1 (Sa hb hl))
 have HN:=zH hlen;clear hl Ce Eg hlen;go_enter func189,ntmps189
 go_wp2_with fail
 go_loopw [7] (fun y wr=>∃ i:Nat,i <= n /\ y=vd vt i /\ Hid (∀ k,k<i -> ∀ q,qs[k]?=vD q -> aj lab el q=false) /\ vz w.1.size w wr) (fun y _=>n-(intOf y).toNat)
 case atStart=>exact ⟨0,Rb _,rfl,fun k hk=>zO,Bb _ _⟩
 case round =>
  obtain ⟨i,hi,rfl,HT,Wa⟩:=hrel;by_cases ta:i<n
  ·have g1:(0:Int)<=i:=by omega
   have g2:(i:Int)<n:=by omega
   obtain ⟨b,q,A1,n1,tk,lq,aq,qe,BH,rfl,c0,c1,c2,hs,Zb,mD⟩:=L9 (Ka.below RV Wa) (show i<qs.length by rw [HN.out];exact ta)
   have HL:=zH ta;have ai:=zH (HSm.out A1 n1 tk qe.el wr Wa hs);have HQE:=zH BH;have HQ:=zH (show aj lab el qe=(decide (lq=lab)&&decide (qe.el=el)) by
    unfold aj;rw [mD.1]
    congr 1 <;> exact Bool.eq_iff_iff.2 zS)
   clear hs BH mD c2;have step:∀ (h:aj lab el qe=false),∀ k,k<i+1 -> ∀ q,qs[k]?=vD q -> aj lab el q=false:=fun h k hk q hq=>by
    by_cases e:k<i
    ·exact HT.out k e q hq
    ·obtain rfl:k=i:=by omega
     rw [HQE.out] at hq;cases hq
     exact h
   have STEP:=zH step;clear step;by_cases Yd:lq=lab
   ·have e1:((lq:Int)==lab)=true:=by rw [Qk];omega
    have hd:=zH (Qb Yd);clear Yd ta;go_wp2_with fail
    refine ai.out.mono ?_;rintro e w2 ⟨rfl,kk,rfl⟩;replace Wa:=IN Wa kk;cases Rj:decide (qe.el=el)
    ·have HQ2:=zH (show aj lab el qe=false by rw [HQ.out,Rj,Bool.and_false])
     clear Rj;go_wp2
     go_roundw
     case rel=>exact ⟨i+1,HL.out,by go_num,STEP.out HQ2.out,Wa⟩
     case measure=>have:=HL.out;simp [intOf];omega
    ·have HF:=zH (zCF HQE.out HT.out (show aj lab el qe=true by rw [HQ.out,hd.out,Rj];rfl))
     clear Rj;go_wp2;go_ret
     exact ⟨by rw [HF.out];rfl,Wa⟩
   ·have e1:((lq:Int)==lab)=false:=by rw [Je];omega
    have HQ2:=zH (show aj lab el qe=false by rw [HQ.out,Ib Yd,Bool.false_and])
    clear Yd ta;go_wp2
    go_roundw
    case rel=>exact ⟨i+1,HL.out,by go_num,STEP.out HQ2.out,Wa⟩
    case measure=>have:=HL.out;simp [intOf];omega
  ·obtain rfl:n=i:=by omega
   have HF:=zH (zCH (qs:=qs) (lab:=lab) (el:=el) fun k hk=>HT.out k (zQ HN.out))
   go_wp2;go_ret
   exact ⟨by rw [HF.out];rfl,Wa⟩
def Cc (w:vv) (g:Nat):List vw -> Nat -> vv
 | [],_=>w
 | x :: r,k=>Cc (w.setCell ⟨g,k,vB⟩ x) g r (k+1)
theorem zAa {g:Nat} {t:vy}:∀ (xs:List vw) (k:Nat) (w:vv) (cs:List vw),Blk w g t cs.toArray -> k+xs.length=cs.length -> Blk (Cc w g xs k) g t (cs.take k++xs).toArray
 | [],k,w,cs,h,hk=>by
  rw [List.append_nil,GD (by simp at hk;omega)]
  exact h
 | x :: r,k,w,cs,h,hk=>by
  simp only [pk] at hk;have h1:=h.set_ k x;rw [Ga] at h1;have:=zAa r (k+1) (w.setCell ⟨g,k,vB⟩ x) (cs.set k x) h1 (by rw [List.length_set];omega)
  have e:(cs.set k x).take (k+1)=cs.take k++[x]:=by
   rw [ID (by rw [List.length_set];omega),List.getElem_set_self,List.take_set_of_le zR]
  rw [e,Jx] at this;exact this
theorem ug {g:Nat} {t:vy} {w:vv} {cs:Array vw} (xs:List vw) (h:Blk w g t cs) (hk:xs.length=cs.size):Blk (Cc w g xs 0) g t xs.toArray:=by
 have:=zAa xs 0 w cs.toList (by simpa using h) (by simpa using hk)
 simpa using this
theorem Dy {g N:Nat} (hg:N <= g):∀ (xs:List vw) (k:Nat) (w:vv),vz N w (Cc w g xs k)
 | [],_,w=>Bb _ w
 | x :: r,k,w=>((Bb N w).setCell (p:=⟨g,k,vB⟩) hg x).trans (Dy hg r (k+1) _)
theorem UA {g:Nat}:∀ (xs:List vw) (k:Nat) (w:vv),Kj g w (Cc w g xs k)
 | [],_,w=>(Gd g).refl w
 | x :: r,k,w=>zM (Gd g) (show Kj g w (w.setCell ⟨g,k,vB⟩ x) from tj (Mg w _) (.inl rfl) x) (UA r (k+1) _)
theorem If {g b:Nat} (hb:b≠g):∀ (xs:List vw) (k:Nat) (w:vv),(Cc w g xs k).1[b]?=w.1[b]?
 | [],_,_=>rfl
 | x :: r,k,w=>(If hb r (k+1) _).trans (Tg w ⟨g,k,vB⟩ x b hb)
def Gk (O:Oa) (v:vw):Array vw:=#[vd vq O.st,vd vt O.dr,v,ve vB 0 0,ve vB 0 0]
theorem zCb (O:Oa) (A:Option vx) (n c:Nat) (w:vv) (Kf:O.st<18446744073709551616) (hd:O.dr <= 1000000000) :
  vA prog 252 #[vf (Gk O (ve A n c))] w fun e w'=>e=vn (.tuple #[vd vq (Ln O:Int),vf (Gk (Mn O) (ve A n c))]) /\ vz w.1.size w w':=by
 obtain ⟨ideal,st,dr,qs⟩:=O;have hst':st<18446744073709551616:=Kf;have hd':dr <= 1000000000:=hd;clear Kf hd;obtain ⟨kx,kr,ba,db⟩:=ig w 51 51 #[vd vq st,vd vt dr,ve A n c,ve vB 0 0,ve vB 0 0] #[vd vq 0,vd vt 0,ve vB 0 0,ve vB 0 0,ve vB 0 0];have e1:vt.wrap ((dr:Int)+1)=((dr+1:Nat):Int):=by rw [pj];omega
 have e2:vq.wrap ((st:Int)+11400714819323198485)=((Vx st:Nat):Int):=by rw [Vg];unfold Vx;omega
 have hz:Vx st<18446744073709551616:=Ic _ zD;obtain ⟨Dt,yw⟩:=zEX (dr+1);rw [<- yw] at e1;obtain ⟨s1,Nc⟩:=zEX (Vx st);rw [<- Nc] at e2 hz;have HD:=zH yw;have HS:=zH Nc;clear yw Nc;obtain ⟨a1,Rn⟩:=zEX (s1 ^^^ (s1 >>> 30));have dO:a1<18446744073709551616:=by rw [Rn];exact Nat.xor_lt_two_pow (n:=64) hz (by rw [qt];omega)
 have x1:bits BinOp.xor vq (s1:Int) ((s1:Int) / 1073741824)=(a1:Int):=by
  rw [show (s1:Int) / (1073741824:Int)=((s1 >>> 30:Nat):Int) by rw [qt];omega,bits_xor_u64_nat _ _ hz (by rw [qt];omega),Rn]
 obtain ⟨a,ha⟩:=zEX (a1*13787848793156543929%18446744073709551616);have ja:a<18446744073709551616:=by omega
 have m1:vq.wrap ((a1:Int)*13787848793156543929)=(a:Int):=by rw [Vg];omega
 have HA:=zH (show a=NL s1 by rw [ha,Rn,NL])
 clear ha Rn;obtain ⟨b1,La⟩:=zEX (a ^^^ (a >>> 27));have fO:b1<18446744073709551616:=by rw [La];exact Nat.xor_lt_two_pow (n:=64) ja (by rw [qt];omega)
 have x2:bits BinOp.xor vq (a:Int) ((a:Int) / 134217728)=(b1:Int):=by
  rw [show (a:Int) / (134217728:Int)=((a >>> 27:Nat):Int) by rw [qt];omega,bits_xor_u64_nat _ _ ja (by rw [qt];omega),La]
 obtain ⟨b,hb⟩:=zEX (b1*10723151780598845931%18446744073709551616);have Zb:b<18446744073709551616:=by omega
 have m2:vq.wrap ((b1:Int)*10723151780598845931)=(b:Int):=by rw [Vg];omega
 have HB:=zH (show b=OL a by rw [hb,La,OL])
 clear hb La;obtain ⟨c1,yd⟩:=zEX (b ^^^ (b >>> 31));have x3:bits BinOp.xor vq (b:Int) ((b:Int) / 2147483648)=(c1:Int):=by
  rw [show (b:Int) / (2147483648:Int)=((b >>> 31:Nat):Int) by rw [qt];omega,bits_xor_u64_nat _ _ Zb (by rw [qt];omega),yd]
 obtain ⟨d,hcz⟩:=zEX (c1%18446744069414584321);have m3:(c1:Int).tmod 18446744069414584321=(d:Int):=by rw [Ex zO];omega
 have HC:=zH (show d=QL b by rw [hcz,yd,QL,Ob])
 clear hcz yd;have X1:=zH dO;have X2:=zH fO;have X3:=zH hz;clear dO fO ja Zb hz hst';have hv:Ln ⟨ideal,st,dr,qs⟩=d:=by rw [rZ,<- HS.out,<- HA.out,<- HB.out,<- HC.out]
 rw [hv,sZ,<- HS.out,<- HD.out];clear hv HA HB HC db;show vA _ _ #[vf #[vd vq st,vd vt dr,ve A n c,ve vB 0 0,ve vB 0 0]] _ fun e w'=>e=vn (.tuple #[vd vq d,vf #[vd vq s1,vd vt Dt,ve A n c,ve vB 0 0,ve vB 0 0]]) /\ _
 go_enter func252,ntmps252
 go_upto_region 1 with fail
 generalize (w.alloc _).alloc _=w1 at kx kr ba |-;have cx:=kx.cell;have fx:=kx.frozen;have yv:=cJ kx 0 1 (vd vq s1) (vd vt Dt);have Da:vz w.1.size w ((w1.setCell ⟨w.1.size,0,vB⟩ (vd vq s1)).setCell ⟨w.1.size,1,vB⟩ (vd vt Dt)):=ba.trans (((Bb w.1.size w1).setCell (p:=⟨w.1.size,0,vB⟩) zR _).setCell (p:=⟨w.1.size,1,vB⟩) zR _);have Xt:Blk ((w1.setCell ⟨w.1.size,0,vB⟩ (vd vq s1)).setCell ⟨w.1.size,1,vB⟩ (vd vt Dt)) _ _ _:=(kr.far (p:=⟨w.1.size,0,vB⟩) zS _).far (p:=⟨w.1.size,1,vB⟩) zS _;have KX:=zH yv;have KR:=zH Xt;have oc:=zH Da;clear yv Xt Da kx kr ba;go_upto_region 7 with fail
 generalize ((w1.setCell ⟨w.1.size,0,vB⟩ (vd vq s1)).setCell ⟨w.1.size,1,vB⟩ (vd vt Dt))=w2 at KX KR oc |-;have k2:Blk w2 w.1.size 51 #[vd vq s1,vd vt Dt,ve A n c,ve vB 0 0,ve vB 0 0]:=by simpa using KX.out
 have c2:=k2.cell;have Ua:w.1.size≠w.1.size+1:=by omega
 have ta:=k2.lt;clear cx fx k2 KX;refine Yc (Kj (w.1.size+1)) [4] [0,1,2,3,4] zK zK ?_;refine Td (Gd (w.1.size+1)) ?_;intro Wc Ca da;have uc:=zH (show Blk Wc _ _ _ by rw [Ca.out];exact KR.out.drew)
 have bg:=zH (show vz w.1.size w Wc by rw [Ca.out];exact oc.out.drew)
 have cr:=uc.out.cell;have fr:=uc.out.frozen;clear Ca KR oc;refine Lk ?_;refine Bd (Gd (w.1.size+1)) rfl rfl rfl ?_;go_simp;refine ⟨UA [vd vq s1,vd vt Dt,ve A n c,ve vB 0 0,ve vB 0 0] 0 _,?_⟩
 refine zPU ?_
 refine Ec ?_;have kf:=ug [vd vq s1,vd vt Dt,ve A n c,ve vB 0 0,ve vB 0 0] uc.out rfl;have Bc:=bg.out.trans (Dy (N:=w.1.size) (g:=w.1.size+1) zO [vd vq s1,vd vt Dt,ve A n c,ve vB 0 0,ve vB 0 0] 0 Wc);simp only [Cc,yf,Nat.reduceAdd] at kf Bc;generalize vE (vE (vE (vE (vE Wc _ _) _ _) _ _) _ _) _ _=wf at kf Bc |-;have cf:=kf.cell;clear c2 cr fr da;go_wp2;exact Tc (by simp [results,results252,go_sem,cf]) rfl ⟨rfl,Bc⟩
theorem L7 (O:Oa) (A B:Option vx) (n c m d lab:Nat) (el:List Nat) (w:vv) (hq:Sd w [ve A n c] O.qs) (hl:RWd w [ve B m d] el) :
  vA prog 251 #[vf (Gk O (ve A n c)),vd vq lab,ve B m d] w fun e w'=>e=vn (.tuple #[vd vq (((oe O.qs lab el).getD 0:Nat):Int), .bool (oe O.qs lab el).isSome]) /\ vz w.1.size w w':=by
 have HF:=zH (fun w1 (hb:vz w.1.size w w1)=>VZ A B n c m d lab O.qs el w1 (p4 _ _ _ _ hb hq) (Sa hb hl))
 obtain ⟨A',n',c',he,hlen,Ce,Eg,Ka⟩:=hq;simp at he
 obtain ⟨rfl,rfl,rfl⟩:=he;have gm:=Mh Ce Eg;have ja:=zA w (.cells (Gk O (ve A n c)) 51);have kb:=Blk.new w 51 (Gk O (ve A n c));have Jg:=zH hlen;have zB:=zH Ka;rcases WZ O.qs lab el with ⟨e1,e2⟩ | ⟨i,hi,e1,e2⟩
 ·rw [e2]
  rw [e1] at HF;clear e1 e2 hl Ce Eg hlen Ka;unfold Gk at *;go_enter func251,ntmps251
  go_wp2_with fail
  generalize w.alloc _=w1 at ja kb |-;refine (HF.out w1 ja).mono ?_;rintro e w2 ⟨rfl,Da⟩;replace ja:=pa ja Da;clear Da;go_wp2;exact Tc (by simp [results,results251,go_sem]) rfl ⟨rfl,ja⟩
 ·rw [e2]
  rw [e1] at HF;have hiN:i<n:=by omega
  clear e1 e2 hl Ce Eg hlen;unfold Gk at *;go_enter func251,ntmps251
  go_wp2_with fail
  generalize w.alloc _=w1 at ja kb |-;refine (HF.out w1 ja).mono ?_;rintro e w2 ⟨rfl,Da⟩;replace kb:=ma kb Da;replace ja:=pa ja Da;clear Da;have cb:=kb.cell;have g1:(0:Int)<=i:=by omega
  have g2:(i:Int)<n:=by omega
  have g3:¬((i:Int)<0):=by omega
  have g3':decide ((i:Int)<0)=false:=Ib g3;obtain ⟨b,q,A1,n1,c1,lq,aq,qe,BH,rfl,c0,tk,c2,hs,Zb,mD⟩:=L9 (Ka.below RV ja) hi;have ea:aq=(O.qs[i]).ans:=by
   rw [Dc hi] at BH
   injection BH with BH
   rw [BH,mD.2.1]
  have HEA:=zH ea;clear ea hs BH mD c0 tk Ka;go_wp2;rw [Option.getD_some,<- HEA.out];exact Tc (by simp [results,results251,go_sem]) rfl ⟨rfl,ja⟩
theorem Y6 (w:vv) (e:vy) {base:Nat} (hb:base <= w.1.size):(w.alloc (.cells #[] e)).ownsRow base e 3 (ve (vD ⟨w.1.size,0,vB⟩) 0 0) 0 [] :=
 ⟨rfl, .inr ⟨w.1.size,0,_,rfl,hb,heap_alloc_new w _,zR,by simp [maxLen],rfl,rfl⟩⟩
theorem P9 {w:vv} {xs:List vw} {qs:List Qn} {q:Qn} {s:vw} (hx:xs.length=qs.length*3) (h:∀ (i:Nat) (hi:i<qs.length),RQn w ((xs.drop (i*3)).take 3) qs[i])
  (hs:RWd w [s] q.el) (h1:q.lab<18446744073709551616) (h2:q.ans<18446744073709551616):∀ (i:Nat) (hi:i<(qs++[q]).length),RQn w (((xs++[vd vq q.lab,s,vd vq q.ans]).drop (i*3)).take 3) (qs++[q])[i]:=fun i hi=>by
 simp only [Pp,List.length_singleton] at hi;by_cases e:i<qs.length
 ·rw [yz e,List.drop_append_of_le_length zO,List.take_append_of_le_length (by rw [JB];omega)]
  exact h i e
 ·obtain rfl:i=qs.length:=by omega
  rw [FD zR,<- hx,List.drop_left];simp only [Nat.sub_self,Xg];exact ⟨s,rfl,hs,h1,h2⟩
theorem zGS {K:Nat -> Prop} (O:Oa) (A B:Option vx) (n c m d lab an:Nat) (el:List Nat) (xs:List vw) (w:vv) (hlen:O.qs.length=n) (Vt:Rd w 3 A n xs) (LH:Hd K w fun u=>∀ (i:Nat) (hi:i<O.qs.length),RQn u ((xs.drop (i*3)).take 3) O.qs[i]) (hl:RWd w [ve B m d] el) (Yd:lab<18446744073709551616) (han:an<18446744073709551616) (hn:O.qs.length <= 1000000) (hm:el.length <= 1000000) :
  vA prog 253 #[vf (Gk O (ve A n c)),vd vq lab,ve B m d,vd vq an] w fun e w'=>∃ A' c',e=vn (vf (Gk O (ve A' (n+1) c'))) /\ Hd (fun b=>K b \/ w.1.size <= b) w' (fun u=>Sd u [ve A' (n+1) c'] (O.qs++[⟨lab,el,an⟩])) /\ vz w.1.size w w':=by
 obtain ⟨kx,kr,ba,db⟩:=ig w 51 51 (Gk O (ve A n c)) #[vd vq 0,vd vt 0,ve vB 0 0,ve vB 0 0,ve vB 0 0];rw [<- hlen] at Vt;have sO:=O9 (by rw [Vt.1]) (ym LH)
 obtain ⟨zj,Jt,JE,Sf,af⟩:=Mb hl;have HX:=zH LH;have HXL:=zH Vt.1;have QI:=zH Vt;have HL:=zH hl;have Sy:=zH Sf;have Sh:=zH af;have jT:=zH Yd;have HAN:=zH han;have Jg:=zH hlen;have rB:=zH zj;have lT:=zH sO;have KE:n <= 1000000:=by omega
 have Ze:m <= 1000000:=by omega
 clear LH Vt hl Sf af Yd han hlen zj sO hn hm Jt JE db;unfold Gk at *;go_enter func253,ntmps253
 go_upto_region 1 with fail
 generalize (w.alloc _).alloc _=w1 at kx kr ba |-;have cx:=kx.cell;have lx:=kx.lt;have lr:=kr.lt;have ja:=zA w1 (.cells #[] 88);have oa:=Y6 w1 88 zR;have Ff:=(QI.out.below ba).below ja;rw [Jg.out] at Ff;go_wp2_with (at_builtin;refine fe rfl _ _ rfl VD rfl oa rfl Ff lT.out zO zS ?_)
 intro v2 w2 De Ja tb;have Da:vz w1.1.size w1 w2:=ja.trans (Ee oa Ja zS);have wt:=zH De;replace kx:=ma kx Da;replace kr:=ma kr Da;replace ba:=pa ba Da;have KX:=zH kx;have KR:=zH kr;have HB:=zH ba;have vI:=zH Da;have LX:=zH lx;have LR:=zH (show w.1.size+1<w1.1.size from lr)
 have SB:=zA w2 (.cells #[] 22);have gu:=ju w2 22 zR;have Wk:=(Sh.out.below ba).below SB;clear oa Ja tb ja Ff De cx lx lr kx kr ba Da;go_wp2_with (at_builtin;refine fe rfl _ _ rfl WD rfl gu rfl Wk (Gf _) zO zS ?_)
 intro v3 w3 Lt Ja tb;have Ta:vz w2.1.size w2 w3:=SB.trans (Ee gu Ja zS);have Cs:∃ A' c',v3=ve A' m c':=by obtain ⟨A',c',e,-⟩:=mc Lt;exact ⟨A',c',e⟩
 obtain ⟨A3,c3,rfl⟩:=Cs;have tK:=Yf Lt Sy.out;have OW3:=zH (yb wt.out Ta zR);replace KX:=zH (KX.out.below Ta KX.out.lt);replace KR:=zH (KR.out.below Ta KR.out.lt);replace HB:=zH (pa HB.out Ta);have nm:=zA w3 (.cells #[vd vq lab,ve A3 m c3,vd vq an] 88);have Kw:=ZK w3 (vd vq lab) (ve A3 m c3) (vd vq an) 88;have rq:=yb OW3.out nm zR;have hw4:=Sa nm tK;have wI:=zH (pa vI.out Ta);have YI:=zH (yb Lt nm zR);have V2:=zH (show ∀ b,v2.ownBlock=vD b -> b<w2.1.size from fun b hb=>(wt.out.lt b hb).2)
 have W2:=zH vI.out.size;have Rh:=zH (pa HB.out nm);clear gu Ja tb Wk Lt SB Ta tK wt;go_wp2_with (at_builtin;refine fe rfl _ _ rfl VD rfl rq rfl Kw (by intro u hu;simp at hu;rcases hu with rfl | rfl | rfl <;> rfl) zO (by have:=wI.out.size;simp;omega) ?_)
 intro v4 w4 Mt Ja tb;have hv4:∃ A' c',v4=ve A' (n+1) c':=by obtain ⟨A',c',e,-⟩:=mc Mt;exact ⟨A',c',e⟩
 obtain ⟨A4,c4,rfl⟩:=hv4;have hle:w1.1.size <= (w3.alloc (.cells #[vd vq lab,ve A3 m c3,vd vq an] 88)).1.size:=Cb wI.out.size nm.size;have Ub:vz w1.1.size w3 w4:=(nm.mono wI.out.size).trans (Ee rq Ja hle);have Tw:=KX.out.below Ub LX.out;have Xj:=KR.out.below Ub LR.out;have te:vz w.1.size w w4:=HB.out.trans (Ub.mono (zQ LX.out));have GF:=Ge YI.out (u:=w4) fun b hb=>Ja.block b (YI.out.lt b hb).2 (fun e=>by
  have:=V2.out b e.symm;have:=(YI.out.lt b hb).1;omega)
 have bB:=zH (show ∀ u,Od K w u -> (∀ b,w1.1.size <= b -> b<w4.1.size -> u.1[b]?=w4.1[b]?) -> Sd u [ve A4 (n+1) c4] (O.qs++[⟨lab,el,an⟩]) from fun u hbu hu=>by
  have o1:=Ge Mt (u:=u) fun b hb=>hu b (Mt.lt b hb).1 (Mt.lt b hb).2
  have o2:=Ge GF (u:=u) fun b hb=>hu b (Cb W2.out (GF.lt b hb).1) (GF.lt b hb).2
  exact R9 o1 (by simp [Jg.out]) (P9 HXL.out (HX.out u hbu) (Yf o2 Sy.out) jT.out HAN.out))
 have cx4:=Tw.cell;have fx4:=Tw.frozen;have lx4:=Tw.lt;have lr4:=Xj.lt;have cr4:=Xj.cell;have fr4:=Xj.frozen;have LX2:=zH te;clear Ja tb Mt GF hle Ub Kw rq hw4 nm te;go_wp2;have PH:=Xj.far (p:=⟨w.1.size,2,vB⟩) zS (ve A4 (n+1) c4);have kf:=ug [vd vq O.st,vd vt O.dr,ve A4 (n+1) c4,ve vB 0 0,ve vB 0 0] PH rfl;have Bc:=(LX2.out.setCell (p:=⟨w.1.size,2,vB⟩) zR (ve A4 (n+1) c4)).trans (Dy (N:=w.1.size) (g:=w.1.size+1) zO [vd vq O.st,vd vt O.dr,ve A4 (n+1) c4,ve vB 0 0,ve vB 0 0] 0 _);have UJ:∀ b,w1.1.size <= b -> b<w4.1.size -> (Cc (w4.setCell ⟨w.1.size,2,vB⟩ (ve A4 (n+1) c4)) (w.1.size+1) [vd vq O.st,vd vt O.dr,ve A4 (n+1) c4,ve vB 0 0,ve vB 0 0] 0).1[b]?=w4.1[b]?:=fun b hb _=>by
  have:=LR.out;rw [If zO];exact Tg w4 ⟨w.1.size,2,vB⟩ _ b (by show b≠w.1.size;omega)
 have hsf:w4.1.size <= (Cc (w4.setCell ⟨w.1.size,2,vB⟩ (ve A4 (n+1) c4)) (w.1.size+1) [vd vq O.st,vd vt O.dr,ve A4 (n+1) c4,ve vB 0 0,ve vB 0 0] 0).1.size:=by simp [Cc,vE]
 simp only [Cc,yf,Nat.reduceAdd] at kf Bc UJ hsf;generalize vE (vE (vE (vE (vE (vE w4 _ _) _ _) _ _) _ _) _ _) _ _=wf at kf Bc UJ hsf |-;have cf:=kf.cell;clear cx4 fx4 cr4 fr4 Tw Xj PH;exact Tc (by simp [results,results253,go_sem,cf]) rfl ⟨A4,c4,rfl,fun u a=>bB.out u (Rx (Pu (Yb Bc) fun _ h=>h) (Pu a fun _ h=>.inl h)) (fun b h1 h2=>(a.block b (.inr (zQ LX.out)) (Be h2 hsf)).trans (UJ b h1 h2)),Bc⟩
theorem N9 {K:Nat -> Prop} {w:vv} {A:Option vx} {n c:Nat} {qs:List Qn} (h:Hd K w fun u=>Sd u [ve A n c] qs) :
  ∃ xs,Rd w 3 A n xs /\ qs.length=n /\ Hd K w fun u=>∀ (i:Nat) (hi:i<qs.length),RQn u ((xs.drop (i*3)).take 3) qs[i]:=by
 obtain ⟨A',n',c',he,hlen,Ce,Eg,Ka⟩:=ym h;simp at he
 obtain ⟨rfl,rfl,rfl⟩:=he;obtain ⟨xs,Vt,LH⟩:=zGO zD Ka;rw [hlen] at Vt;refine ⟨xs,Vt,hlen,fun u a i hi=>?_⟩
 obtain ⟨b,q,rfl⟩:=Ka.base zO zO;have hK:K b:=rI fun hn=>by
  obtain ⟨A2,n2,c2,he2,-,-,-,Wk⟩:=h (MF w b) (eQ hn);simp at he2
  obtain ⟨rfl,rfl,rfl⟩:=he2;obtain ⟨cs,Dw,hc,-⟩:=Wk.get hi;have h0:=hc 0 zO;obtain ⟨uk,hl3',So,-⟩:=Ka.get hi;have Zb:=Af w ⟨b,q+i*3+0,vB⟩ ((So 0 zO).trans (Dc zO));rw [yS Zb,Dc zO] at h0;cases h0
 obtain ⟨A2,n2,c2,he2,-,-,-,Wk⟩:=h u a;simp at he2
 obtain ⟨rfl,rfl,rfl⟩:=he2;obtain ⟨cs,Dw,hc,hR⟩:=Wk.get hi;have e2:(xs.drop (i*3)).take 3=cs:=by
  refine List.ext_getElem? fun j=>?_
  rw [List.getElem?_take];split
  ·rename_i hj
   have ta:i*3+j<xs.length:=by rw [Vt.1];omega
   have h1:=hc j hj;obtain ⟨ad,e,h2⟩:=Vt.2 zO
   injection e with e
   subst e;have h3:=h2 (i*3+j) _ (Dc ta);rw [yt] at h3;have Zb:=Af _ _ h3;rw [List.getElem?_drop,Dc ta,<- h1,<- h3];simp only [World.cell?,a.block b hK Zb,Nat.add_assoc]
  ·rw [Kx zO]
 rw [e2];exact hR
theorem Sp {x:Nat} (h:x<Ob):x<18446744073709551616:=by unfold Ob at h;omega
theorem zEe (O:Oa) (lab:Nat) (el:List Nat) (a:Nat) (v:vw):Gk (rk O lab el a) v=Gk O v:=rfl
theorem sj {K:Nat -> Prop} {g:Nat} (hg:¬K g):∀ (xs:List vw) (w:vv),Od K w (Cc w g xs 0):=fun xs w=>go xs 0 w
where
 go:∀ (xs:List vw) (k:Nat) (w:vv),Od K w (Cc w g xs k)
  | [],_,_=>QT
  | _ :: r,k,_=>Rx (dQ hg) (go r (k+1) _)
theorem ak {g N:Nat} {w0 w:vv} {xs:List vw} (h:vz N w0 w) (hg:N <= g):vz N w0 (Cc w g xs 0):=h.trans (Dy hg xs 0 w)
theorem zDf {K:Nat -> Prop} (O:Oa) (hi:O.ideal=true) (A B:Option vx) (n c m d lab:Nat) (el:List Nat) (w:vv) (hq:Hd K w fun u=>Sd u [ve A n c] O.qs) (hl:RWd w [ve B m d] el) (Yd:lab<18446744073709551616) (Kf:O.st<18446744073709551616) (yw:O.dr <= 1000000000)
  (hn:O.qs.length <= 1000000) (hm:el.length <= 1000000) :
  vA prog 187 #[vf (Gk O (ve A n c)),vd vq lab,ve B m d] w fun e w'=>∃ A' n' c',e=vn (.tuple #[vd vq (Pe O lab el:Int),vf (Gk (td O lab el) (ve A' n' c'))]) /\ Hd (fun b=>K b \/ w.1.size <= b) w' (fun u=>Sd u [ve A' n' c'] (td O lab el).qs) /\ vz w.1.size w w':=by
 obtain ⟨kx,kr,ba,db⟩:=ig w 51 51 (Gk O (ve A n c)) #[vd vq 0,vd vt 0,ve vB 0 0,ve vB 0 0,ve vB 0 0];have Li:=zH (fun w1 (hb:vz w.1.size w w1)=>vQ B m d el w1 (Sa hb hl))
 have Nk:=zH (fun w1 (hb:vz w.1.size w w1)=>L7 O A B n c m d lab el w1 (Wn hq (Yb hb)) (Sa hb hl))
 have HDr:=zH (fun w1=>zCb O A n c w1 Kf yw)
 have HRc:=zH (show ∀ w1,vz w.1.size w w1 -> vA prog 253 #[vf (Gk (Mn O) (ve A n c)),vd vq lab,ve B m d,vd vq (Ln O:Int)] w1 fun e w'=>∃ A' c',e=vn (vf (Gk (Mn O) (ve A' (n+1) c'))) /\ Hd (fun b=>(K b /\ b<w.1.size) \/ w1.1.size <= b) w' (fun u=>Sd u [ve A' (n+1) c'] (O.qs++[⟨lab,el,Ln O⟩])) /\ vz w1.1.size w1 w' from fun w1 hb=>by
  obtain ⟨xs,h1,h2,h3⟩:=N9 (Za (zk hq) (Yb hb));have:=zGS (K:=fun b=>K b /\ b<w.1.size) (Mn O) A B n c m d lab (Ln O) el xs w1 (by rw [SD];exact h2) h1 (by rw [SD];exact h3) (Sa hb hl) Yd (Sp (tQ _)) (by rw [SD];exact hn) hm
  rw [SD] at this;exact this)
 have HQ:=zH hq;have HI:=zH hi;have HV:Hid (Pe O lab el=if Uc el then (match oe O.qs lab el with | some a=>a | none=>Ln O) else 0):=by
  unfold Hid Pe;simp only [hi,if_true];cases oe O.qs lab el <;> rfl
 have HO:Hid (td O lab el=if Uc el then (match oe O.qs lab el with | some _=>O | none=>rk (Mn O) lab el (Ln O)) else O):=by
  unfold Hid td;simp only [hi,if_true];cases oe O.qs lab el <;> rfl
 clear hq hl Yd Kf yw hn hm hi db;cases hE:Uc el
 ·rw [hE] at Li HV HO
  rw [mb Ss] at HV HO;rw [HV.out,HO.out];clear hE Nk HDr HRc;unfold Gk at *;go_enter func187,ntmps187
  go_upto_region 1 with fail
  generalize (w.alloc _).alloc _=w1 at kx kr ba |-;go_wp2_with fail
  refine (Li.out w1 ba).mono ?_;rintro e w2 ⟨rfl,Da⟩;replace kx:=ma kx Da;replace kr:=ma kr Da;replace ba:=pa ba Da;clear Da;go_upto_region 2 with fail
  have Sq:=kx.cell;have Gr:=kx.lt;have Hr:w.1.size≠w.1.size+1:=by omega
  refine Yc (Kj (w.1.size+1)) [2] [0,1,2] zK zK ?_;refine Td (Gd (w.1.size+1)) ?_;intro Wc Ca da;have Lg:=zH (show Blk Wc _ _ _ by rw [Ca.out];exact kr.drew)
  have df:=zH (show vz w.1.size w Wc by rw [Ca.out];exact ba.drew)
  have Pq:=Lg.out.cell;have Uq:=Lg.out.frozen;clear Ca;refine Lk ?_;refine Bd (Gd (w.1.size+1)) rfl rfl rfl ?_;go_simp;refine ⟨UA [vd vq O.st,vd vt O.dr,ve A n c,ve vB 0 0,ve vB 0 0] 0 _,?_⟩
  refine zPU ?_
  refine Ec ?_;have kf:=ug [vd vq O.st,vd vt O.dr,ve A n c,ve vB 0 0,ve vB 0 0] Lg.out rfl;have Bc:=ak (xs:=[vd vq O.st,vd vt O.dr,ve A n c,ve vB 0 0,ve vB 0 0]) (g:=w.1.size+1) df.out zO;have Si:∀ K:Nat -> Prop,¬K (w.1.size+1) -> Od K Wc (Cc Wc (w.1.size+1) [vd vq O.st,vd vt O.dr,ve A n c,ve vB 0 0,ve vB 0 0] 0):=fun K h=>sj h _ _
  simp only [Cc,yf,Nat.reduceAdd] at kf Bc Si;generalize vE (vE (vE (vE (vE (Wc) _ _) _ _) _ _) _ _) _ _=wf at kf Bc Si |-;have cf:=kf.cell;clear Sq Gr Hr Pq Uq da;go_wp2;exact Tc (by simp [results,results187,go_sem,cf]) rfl ⟨A,n,c,rfl,Xp (Za HQ.out (Yb Bc)) (fun _ h=>.inl h),Bc⟩
 rw [hE] at Li HV HO;rw [Gb rfl] at HV HO;cases hF:oe O.qs lab el with
 | some a =>
  rw [hF] at Nk HV HO;simp only [Option.getD_some,Option.isSome_some] at Nk HV HO;rw [HV.out,HO.out];clear hE hF HDr HRc;unfold Gk at *;go_enter func187,ntmps187
  go_upto_region 1 with fail
  generalize (w.alloc _).alloc _=w1 at kx kr ba |-;go_wp2_with fail
  refine (Li.out w1 ba).mono ?_;rintro e w2 ⟨rfl,Da⟩;replace kx:=ma kx Da;replace kr:=ma kr Da;replace ba:=pa ba Da;clear Da;have cx:=kx.cell;go_wp2_with fail
  refine (Nk.out w2 ba).mono ?_;rintro e w3 ⟨rfl,Ta⟩;replace kx:=ma kx Ta;replace kr:=ma kr Ta;replace ba:=pa ba Ta;clear Ta cx;go_upto_region 5 with fail
  have Sq:=kx.cell;have Gr:=kx.lt;have Hr:w.1.size≠w.1.size+1:=by omega
  refine Yc (Kj (w.1.size+1)) [3] [0,1,2,3] zK zK ?_;refine Td (Gd (w.1.size+1)) ?_;intro Wc Ca da;have Lg:=zH (show Blk Wc _ _ _ by rw [Ca.out];exact kr.drew)
  have df:=zH (show vz w.1.size w Wc by rw [Ca.out];exact ba.drew)
  have Pq:=Lg.out.cell;have Uq:=Lg.out.frozen;clear Ca;refine Lk ?_;refine Bd (Gd (w.1.size+1)) rfl rfl rfl ?_;go_simp;refine ⟨UA [vd vq O.st,vd vt O.dr,ve A n c,ve vB 0 0,ve vB 0 0] 0 _,?_⟩
  refine zPU ?_
  refine Ec ?_;have kf:=ug [vd vq O.st,vd vt O.dr,ve A n c,ve vB 0 0,ve vB 0 0] Lg.out rfl;have Bc:=ak (xs:=[vd vq O.st,vd vt O.dr,ve A n c,ve vB 0 0,ve vB 0 0]) (g:=w.1.size+1) df.out zO;have Si:∀ K:Nat -> Prop,¬K (w.1.size+1) -> Od K Wc (Cc Wc (w.1.size+1) [vd vq O.st,vd vt O.dr,ve A n c,ve vB 0 0,ve vB 0 0] 0):=fun K h=>sj h _ _
  simp only [Cc,yf,Nat.reduceAdd] at kf Bc Si;generalize vE (vE (vE (vE (vE (Wc) _ _) _ _) _ _) _ _) _ _=wf at kf Bc Si |-;have cf:=kf.cell;clear Sq Gr Hr Pq Uq da;go_wp2;exact Tc (by simp [results,results187,go_sem,cf]) rfl ⟨A,n,c,rfl,Xp (Za HQ.out (Yb Bc)) (fun _ h=>.inl h),Bc⟩
 | none =>
  rw [hF] at Nk HV HO;simp only [Option.getD_none,Option.isSome_none] at Nk HV HO;rw [HV.out,HO.out];obtain ⟨O',Ft⟩:∃ O',O'=Mn O:=⟨_,rfl⟩;have Ot:(rk (Mn O) lab el (Ln O)).qs=O.qs++[⟨lab,el,Ln O⟩]:=by rw [GG,SD]
  have ue:∀ v,Gk (rk (Mn O) lab el (Ln O)) v=Gk O' v:=fun v=>by rw [zEe,Ft]
  simp only [ue,Ot];rw [<- Ft] at HDr HRc;obtain ⟨dv,Bk⟩:=zEX (Ln O);rw [<- Bk] at HDr HRc |-;clear hE hF ue Ot Ft Bk HV HO;unfold Gk at *;go_enter func187,ntmps187
  go_upto_region 1 with fail
  generalize (w.alloc _).alloc _=w1 at kx kr ba |-;go_wp2_with fail
  refine (Li.out w1 ba).mono ?_;rintro e w2 ⟨rfl,Da⟩;replace kx:=ma kx Da;replace kr:=ma kr Da;replace ba:=pa ba Da;clear Da;have cx:=kx.cell;go_wp2_with fail
  refine (Nk.out w2 ba).mono ?_;rintro e w3 ⟨rfl,Ta⟩;replace kx:=ma kx Ta;replace kr:=ma kr Ta;replace ba:=pa ba Ta;clear Ta cx;have cx:=kx.cell;go_wp2_with fail
  refine (HDr.out w3).mono ?_;rintro e w4 ⟨rfl,Ub⟩;replace kx:=ma kx Ub;replace kr:=ma kr Ub;replace ba:=pa ba Ub;clear Ub cx;have cx:=kx.cell;have fx:=kx.frozen;have kxf:=ug [vd vq O'.st,vd vt O'.dr,ve A n c,ve vB 0 0,ve vB 0 0] kx rfl;have krf:=(If (g:=w.1.size) (b:=w.1.size+1) (Nat.succ_ne_self _) [vd vq O'.st,vd vt O'.dr,ve A n c,ve vB 0 0,ve vB 0 0] 0 w4).trans kr;have Bc:=ak (xs:=[vd vq O'.st,vd vt O'.dr,ve A n c,ve vB 0 0,ve vB 0 0]) (g:=w.1.size) ba zR;simp only [Cc,yf,Nat.reduceAdd] at kxf krf Bc;have KXF:=zH kxf;have KRF:=zH (show Blk _ (w.1.size+1) _ _ from krf)
  have HBF:=zH Bc;clear kxf krf Bc kx kr ba;go_upto_region 7 with fail
  generalize vE (vE (vE (vE (vE w4 _ _) _ _) _ _) _ _) _ _=w5 at KXF KRF HBF |-;have cx:=KXF.out.cell;go_wp2_with fail
  refine (HRc.out w5 HBF.out).mono ?_;rintro e w6 ⟨A4,c4,rfl,hd6,Mc⟩;have BK:=KRF.out.below Mc KRF.out.lt;have te:=pa HBF.out Mc;have cr:=BK.cell;have fr:=BK.frozen;have HL5:=KRF.out.lt;clear cx;go_wp2;have kf:=ug [vd vq O'.st,vd vt O'.dr,ve A4 (n+1) c4,ve vB 0 0,ve vB 0 0] BK rfl;have Bc:=ak (xs:=[vd vq O'.st,vd vt O'.dr,ve A4 (n+1) c4,ve vB 0 0,ve vB 0 0]) (g:=w.1.size+1) te (Nat.le_succ _);have Wr:Od (fun b=>(K b /\ b<w.1.size) \/ w5.1.size <= b) w6 (Cc w6 (w.1.size+1) [vd vq O'.st,vd vt O'.dr,ve A4 (n+1) c4,ve vB 0 0,ve vB 0 0] 0):=sj (fun h=>h.elim (fun h=>by have:=h.2;omega) (fun h=>zO)) _ _
  simp only [Cc,yf,Nat.reduceAdd] at kf Bc Wr;generalize vE (vE (vE (vE (vE w6 _ _) _ _) _ _) _ _) _ _=wf at kf Bc Wr |-;have cf:=kf.cell;clear cr fr;exact Tc (by simp [results,results187,go_sem,cf]) rfl ⟨A4,n+1,c4,rfl,Xp (Za hd6 Wr) (fun b h=>h.elim (fun h=>.inl h.1) fun h=>.inr (Cb HBF.out.size h)),Bc⟩
def mg (O:Oa) (v:vw):Array vw:=#[.bool O.ideal,vd vq O.st,vd vt O.dr,v,ve vB 0 0,ve vB 0 0]
theorem zFA {O:Oa} (h:O.ideal=true) (hq:∀ q∈O.qs,Uc q.el=true) (lab:Nat) (el:List Nat):Nl O lab el=oe O.qs lab el:=by
 unfold Nl;cases hf:oe O.qs lab el with
 | some a =>
  obtain ⟨q,hm,-,e,-⟩:=CQ hf;rw [Gb (by rw [<- e];exact hq q hm)]
 | none =>
  simp only [h,if_true];split <;> rfl
theorem zFz (O:Oa) (Sk:Lv O) (Sf:O.ideal=true -> ∀ q∈O.qs,Uc q.el=true) (A B:Option vx) (n c m d lab:Nat) (el:List Nat) (w:vv) (hq:Sd w [ve A n c] O.qs) (hl:RWd w [ve B m d] el) (Ua:0<el.length) (hm:el.length <= 1000000) :
  vA prog 188 #[vf (mg O (ve A n c)),vd vq lab,ve B m d] w fun e w'=>e=vn (.tuple #[vd vq (((Nl O lab el).getD 0:Nat):Int), .bool (Nl O lab el).isSome]) /\ vz w.1.size w w':=by
 have ja:=zA w (.cells (mg O (ve A n c)) 53);have kb:=Blk.new w 53 (mg O (ve A n c));have Li:=zH (fun w1 (hb:vz w.1.size w w1)=>vQ B m d el w1 (Sa hb hl))
 have Nk:=zH (fun w1 (hb:vz w.1.size w w1)=>L7 O A B n c m d lab el w1 (p4 _ _ _ _ hb hq) (Sa hb hl))
 have HSp:=zH (fun w1 (hb:vz w.1.size w w1)=>J8 lab B m d el w1 (Sa hb hl) Ua hm)
 cases hi:O.ideal
 ·have hp:=zH (M7 Sk hi lab el)
  cases hE:Uc el
  ·rw [hE,mb Ss] at hp
   rw [hE] at Li;rw [hp.out];clear hE Sk Sf hq hl Nk HSp hm Ua;unfold mg at *;rw [hi] at ja kb |-;clear hi;go_enter func188,ntmps188
   go_wp2_with fail
   generalize w.alloc _=w1 at ja kb |-;refine (Li.out w1 ja).mono ?_;rintro e w2 ⟨rfl,Da⟩;replace ja:=pa ja Da;go_wp2;exact Tc (by simp [results,results188,go_sem]) rfl ⟨rfl,ja⟩
  ·rw [hE,Gb rfl] at hp
   rw [hE] at Li;rw [hp.out];clear hE Sk Sf hq hl Nk hm Ua;unfold mg at *;rw [hi] at ja kb |-;clear hi;go_enter func188,ntmps188
   go_wp2_with fail
   generalize w.alloc _=w1 at ja kb |-;refine (Li.out w1 ja).mono ?_;rintro e w2 ⟨rfl,Da⟩;replace ja:=pa ja Da;clear Da;go_wp2_with fail
   refine (HSp.out w2 ja).mono ?_;rintro e w3 ⟨rfl,Ta⟩;replace ja:=pa ja Ta;go_wp2;exact Tc (by simp [results,results188,go_sem]) rfl ⟨rfl,ja⟩
 ·rw [zFA hi (Sf hi)]
  clear Sk Sf hq hl HSp Li hm Ua;obtain ⟨x,hx⟩:=zEX ((oe O.qs lab el).getD 0);obtain ⟨y,hy⟩:=zEX ((oe O.qs lab el).isSome);rw [<- hx,<- hy] at Nk |-;clear hx hy;unfold mg Gk at *;rw [hi] at ja kb |-;clear hi;go_enter func188,ntmps188
  go_wp2_with fail
  generalize w.alloc _=w1 at ja kb |-;refine (Nk.out w1 ja).mono ?_;rintro e w2 ⟨rfl,Da⟩;replace ja:=pa ja Da;clear Da;go_wp2;exact Tc (by simp [results,results188,go_sem]) rfl ⟨rfl,ja⟩
theorem zCz {O:Oa} (Sk:Lv O) (hi:O.ideal=false) (lab:Nat) (el:List Nat) :
  Pe O lab el=(if Uc el then Dj lab el else 0) /\ td O lab el=(if Uc el&&(oe O.qs lab el).isNone then rk O lab el (Dj lab el) else O):=by
 refine ⟨zDj Sk hi lab el,?_⟩;unfold td;cases Uc el
 ·rfl
 ·simp only [if_true,Bool.true_and,hi,Bool.false_eq_true,if_false]
  cases oe O.qs lab el <;> rfl
theorem zDg {K:Nat -> Prop} (O:Oa) (hi:O.ideal=true) (A B:Option vx) (n c m d lab:Nat) (el:List Nat) (w:vv) (hq:Hd K w fun u=>Sd u [ve A n c] O.qs) (hl:RWd w [ve B m d] el) (Yd:lab<18446744073709551616) (Kf:O.st<18446744073709551616) (yw:O.dr <= 1000000000)
  (hn:O.qs.length <= 1000000) (hm:el.length <= 1000000) :
  vA prog 105 #[vf (mg O (ve A n c)),vd vq lab,ve B m d] w fun e w'=>∃ A' n' c',e=vn (.tuple #[vd vq (Pe O lab el:Int),vf (mg (td O lab el) (ve A' n' c'))]) /\ Hd (fun b=>K b \/ w.1.size <= b) w' (fun u=>Sd u [ve A' n' c'] (td O lab el).qs) /\ vz w.1.size w w':=by
 obtain ⟨kx,kr,ba,db⟩:=ig w 53 53 (mg O (ve A n c)) #[.bool false,vd vq 0,vd vt 0,ve vB 0 0,ve vB 0 0,ve vB 0 0];have HH:=zH (fun w1 (hb:vz w.1.size w w1)=>zDf (K:=fun b=>K b /\ b<w.1.size) O hi A B n c m d lab el w1 (Za (zk hq) (Yb hb)) (Sa hb hl) Yd Kf yw hn hm)
 obtain ⟨O',Ft⟩:∃ O',O'=td O lab el:=⟨_,rfl⟩;obtain ⟨v,hv⟩:=zEX (Pe O lab el);have Yz:O'.ideal=true:=by rw [Ft,OQ,hi]
 rw [<- Ft,<- hv] at HH |-;clear Ft hv hq hl Yd Kf yw hn hm db;unfold mg Gk at *;rw [hi] at kx kr ba |-;rw [Yz];clear hi Yz;go_enter func105,ntmps105
 go_upto_region 1 with fail
 generalize (w.alloc _).alloc _=w1 at kx kr ba |-;have LR1:=zH kr.lt;have cx:=kx.cell;go_wp2_with fail
 refine (HH.out w1 ba).mono ?_;rintro e w2 ⟨A2,n2,c2,rfl,Rj,Da⟩;replace kx:=ma kx Da;replace kr:=ma kr Da;replace ba:=pa ba Da;have vI:=zH Da.size;have Ug:=zH Rj;clear Da Rj cx;have krl:=kr.lt;obtain ⟨kt,ja⟩:=zN w2 51 #[vd vq O'.st,vd vt O'.dr,ve A2 n2 c2,ve vB 0 0,ve vB 0 0];have Jp:=zH (Za Ug.out (Yb ja));replace kr:=ma kr ja;replace ba:=pa ba ja;have ne3:w2.1.size≠w.1.size+1:=by omega
 go_upto_region 3 with fail
 generalize w2.alloc _=w3 at kt kr ba Jp ja |-;clear kx;have kx:=kt;have LX:=zH (show w.1.size+1<w2.1.size from krl)
 clear ja kt Ug HH vI;have Sq:=kx.cell;have Gr:=kx.lt;have Hr:w.1.size≠w.1.size+1:=by omega
 refine Yc (Kj (w.1.size+1)) [4] [0,1,2,3,4] zK zK ?_;refine Td (Gd (w.1.size+1)) ?_;intro Wc Ca da;have Lg:=zH (show Blk Wc _ _ _ by rw [Ca.out];exact kr.drew)
 have df:=zH (show vz w.1.size w Wc by rw [Ca.out];exact ba.drew)
 have Pq:=Lg.out.cell;have Uq:=Lg.out.frozen;replace Jp:=zH (Za Jp.out (show Od _ _ Wc by rw [Ca.out];exact Oo))
 clear Ca;refine Lk ?_;refine Bd (Gd (w.1.size+1)) rfl rfl rfl ?_;go_simp;refine ⟨UA [.bool true,vd vq O'.st,vd vt O'.dr,ve A2 n2 c2,ve vB 0 0,ve vB 0 0] 0 _,?_⟩
 refine zPU ?_
 refine Ec ?_;have kf:=ug [.bool true,vd vq O'.st,vd vt O'.dr,ve A2 n2 c2,ve vB 0 0,ve vB 0 0] Lg.out rfl;have Bc:=ak (xs:=[.bool true,vd vq O'.st,vd vt O'.dr,ve A2 n2 c2,ve vB 0 0,ve vB 0 0]) (g:=w.1.size+1) df.out zO;have Si:∀ K:Nat -> Prop,¬K (w.1.size+1) -> Od K Wc (Cc Wc (w.1.size+1) [.bool true,vd vq O'.st,vd vt O'.dr,ve A2 n2 c2,ve vB 0 0,ve vB 0 0] 0):=fun K h=>sj h _ _
 simp only [Cc,yf,Nat.reduceAdd] at kf Bc Si;generalize vE (vE (vE (vE (vE (vE (Wc) _ _) _ _) _ _) _ _) _ _) _ _=wf at kf Bc Si |-;have cf:=kf.cell;clear Sq Gr Hr Pq Uq da;go_wp2;have Uo:=Za Jp.out (Si _ (fun h=>h.elim (fun h=>by have:=h.2;omega) (fun h=>by have:=LR1.out;omega)))
 exact Tc (by simp [results,results105,go_sem,cf]) rfl ⟨A2,n2,c2,rfl,Xp Uo (fun b h=>h.elim (fun h=>.inl h.1) fun h=>.inr (zQ LR1.out)),Bc⟩
theorem zDh {K:Nat -> Prop} (O:Oa) (Sk:Lv O) (hi:O.ideal=false) (A B:Option vx) (n c m d lab:Nat) (el:List Nat) (w:vv) (hq:Hd K w fun u=>Sd u [ve A n c] O.qs) (hl:RWd w [ve B m d] el) (Yd:lab<18446744073709551616) (Ua:0<el.length)
  (hn:O.qs.length <= 1000000) (hm:el.length <= 1000000) :
  vA prog 105 #[vf (mg O (ve A n c)),vd vq lab,ve B m d] w fun e w'=>∃ A' n' c',e=vn (.tuple #[vd vq (Pe O lab el:Int),vf (mg (td O lab el) (ve A' n' c'))]) /\ Hd (fun b=>K b \/ w.1.size <= b) w' (fun u=>Sd u [ve A' n' c'] (td O lab el).qs) /\ vz w.1.size w w':=by
 obtain ⟨kx,kr,ba,db⟩:=ig w 53 53 (mg O (ve A n c)) #[.bool false,vd vq 0,vd vt 0,ve vB 0 0,ve vB 0 0,ve vB 0 0];have Nk:=zH (fun w1 (hb:vz w.1.size w w1)=>zFz O Sk (fun h=>by rw [hi] at h;cases h) A B n c m d lab el w1 (Wn hq (Yb hb)) (Sa hb hl) Ua hm)
 have Mk:=zH (fun w1 (hb:vz w.1.size w w1)=>VZ A B n c m d lab O.qs el w1 (Wn hq (Yb hb)) (Sa hb hl))
 have HQ:=zH hq;obtain ⟨e1,e2⟩:=zCz Sk hi lab el;rw [e1,e2];have hp:=M7 Sk hi lab el;clear e1 e2;cases hE:Uc el
 ·rw [hE] at hp
  simp only [Bool.false_eq_true,if_false] at hp;rw [hp] at Nk;simp only [Option.getD_none,Option.isSome_none] at Nk;simp only [Bool.false_eq_true,if_false,Bool.false_and];clear hp hE Sk hq hl Yd Ua hn hm Mk db;unfold mg at *;rw [hi] at kx kr ba Nk |-;clear hi;go_enter func105,ntmps105
  go_upto_region 1 with fail
  generalize (w.alloc _).alloc _=w1 at kx kr ba |-;have cx:=kx.cell;go_wp2_with fail
  refine (Nk.out w1 ba).mono ?_;rintro e w2 ⟨rfl,Da⟩;replace kx:=ma kx Da;replace kr:=ma kr Da;replace ba:=pa ba Da;clear Da cx;have cx:=kx.cell;go_upto_region 7 with fail
  clear cx;have Sq:=kx.cell;have Gr:=kx.lt;have Hr:w.1.size≠w.1.size+1:=by omega
  refine Yc (Kj (w.1.size+1)) [3] [0,1,2,3] zK zK ?_;refine Td (Gd (w.1.size+1)) ?_;intro Wc Ca da;have Lg:=zH (show Blk Wc _ _ _ by rw [Ca.out];exact kr.drew)
  have df:=zH (show vz w.1.size w Wc by rw [Ca.out];exact ba.drew)
  have Pq:=Lg.out.cell;have Uq:=Lg.out.frozen;clear Ca;refine Lk ?_;refine Bd (Gd (w.1.size+1)) rfl rfl rfl ?_;go_simp;refine ⟨UA [.bool false,vd vq O.st,vd vt O.dr,ve A n c,ve vB 0 0,ve vB 0 0] 0 _,?_⟩
  refine zPU ?_
  refine Ec ?_;have kf:=ug [.bool false,vd vq O.st,vd vt O.dr,ve A n c,ve vB 0 0,ve vB 0 0] Lg.out rfl;have Bc:=ak (xs:=[.bool false,vd vq O.st,vd vt O.dr,ve A n c,ve vB 0 0,ve vB 0 0]) (g:=w.1.size+1) df.out zO;have Si:∀ K:Nat -> Prop,¬K (w.1.size+1) -> Od K Wc (Cc Wc (w.1.size+1) [.bool false,vd vq O.st,vd vt O.dr,ve A n c,ve vB 0 0,ve vB 0 0] 0):=fun K h=>sj h _ _
  simp only [Cc,yf,Nat.reduceAdd] at kf Bc Si;generalize vE (vE (vE (vE (vE (vE (Wc) _ _) _ _) _ _) _ _) _ _) _ _=wf at kf Bc Si |-;have cf:=kf.cell;clear Sq Gr Hr Pq Uq da;go_wp2;exact Tc (by simp [results,results105,go_sem,cf]) rfl ⟨A,n,c,rfl,Xp (Za HQ.out (Yb Bc)) (fun _ h=>.inl h),Bc⟩
 rw [hE] at hp;simp only [if_true] at hp;rw [hp] at Nk;simp only [Option.getD_some,Option.isSome_some] at Nk;simp only [if_true,Bool.true_and];obtain ⟨sp,hsp⟩:=zEX (Dj lab el);rw [<- hsp] at Nk |-;have HSP:=zH (show sp<18446744073709551616 by rw [hsp];exact Sp (VM lab el))
 clear hp hE hsp;rcases WZ O.qs lab el with ⟨e1,e2⟩ | ⟨i,Ih,e1,e2⟩
 rotate_left
 ·rw [e2]
  rw [e1] at Mk;simp only [Option.isNone_some,Bool.false_eq_true,if_false];have g1:¬((i:Int)<0):=by omega
  have g1':decide ((i:Int)<0)=false:=Ib g1;clear e1 e2 Ih Sk hq hl Yd Ua hn hm db HSP;unfold mg at *;rw [hi] at kx kr ba Nk |-;clear hi;go_enter func105,ntmps105
  go_upto_region 1 with fail
  generalize (w.alloc _).alloc _=w1 at kx kr ba |-;have cx:=kx.cell;go_wp2_with fail
  refine (Nk.out w1 ba).mono ?_;rintro e w2 ⟨rfl,Da⟩;replace kx:=ma kx Da;replace kr:=ma kr Da;replace ba:=pa ba Da;clear Da cx;have cx:=kx.cell;go_wp2_with fail
  refine (Mk.out w2 ba).mono ?_;rintro e w3 ⟨rfl,Ta⟩;replace kx:=ma kx Ta;replace kr:=ma kr Ta;replace ba:=pa ba Ta;clear Ta cx;go_upto_region 7 with fail
  have Sq:=kx.cell;have Gr:=kx.lt;have Hr:w.1.size≠w.1.size+1:=by omega
  refine Yc (Kj (w.1.size+1)) [3] [0,1,2,3] zK zK ?_;refine Td (Gd (w.1.size+1)) ?_;intro Wc Ca da;have Lg:=zH (show Blk Wc _ _ _ by rw [Ca.out];exact kr.drew)
  have df:=zH (show vz w.1.size w Wc by rw [Ca.out];exact ba.drew)
  have Pq:=Lg.out.cell;have Uq:=Lg.out.frozen;clear Ca;refine Lk ?_;refine Bd (Gd (w.1.size+1)) rfl rfl rfl ?_;go_simp;refine ⟨UA [.bool false,vd vq O.st,vd vt O.dr,ve A n c,ve vB 0 0,ve vB 0 0] 0 _,?_⟩
  refine zPU ?_
  refine Ec ?_;have kf:=ug [.bool false,vd vq O.st,vd vt O.dr,ve A n c,ve vB 0 0,ve vB 0 0] Lg.out rfl;have Bc:=ak (xs:=[.bool false,vd vq O.st,vd vt O.dr,ve A n c,ve vB 0 0,ve vB 0 0]) (g:=w.1.size+1) df.out zO;have Si:∀ K:Nat -> Prop,¬K (w.1.size+1) -> Od K Wc (Cc Wc (w.1.size+1) [.bool false,vd vq O.st,vd vt O.dr,ve A n c,ve vB 0 0,ve vB 0 0] 0):=fun K h=>sj h _ _
  simp only [Cc,yf,Nat.reduceAdd] at kf Bc Si;generalize vE (vE (vE (vE (vE (vE (Wc) _ _) _ _) _ _) _ _) _ _) _ _=wf at kf Bc Si |-;have cf:=kf.cell;clear Sq Gr Hr Pq Uq da;go_wp2;exact Tc (by simp [results,results105,go_sem,cf]) rfl ⟨A,n,c,rfl,Xp (Za HQ.out (Yb Bc)) (fun _ h=>.inl h),Bc⟩
 rw [e2];rw [e1] at Mk;simp only [Option.isNone_none,if_true];obtain ⟨zj,Jt,JE,Sf,af⟩:=Mb hl;obtain ⟨xs,Vt,hlen,LH⟩:=N9 (zk hq);have sO:=O9 (by rw [Vt.1,hlen]) (ym LH)
 have HX:=zH LH;have HXL:=zH (show xs.length=O.qs.length*3 by rw [Vt.1,hlen])
 have QI:=zH Vt;have Sy:=zH Sf;have Sh:=zH af;have jT:=zH Yd;have Jg:=zH hlen;have rB:=zH zj;have lT:=zH sO;have KE:n <= 1000000:=by omega
 have Ze:m <= 1000000:=by omega
 have g1:((-1:Int)<0):=by omega
 have Jl:∀ v,mg (rk O lab el sp) v=mg O v:=fun v=>rfl
 simp only [Jl,GG];clear LH Vt hl Sf af Yd hlen zj sO hn hm Jt JE db Jl e1 e2 Sk hq Ua;unfold mg at *;rw [hi] at kx kr ba Nk |-;clear hi;go_enter func105,ntmps105
 go_upto_region 1 with fail
 generalize (w.alloc _).alloc _=w0 at kx kr ba |-;have cx:=kx.cell;have LR0:=zH kr.lt;go_wp2_with fail
 refine (Nk.out w0 ba).mono ?_;rintro e w00 ⟨rfl,Da⟩;replace LR0:=zH (Be LR0.out Da.size);replace kx:=ma kx Da;replace kr:=ma kr Da;replace ba:=pa ba Da;clear Da cx;have cx:=kx.cell;go_wp2_with fail
 refine (Mk.out w00 ba).mono ?_;rintro e w1 ⟨rfl,Ta⟩;replace LR0:=zH (Be LR0.out Ta.size);replace kx:=ma kx Ta;replace kr:=ma kr Ta;replace ba:=pa ba Ta;clear Ta cx;have cx:=kx.cell;have lx:=kx.lt;have lr:=kr.lt;have ja:=zA w1 (.cells #[] 88);have oa:=Y6 w1 88 zR;have Ff:=(QI.out.below ba).below ja;go_wp2_with (at_builtin;refine fe rfl _ _ rfl VD rfl oa rfl Ff lT.out zO zS ?_)
 intro v2 w2 De Ja tb;have Da:vz w1.1.size w1 w2:=ja.trans (Ee oa Ja zS);have wt:=zH De;replace kx:=ma kx Da;replace kr:=ma kr Da;replace ba:=pa ba Da;have KX:=zH kx;have KR:=zH kr;have HB:=zH ba;have vI:=zH Da;have LX:=zH lx;have LR:=zH (show w.1.size+1<w1.1.size from lr)
 have SB:=zA w2 (.cells #[] 22);have gu:=ju w2 22 zR;have Wk:=(Sh.out.below ba).below SB;clear oa Ja tb ja Ff De cx lx lr kx kr ba Da;go_wp2_with (at_builtin;refine fe rfl _ _ rfl WD rfl gu rfl Wk (Gf _) zO zS ?_)
 intro v3 w3 Lt Ja tb;have Ta:vz w2.1.size w2 w3:=SB.trans (Ee gu Ja zS);have Cs:∃ A' c',v3=ve A' m c':=by obtain ⟨A',c',e,-⟩:=mc Lt;exact ⟨A',c',e⟩
 obtain ⟨A3,c3,rfl⟩:=Cs;have tK:=Yf Lt Sy.out;have OW3:=zH (yb wt.out Ta zR);replace KX:=zH (KX.out.below Ta KX.out.lt);replace KR:=zH (KR.out.below Ta KR.out.lt);replace HB:=zH (pa HB.out Ta);have nm:=zA w3 (.cells #[vd vq lab,ve A3 m c3,vd vq sp] 88);have Kw:=ZK w3 (vd vq lab) (ve A3 m c3) (vd vq sp) 88;have rq:=yb OW3.out nm zR;have hw4:=Sa nm tK;have wI:=zH (pa vI.out Ta);have YI:=zH (yb Lt nm zR);have V2:=zH (show ∀ b,v2.ownBlock=vD b -> b<w2.1.size from fun b hb=>(wt.out.lt b hb).2)
 have W2:=zH vI.out.size;have Rh:=zH (pa HB.out nm);clear gu Ja tb Wk Lt SB Ta tK wt;go_wp2_with (at_builtin;refine fe rfl _ _ rfl VD rfl rq rfl Kw (by intro u hu;simp at hu;rcases hu with rfl | rfl | rfl <;> rfl) zO (by have:=wI.out.size;simp;omega) ?_)
 intro v4 w4 Mt Ja tb;have hv4:∃ A' c',v4=ve A' (n+1) c':=by obtain ⟨A',c',e,-⟩:=mc Mt;exact ⟨A',c',e⟩
 obtain ⟨A4,c4,rfl⟩:=hv4;have hle:w1.1.size <= (w3.alloc (.cells #[vd vq lab,ve A3 m c3,vd vq sp] 88)).1.size:=Cb wI.out.size nm.size;have Ub:vz w1.1.size w3 w4:=(nm.mono wI.out.size).trans (Ee rq Ja hle);have Tw:=KX.out.below Ub LX.out;have Xj:=KR.out.below Ub LR.out;have te:vz w.1.size w w4:=HB.out.trans (Ub.mono (zQ LX.out));have GF:=Ge YI.out (u:=w4) fun b hb=>Ja.block b (YI.out.lt b hb).2 (fun e=>by
  have:=V2.out b e.symm;have:=(YI.out.lt b hb).1;omega)
 have bB:=zH (show ∀ u,Od (fun b=>K b /\ b<w.1.size) w u -> (∀ b,w1.1.size <= b -> b<w4.1.size -> u.1[b]?=w4.1[b]?) -> Sd u [ve A4 (n+1) c4] (O.qs++[⟨lab,el,sp⟩]) from fun u hbu hu=>by
  have o1:=Ge Mt (u:=u) fun b hb=>hu b (Mt.lt b hb).1 (Mt.lt b hb).2
  have o2:=Ge GF (u:=u) fun b hb=>hu b (Cb W2.out (GF.lt b hb).1) (GF.lt b hb).2
  exact R9 o1 (by simp [Jg.out]) (P9 HXL.out (HX.out u hbu) (Yf o2 Sy.out) jT.out HSP.out))
 have cx4:=Tw.cell;have fx4:=Tw.frozen;have lx4:=Tw.lt;have Ok:=zH Tw;have ji:=zH Xj;have LX2:=zH te;clear Ja tb Mt GF hle Ub Kw rq hw4 nm te Tw Xj;go_upto_region 7 with fail
 have ba:=LX2.out.setCell (p:=⟨w.1.size,3,vB⟩) zR (ve A4 (n+1) c4);have kr:=ji.out.far (p:=⟨w.1.size,3,vB⟩) zS (ve A4 (n+1) c4);have kx:=Ok.out.set_ 3 (ve A4 (n+1) c4);have Rt:w4.1.size <= (w4.setCell ⟨w.1.size,3,vB⟩ (ve A4 (n+1) c4)).1.size:=by simp [vE]
 have hh5:∀ b,w1.1.size <= b -> (w4.setCell ⟨w.1.size,3,vB⟩ (ve A4 (n+1) c4)).1[b]?=w4.1[b]?:=fun b hb=>Tg w4 ⟨w.1.size,3,vB⟩ _ b (by have:=LX.out;show b≠w.1.size;omega)
 generalize w4.setCell _ _=w5 at kx kr ba Rt hh5 |-;have HS5:=zH Rt;have HH5:=zH hh5;have Ip:=zH ba;clear cx4 fx4 lx4 Rt hh5;have Ry:Hid (Hd (fun b=>(K b /\ b<w.1.size) \/ w1.1.size <= b) w5 (fun u=>Sd u [ve A4 (n+1) c4] (O.qs++[⟨lab,el,sp⟩]))):=zH (fun u a=>bB.out u (Rx (Pu (Yb Ip.out) fun _ h=>h) (Pu a fun _ h=>.inl h)) (fun b h1 h2=>(a.block b (.inr h1) (Be h2 HS5.out)).trans (HH5.out b h1)))
 clear bB HH5 Ip;simp only [Ga,Ia,Ha] at kx;have Sq:=kx.cell;have Gr:=kx.lt;have Hr:w.1.size≠w.1.size+1:=by omega
 refine Yc (Kj (w.1.size+1)) [3] [0,1,2,3] zK zK ?_;refine Td (Gd (w.1.size+1)) ?_;intro Wc Ca da;have Lg:=zH (show Blk Wc _ _ _ by rw [Ca.out];exact kr.drew)
 have df:=zH (show vz w.1.size w Wc by rw [Ca.out];exact ba.drew)
 have Pq:=Lg.out.cell;have Uq:=Lg.out.frozen;replace Ry:=zH (Za Ry.out (show Od _ _ Wc by rw [Ca.out];exact Oo))
 clear Ca;refine Lk ?_;refine Bd (Gd (w.1.size+1)) rfl rfl rfl ?_;go_simp;refine ⟨UA [.bool false,vd vq O.st,vd vt O.dr,ve A4 (n+1) c4,ve vB 0 0,ve vB 0 0] 0 _,?_⟩
 refine zPU ?_
 refine Ec ?_;have kf:=ug [.bool false,vd vq O.st,vd vt O.dr,ve A4 (n+1) c4,ve vB 0 0,ve vB 0 0] Lg.out rfl;have Bc:=ak (xs:=[.bool false,vd vq O.st,vd vt O.dr,ve A4 (n+1) c4,ve vB 0 0,ve vB 0 0]) (g:=w.1.size+1) df.out zO;have Si:∀ K:Nat -> Prop,¬K (w.1.size+1) -> Od K Wc (Cc Wc (w.1.size+1) [.bool false,vd vq O.st,vd vt O.dr,ve A4 (n+1) c4,ve vB 0 0,ve vB 0 0] 0):=fun K h=>sj h _ _
 simp only [Cc,yf,Nat.reduceAdd] at kf Bc Si;generalize vE (vE (vE (vE (vE (vE (Wc) _ _) _ _) _ _) _ _) _ _) _ _=wf at kf Bc Si |-;have cf:=kf.cell;clear Sq Gr Hr Pq Uq da;go_wp2;have Uo:=Za Ry.out (Si _ (fun h=>h.elim (fun h=>by have:=h.2;omega) (fun h=>by have:=LR.out;omega)))
 exact Tc (by simp [results,results105,go_sem,cf]) rfl ⟨A4,n+1,c4,rfl,Xp Uo (fun b h=>h.elim (fun h=>.inl h.1) fun h=>.inr (zQ LX.out)),Bc⟩
theorem MQ {K:Nat -> Prop} (O:Oa) (Sk:Lv O) (A B:Option vx) (n c m d lab:Nat) (el:List Nat) (w:vv) (hq:Hd K w fun u=>Sd u [ve A n c] O.qs) (hl:RWd w [ve B m d] el) (Yd:lab<18446744073709551616) (Ua:0<el.length) (Kf:O.st<18446744073709551616) (hO:je O 1000000) (hm:el.length <= 1000000) :
  vA prog 105 #[vf (mg O (ve A n c)),vd vq lab,ve B m d] w fun e w'=>∃ A' n' c',e=vn (.tuple #[vd vq (Pe O lab el:Int),vf (mg (td O lab el) (ve A' n' c'))]) /\ Hd (fun b=>K b \/ w.1.size <= b) w' (fun u=>Sd u [ve A' n' c'] (td O lab el).qs) /\ vz w.1.size w w':=by
 cases hi:O.ideal
 ·exact zDh O Sk hi A B n c m d lab el w hq hl Yd Ua hO.1 hm
 ·exact zDg O hi A B n c m d lab el w hq hl Yd Kf (zQ hO.2) hO.1 hm
def XH (root n i Qc:Nat) (leaf path:List Nat):Bool :=
 Cv n&&decide (i<n)&&decide (2^path.length=n)&&decide (root<Ob)&&decide (Qc<Ob)&&Uc leaf&&Uc path
theorem zFP (root n i Qc:Nat) (A B:Option vx) (a c b e:Nat) (leaf path:List Nat) (w:vv) (hl:RWd w [ve A a c] leaf) (hp:RWd w [ve B b e] path) (Og:path.length <= 62) :
  vA prog 200 #[vd vq root,vd vt n,vd vt i,vf #[ve A a c,vd vq Qc,ve B b e]] w fun e w'=>e=vn (.bool (XH root n i Qc leaf path)) /\ vz w.1.size w w':=by
 have Zb:=(Mb hp).1;subst Zb;obtain ⟨Yh,ba⟩:=zN w 218 #[ve A a c,vd vq Qc,ve B path.length e];have Fu:=zH (fun w=>zDF n w)
 have Mv:=zH (fun w1 (hb:vz w.1.size w w1)=>I5 A a c leaf w1 (Sa hb hl))
 have Co:=zH (fun w1 (hb:vz w.1.size w w1)=>I5 B path.length e path w1 (Sa hb hp))
 have hV:XH root n i Qc leaf path=(Cv n&&decide (i<n)&&decide (2^path.length=n)&&decide (root<Ob)&&decide (Qc<Ob)&&Uc leaf&&Uc path):=rfl;obtain ⟨pv,Nt⟩:=zEX (XH root n i Qc leaf path);rw [<- Nt] at hV |-;obtain ⟨np,hnp⟩:=zEX (path.length);obtain ⟨ol,hol⟩:=zEX (Uc leaf);obtain ⟨op,hop⟩:=zEX (Uc path);obtain ⟨on,hon⟩:=zEX (Cv n);rw [<- hnp] at Og ba Yh Co hV |-;rw [<- hol] at Mv hV;rw [<- hop] at Co hV;rw [<- hon] at Fu hV;have HV:=zH hV;have kc:=Yh.cell;have f1:¬((i:Int)<0):=by omega
 have f1':decide ((i:Int)<0)=false:=Ib f1;clear Nt hnp hol hop hon hV hl hp;rcases on with _ | _
 ·have HF:=zH (show pv=false by rw [HV.out];rfl)
  clear HV Mv Co;go_enter func200,ntmps200
  go_wp2_with fail
  generalize w.alloc _=w1 at ba Yh kc |-;refine (Fu.out _).mono ?_;rintro _ w2 ⟨rfl,rfl⟩;go_wp2_with fail
  go_ret
  exact ⟨by rw [HF.out];rfl,ba⟩
 ·by_cases Xd:i<n
  ·have t1:¬((n:Int)<=i):=by omega
   have t1':decide ((n:Int)<=i)=false:=Ib t1;have t1n:decide (n <= i)=false:=Ib zO;obtain ⟨pw,Vj⟩:=zEX (2^np);have hpl2:pw<9223372036854775808:=by rw [Vj];exact Az (QB zO Og) zD
   have hw:wrap64 ((2:Int)^np)=(pw:Int):=by
    rw [show (2:Int)^np=(pw:Int) by rw [Vj,Int.natCast_pow];rfl]
    unfold wrap64;omega
   rw [<- Vj] at HV;clear Vj hpl2;by_cases PE:pw=n
   ·have t2:((pw:Int)!=n)=false:=by subst PE;simp
    by_cases hr:root<Ob
    ·by_cases hs:Qc<Ob
     ·have t3:decide ((root:Int)<18446744069414584321)=true:=Qb (by unfold Ob at hr;omega)
      have t4:decide ((Qc:Int)<18446744069414584321)=true:=Qb (by unfold Ob at hs;omega)
      rcases ol with _ | _
      ·have HF:=zH (show pv=false by rw [HV.out];simp)
       clear HV hr hs PE;go_enter func200,ntmps200
       go_wp2_with fail
       generalize w.alloc _=w1 at ba Yh kc |-;refine (Fu.out _).mono ?_;rintro _ w2 ⟨rfl,rfl⟩;go_wp2_with fail
       refine (Mv.out _ ba).mono ?_;rintro _ w2 ⟨rfl,rfl⟩;go_wp2_with fail
       go_ret
       exact ⟨by rw [HF.out];rfl,ba⟩
      ·have HF:=zH (show pv=op by rw [HV.out,Qb Xd,Qb PE,Qb hr,Qb hs];simp)
       clear HV hr hs PE;go_enter func200,ntmps200
       go_wp2_with fail
       generalize w.alloc _=w1 at ba Yh kc |-;refine (Fu.out _).mono ?_;rintro _ w2 ⟨rfl,rfl⟩;go_wp2_with fail
       refine (Mv.out _ ba).mono ?_;rintro _ w2 ⟨rfl,rfl⟩;go_wp2_with fail
       refine (Co.out _ ba).mono ?_;rintro _ w2 ⟨rfl,rfl⟩;go_wp2_with fail
       go_ret
       exact ⟨by rw [HF.out];rfl,ba⟩
     ·have HF:=zH (show pv=false by rw [HV.out,Ib hs];simp)
      have t3:decide ((root:Int)<18446744069414584321)=true:=Qb (by unfold Ob at hr;omega)
      have t4:decide ((Qc:Int)<18446744069414584321)=false:=Ib (by unfold Ob at hs;omega)
      clear HV Mv Co hr hs PE;go_enter func200,ntmps200
      go_wp2_with fail
      generalize w.alloc _=w1 at ba Yh kc |-;refine (Fu.out _).mono ?_;rintro _ w2 ⟨rfl,rfl⟩;go_wp2_with fail
      go_ret
      exact ⟨by rw [HF.out];rfl,ba⟩
    ·have HF:=zH (show pv=false by rw [HV.out,Ib hr];simp)
     have t3:decide ((root:Int)<18446744069414584321)=false:=Ib (by unfold Ob at hr;omega)
     clear HV Mv Co hr PE;go_enter func200,ntmps200
     go_wp2_with fail
     generalize w.alloc _=w1 at ba Yh kc |-;refine (Fu.out _).mono ?_;rintro _ w2 ⟨rfl,rfl⟩;go_wp2_with fail
     go_ret
     exact ⟨by rw [HF.out];rfl,ba⟩
   ·have HF:=zH (show pv=false by rw [HV.out,Ib PE];simp)
    have t2:((pw:Int)!=n)=true:=by rw [Fh];omega
    clear HV Mv Co PE;go_enter func200,ntmps200
    go_wp2_with fail
    generalize w.alloc _=w1 at ba Yh kc |-;refine (Fu.out _).mono ?_;rintro _ w2 ⟨rfl,rfl⟩;go_wp2_with fail
    go_ret
    exact ⟨by rw [HF.out];rfl,ba⟩
  ·have HF:=zH (show pv=false by rw [HV.out,Ib Xd];simp)
   have t1:(n:Int)<=i:=by omega
   have t1':decide ((n:Int)<=i)=true:=Qb t1;have t1n:decide (n <= i)=true:=Qb zO;clear HV Mv Co;go_enter func200,ntmps200
   go_wp2_with fail
   generalize w.alloc _=w1 at ba Yh kc |-;refine (Fu.out _).mono ?_;rintro _ w2 ⟨rfl,rfl⟩;go_wp2_with fail
   go_ret
   exact ⟨by rw [HF.out];rfl,ba⟩
def zu (w:vv) (g:Nat) (O:Oa) (F:Nat -> Prop) (lab:Nat) (l:List Nat) (e:Ending) (w':vv):Prop :=
 e=vn (.tuple #[vd vq (((Rp O lab l).getD 0:Nat):Int), .bool (Rp O lab l).isSome]) /\ ∃ F',OrcAt w' g (Mi O lab l) F' /\ Moved F F' w w'
theorem zBs {w:vv} {g B:Nat} {O:Oa} {F:Nat -> Prop} (h:OrcAt w g O F) (hi:O.ideal=false) (hB:w.cell? ⟨B,0,vB⟩=vD (.pointer (vD ⟨g,0,vB⟩))) (lab:Nat) (l:List Nat) (A:Option vx) (n c:Nat) {K:Nat -> Prop} (hl:Kg K w (ve A n c) l) (hK:∀ b,K b -> ¬F b)
  (Yd:lab<18446744073709551616) (hlen:l.length <= 1000000) (Ua:0<l.length) (hO:je O 1000000) :
  vA prog 201 #[vd vq lab,ve A n c, .pointer (vD ⟨B,0,vB⟩)] w (zu w g O F lab l):=by
 have HH:=zH (OU h lab l A n c hl hK Yd hlen (.inl Ua) hO.1 hO.2);have e1:Rp O lab l=vD (Pe O lab l):=by unfold Rp;rw [hi];rfl
 have e2:Mi O lab l=td O lab l:=by unfold Mi;rw [hi];rfl
 unfold zu;rw [e1,e2];simp only [Option.getD_some,Option.isSome_some];clear h hl hK Yd hlen Ua hO e1 e2 hi;go_enter func201,ntmps201
 go_wp2_with fail
 refine HH.out.mono ?_;rintro _ w1 ⟨rfl,h1⟩;have H1:=zH h1;clear h1;go_wp2
 go_ret2
 exact ⟨rfl,H1.out⟩
theorem zBr {w:vv} {g:Nat} {O:Oa} {F:Nat -> Prop} (h:OrcAt w g O F) (hi:O.ideal=true) (lab:Nat) (l:List Nat) (A:Option vx) (n c:Nat) {K:Nat -> Prop} (hl:Kg K w (ve A n c) l)
  (Yd:lab<18446744073709551616) (hlen:l.length <= 1000000) (hO:je O 1000000) :
  vA prog 203 #[.pointer (vD ⟨g,0,vB⟩),vd vq lab,ve A n c] w (zu w g O F lab l):=by
 have e1:Rp O lab l=Nl O lab l:=by unfold Rp;rw [hi];rfl
 have e2:Mi O lab l=O:=by unfold Mi;rw [hi];rfl
 refine (zFB h lab l A n c (jq hl) Yd hlen (.inr hi) hO.1).mono fun e w' hh=>?_
 unfold zu;rw [e1,e2];exact ⟨hh.1,F,h.below hh.2,xe hh.2⟩
theorem tY:∀ b:Fin 1024,bits .and vt (b.val:Int) 1=((b.val%2:Nat):Int):=by decide +kernel
theorem nQ (O:Oa) (lab:Nat) (l:List Nat):(Mi O lab l).ideal=O.ideal:=by
 unfold Mi;split
 ·rfl
 ·exact OQ O lab l
theorem SK {O:Oa} {k:Nat} (h:je O k) (lab:Nat) (l:List Nat):je (Mi O lab l) (k+1):=by
 unfold Mi;split
 ·exact ti h (Nat.le_succ k)
 ·exact Vw h lab l
theorem zY {O:Oa} (h:qx O) {lab a:Nat} {l:List Nat} (e:Rp O lab l=vD a):a<Ob:=by
 unfold Rp Nl at e;split at e
 ·split at e
  ·split at e
   ·rename_i b hb
    injection e with e
    subst e;unfold oe at hb;cases hc:O.qs.find? (aj lab l) with
    | none=>rw [hc] at hb;cases hb
    | some x =>
     rw [hc] at hb
     injection hb with hb
     rw [<- hb];exact h x (List.mem_of_find?_eq_some hc)
   ·try (cases e;done)
    all_goals split at e
    all_goals try (cases e;done)
    all_goals (injection e with e;rw [<- e];exact VM lab l)
  ·cases e
 ·injection e with e
  rw [<- e];exact kC h lab l
theorem MS {p:Nat} {r:List Nat} {O:Oa} {lab i a:Nat} {el:List Nat} (h:Rp O lab el=vD a) :
  Ns (p :: r) O lab el i=Ns r (Mi O lab el) 17 (if i%2=1 then [p,a] else [a,p]) (i / 2) /\ Ms (p :: r) O lab el i=Ms r (Mi O lab el) 17 (if i%2=1 then [p,a] else [a,p]) (i / 2):=by
 simp only [Ns,Ms,h,Option.bind_some,and_self]
theorem zAV {r:List Nat} {O:Oa} {lab i:Nat} {el:List Nat} (h:Rp O lab el=vB):Ns r O lab el i=vB /\ Ms r O lab el i=Mi O lab el:=by
 cases r <;> simp [Ns,Ms,h]
theorem CY {B:Nat} {w u:vv} (hB:B <= w.1.size) (h:vz w.drew.1.size w.drew u):vz B w u:=⟨h.os,h.tape,h.output,h.size,fun b hb=>h.block b (by show b<w.1.size;omega)⟩
theorem FQ {w4 wn:vv} {gq:Nat} {x:vw} {o:Obj} {row:Option Nat} (hg:((w4.setCell ⟨gq,2,vB⟩ x).alloc o).grownBy wn row):(∀ b,b<w4.1.size -> b≠gq -> row≠vD b -> wn.1[b]?=w4.1[b]?) /\ w4.1.size <= wn.1.size /\ wn.os=w4.os /\ wn.tape=w4.tape /\ wn.output=w4.output:=by
 have hs:((w4.setCell ⟨gq,2,vB⟩ x).alloc o).1.size=w4.1.size+1:=by simp [vE]
 refine ⟨fun b hb hn hr=>?_,by have:=hg.size;omega,hg.os,hg.tape,hg.output⟩
 exact ((hg.block b zO (fun e=>hr e.symm)).trans (Below.heap_alloc _ o b (by simpa [vE] using hb))).trans (Tg w4 _ x b hn)
theorem mW {F F':Nat -> Prop} {w0 w wn:vv} (m:Moved F F' w0 w) (h:(∀ b,b<w0.1.size -> wn.1[b]?=w.1[b]?) /\ w.1.size <= wn.1.size /\ wn.os=w.os /\ wn.tape=w.tape /\ wn.output=w.output):Moved F F' w0 wn :=
 ⟨h.2.2.1.trans m.os,h.2.2.2.1.trans m.tape,h.2.2.2.2.trans m.output,Cb m.size h.2.1,fun b hb hn=>(h.1 b hb).trans (m.block b hb hn),m.foot⟩
def AN (w:vv) (g gx gq:Nat) (F:Nat -> Prop) (id:Bool) (i np:Nat) (path:List Nat) (xc:Array vw) (rv:Option Nat) (ro:Oa) (av st:vw) (wr:vv):Prop :=
 ∃ (k lab n:Nat) (el:List Nat) (Oc:Oa) (Fc Ke:Nat -> Prop) (an:Int) (Ae:Option vx) (ce:Nat) (cs:List vw),
  (k <= np /\ st=vd vt k /\ lab<18446744073709551616 /\ 0<el.length /\ el.length <= 100001) /\
  (OrcAt wr g Oc Fc /\ Moved F Fc w wr /\ Oc.ideal=id /\ je Oc (300000+k)) /\
  (Blk wr gq 88 #[vd vq lab,ve Ae el.length ce,vd vq an] /\ ¬Fc gq) /\
  (Kg Ke wr (ve Ae el.length ce) el /\ ∀ b,Ke b -> b<wr.1.size /\ ¬Fc b /\ b≠gq) /\
  (Blk wr gx 218 xc /\ ¬Fc gx) /\
  (wr.ownsRow (gq+1) 88 3 av n cs /\ n <= k /\ ∀ b,av.ownBlock=vD b -> ¬Fc b /\ ¬Ke b) /\
  rv=Ns (path.drop k) Oc lab el (i / 2^k) /\ ro=Ms (path.drop k) Oc lab el (i / 2^k)
theorem GQ {w w4 wn w9:vv} {g gx gq i np k n:Nat} {F Fd:Nat -> Prop} {O':Oa} {id:Bool} {path el':List Nat} {xc:Array vw} {rv:Option Nat} {ro:Oa} {u v':vw} {uk:List vw}
  (H4:OrcAt w4 g O' Fd) (M5:Moved F Fd w w4) (hid:O'.ideal=id) (hO:je O' (300000+(k+1)))
  (fm:∀ b,b<w4.1.size -> b≠gq -> u.ownBlock≠vD b -> wn.1[b]?=w4.1[b]?) (fs:w4.1.size <= wn.1.size /\ wn.os=w4.os /\ wn.tape=w4.tape /\ wn.output=w4.output)
  (yy:∀ b,u.ownBlock=vD b -> ¬Fd b) (Yk:∀ b,u.ownBlock=vD b -> gq+1 <= b) (uy:¬Fd gq) (DF:¬Fd gx) (Ok:Blk w4 gx 218 xc) (Wo:gx<gq) (hw:w.1.size <= gx)
  (own:wn.ownsRow (gq+1) 88 3 v' (n+1) uk) (tb:v'.ownBlock=u.ownBlock \/ v'.ownBlock=vD (w4.1.size+1)) (hn:n <= k) (hk:k+1 <= np)
  (a9:∀ b,b<wn.1.size -> b≠gq -> w9.1[b]?=wn.1[b]?) (s9:wn.1.size<w9.1.size) (o9:w9.os=wn.os /\ w9.tape=wn.tape /\ w9.output=wn.output)
  (jF:Blk w9 gq 88 #[vd vq 17,ve (vD ⟨wn.1.size,0,vB⟩) 2 2,vd vq 0]) (iF:Blk w9 wn.1.size 22 (Qa el').toArray) (Sf:el'.length=2) (hel64:∀ x∈el',x<18446744073709551616) (hgq4:gq<w4.1.size)
  (Jz:rv=Ns (path.drop (k+1)) O' 17 el' (i / 2^(k+1))) (Iz:ro=Ms (path.drop (k+1)) O' 17 el' (i / 2^(k+1))) :
  AN w g gx gq F id i np path xc rv ro v' (vd vt ((k+1:Nat):Int)) w9:=by
 have ag:∀ b,b<w4.1.size -> b≠gq -> u.ownBlock≠vD b -> w9.1[b]?=w4.1[b]?:=fun b h1 h2 h3=>(a9 b (zQ fs.1) h2).trans (fm b h1 h2 h3)
 have hgx4:=Ok.lt;have f1:=fs.1;refine ⟨k+1,17,n+1,el',O',Fd,fun b=>b=wn.1.size,0,vD ⟨wn.1.size,0,vB⟩,2,uk,⟨hk,rfl,zD,zO,zO⟩,⟨?_,?_,hid,hO⟩,⟨by rw [Sf];exact jF,uy⟩,⟨by rw [Sf];exact TV iF Sf hel64 (by simp [maxLen]),fun b hb=>?_⟩,⟨?_,DF⟩,⟨?_,zO,fun b hb=>?_⟩,Jz,Iz⟩
 ·exact H4.keep zO fun b hb=>ag b (H4.lt b hb) (fun e=>uy (by rw [<- e];exact hb)) (fun e=>yy b e hb)
 ·exact mW M5 ⟨fun b hb=>ag b (zQ M5.size) zO (fun e=>by have:=Yk b e;omega),zO,o9.1.trans fs.2.1,o9.2.1.trans fs.2.2.1,o9.2.2.trans fs.2.2.2⟩
 ·subst hb
  exact ⟨s9,fun e=>by have:=H4.lt _ e;omega,zO⟩
 ·exact (ag gx hgx4 zO (fun e=>by have:=Yk gx e;omega)).trans Ok
 ·exact Ge own fun b hb=>a9 b (own.lt b hb).2 (fun e=>by have:=(own.lt b hb).1;omega)
 ·have h2:=(own.lt b hb).2
  refine ⟨fun e=>?_,fun e=>zO⟩
  rcases tb with h | h
  ·rw [h] at hb;exact yy b hb e
  ·rw [h] at hb;have:=Pb hb;have:=H4.lt b e;omega
theorem zCW {w:vv} {g B:Nat} {O:Oa} {F K:Nat -> Prop} (h:OrcAt w g O F) (hid:O.ideal=false) (hB:Blk w B 58 #[.pointer (vD ⟨g,0,vB⟩)]) (nFB:¬F B) (root i Qc:Nat) (A Bp:Option vx) (a c pb pe:Nat) (leaf path:List Nat) (hl:Kg K w (ve A a c) leaf) (hp:Kg K w (ve Bp pb pe) path)
  (hK:∀ b,K b -> b<w.1.size /\ ¬F b) (hlen:leaf.length <= 100000) (Og:path.length <= 10) (hi:i<1024) (hO:je O 300000) (vO:Qc<18446744073709551616) :
  vA prog 204 #[.func (.func 201) #[] #[.pointer (vD ⟨B,0,vB⟩)],vd vq root,vd vt i,vf #[ve A a c,vd vq Qc,ve Bp pb pe]] w fun e w'=>∃ v F',e=vn (.tuple #[v, .bool (Ns path O 16 (Qc :: leaf) i == vD root)]) /\
   OrcAt w' g (Ms path O 16 (Qc :: leaf) i) F' /\ Moved F F' w w':=by
 obtain ⟨kx,ja⟩:=zN w 218 #[ve A a c,vd vq Qc,ve Bp pb pe];have HSA:=zH (fun w1 (hb:vz w.1.size w w1)=>X9 Qc A a c leaf w1 (jq (Dr hl hb)) zO)
 have H:=zH h;have HL:=zH hl;have HP:=zH hp;have HK:=zH hK;have Jg:=zH hlen;have HO:=zH hO;have Wy:=zH hid;obtain ⟨rv,xh⟩:=zEX (Ns path O 16 (Qc :: leaf) i);obtain ⟨ro,ah⟩:=zEX (Ms path O 16 (Qc :: leaf) i);rw [<- xh,<- ah];have Gq:=zH xh;have Gj:=zH ah;have vL:=zH vO;have kc:=kx.cell;have HB:=zH hB;have pG:=zH nFB;clear hB nFB;clear h hl hp hK hlen hO hid xh ah vO;go_enter func204,ntmps204
 go_wp2_with fail
 generalize w.alloc _=w1 at ja kx kc |-;refine (HSA.out _ ja).mono ?_;rintro _ w2 ⟨v,rfl,hv,Da⟩;obtain ⟨Av,cv,rfl,-⟩:=mc hv;go_wp2_with fail
 obtain ⟨kq,qE⟩:=zN w2 88 #[vd vq 16,ve Av (a+1) cv,vd vq 0];have te:=pa ja Da;have sE:=pa te qE;have l1:w.1.size<w1.1.size:=kx.lt;have l2:=Da.size;have Wo:w.1.size<w2.1.size:=by omega
 replace kx:=(ma kx Da).below qE Wo;have ao:∀ x∈Qc :: leaf,x<18446744073709551616:=sh vL.out (by obtain ⟨A',c',e',-,-,h9⟩:=CK HL.out;exact h9)
 have sK:=fun b hb=>hv.lt b hb
 have ar:=Dr (vM hv ao) qE;have my:=CK HP.out;generalize w2.alloc _=w3 at sE kx kq ar |-;generalize hgq:w2.1.size=gq at kq Wo |-;obtain ⟨gx,ZJ⟩:=zEX (w.1.size);rw [<- ZJ] at kx Wo |-;have xl:=zH ZJ;have Ll:pb=path.length:=by obtain ⟨A',c',e',-⟩:=my;injection e' with _ e2 _;
 clear ZJ ja qE Da kc hv te ao my;subst Ll;have fj:=zH (show a=leaf.length by obtain ⟨A',c',e',-⟩:=CK HL.out;injection e' with _ e2 _)
 have hX:∀ b,b<w.1.size -> b≠gq /\ b≠gx:=fun b hb=>by have:=xl.out;omega
 have MK:∀ b,w.1.size <= b -> ¬F b:=fun b hb hf=>by have:=H.out.lt b hf;omega
 have REL:AN w g gx gq F false i path.length path #[ve A a c,vd vq Qc,ve Bp path.length pe] rv ro (ve vB 0 0) (vd vt 0) w3:=by
  refine ⟨0,16,0,Qc :: leaf,O,F,fun b=>(ve Av (a+1) cv).ownBlock=vD b,0,Av,cv,[],⟨Rb _,rfl,zD,zS,by have:=Jg.out;simp;omega⟩,⟨H.out.below sE,xe sE,Wy.out,HO.out⟩,⟨?_,MK gq (zQ xl.out)⟩,⟨?_,fun b hb=>?_⟩,⟨kx,MK gx (zQ xl.out)⟩,⟨⟨rfl, .inl ⟨rfl,rfl⟩⟩,zR,fun b hb=>by simp [Value.ownBlock] at hb⟩,?_,?_⟩
  ·rw [pk,<- fj.out];exact kq
  ·rw [pk,<- fj.out];exact ar
  ·have:=sK b hb
   have:=kq.lt;exact ⟨zO,MK b zO,zO⟩
  ·rw [Gq.out];simp
  ·rw [Gj.out];simp
 clear ar kq kx sE sK l1 l2 hgq Gq Gj HO Wy;go_loopw [11,12] (fun av st wr=>AN w g gx gq F false i path.length path #[ve A a c,vd vq Qc,ve Bp path.length pe] rv ro av st wr) (fun _ st _=>path.length+1-(intOf st).toNat)
 case atStart=>exact REL
 case round =>
  clear REL;obtain ⟨k,lab,n,el,Oc,Fc,Ke,an,Ae,ce,cs,⟨hk,rfl,Yd,hel0,Sf⟩,⟨h1,m1,aK,El⟩,⟨kq,AF⟩,⟨ar,UG⟩,⟨kx,BF⟩,⟨own,tH,Oz⟩,Jz,Iz⟩:=hrel;have HASK:=zH (show ∀ e' w',zu wr g Oc Fc lab el e' w' -> zu wr g Oc Fc lab el e' w' from fun _ _ h=>h)
  have Ts:=zH (show vA prog 201 #[vd vq lab,ve Ae el.length ce, .pointer (vD ⟨B,0,vB⟩)] wr (zu wr g Oc Fc lab el) from zBs h1 aK ((HB.out.moved m1 pG.out).cell 0) lab el Ae el.length ce ar (fun b hb=>(UG b hb).2.1) Yd zO hel0 (ti El zO))
  have To:=kq.cell;have hfq:=kq.frozen;have hqx:gx≠gq:=by omega
  have HKe:=zH UG;have Ny:=zH Oz;have HKE:=zH ar;have M1:=zH m1;have KQ:=zH kq;have KX:=zH kx;have xt:=zH own;have bz:=zH El;have H1:=zH h1;have hnk2:n <= 10:=by omega
  have db:=kq.lt;rcases hq:Rp Oc lab el with _ | Xc
  ·obtain ⟨s1,s2⟩:=zAV (r:=path.drop k) (i:=i / 2^k) hq
   have xh:rv=vB:=by rw [Jz,s1]
   have ah:ro=Mi Oc lab el:=by rw [Iz,s2]
   have Ts:=zH (show vA prog 201 #[vd vq lab,ve Ae el.length ce, .pointer (vD ⟨B,0,vB⟩)] wr (fun e w'=>e=vn (.tuple #[vd vq 0, .bool false]) /\ ∃ F',OrcAt w' g (Mi Oc lab el) F' /\ Moved Fc F' wr w') from by have:=Ts.out;unfold zu at this;rw [hq] at this;exact this)
   have Gq:=zH xh;have Gj:=zH ah;clear Jz Iz s1 s2 hq xh ah ar UG Oz m1 kq kx own El h1;go_wp2_with fail
   refine Ts.out.mono ?_;rintro _ w4 ⟨rfl,Fd,h4,m4⟩;have Fj:=zH (show OrcAt w4 g ro Fd /\ Moved F Fd w w4 from by rw [Gj.out];exact ⟨h4,M1.out.trans m4⟩)
   clear h4 m4;go_wp2
   go_ret2
   exact ⟨_,Fd,by rw [Gq.out];rfl,Fj.out⟩
  ·have Ts:=zH (show vA prog 201 #[vd vq lab,ve Ae el.length ce, .pointer (vD ⟨B,0,vB⟩)] wr (fun e w'=>e=vn (.tuple #[vd vq Xc, .bool true]) /\ ∃ F',OrcAt w' g (Mi Oc lab el) F' /\ Moved Fc F' wr w') from by have:=Ts.out;unfold zu at this;rw [hq] at this;exact this)
   have HQ:=zH hq;have HAN:=zH (zY h1.ok.ans hq);have fD:=zH Jz;have eD:=zH Iz;clear Jz Iz hq ar UG Oz m1 kq kx own El h1;by_cases hkn:k=path.length
   ·subst hkn
    have xh:rv=vD Xc:=by rw [fD.out,List.drop_length];exact HQ.out
    have ah:ro=Mi Oc lab el:=by rw [eD.out,List.drop_length];rfl
    obtain ⟨res,Pt⟩:=zEX ((rv == vD root));have dres:((Xc:Int)==root)=res:=by
     rw [Pt,xh];by_cases h:Xc=root
     ·subst h;simp
     ·have h2:((Xc:Int)==root)=false:=by rw [Je];omega
      rw [h2];symm;simpa using h
    have dkk:(((path.length:Nat):Int) == (path.length:Int))=true:=by simp
    have uG:=zH Pt.symm;have Gj:=zH ah;clear Pt xh ah fD eD;go_wp2_with fail
    refine Ts.out.mono ?_;rintro _ w4 ⟨rfl,Fd,h4,m4⟩;have Aj:=KQ.out.moved m4 AF;have Yj:=QR xt.out m4 (fun b hb=>(Ny.out b hb).1)
    have uy:=qi m4 db AF;have DF:=qi m4 KX.out.lt BF;have yy:∀ b,u11.ownBlock=vD b -> ¬Fd b:=fun b hb=>qi m4 (xt.out.lt b hb).2 (Ny.out b hb).1
    have Yk:∀ b,u11.ownBlock=vD b -> gq+1 <= b:=fun b hb=>(Yj.lt b hb).1
    have M5:=zH (M1.out.trans m4);have Dm:(w4.setCell ⟨gq,2,vB⟩ (vd vq Xc)).ownsRow (gq+1) 88 3 u11 n cs:=Ge Yj fun b hb=>Tg w4 _ _ b (fun e=>by have:=Yk b hb;simp at e;omega)
    have H4:=zH h4;have Xr:=Aj.cell;have eH:=Aj.frozen;have Ok:=zH (KX.out.moved m4 BF);have GK:=Ok.out.cell;have Sw:=Aj.set_ 2 (vd vq Xc);have Jl:=Sw.cell;have LK:gq<w4.1.size:=Aj.lt;have Lu:=zH Aj;have lK:(w4.setCell ⟨gq,2,vB⟩ (vd vq Xc)).1.size=w4.1.size:=by simp [vE]
    have SE:Rd ((w4.setCell ⟨gq,2,vB⟩ (vd vq Xc)).alloc (.cells #[vd vq lab,ve Ae el.length ce,vd vq Xc] 88)) 3 (vD ⟨w4.1.size,0,vB⟩) 1 [vd vq lab,ve Ae el.length ce,vd vq Xc]:=by
     have:=ZK (w4.setCell ⟨gq,2,vB⟩ (vd vq Xc)) (vd vq lab) (ve Ae el.length ce) (vd vq Xc) 88;rw [lK] at this;exact this
    clear h4 m4 Aj Yj To hfq;go_wp2_with (at_builtin;refine fe rfl _ _ rfl VD rfl (Dm.alloc _) rfl SE (by intro u hu;simp at hu;rcases hu with rfl | rfl | rfl <;> rfl) zO zT ?_)
    intro v' wn Va Ja tb;obtain ⟨fm,fs⟩:=FQ Ja;have Fj:=zH (show OrcAt wn g ro Fd /\ Moved F Fd w wn from by
     rw [Gj.out];refine ⟨H4.out.keep fs.1 fun b hb=>fm b (H4.out.lt b hb) (fun e=>uy (by rw [<- e];exact hb)) (fun e=>yy b e hb),mW M5.out ⟨fun b hb=>fm b (zQ M5.out.size) (hX b hb).1 (fun e=>by have:=Yk b e;have:=(hX b hb);have:=xl.out;omega),fs⟩⟩)
    have Ef:∀ j,wn.cell? ⟨gx,j,vB⟩=_:=fun j=>(show wn.cell? ⟨gx,j,vB⟩=w4.cell? ⟨gx,j,vB⟩ by simp only [World.cell?,fm gx Ok.out.lt zO (fun e=>by have:=Yk gx e;omega)]).trans (Ok.out.cell j)
    clear Ja tb Va fm fs GK Xr eH Jl Sw Dm;go_wp2
    go_ret2
    exact ⟨_,Fd,by rw [uG.out];rfl,Fj.out⟩
   ·have IE:k<path.length:=by omega
    have oO:path.drop k=path.getD k 0 :: path.drop (k+1):=by
     rw [List.drop_eq_getElem_cons IE,Gc,Dc IE];rfl
    have Bk:i / 2^k / 2=i / 2^(k+1):=by rw [qj,Nat.div_div_eq_div_mul]
    have xh:=fD.out;have ah:=eD.out;rw [oO] at xh ah;rw [(MS HQ.out).1,Bk] at xh;rw [(MS HQ.out).2,Bk] at ah;have dkk:((k:Int)==path.length)=false:=by rw [Je];omega
    have Gq:=zH xh;have Gj:=zH ah;have Cq:=zH IE;clear xh ah fD eD oO Bk hkn;go_wp2_with fail
    refine Ts.out.mono ?_;rintro _ w4 ⟨rfl,Fd,h4,m4⟩;have Aj:=KQ.out.moved m4 AF;have Yj:=QR xt.out m4 (fun b hb=>(Ny.out b hb).1)
    have uy:=qi m4 db AF;have DF:=qi m4 KX.out.lt BF;have yy:∀ b,u11.ownBlock=vD b -> ¬Fd b:=fun b hb=>qi m4 (xt.out.lt b hb).2 (Ny.out b hb).1
    have Yk:∀ b,u11.ownBlock=vD b -> gq+1 <= b:=fun b hb=>(Yj.lt b hb).1
    have M5:=zH (M1.out.trans m4);have Dm:(w4.setCell ⟨gq,2,vB⟩ (vd vq Xc)).ownsRow (gq+1) 88 3 u11 n cs:=Ge Yj fun b hb=>Tg w4 _ _ b (fun e=>by have:=Yk b hb;simp at e;omega)
    have H4:=zH h4;have Xr:=Aj.cell;have eH:=Aj.frozen;have Ok:=zH (KX.out.moved m4 BF);have GK:=Ok.out.cell;have Sw:=Aj.set_ 2 (vd vq Xc);have Jl:=Sw.cell;have LK:gq<w4.1.size:=Aj.lt;have Lu:=zH Aj;have lK:(w4.setCell ⟨gq,2,vB⟩ (vd vq Xc)).1.size=w4.1.size:=by simp [vE]
    have SE:Rd ((w4.setCell ⟨gq,2,vB⟩ (vd vq Xc)).alloc (.cells #[vd vq lab,ve Ae el.length ce,vd vq Xc] 88)) 3 (vD ⟨w4.1.size,0,vB⟩) 1 [vd vq lab,ve Ae el.length ce,vd vq Xc]:=by
     have:=ZK (w4.setCell ⟨gq,2,vB⟩ (vd vq Xc)) (vd vq lab) (ve Ae el.length ce) (vd vq Xc) 88;rw [lK] at this;exact this
    clear h4 m4 Aj Yj To hfq;go_wp2_with (at_builtin;refine fe rfl _ _ rfl VD rfl (Dm.alloc _) rfl SE (by intro u hu;simp at hu;rcases hu with rfl | rfl | rfl <;> rfl) zO zT ?_)
    intro v' wn Va Ja tb;obtain ⟨fm,fs⟩:=FQ Ja;have Ef:∀ j,wn.cell? ⟨gx,j,vB⟩=_:=fun j=>(show wn.cell? ⟨gx,j,vB⟩=w4.cell? ⟨gx,j,vB⟩ by simp only [World.cell?,fm gx Ok.out.lt zO (fun e=>by have:=Yk gx e;omega)]).trans (Ok.out.cell j)
    have hKw:∀ b,K b -> b<w.1.size -> wn.1[b]?=w.1[b]?:=fun b hb hl=>(fm b (zQ M5.out.size) (hX b hl).1 (fun e=>by have:=Yk b e;have:=xl.out;omega)).trans (M5.out.block b hl (HK.out b hb).2)
    have DK:=lF HP.out (Cb M5.out.size fs.1) hKw;obtain ⟨b3,q3,eP,Ta,bH⟩:=Ve (Mb (jq DK)).2.2.2.2 Cq.out;have sr:=qF (Mb (jq DK)).2.2.2.1 Cq.out;subst eP;have Gu:=zH sr;have FM:=zH fm;have FS:=zH fs;have uN:=zH Va;have fN:=zH tb;have GROW:=zH Ja;have kF:=(Sw.alloc (.cells #[vd vq lab,ve Ae el.length ce,vd vq Xc] 88)).grown Ja (fun e=>by have:=Yk gq e.symm;omega)
    have hkI:(k:Int) <= 10:=by omega
    have hkl2:(k:Int)<path.length:=by have:=Cq.out;omega
    have oC:(0:Int)<=k:=by omega
    obtain ⟨px,sr⟩:=zEX (path.getD k 0);rw [<- sr] at bH Gu Gq Gj;clear Ja tb Va fm fs GK Xr eH Jl Sw Dm SE hKw DK sr;have KQN:=zH kF;have lqn:=kF.lt;obtain ⟨Hi,Gt⟩:=zN wn 22 #[vd vq Xc,vd vq px];have Cr:=ma kF Gt;have xg:=zH (show Xc<18446744073709551616 by have:=HAN.out;unfold Ob at this;omega)
    have dA:i / 2^k<1024:=Az (Mx _ _) hi;have rE:=tY ⟨i / 2^k,dA⟩;simp only at rE;rw [show ((i / 2^k:Nat):Int)=(i:Int) / 2^k by simp] at rE
    have sA:wn.1.size<(wn.alloc (.cells #[vd vq Xc,vd vq px] 22)).1.size:=by simp
    clear kF dA;by_cases Gi:i / 2^k%2=1
    ·rw [Gi] at rE
     have dd:((1:Int) == 1)=true:=rfl;have ZI:=zH (fun w9 a9 s9 o9 jF iF=>GQ (w9:=w9) (el':=[px,Xc]) (O':=Mi Oc lab el) (rv:=rv) (ro:=ro) (path:=path) (i:=i) (np:=path.length) (id:=false) H4.out M5.out (by rw [nQ];exact aK) (ti (SK bz.out lab el) zO) FM.out FS.out yy Yk uy DF Ok.out Wo (zQ xl.out) uN.out (fN.out.imp id fun h=>h.trans (by first | rfl | (simp [vE];done))) tH (zQ Cq.out) a9 s9 o9 jF iF rfl (sh Gu.out (sh xg.out fun _ h=>nomatch h)) LK (by have:=Gq.out;rw [Gb Gi] at this;exact this) (by have:=Gj.out;rw [Gb Gi] at this;exact this))
     clear Gi;go_upto_region 14 with fail
     generalize bF:wn.alloc _=wp at Cr Hi Gt sA |-;obtain ⟨gp,Yn⟩:=zEX (wn.1.size);have Xs:=zH Yn;rw [<- Yn] at Hi |-;have lgp:gq<gp:=by rw [Yn];exact lqn
     have jO:=Hi.cell;have lpp:=Hi.lt;have Zv:=zH Cr;have Vs:=zH Gt;have nz:=zH sA;clear Cr Gt bF Yn sA;refine SS (yc) [9,11] [9] [1,5,6] [0,1,2,3,4,5,6,7,8,9,10,11] zK zK ?_;refine zA6 (ya) ?_;intro Wc da;refine qI ?_;refine pI (ya) rfl rfl rfl ?_;replace Hi:=Hi.drew.below da Hi.lt;have rN:=zH (Zv.out.drew.below da Zv.out.lt);have XU:=Hi.cell;have eV:=Hi.frozen;have YS:=zH da;clear jO da lpp;go_simp;refine ⟨fun h=>Bool.noConfusion h,?_⟩
     have qA:=Hi.set_ 0 (vd vq px);have WE:vz wn.1.size wn (Wc.setCell ⟨gp,0,vB⟩ (vd vq px)):=(Vs.out.trans (CY (Nat.le_of_lt nz.out) YS.out)).setCell (by rw [Xs.out];exact zR) _
     have cK:Blk (Wc.setCell ⟨gp,0,vB⟩ (vd vq px)) gq 88 _:=rN.out.far (p:=⟨gp,0,vB⟩) zT _
     refine zPU ?_
     generalize Wc.setCell _ _=w6 at qA WE cK |-;have Wm:=qA.cell;have Yp:=qA.frozen;clear Hi XU eV rN;have da:=ya.refl w6;refine qI ?_;refine pI (ya) rfl rfl rfl ?_;go_simp;refine ⟨fun h=>Bool.noConfusion h,?_⟩
     have UE:=qA.set_ 1 (vd vq Xc);have kK:vz wn.1.size wn (w6.setCell ⟨gp,1,vB⟩ (vd vq Xc)):=WE.setCell (by rw [Xs.out];exact zR) _
     have fA:Blk (w6.setCell ⟨gp,1,vB⟩ (vd vq Xc)) gq 88 _:=cK.far (p:=⟨gp,1,vB⟩) zT _
     refine zPU ?_
     generalize w6.setCell _ _=bx at UE kK fA |-;refine TS ?_;have FI:Hid (Blk bx wn.1.size 22 (Qa [px,Xc]).toArray):=by
      show Blk _ _ _ _
      rw [<- Xs.out]
      simpa [Qa] using UE
     have hcp4:=fA.cell;have hfp4:=fA.frozen;have Zv:=zH fA;have iD:=zH kK;have nz:=zH (show wn.1.size<bx.1.size by rw [<- Xs.out];exact UE.lt)
     clear qA UE WE kK cK fA Wm Yp da Vs;go_wp2_with fail
     rw [Xs.out];have Tt:∀ (x0 x1 x2:vw) b,b≠gq -> (((bx.setCell ⟨gq,0,vB⟩ x0).setCell ⟨gq,1,vB⟩ x1).setCell ⟨gq,2,vB⟩ x2).1[b]?=bx.1[b]?:=fun x0 x1 x2 b hb=>(Tg _ ⟨gq,2,vB⟩ x2 b hb).trans ((Tg _ ⟨gq,1,vB⟩ x1 b hb).trans (Tg bx ⟨gq,0,vB⟩ x0 b hb))
     have Uo:=ZI.out (((bx.setCell ⟨gq,0,vB⟩ (vd vq 17)).setCell ⟨gq,1,vB⟩ (ve (vD ⟨wn.1.size,0,vB⟩) 2 2)).setCell ⟨gq,2,vB⟩ (vd vq 0)) (fun b hb hn=>(Tt _ _ _ b hn).trans (iD.out.block b hb)) (by simpa [vE] using nz.out) ⟨iD.out.os,iD.out.tape,iD.out.output⟩ (by have:=((Zv.out.set_ 0 (vd vq 17)).set_ 1 (ve (vD ⟨wn.1.size,0,vB⟩) 2 2)).set_ 2 (vd vq 0);simpa using this) ((Tt _ _ _ _ zO).trans FI.out)
     refine ⟨by rw [show (k:Int)+1=((k+1:Nat):Int) by simp];exact Uo,by have:=Cq.out;simp [intOf];omega⟩
    ·have h0:i / 2^k%2=0:=by omega
     rw [h0] at rE;have dd:(((0:Nat):Int) == 1)=false:=rfl;have ZI:=zH (fun w9 a9 s9 o9 jF iF=>GQ (w9:=w9) (el':=[Xc,px]) (O':=Mi Oc lab el) (rv:=rv) (ro:=ro) (path:=path) (i:=i) (np:=path.length) (id:=false) H4.out M5.out (by rw [nQ];exact aK) (ti (SK bz.out lab el) zO) FM.out FS.out yy Yk uy DF Ok.out Wo (zQ xl.out) uN.out (fN.out.imp id fun h=>h.trans (by first | rfl | (simp [vE];done))) tH (zQ Cq.out) a9 s9 o9 jF iF rfl (sh xg.out (sh Gu.out fun _ h=>nomatch h)) LK (by have:=Gq.out;rw [mb Gi] at this;exact this) (by have:=Gj.out;rw [mb Gi] at this;exact this))
     clear Gi h0;go_upto_region 15 with fail
     generalize bF:wn.alloc _=wp at Cr Hi Gt sA |-;have jO:=Cr.cell;have hfp2:=Cr.frozen;have FI:=zH Hi;have Zv:=zH Cr;have Vs:=zH Gt;have nz:=zH sA;clear Hi Cr Gt bF;go_wp2_with fail
     have Tt:∀ (x0 x1 x2:vw) b,b≠gq -> (((wp.setCell ⟨gq,0,vB⟩ x0).setCell ⟨gq,1,vB⟩ x1).setCell ⟨gq,2,vB⟩ x2).1[b]?=wp.1[b]?:=fun x0 x1 x2 b hb=>(Tg _ ⟨gq,2,vB⟩ x2 b hb).trans ((Tg _ ⟨gq,1,vB⟩ x1 b hb).trans (Tg wp ⟨gq,0,vB⟩ x0 b hb))
     have Uo:=ZI.out (((wp.setCell ⟨gq,0,vB⟩ (vd vq 17)).setCell ⟨gq,1,vB⟩ (ve (vD ⟨wn.1.size,0,vB⟩) 2 2)).setCell ⟨gq,2,vB⟩ (vd vq 0)) (fun b hb hn=>(Tt _ _ _ b hn).trans (Vs.out.block b hb)) (by simpa [vE] using nz.out) ⟨Vs.out.os,Vs.out.tape,Vs.out.output⟩ (by have:=((Zv.out.set_ 0 (vd vq 17)).set_ 1 (ve (vD ⟨wn.1.size,0,vB⟩) 2 2)).set_ 2 (vd vq 0);simpa using this) ((Tt _ _ _ _ zO).trans FI.out)
     refine ⟨by rw [show (k:Int)+1=((k+1:Nat):Int) by simp];exact Uo,by have:=Cq.out;simp [intOf];omega⟩
theorem zCV {w:vv} {g:Nat} {O:Oa} {F K:Nat -> Prop} (h:OrcAt w g O F) (hid:O.ideal=true) (root i Qc:Nat) (A Bp:Option vx) (a c pb pe:Nat) (leaf path:List Nat) (hl:Kg K w (ve A a c) leaf) (hp:Kg K w (ve Bp pb pe) path)
  (hK:∀ b,K b -> b<w.1.size /\ ¬F b) (hlen:leaf.length <= 100000) (Og:path.length <= 10) (hi:i<1024) (hO:je O 300000) (vO:Qc<18446744073709551616) :
  vA prog 204 #[.func (.func 203) #[.pointer (vD ⟨g,0,vB⟩)] #[],vd vq root,vd vt i,vf #[ve A a c,vd vq Qc,ve Bp pb pe]] w fun e w'=>∃ v F',e=vn (.tuple #[v, .bool (Ns path O 16 (Qc :: leaf) i == vD root)]) /\
   OrcAt w' g (Ms path O 16 (Qc :: leaf) i) F' /\ Moved F F' w w':=by
 obtain ⟨kx,ja⟩:=zN w 218 #[ve A a c,vd vq Qc,ve Bp pb pe];have HSA:=zH (fun w1 (hb:vz w.1.size w w1)=>X9 Qc A a c leaf w1 (jq (Dr hl hb)) zO)
 have H:=zH h;have HL:=zH hl;have HP:=zH hp;have HK:=zH hK;have Jg:=zH hlen;have HO:=zH hO;have Wy:=zH hid;obtain ⟨rv,xh⟩:=zEX (Ns path O 16 (Qc :: leaf) i);obtain ⟨ro,ah⟩:=zEX (Ms path O 16 (Qc :: leaf) i);rw [<- xh,<- ah];have Gq:=zH xh;have Gj:=zH ah;have vL:=zH vO;have kc:=kx.cell;clear h hl hp hK hlen hO hid xh ah vO;go_enter func204,ntmps204
 go_wp2_with fail
 generalize w.alloc _=w1 at ja kx kc |-;refine (HSA.out _ ja).mono ?_;rintro _ w2 ⟨v,rfl,hv,Da⟩;obtain ⟨Av,cv,rfl,-⟩:=mc hv;go_wp2_with fail
 obtain ⟨kq,qE⟩:=zN w2 88 #[vd vq 16,ve Av (a+1) cv,vd vq 0];have te:=pa ja Da;have sE:=pa te qE;have l1:w.1.size<w1.1.size:=kx.lt;have l2:=Da.size;have Wo:w.1.size<w2.1.size:=by omega
 replace kx:=(ma kx Da).below qE Wo;have ao:∀ x∈Qc :: leaf,x<18446744073709551616:=sh vL.out (by obtain ⟨A',c',e',-,-,h9⟩:=CK HL.out;exact h9)
 have sK:=fun b hb=>hv.lt b hb
 have ar:=Dr (vM hv ao) qE;have my:=CK HP.out;generalize w2.alloc _=w3 at sE kx kq ar |-;generalize hgq:w2.1.size=gq at kq Wo |-;obtain ⟨gx,ZJ⟩:=zEX (w.1.size);rw [<- ZJ] at kx Wo |-;have xl:=zH ZJ;have Ll:pb=path.length:=by obtain ⟨A',c',e',-⟩:=my;injection e' with _ e2 _;
 clear ZJ ja qE Da kc hv te ao my;subst Ll;have fj:=zH (show a=leaf.length by obtain ⟨A',c',e',-⟩:=CK HL.out;injection e' with _ e2 _)
 have hX:∀ b,b<w.1.size -> b≠gq /\ b≠gx:=fun b hb=>by have:=xl.out;omega
 have MK:∀ b,w.1.size <= b -> ¬F b:=fun b hb hf=>by have:=H.out.lt b hf;omega
 have REL:AN w g gx gq F true i path.length path #[ve A a c,vd vq Qc,ve Bp path.length pe] rv ro (ve vB 0 0) (vd vt 0) w3:=by
  refine ⟨0,16,0,Qc :: leaf,O,F,fun b=>(ve Av (a+1) cv).ownBlock=vD b,0,Av,cv,[],⟨Rb _,rfl,zD,zS,by have:=Jg.out;simp;omega⟩,⟨H.out.below sE,xe sE,Wy.out,HO.out⟩,⟨?_,MK gq (zQ xl.out)⟩,⟨?_,fun b hb=>?_⟩,⟨kx,MK gx (zQ xl.out)⟩,⟨⟨rfl, .inl ⟨rfl,rfl⟩⟩,zR,fun b hb=>by simp [Value.ownBlock] at hb⟩,?_,?_⟩
  ·rw [pk,<- fj.out];exact kq
  ·rw [pk,<- fj.out];exact ar
  ·have:=sK b hb
   have:=kq.lt;exact ⟨zO,MK b zO,zO⟩
  ·rw [Gq.out];simp
  ·rw [Gj.out];simp
 clear ar kq kx sE sK l1 l2 hgq Gq Gj HO Wy;go_loopw [11,12] (fun av st wr=>AN w g gx gq F true i path.length path #[ve A a c,vd vq Qc,ve Bp path.length pe] rv ro av st wr) (fun _ st _=>path.length+1-(intOf st).toNat)
 case atStart=>exact REL
 case round =>
  clear REL;obtain ⟨k,lab,n,el,Oc,Fc,Ke,an,Ae,ce,cs,⟨hk,rfl,Yd,hel0,Sf⟩,⟨h1,m1,aK,El⟩,⟨kq,AF⟩,⟨ar,UG⟩,⟨kx,BF⟩,⟨own,tH,Oz⟩,Jz,Iz⟩:=hrel;have HASK:=zH (show ∀ e' w',zu wr g Oc Fc lab el e' w' -> zu wr g Oc Fc lab el e' w' from fun _ _ h=>h)
  have Ts:=zH (show vA prog 203 #[.pointer (vD ⟨g,0,vB⟩),vd vq lab,ve Ae el.length ce] wr (zu wr g Oc Fc lab el) from zBr h1 aK lab el Ae el.length ce ar Yd zO (ti El zO))
  have To:=kq.cell;have hfq:=kq.frozen;have hqx:gx≠gq:=by omega
  have HKe:=zH UG;have Ny:=zH Oz;have HKE:=zH ar;have M1:=zH m1;have KQ:=zH kq;have KX:=zH kx;have xt:=zH own;have bz:=zH El;have H1:=zH h1;have hnk2:n <= 10:=by omega
  have db:=kq.lt;rcases hq:Rp Oc lab el with _ | Xc
  ·obtain ⟨s1,s2⟩:=zAV (r:=path.drop k) (i:=i / 2^k) hq
   have xh:rv=vB:=by rw [Jz,s1]
   have ah:ro=Mi Oc lab el:=by rw [Iz,s2]
   have Ts:=zH (show vA prog 203 #[.pointer (vD ⟨g,0,vB⟩),vd vq lab,ve Ae el.length ce] wr (fun e w'=>e=vn (.tuple #[vd vq 0, .bool false]) /\ ∃ F',OrcAt w' g (Mi Oc lab el) F' /\ Moved Fc F' wr w') from by have:=Ts.out;unfold zu at this;rw [hq] at this;exact this)
   have Gq:=zH xh;have Gj:=zH ah;clear Jz Iz s1 s2 hq xh ah ar UG Oz m1 kq kx own El h1;go_wp2_with fail
   refine Ts.out.mono ?_;rintro _ w4 ⟨rfl,Fd,h4,m4⟩;have Fj:=zH (show OrcAt w4 g ro Fd /\ Moved F Fd w w4 from by rw [Gj.out];exact ⟨h4,M1.out.trans m4⟩)
   clear h4 m4;go_wp2
   go_ret2
   exact ⟨_,Fd,by rw [Gq.out];rfl,Fj.out⟩
  ·have Ts:=zH (show vA prog 203 #[.pointer (vD ⟨g,0,vB⟩),vd vq lab,ve Ae el.length ce] wr (fun e w'=>e=vn (.tuple #[vd vq Xc, .bool true]) /\ ∃ F',OrcAt w' g (Mi Oc lab el) F' /\ Moved Fc F' wr w') from by have:=Ts.out;unfold zu at this;rw [hq] at this;exact this)
   have HQ:=zH hq;have HAN:=zH (zY h1.ok.ans hq);have fD:=zH Jz;have eD:=zH Iz;clear Jz Iz hq ar UG Oz m1 kq kx own El h1;by_cases hkn:k=path.length
   ·subst hkn
    have xh:rv=vD Xc:=by rw [fD.out,List.drop_length];exact HQ.out
    have ah:ro=Mi Oc lab el:=by rw [eD.out,List.drop_length];rfl
    obtain ⟨res,Pt⟩:=zEX ((rv == vD root));have dres:((Xc:Int)==root)=res:=by
     rw [Pt,xh];by_cases h:Xc=root
     ·subst h;simp
     ·have h2:((Xc:Int)==root)=false:=by rw [Je];omega
      rw [h2];symm;simpa using h
    have dkk:(((path.length:Nat):Int) == (path.length:Int))=true:=by simp
    have uG:=zH Pt.symm;have Gj:=zH ah;clear Pt xh ah fD eD;go_wp2_with fail
    refine Ts.out.mono ?_;rintro _ w4 ⟨rfl,Fd,h4,m4⟩;have Aj:=KQ.out.moved m4 AF;have Yj:=QR xt.out m4 (fun b hb=>(Ny.out b hb).1)
    have uy:=qi m4 db AF;have DF:=qi m4 KX.out.lt BF;have yy:∀ b,u11.ownBlock=vD b -> ¬Fd b:=fun b hb=>qi m4 (xt.out.lt b hb).2 (Ny.out b hb).1
    have Yk:∀ b,u11.ownBlock=vD b -> gq+1 <= b:=fun b hb=>(Yj.lt b hb).1
    have M5:=zH (M1.out.trans m4);have Dm:(w4.setCell ⟨gq,2,vB⟩ (vd vq Xc)).ownsRow (gq+1) 88 3 u11 n cs:=Ge Yj fun b hb=>Tg w4 _ _ b (fun e=>by have:=Yk b hb;simp at e;omega)
    have H4:=zH h4;have Xr:=Aj.cell;have eH:=Aj.frozen;have Ok:=zH (KX.out.moved m4 BF);have GK:=Ok.out.cell;have Sw:=Aj.set_ 2 (vd vq Xc);have Jl:=Sw.cell;have LK:gq<w4.1.size:=Aj.lt;have Lu:=zH Aj;have lK:(w4.setCell ⟨gq,2,vB⟩ (vd vq Xc)).1.size=w4.1.size:=by simp [vE]
    have SE:Rd ((w4.setCell ⟨gq,2,vB⟩ (vd vq Xc)).alloc (.cells #[vd vq lab,ve Ae el.length ce,vd vq Xc] 88)) 3 (vD ⟨w4.1.size,0,vB⟩) 1 [vd vq lab,ve Ae el.length ce,vd vq Xc]:=by
     have:=ZK (w4.setCell ⟨gq,2,vB⟩ (vd vq Xc)) (vd vq lab) (ve Ae el.length ce) (vd vq Xc) 88;rw [lK] at this;exact this
    clear h4 m4 Aj Yj To hfq;go_wp2_with (at_builtin;refine fe rfl _ _ rfl VD rfl (Dm.alloc _) rfl SE (by intro u hu;simp at hu;rcases hu with rfl | rfl | rfl <;> rfl) zO zT ?_)
    intro v' wn Va Ja tb;obtain ⟨fm,fs⟩:=FQ Ja;have Fj:=zH (show OrcAt wn g ro Fd /\ Moved F Fd w wn from by
     rw [Gj.out];refine ⟨H4.out.keep fs.1 fun b hb=>fm b (H4.out.lt b hb) (fun e=>uy (by rw [<- e];exact hb)) (fun e=>yy b e hb),mW M5.out ⟨fun b hb=>fm b (zQ M5.out.size) (hX b hb).1 (fun e=>by have:=Yk b e;have:=(hX b hb);have:=xl.out;omega),fs⟩⟩)
    have Ef:∀ j,wn.cell? ⟨gx,j,vB⟩=_:=fun j=>(show wn.cell? ⟨gx,j,vB⟩=w4.cell? ⟨gx,j,vB⟩ by simp only [World.cell?,fm gx Ok.out.lt zO (fun e=>by have:=Yk gx e;omega)]).trans (Ok.out.cell j)
    clear Ja tb Va fm fs GK Xr eH Jl Sw Dm;go_wp2
    go_ret2
    exact ⟨_,Fd,by rw [uG.out];rfl,Fj.out⟩
   ·have IE:k<path.length:=by omega
    have oO:path.drop k=path.getD k 0 :: path.drop (k+1):=by
     rw [List.drop_eq_getElem_cons IE,Gc,Dc IE];rfl
    have Bk:i / 2^k / 2=i / 2^(k+1):=by rw [qj,Nat.div_div_eq_div_mul]
    have xh:=fD.out;have ah:=eD.out;rw [oO] at xh ah;rw [(MS HQ.out).1,Bk] at xh;rw [(MS HQ.out).2,Bk] at ah;have dkk:((k:Int)==path.length)=false:=by rw [Je];omega
    have Gq:=zH xh;have Gj:=zH ah;have Cq:=zH IE;clear xh ah fD eD oO Bk hkn;go_wp2_with fail
    refine Ts.out.mono ?_;rintro _ w4 ⟨rfl,Fd,h4,m4⟩;have Aj:=KQ.out.moved m4 AF;have Yj:=QR xt.out m4 (fun b hb=>(Ny.out b hb).1)
    have uy:=qi m4 db AF;have DF:=qi m4 KX.out.lt BF;have yy:∀ b,u11.ownBlock=vD b -> ¬Fd b:=fun b hb=>qi m4 (xt.out.lt b hb).2 (Ny.out b hb).1
    have Yk:∀ b,u11.ownBlock=vD b -> gq+1 <= b:=fun b hb=>(Yj.lt b hb).1
    have M5:=zH (M1.out.trans m4);have Dm:(w4.setCell ⟨gq,2,vB⟩ (vd vq Xc)).ownsRow (gq+1) 88 3 u11 n cs:=Ge Yj fun b hb=>Tg w4 _ _ b (fun e=>by have:=Yk b hb;simp at e;omega)
    have H4:=zH h4;have Xr:=Aj.cell;have eH:=Aj.frozen;have Ok:=zH (KX.out.moved m4 BF);have GK:=Ok.out.cell;have Sw:=Aj.set_ 2 (vd vq Xc);have Jl:=Sw.cell;have LK:gq<w4.1.size:=Aj.lt;have Lu:=zH Aj;have lK:(w4.setCell ⟨gq,2,vB⟩ (vd vq Xc)).1.size=w4.1.size:=by simp [vE]
    have SE:Rd ((w4.setCell ⟨gq,2,vB⟩ (vd vq Xc)).alloc (.cells #[vd vq lab,ve Ae el.length ce,vd vq Xc] 88)) 3 (vD ⟨w4.1.size,0,vB⟩) 1 [vd vq lab,ve Ae el.length ce,vd vq Xc]:=by
     have:=ZK (w4.setCell ⟨gq,2,vB⟩ (vd vq Xc)) (vd vq lab) (ve Ae el.length ce) (vd vq Xc) 88;rw [lK] at this;exact this
    clear h4 m4 Aj Yj To hfq;go_wp2_with (at_builtin;refine fe rfl _ _ rfl VD rfl (Dm.alloc _) rfl SE (by intro u hu;simp at hu;rcases hu with rfl | rfl | rfl <;> rfl) zO zT ?_)
    intro v' wn Va Ja tb;obtain ⟨fm,fs⟩:=FQ Ja;have Ef:∀ j,wn.cell? ⟨gx,j,vB⟩=_:=fun j=>(show wn.cell? ⟨gx,j,vB⟩=w4.cell? ⟨gx,j,vB⟩ by simp only [World.cell?,fm gx Ok.out.lt zO (fun e=>by have:=Yk gx e;omega)]).trans (Ok.out.cell j)
    have hKw:∀ b,K b -> b<w.1.size -> wn.1[b]?=w.1[b]?:=fun b hb hl=>(fm b (zQ M5.out.size) (hX b hl).1 (fun e=>by have:=Yk b e;have:=xl.out;omega)).trans (M5.out.block b hl (HK.out b hb).2)
    have DK:=lF HP.out (Cb M5.out.size fs.1) hKw;obtain ⟨b3,q3,eP,Ta,bH⟩:=Ve (Mb (jq DK)).2.2.2.2 Cq.out;have sr:=qF (Mb (jq DK)).2.2.2.1 Cq.out;subst eP;have Gu:=zH sr;have FM:=zH fm;have FS:=zH fs;have uN:=zH Va;have fN:=zH tb;have GROW:=zH Ja;have kF:=(Sw.alloc (.cells #[vd vq lab,ve Ae el.length ce,vd vq Xc] 88)).grown Ja (fun e=>by have:=Yk gq e.symm;omega)
    have hkI:(k:Int) <= 10:=by omega
    have hkl2:(k:Int)<path.length:=by have:=Cq.out;omega
    have oC:(0:Int)<=k:=by omega
    obtain ⟨px,sr⟩:=zEX (path.getD k 0);rw [<- sr] at bH Gu Gq Gj;clear Ja tb Va fm fs GK Xr eH Jl Sw Dm SE hKw DK sr;have KQN:=zH kF;have lqn:=kF.lt;obtain ⟨Hi,Gt⟩:=zN wn 22 #[vd vq Xc,vd vq px];have Cr:=ma kF Gt;have xg:=zH (show Xc<18446744073709551616 by have:=HAN.out;unfold Ob at this;omega)
    have dA:i / 2^k<1024:=Az (Mx _ _) hi;have rE:=tY ⟨i / 2^k,dA⟩;simp only at rE;rw [show ((i / 2^k:Nat):Int)=(i:Int) / 2^k by simp] at rE
    have sA:wn.1.size<(wn.alloc (.cells #[vd vq Xc,vd vq px] 22)).1.size:=by simp
    clear kF dA;by_cases Gi:i / 2^k%2=1
    ·rw [Gi] at rE
     have dd:((1:Int) == 1)=true:=rfl;have ZI:=zH (fun w9 a9 s9 o9 jF iF=>GQ (w9:=w9) (el':=[px,Xc]) (O':=Mi Oc lab el) (rv:=rv) (ro:=ro) (path:=path) (i:=i) (np:=path.length) (id:=true) H4.out M5.out (by rw [nQ];exact aK) (ti (SK bz.out lab el) zO) FM.out FS.out yy Yk uy DF Ok.out Wo (zQ xl.out) uN.out (fN.out.imp id fun h=>h.trans (by first | rfl | (simp [vE];done))) tH (zQ Cq.out) a9 s9 o9 jF iF rfl (sh Gu.out (sh xg.out fun _ h=>nomatch h)) LK (by have:=Gq.out;rw [Gb Gi] at this;exact this) (by have:=Gj.out;rw [Gb Gi] at this;exact this))
     clear Gi;go_upto_region 14 with fail
     generalize bF:wn.alloc _=wp at Cr Hi Gt sA |-;obtain ⟨gp,Yn⟩:=zEX (wn.1.size);have Xs:=zH Yn;rw [<- Yn] at Hi |-;have lgp:gq<gp:=by rw [Yn];exact lqn
     have jO:=Hi.cell;have lpp:=Hi.lt;have Zv:=zH Cr;have Vs:=zH Gt;have nz:=zH sA;clear Cr Gt bF Yn sA;refine SS (yc) [9,11] [9] [1,5,6] [0,1,2,3,4,5,6,7,8,9,10,11] zK zK ?_;refine zA6 (ya) ?_;intro Wc da;refine qI ?_;refine pI (ya) rfl rfl rfl ?_;replace Hi:=Hi.drew.below da Hi.lt;have rN:=zH (Zv.out.drew.below da Zv.out.lt);have XU:=Hi.cell;have eV:=Hi.frozen;have YS:=zH da;clear jO da lpp;go_simp;refine ⟨fun h=>Bool.noConfusion h,?_⟩
     have qA:=Hi.set_ 0 (vd vq px);have WE:vz wn.1.size wn (Wc.setCell ⟨gp,0,vB⟩ (vd vq px)):=(Vs.out.trans (CY (Nat.le_of_lt nz.out) YS.out)).setCell (by rw [Xs.out];exact zR) _
     have cK:Blk (Wc.setCell ⟨gp,0,vB⟩ (vd vq px)) gq 88 _:=rN.out.far (p:=⟨gp,0,vB⟩) zT _
     refine zPU ?_
     generalize Wc.setCell _ _=w6 at qA WE cK |-;have Wm:=qA.cell;have Yp:=qA.frozen;clear Hi XU eV rN;have da:=ya.refl w6;refine qI ?_;refine pI (ya) rfl rfl rfl ?_;go_simp;refine ⟨fun h=>Bool.noConfusion h,?_⟩
     have UE:=qA.set_ 1 (vd vq Xc);have kK:vz wn.1.size wn (w6.setCell ⟨gp,1,vB⟩ (vd vq Xc)):=WE.setCell (by rw [Xs.out];exact zR) _
     have fA:Blk (w6.setCell ⟨gp,1,vB⟩ (vd vq Xc)) gq 88 _:=cK.far (p:=⟨gp,1,vB⟩) zT _
     refine zPU ?_
     generalize w6.setCell _ _=bx at UE kK fA |-;refine TS ?_;have FI:Hid (Blk bx wn.1.size 22 (Qa [px,Xc]).toArray):=by
      show Blk _ _ _ _
      rw [<- Xs.out]
      simpa [Qa] using UE
     have hcp4:=fA.cell;have hfp4:=fA.frozen;have Zv:=zH fA;have iD:=zH kK;have nz:=zH (show wn.1.size<bx.1.size by rw [<- Xs.out];exact UE.lt)
     clear qA UE WE kK cK fA Wm Yp da Vs;go_wp2_with fail
     rw [Xs.out];have Tt:∀ (x0 x1 x2:vw) b,b≠gq -> (((bx.setCell ⟨gq,0,vB⟩ x0).setCell ⟨gq,1,vB⟩ x1).setCell ⟨gq,2,vB⟩ x2).1[b]?=bx.1[b]?:=fun x0 x1 x2 b hb=>(Tg _ ⟨gq,2,vB⟩ x2 b hb).trans ((Tg _ ⟨gq,1,vB⟩ x1 b hb).trans (Tg bx ⟨gq,0,vB⟩ x0 b hb))
     have Uo:=ZI.out (((bx.setCell ⟨gq,0,vB⟩ (vd vq 17)).setCell ⟨gq,1,vB⟩ (ve (vD ⟨wn.1.size,0,vB⟩) 2 2)).setCell ⟨gq,2,vB⟩ (vd vq 0)) (fun b hb hn=>(Tt _ _ _ b hn).trans (iD.out.block b hb)) (by simpa [vE] using nz.out) ⟨iD.out.os,iD.out.tape,iD.out.output⟩ (by have:=((Zv.out.set_ 0 (vd vq 17)).set_ 1 (ve (vD ⟨wn.1.size,0,vB⟩) 2 2)).set_ 2 (vd vq 0);simpa using this) ((Tt _ _ _ _ zO).trans FI.out)
     refine ⟨by rw [show (k:Int)+1=((k+1:Nat):Int) by simp];exact Uo,by have:=Cq.out;simp [intOf];omega⟩
    ·have h0:i / 2^k%2=0:=by omega
     rw [h0] at rE;have dd:(((0:Nat):Int) == 1)=false:=rfl;have ZI:=zH (fun w9 a9 s9 o9 jF iF=>GQ (w9:=w9) (el':=[Xc,px]) (O':=Mi Oc lab el) (rv:=rv) (ro:=ro) (path:=path) (i:=i) (np:=path.length) (id:=true) H4.out M5.out (by rw [nQ];exact aK) (ti (SK bz.out lab el) zO) FM.out FS.out yy Yk uy DF Ok.out Wo (zQ xl.out) uN.out (fN.out.imp id fun h=>h.trans (by first | rfl | (simp [vE];done))) tH (zQ Cq.out) a9 s9 o9 jF iF rfl (sh xg.out (sh Gu.out fun _ h=>nomatch h)) LK (by have:=Gq.out;rw [mb Gi] at this;exact this) (by have:=Gj.out;rw [mb Gi] at this;exact this))
     clear Gi h0;go_upto_region 15 with fail
     generalize bF:wn.alloc _=wp at Cr Hi Gt sA |-;have jO:=Cr.cell;have hfp2:=Cr.frozen;have FI:=zH Hi;have Zv:=zH Cr;have Vs:=zH Gt;have nz:=zH sA;clear Hi Cr Gt bF;go_wp2_with fail
     have Tt:∀ (x0 x1 x2:vw) b,b≠gq -> (((wp.setCell ⟨gq,0,vB⟩ x0).setCell ⟨gq,1,vB⟩ x1).setCell ⟨gq,2,vB⟩ x2).1[b]?=wp.1[b]?:=fun x0 x1 x2 b hb=>(Tg _ ⟨gq,2,vB⟩ x2 b hb).trans ((Tg _ ⟨gq,1,vB⟩ x1 b hb).trans (Tg wp ⟨gq,0,vB⟩ x0 b hb))
     have Uo:=ZI.out (((wp.setCell ⟨gq,0,vB⟩ (vd vq 17)).setCell ⟨gq,1,vB⟩ (ve (vD ⟨wn.1.size,0,vB⟩) 2 2)).setCell ⟨gq,2,vB⟩ (vd vq 0)) (fun b hb hn=>(Tt _ _ _ b hn).trans (Vs.out.block b hb)) (by simpa [vE] using nz.out) ⟨Vs.out.os,Vs.out.tape,Vs.out.output⟩ (by have:=((Zv.out.set_ 0 (vd vq 17)).set_ 1 (ve (vD ⟨wn.1.size,0,vB⟩) 2 2)).set_ 2 (vd vq 0);simpa using this) ((Tt _ _ _ _ zO).trans FI.out)
     refine ⟨by rw [show (k:Int)+1=((k+1:Nat):Int) by simp];exact Uo,by have:=Cq.out;simp [intOf];omega⟩
def UC (O:Oa) (root n i Qc:Nat) (leaf path:List Nat):Bool:=XH root n i Qc leaf path&&(Ns path O 16 (Qc :: leaf) i == vD root)
def SC (O:Oa) (root n i Qc:Nat) (leaf path:List Nat):Oa:=if XH root n i Qc leaf path then Ms path O 16 (Qc :: leaf) i else O
theorem S7 {root n i Qc:Nat} {leaf path:List Nat} (h:XH root n i Qc leaf path=true):path.length <= 10 /\ i<1024 /\ Qc<Ob:=by
 unfold XH at h;simp only [Pd,Ru] at h;obtain ⟨⟨⟨⟨⟨⟨h1,h2⟩,h3⟩,h4⟩,h5⟩,h6⟩,h7⟩:=h;obtain ⟨d,hd,rfl⟩:=F6 h1;have e:path.length=d:=by
  rcases Nat.lt_trichotomy path.length d with h | h | h
  ·have:=Nat.pow_lt_pow_right (a:=2) zO h;omega
  ·exact h
  ·have:=Nat.pow_lt_pow_right (a:=2) zO h;omega
 have:2^d <= 2^10:=QB zO hd;exact ⟨zO,zO,h5⟩
theorem zH8 {w:vv} {g:Nat} {O:Oa} {F K:Nat -> Prop} (h:OrcAt w g O F) (root n i Qc:Nat) (A Bp:Option vx) (a c pb pe:Nat) (leaf path:List Nat) (hl:Kg K w (ve A a c) leaf) (hp:Kg K w (ve Bp pb pe) path)
  (hK:∀ b,K b -> b<w.1.size /\ ¬F b) (hlen:leaf.length <= 100000) (Og:path.length <= 62) (hO:je O 300000) :
  vA prog 119 #[.pointer (vD ⟨g,0,vB⟩),vd vq root,vd vt n,vd vt i,vf #[ve A a c,vd vq Qc,ve Bp pb pe]] w fun e w'=>∃ F',e=vn (.bool (UC O root n i Qc leaf path)) /\
   OrcAt w' g (SC O root n i Qc leaf path) F' /\ Moved F F' w w':=by
 obtain ⟨kB,kX,ba,db⟩:=ig w 58 218 #[.pointer (vD ⟨g,0,vB⟩)] #[ve A a c,vd vq Qc,ve Bp pb pe];have qD:=zH (fun w1 (hb:vz w.1.size w w1)=>zFP root n i Qc A Bp a c pb pe leaf path w1 (jq (Dr hl hb)) (jq (Dr hp hb)) Og)
 have H:=zH h;have HL:=zH hl;have HP:=zH hp;have HK:=zH hK;have Jg:=zH hlen;have HO:=zH hO;have nFB:Hid (¬F w.1.size):=fun e=>by have:=h.lt _ e;omega
 clear h hl hp hK hlen Og hO;cases hv:XH root n i Qc leaf path
 ·have HV:=zH (show UC O root n i Qc leaf path=false by unfold UC;rw [hv];rfl)
  have HW:=zH (show SC O root n i Qc leaf path=O by unfold SC;rw [hv];rfl)
  rw [hv] at qD;rw [HV.out,HW.out];clear hv HV HW;go_enter func119,ntmps119
  go_wp2_with fail
  generalize (w.alloc _).alloc _=w1 at kB kX ba db |-;refine (qD.out _ ba).mono ?_;rintro _ w2 ⟨rfl,Da⟩;have hb:=pa ba Da;have Fj:=zH (show OrcAt w2 g O F /\ Moved F F w w2 from ⟨H.out.below hb,xe hb⟩)
  go_wp2_with fail
  go_ret
  exact ⟨F,rfl,Fj.out⟩
 ·obtain ⟨p10,IV,hs⟩:=S7 hv
  have tM:Qc<18446744073709551616:=by unfold Ob at hs;omega
  have vL:=zH tM;obtain ⟨res,Pt⟩:=zEX ((Ns path O 16 (Qc :: leaf) i == vD root));obtain ⟨ro,ah⟩:=zEX (Ms path O 16 (Qc :: leaf) i);have HV:=zH (show UC O root n i Qc leaf path=res by unfold UC;rw [hv,Pt];rfl)
  have HW:=zH (show SC O root n i Qc leaf path=ro by unfold SC;rw [hv,ah];rfl)
  have uG:=zH Pt;have Gj:=zH ah;rw [hv] at qD;rw [HV.out,HW.out];have HP10:=zH p10;have HI:=zH IV;cases hid:O.ideal
  ·have Wy:=zH hid
   clear hv HV HW Pt ah hs tM p10 IV hid;go_enter func119,ntmps119
   go_wp2_with fail
   generalize (w.alloc _).alloc _=w1 at kB kX ba db |-;refine (qD.out _ ba).mono ?_;rintro _ w2 ⟨rfl,Da⟩;replace kB:=ma kB Da;replace kX:=ma kX Da;replace ba:=pa ba Da;have hcB:=kB.cell;have hcX:=kX.cell;clear Da qD;have yn:=zH (Q3 (H.out.below ba));rw [Wy.out] at yn;go_wp2_with fail
   refine yn.out.mono ?_;rintro _ w3 ⟨rfl,rfl⟩;have FOL:=zH (zCW (H.out.below ba) Wy.out kB nFB.out root i Qc A Bp a c pb pe leaf path (Dr HL.out ba) (Dr HP.out ba) (fun b hb=>⟨by have:=(HK.out b hb).1;have:=ba.size;omega,(HK.out b hb).2⟩) Jg.out HP10.out HI.out HO.out vL.out)
   rw [<- uG.out,<- Gj.out] at FOL;have MB:=zH (xe (F:=F) ba);clear kB kX ba db;go_wp2_with fail
   refine FOL.out.mono ?_;rintro _ w4 ⟨v,F',rfl,h4,m4⟩;have Fj:=zH (show OrcAt w4 g ro F' /\ Moved F F' w w4 from ⟨h4,MB.out.trans m4⟩)
   clear h4 m4;go_wp2;go_ret
   exact ⟨F',rfl,Fj.out⟩
  ·have Wy:=zH hid
   clear hv HV HW Pt ah hs tM p10 IV hid;go_enter func119,ntmps119
   go_wp2_with fail
   generalize (w.alloc _).alloc _=w1 at kB kX ba db |-;refine (qD.out _ ba).mono ?_;rintro _ w2 ⟨rfl,Da⟩;replace kB:=ma kB Da;replace kX:=ma kX Da;replace ba:=pa ba Da;have hcB:=kB.cell;have hcX:=kX.cell;clear Da qD;have yn:=zH (Q3 (H.out.below ba));rw [Wy.out] at yn;go_wp2_with fail
   refine yn.out.mono ?_;rintro _ w3 ⟨rfl,rfl⟩;have FOL:=zH (zCV (H.out.below ba) Wy.out root i Qc A Bp a c pb pe leaf path (Dr HL.out ba) (Dr HP.out ba) (fun b hb=>⟨by have:=(HK.out b hb).1;have:=ba.size;omega,(HK.out b hb).2⟩) Jg.out HP10.out HI.out HO.out vL.out)
   rw [<- uG.out,<- Gj.out] at FOL;have MB:=zH (xe (F:=F) ba);clear kB kX ba db;go_wp2_with fail
   refine FOL.out.mono ?_;rintro _ w4 ⟨v,F',rfl,h4,m4⟩;have Fj:=zH (show OrcAt w4 g ro F' /\ Moved F F' w w4 from ⟨h4,MB.out.trans m4⟩)
   clear h4 m4;go_wp2;go_ret
   exact ⟨F',rfl,Fj.out⟩
theorem nP {w w3:vv} {g gr:Nat} {O:Oa} {F F':Nat -> Prop} {t:vy} {c0 c1 x y:vw} (m:Moved F F' w w3) (hg:w.1.size <= gr) (h:OrcAt w3 g O F') (hn:¬F' gr) (k:Blk w3 gr t #[c0,c1]) :
  OrcAt ((w3.setCell ⟨gr,0,vB⟩ x).setCell ⟨gr,1,vB⟩ y) g O F' /\ Moved F F' w ((w3.setCell ⟨gr,0,vB⟩ x).setCell ⟨gr,1,vB⟩ y) /\ Blk ((w3.setCell ⟨gr,0,vB⟩ x).setCell ⟨gr,1,vB⟩ y) gr t #[x,y] :=
 ⟨(h.set hn x).set hn y,Hk (Hk m hg 0 x) hg 1 y,by have:=cJ k 0 1 x y;simpa using this⟩
theorem SR (w:vv) (x y:Nat):(w.alloc (.cells #[vd vq x,vd vq y] 22)).ownsRow w.1.size 22 1 (ve (vD ⟨w.1.size,0,vB⟩) 2 2) 2 (Qa [x,y]) :=
 ⟨rfl, .inr ⟨w.1.size,2,_,rfl,zR,heap_alloc_new w _,zR,by simp [maxLen],rfl,rfl⟩⟩
theorem zHH (label:Nat) (w:vv) :
  vA prog 160 #[vd vq label] w fun e w'=>e=vn (vf #[vd vq label,vd vq 0]) /\ vz w.1.size w w':=by
 obtain ⟨k2,Da⟩:=zN w 154 #[vd vq label,vd vq 0];have c0:=k2.cell 0;have c1:=k2.cell 1;go_enter func160,ntmps160
 go_wp2_with fail
 generalize w.alloc _=w1 at k2 Da c0 c1 |-;exact Tc (v:=vf #[vd vq label,vd vq 0]) (by simp [results,results160,go_sem,c0,c1]) rfl ⟨rfl,Da⟩
theorem uX {w:vv} {g:Nat} {O:Oa} {F K:Nat -> Prop} (h:OrcAt w g O F) (st ct tag:Nat) (A:Option vx) (n c:Nat) (l:List Nat) (hl:Kg K w (ve A n c) l) (hlen:l.length <= 100000) (Kf:st<18446744073709551616) (oK:tag<18446744073709551616) (hO:je O 1000000) :
  vA prog 159 #[.pointer (vD ⟨g,0,vB⟩),vf #[vd vq st,vd vq ct],vd vq tag,ve A n c] w fun e w' =>
   e=vn (vf #[vd vq (Pe O 18 (st :: tag :: l):Int),vd vq 0]) /\ ∃ F',OrcAt w' g (td O 18 (st :: tag :: l)) F' /\ Moved F F' w w':=by
 obtain ⟨kx,kr,ba,db⟩:=ig w 154 154 #[vd vq st,vd vq ct] #[vd vq 0,vd vq 0];have H:=zH h;have Ka:=(Mb (jq hl)).2.2.2.2;have ao:=(Mb (jq hl)).2.2.2.1;have hn:=(Mb (jq hl)).1;subst hn;have xg:=zH (sh Kf (sh oK ao));have Jg:=zH hlen;have HO:=zH hO;have zB:=zH Ka;clear h hl Ka ao Kf oK hO;go_enter func159,ntmps159
 go_upto_region 1 with fail
 generalize (w.alloc _).alloc _=w1 at kx kr ba db |-;have Ef:=kx.cell;have oa:=SR w1 st tag;have ja:=zA w1 (.cells #[vd vq st,vd vq tag] 22);have Wk:=(zB.out.below ba).below ja;have kH:w.1.size+1<w1.1.size:=kr.lt;clear db;go_wp2_with (at_builtin;refine fe rfl _ _ rfl WD rfl oa rfl Wk (Gf _) zO zS ?_)
 intro v' w2 De Ja tb;have Da:vz w1.1.size w1 w2:=ja.trans (Ee oa Ja zS);have gy:=vM (l:=st :: tag :: l) (Ii (c:=st :: tag :: l) De rfl) xg.out;have yv:=ma kx Da;have Xt:=ma kr Da;have Ta:=pa ba Da;have H2:=zH (H.out.below Ta);have HVB:=zH (show ∀ b,v'.ownBlock=vD b -> ¬F b from fun b hb hf=>by
  have:=H.out.lt b hf;have:=(De.lt b hb).1;omega)
 have Lh:∃ A' c',v'=ve A' (2+l.length) c':=by obtain ⟨A',c',e,-⟩:=mc De;exact ⟨A',c',e⟩
 obtain ⟨Av,cv,rfl⟩:=Lh;have sL:=zH (OU H2.out 18 (st :: tag :: l) Av (2+l.length) cv gy HVB.out zD zT (.inl zS) HO.out.1 HO.out.2);have M2:=zH (xe (F:=F) Ta);have zF:¬F (w.1.size+1):=fun e=>by have:=H.out.lt _ e;omega
 clear De Ja tb oa ja Wk Da yv gy Ta ba kx Ef kr;go_wp2_with fail
 refine sL.out.mono ?_;rintro _ w3 ⟨rfl,F',h3,m3⟩;have Cm:=Xt.moved m3 zF;have oq:=qi m3 Xt.lt zF;have ur:=nP (x:=vd vq (Pe O 18 (st :: tag :: l):Int)) (y:=vd vq 0) (gr:=w.1.size+1) (M2.out.trans m3) zO h3 oq Cm;have hf3:=Cm.frozen;have uj:=Cm.cell;clear h3 m3 Xt;go_wp2_with fail
 obtain ⟨s1,s2,s3⟩:=ur;generalize (w3.setCell _ _).setCell _ _=w4 at s1 s2 s3 |-;have c0:=s3.cell 0;have c1:=s3.cell 1;exact Tc (v:=vf #[vd vq (Pe O 18 (st :: tag :: l):Int),vd vq 0]) (by simp [results,results159,go_sem,c0,c1]) rfl ⟨rfl,F',s1,s2⟩
theorem zAn {w:vv} {g:Nat} {O:Oa} {F:Nat -> Prop} (h:OrcAt w g O F) (st ct p:Nat) (hp:0<p) (hp64:p<18446744073709551616) (Kf:st<18446744073709551616) (Rz:ct<1000000000) (hO:je O 1000000) :
  vA prog 166 #[.pointer (vD ⟨g,0,vB⟩),vf #[vd vq st,vd vq ct],vd vq p] w fun e w' =>
   e=vn (.tuple #[vd vq ((Pe O 19 [st,ct]%p:Nat):Int),vf #[vd vq st,vd vq ((ct+1:Nat):Int)]]) /\ ∃ F',OrcAt w' g (td O 19 [st,ct]) F' /\ Moved F F' w w':=by
 obtain ⟨kx,kr,ba,db⟩:=ig w 154 154 #[vd vq st,vd vq ct] #[vd vq 0,vd vq 0];have H:=zH h;have xg:=zH (show ∀ x∈[st,ct],x<18446744073709551616 from sh Kf (sh zO fun _ h=>nomatch h))
 have HO:=zH hO;have d0:((p:Int) == 0)=false:=by rw [Je];omega
 have HP64:=zH hp64;have HP:=zH hp;obtain ⟨c1,yd⟩:=zEX (ct+1);have ec:vq.wrap ((ct:Int)+1)=(c1:Int):=by rw [Vg];omega
 rw [<- yd];obtain ⟨av,Oz⟩:=zEX (Pe O 19 [st,ct]);rw [<- Oz];obtain ⟨rv,xh⟩:=zEX (av%p);have er:(av:Int).tmod (p:Int)=rv:=by rw [Ex zO,xh];exact (Int.natCast_emod av p).symm
 rw [<- xh];have Ny:=zH Oz;have Zo:(p:Int)≠0:=by omega
 have PE:¬(p=0):=by omega
 clear h Kf Rz hO yd Oz xh hp64;go_enter func166,ntmps166
 go_upto_region 3 with fail
 generalize (w.alloc _).alloc _=w1 at kx kr ba db |-;have Ef:=kx.cell;obtain ⟨kp,ja⟩:=zN w1 22 #[vd vq st,vd vq ct];have kH:w.1.size+1<w1.1.size:=kr.lt;have nFp:¬F w1.1.size:=fun e=>by have:=H.out.lt _ e;omega
 clear db;have yv:=ma kx ja;have Xt:=ma kr ja;have Ta:=pa ba ja;have H2:=zH (H.out.below Ta);have sL:=zH (OU H2.out 19 [st,ct] (vD ⟨w1.1.size,0,vB⟩) 2 2 (TV (l:=[st,ct]) kp rfl xg.out (by simp [maxLen])) (fun b hb=>by subst hb;exact nFp) zD zS (.inl zS) HO.out.1 HO.out.2)
 rw [<- Ny.out] at sL;have M2:=zH (xe (F:=F) Ta);have nFx:¬F w.1.size:=fun e=>by have:=H.out.lt _ e;omega
 have zF:¬F (w.1.size+1):=fun e=>by have:=H.out.lt _ e;omega
 have KX2:=zH yv;have uc:=zH Xt;clear ja kp yv Xt Ta ba kx kr;go_wp2_with fail
 generalize w1.alloc _=w2 at H2 sL M2 KX2 uc |-;refine sL.out.mono ?_;rintro _ w3 ⟨rfl,F',h3,m3⟩;have FK:=KX2.out.moved m3 nFx;have Cm:=uc.out.moved m3 zF;have oq:=qi m3 uc.out.lt zF;have MM:=zH (M2.out.trans m3);have H3:=zH h3;clear h3 m3 sL Ef;have Ef:=FK.cell;have lx:=FK.lt;have nxr:w.1.size≠w.1.size+1:=by omega
 go_wp2_with fail
 obtain ⟨gr,Ra⟩:=zEX (w.1.size+1);rw [<- Ra] at Cm oq nxr |-;have Uy:=zH Ra;clear Ra;refine Yc (Kj gr) [10] [0,1,2,3,4,5,6,7,8,9,10] zK zK ?_;refine Td (Gd gr) ?_;intro Wc Ca da;have k3:Blk Wc gr 154 #[vd vq 0,vd vq 0]:=by rw [Ca.out];exact Cm.drew
 have h4:=nP (x:=vd vq st) (y:=vd vq c1) (show Moved F F' w Wc by rw [Ca.out];exact uF MM.out) (by rw [Uy.out];omega) (show OrcAt Wc g (td O 19 [st,ct]) F' by rw [Ca.out];exact H3.out.drew) oq k3
 have hf3:=k3.frozen;have uj:=k3.cell;clear Ca;refine Lk ?_;refine Bd (Gd gr) rfl rfl rfl ?_;go_simp;refine ⟨LQ Wc gr 0 1 (vd vq st) (vd vq c1),?_⟩;obtain ⟨s1,s2,s3⟩:=h4
 refine zPU ?_
 generalize (Wc.setCell _ _).setCell _ _=w5 at s1 s2 s3 |-;refine Ec ?_;have c0:=s3.cell 0;have c2:=s3.cell 1;go_wp2;exact Tc (v:=.tuple #[vd vq rv,vf #[vd vq st,vd vq c1]]) (by simp [results,results166,go_sem,c0,c2]) rfl ⟨rfl,F',s1,s2⟩
def tl (s:Tr) (v:vw):Array vw:=#[.bool s.O.ideal,vd vq s.O.st,vd vt s.O.dr,v,ve vB 0 0,ve vB 0 0,vd vq s.st,vd vq s.ct]
theorem cY {K:Nat -> Prop} (s:Tr) (Sk:Lv s.O) (A B:Option vx) (n c m d tag:Nat) (l:List Nat) (w:vv) (hq:Hd K w fun u=>Sd u [ve A n c] s.O.qs) (hl:RWd w [ve B m d] l) (WG:s.O.st<18446744073709551616) (Kf:s.st<18446744073709551616) (oK:tag<18446744073709551616) (hO:je s.O 1000000) (hm:l.length <= 100000) :
  vA prog 101 #[vf (tl s (ve A n c)),vd vq tag,ve B m d] w fun e w'=>∃ A' n' c',e=vn (vf (tl (Vh s tag l) (ve A' n' c'))) /\ Hd (fun b=>K b \/ w.1.size <= b) w' (fun u=>Sd u [ve A' n' c'] (Vh s tag l).O.qs) /\ vz w.1.size w w':=by
 obtain ⟨kx,kr,ba,db⟩:=ig w 108 108 (tl s (ve A n c)) #[.bool false,vd vq 0,vd vt 0,ve vB 0 0,ve vB 0 0,ve vB 0 0,vd vq 0,vd vq 0];obtain ⟨zj,Jt,JE,Sf,af⟩:=Mb hl;have Vy:=zH (fun A1 n1 c1 w1 (hb:vz w.1.size w w1) (h1:RWd w1 [ve A1 n1 c1] (s.st :: tag :: l))=>MQ (K:=fun b=>K b /\ b<w.1.size) s.O Sk A A1 n c n1 c1 18 (s.st :: tag :: l) w1 (Za (zk hq) (Yb hb)) h1 zD zS WG hO zT)
 have xg:=zH (sh Kf (sh oK Sf));have Sh:=zH af;obtain ⟨O',Ft⟩:∃ O',O'=td s.O 18 (s.st :: tag :: l):=⟨_,rfl⟩;obtain ⟨v,hv⟩:=zEX (Pe s.O 18 (s.st :: tag :: l));have habs:Vh s tag l=⟨O',v,0⟩:=by unfold Vh;rw [Ft,hv]
 rw [habs];rw [<- Ft,<- hv] at Vy;have Ze:m <= 100000:=by omega
 clear hq hl WG Kf oK hO hm zj Jt JE Sf af Ft hv habs Sk;obtain ⟨⟨ideal,ost,odr,oqs⟩,st,ct⟩:=s;unfold tl mg at *;simp only at kx kr ba Vy xg |-;go_enter func101,ntmps101
 go_upto_region 1 with fail
 generalize (w.alloc _).alloc _=w1 at kx kr ba |-;obtain ⟨NQ,Dd⟩:=zEX (w1.1.size);have cx:=kx.cell;have lx:w.1.size<NQ:=by rw [Dd];exact kx.lt
 have lr:w.1.size+1<NQ:=by rw [Dd];exact kr.lt
 have nx:¬Xb w.1.size:=id;have KR:=zH kr;have HB:=zH ba;have Vd:=zH Dd;clear kx kr ba Dd;refine Ps (Xb) (Xb) (NQ) [5,7,8,14] [0,1,2,3,4,6,5,7,8,9,10,11] [(12,53,#[.bool false,vd vq 0,vd vt 0,ve vB 0 0,ve vB 0 0,ve vB 0 0])] [13,14] zK (ft.2 ⟨⟨_,rfl,rfl,fun a w=>by go_simp <;> rfl⟩,Kq _⟩) zK ?_
 refine Rs ?_;intro Wc Ca da;have Fa:Hid (Qh Xb NQ Xb Wc):=zH (by rw [Ca.out,Vd.out];exact ⟨zR,fun _ h=>h.elim,fun _ _ h=>h⟩)
 have oc:=zH (show vz w.1.size w Wc by rw [Ca.out];exact HB.out.drew)
 have uc:=zH (show Blk Wc _ _ _ by rw [Ca.out];exact KR.out.drew)
 clear Ca HB KR;refine Ig ?_;refine cN rfl rfl rfl Fa (fun wF Pa=>?_)
 replace oc:=zH (pa oc.out Pa);replace uc:=zH (uc.out.below Pa uc.out.lt);replace da:=zM (Kb Xb NQ) da (Ld Pa Fa.out.size);replace Fa:=zH (re Fa.out Pa);have ja:=zA wF (.cells #[vd vq st,vd vq tag] 22);have oa:=SR wF st tag;refine ⟨ve (vD ⟨wF.1.size,0,vB⟩) 2 2,wF.alloc (.cells #[vd vq st,vd vq tag] 22),Jf Xb wF (wF.alloc (.cells #[vd vq st,vd vq tag] 22)),by go_simp <;> rfl,Ah ja,om Fa.out ja,?_⟩
 have Ur:=Fa.out.size;replace oc:=zH (pa oc.out ja);replace uc:=zH (uc.out.below ja uc.out.lt);replace da:=zM (Kb Xb NQ) da (Ri Fa.out (Ah ja));replace Fa:=zH (wk Fa.out (Ah ja) (om Fa.out ja))
 refine zPU ?_
 generalize wF.alloc _=wP at ja oa oc uc da Fa |-;have Qj:∀ b,Jf Xb wF wP b -> NQ <= b:=fun b hb=>hb.elim (fun e=>e.elim) fun e=>Cb Ur e.1
 have Vq:∀ b,(ve (vD ⟨wF.1.size,0,vB⟩) 2 2).ownBlock=vD b -> Jf Xb wF wP b:=fun b hb=>.inr (oa.lt b hb)
 have yk:=ja.size;have iH:=Ur;generalize Jf Xb wF wP=V1 at Fa Qj Vq |-;generalize wF.1.size=gA at oa Vq yk iH |-;have Ka:=Sh.out.below oc.out;clear ja Ur Pa;refine AP rfl rfl rfl _ _ rfl (WD) rfl rfl Fa (oa) (Ka) (Gf _) zO (by first | exact zR | omega) (Vq) (fun wF v' w' Pa Va Ze Zp=>?_)
 replace oc:=zH (pa oc.out Pa);replace uc:=zH (uc.out.below Pa uc.out.lt);replace da:=zM (Kb Xb NQ) da (Ld Pa Fa.out.size);replace Fa:=zH (re Fa.out Pa);replace da:=zM (Kb Xb NQ) da (Ri Fa.out Ze);replace Fa:=zH (wk Fa.out Ze Zp)
 refine zPU ?_
 have bg:=zH (JL oc.out Ze fun b hb=>by have:=Qj b hb;omega)
 have Hj:=zH (uc.out.moved Ze fun e=>by have:=Qj _ e;omega)
 have Lh:∃ A' c',v'=ve A' (2+m) c':=by obtain ⟨A',c',e,-⟩:=mc Va;exact ⟨A',c',e⟩
 obtain ⟨Av,cv,rfl⟩:=Lh;have hw:=zH (Yf (Ii (c:=st :: tag :: l) Va rfl) xg.out);obtain ⟨V2,oE⟩:∃ V2:Nat -> Prop,V2=fun b=>V1 b \/ (ve Av (2+m) cv).ownBlock=vD b:=⟨_,rfl⟩
 rw [<- oE] at Fa Ze |-;have hV2j:∀ b,V2 b -> w.1.size+2 <= b:=fun b hb=>by
  rw [oE] at hb;exact hb.elim (fun e=>by have:=Qj b e;omega) fun e=>by have:=(Va.lt b e).1;omega
 clear oE;clear oa Ka Va Vq yk oc uc Ze Zp Pa;refine Ig ?_;refine Hv (f:=?_) (vals:=?_) rfl rfl rfl Fa ?_ (fun wF Pa=>?_)
 rotate_left 3
 replace bg:=zH (pa bg.out Pa);replace Hj:=zH (Hj.out.below Pa Hj.out.lt);replace hw:=zH (Sa Pa hw.out);replace da:=zM (Kb Xb NQ) da (Ld Pa Fa.out.size);replace Fa:=zH (re Fa.out Pa);refine (Vy.out Av (2+m) cv wF bg.out hw.out).mono ?_
 rotate_left
 ·intro w_;go_simp <;> rfl
 rintro e wC ⟨A2,n2,c2,rfl,Rj,ra⟩;clear Pa;refine ⟨_,Jf V2 wF wC,rfl,Ah ra,om Fa.out ra,?_⟩;replace da:=zM (Kb Xb NQ) da (Ri Fa.out (Ah ra));replace Fa:=zH (wk Fa.out (Ah ra) (om Fa.out ra));refine zPU ?_;obtain ⟨KK,qw⟩:∃ KK:Nat -> Prop,KK=fun b=>((K b /\ b<w.1.size) \/ wF.1.size <= b) /\ b<wC.1.size:=⟨_,rfl⟩
 have dH:=zk Rj;rw [<- qw] at dH;have tn:=zH dH;have Eo:=zH (show w.1.size+2 <= wF.1.size from by have:=bg.out.size;have:=Hj.out.lt;omega)
 have Yx:∀ b,KK b -> b<w.1.size \/ Jf V2 wF wC b:=fun b hb=>by
  rw [qw] at hb;exact hb.1.elim (fun e=>.inl e.2) fun e=>.inr (.inr ⟨e,hb.2⟩)
 have jG:=zH (show ∀ b,KK b -> K b \/ w.1.size <= b from fun b hb=>by
  rw [qw] at hb;exact hb.1.elim (fun e=>.inl e.1) fun e=>.inr (Cb bg.out.size e))
 have Rh:=zH (pa bg.out ra);have ji:=zH (Hj.out.below ra Hj.out.lt);have iC:∀ b,Jf V2 wF wC b -> w.1.size+2 <= b:=fun b hb=>hb.elim (fun e=>hV2j b e) fun e=>by have:=Eo.out;omega
 generalize Jf V2 wF wC=V3 at Fa Yx iC |-;clear Rj ra bg Hj qw dH;refine Ig ?_;refine Qs [(vD 8,12)] rfl Fa (fun xk wE Db sf=>?_)
 have pJ:=sf.blk _ (.head _) rfl;clear sf;unfold jl il;simp only [List.foldl];dsimp only at pJ
 generalize xk 12=g12 at pJ  |-;obtain ⟨cF,qO,EV⟩:=pJ;replace Rh:=zH (pa Rh.out Db);replace ji:=zH (ji.out.below Db ji.out.lt);replace tn:=zH (Za tn.out (Yb Db));replace da:=zM (Kb Xb NQ) da (Ld Db Fa.out.size);replace Fa:=zH (re Fa.out Db)
 refine zPU ?_
 have nK:¬KK g12:=fun e=>(Yx _ e).elim (fun h=>zO) EV
 have c12:=cF.cell;have f12:=cF.frozen;have K12:=zH cF;clear Db cF;refine Gm ?_;refine Bd (Kb Xb NQ) rfl rfl rfl ?_;go_simp;refine ⟨Ld (Dy qO [.bool O'.ideal,vd vq O'.st,vd vt O'.dr,ve A2 n2 c2,ve vB 0 0,ve vB 0 0] 0 _) zR,?_⟩
 refine zPU ?_
 refine Ec ?_;have k5:=ug [.bool O'.ideal,vd vq O'.st,vd vt O'.dr,ve A2 n2 c2,ve vB 0 0,ve vB 0 0] K12.out rfl;have Lb:=ak (xs:=[.bool O'.ideal,vd vq O'.st,vd vt O'.dr,ve A2 n2 c2,ve vB 0 0,ve vB 0 0]) (g:=g12) Rh.out zO;have fy:=Za tn.out (sj nK [.bool O'.ideal,vd vq O'.st,vd vt O'.dr,ve A2 n2 c2,ve vB 0 0,ve vB 0 0] wE);have PH:=(If (g:=g12) (b:=w.1.size+1) zO [.bool O'.ideal,vd vq O'.st,vd vt O'.dr,ve A2 n2 c2,ve vB 0 0,ve vB 0 0] 0 wE).trans ji.out;simp only [Cc,yf,Nat.reduceAdd] at k5 Lb fy PH;generalize vE (vE (vE (vE (vE (vE wE _ _) _ _) _ _) _ _) _ _) _ _=w5 at k5 Lb fy PH |-;have BK:Blk w5 (w.1.size+1) _ _:=PH;have c5:=k5.cell;have cr:=BK.cell;have fr:=BK.frozen;have Ry:=zH fy;have nK2:¬KK (w.1.size+1):=fun e=>(Yx _ e).elim (fun h=>zO) (fun h=>by have:=iC _ h;omega)
 clear c12 f12 da fy;go_wp2;have kf:=ug [.bool O'.ideal,vd vq O'.st,vd vt O'.dr,ve A2 n2 c2,ve vB 0 0,ve vB 0 0,vd vq v,vd vq 0] BK rfl;have Bc:=ak (xs:=[.bool O'.ideal,vd vq O'.st,vd vt O'.dr,ve A2 n2 c2,ve vB 0 0,ve vB 0 0,vd vq v,vd vq 0]) (g:=w.1.size+1) Lb (Nat.le_succ _);have Zq:=Za Ry.out (sj nK2 [.bool O'.ideal,vd vq O'.st,vd vt O'.dr,ve A2 n2 c2,ve vB 0 0,ve vB 0 0,vd vq v,vd vq 0] w5);simp only [Cc,yf,Nat.reduceAdd] at kf Bc Zq;generalize vE (vE (vE (vE (vE (vE (vE (vE w5 _ _) _ _) _ _) _ _) _ _) _ _) _ _) _ _=wf at kf Bc Zq |-;have cf:=kf.cell;clear c5 cr fr;exact Tc (by simp [results,results101,go_sem,cf]) rfl ⟨A2,n2,c2,rfl,Xp Zq jG.out,Bc⟩
theorem zBM {K:Nat -> Prop} (s:Tr) (Sk:Lv s.O) (A:Option vx) (n c:Nat) (w:vv) (hq:Hd K w fun u=>Sd u [ve A n c] s.O.qs) (WG:s.O.st<18446744073709551616) (Kf:s.st<18446744073709551616) (Rz:s.ct<1000000) (hO:je s.O 1000000) :
  vA prog 108 #[vf (tl s (ve A n c))] w fun e w'=>∃ A' n' c',e=vn (.tuple #[vd vq (Qr s:Int),vf (tl (Qo s) (ve A' n' c'))]) /\ Hd (fun b=>K b \/ w.1.size <= b) w' (fun u=>Sd u [ve A' n' c'] (Qo s).O.qs) /\ vz w.1.size w w':=by
 obtain ⟨kx,kr,ba,db⟩:=ig w 108 108 (tl s (ve A n c)) #[.bool false,vd vq 0,vd vt 0,ve vB 0 0,ve vB 0 0,ve vB 0 0,vd vq 0,vd vq 0];have Vy:=zH (fun A1 n1 c1 w1 (hb:vz w.1.size w w1) (h1:RWd w1 [ve A1 n1 c1] [s.st,s.ct])=>MQ (K:=fun b=>K b /\ b<w.1.size) s.O Sk A A1 n c n1 c1 19 [s.st,s.ct] w1 (Za (zk hq) (Yb hb)) h1 zD zS WG hO zS)
 have xg:=zH (show ∀ x∈[s.st,s.ct],x<18446744073709551616 from sh Kf (sh zO (fun _ h=>nomatch h)))
 obtain ⟨O',Ft⟩:∃ O',O'=td s.O 19 [s.st,s.ct]:=⟨_,rfl⟩;obtain ⟨v,hv⟩:=zEX (Qr s);have Lh:Pe s.O 19 [s.st,s.ct]=v:=hv.symm;have Wp:Qo s=⟨O',s.st,s.ct+1⟩:=by unfold Qo;rw [Ft]
 rw [Wp,<- hv];rw [<- Ft,Lh] at Vy;obtain ⟨ct1,hct1⟩:=zEX (s.ct+1);rw [<- hct1];have e1:vq.wrap ((s.ct:Int)+1)=(ct1:Int):=by rw [Vg];omega
 clear hq WG Kf Rz hO Ft hv Lh Wp Sk db hct1;obtain ⟨⟨ideal,ost,odr,oqs⟩,st,ct⟩:=s;unfold tl mg at *;simp only at kx kr ba Vy xg e1 |-;go_enter func108,ntmps108
 go_upto_region 1 with fail
 generalize (w.alloc _).alloc _=w1 at kx kr ba |-;have cx:=kx.cell;have lx:=kx.lt;have ja:=zA w1 (.cells #[vd vq st,vd vq ct] 22);have hw:=Yf (SR w1 st ct) xg.out;have HC:=zH (Vy.out (vD ⟨w1.1.size,0,vB⟩) 2 2 _ (pa ba ja) hw);have fj:=zH ja;clear hw ja Vy;go_wp2_with fail
 refine HC.out.mono ?_;rintro e w2 ⟨A2,n2,c2,rfl,Rj,Da⟩;have dy:=pa fj.out Da;have LR2:=zH kr.lt;have LW:=zH fj.out.size;replace kx:=kx.below dy kx.lt;replace kr:=kr.below dy kr.lt;replace ba:=pa ba dy;have Ug:=zH Rj;obtain ⟨kt,nm⟩:=zN w2 53 #[.bool O'.ideal,vd vq O'.st,vd vt O'.dr,ve A2 n2 c2,ve vB 0 0,ve vB 0 0];have Jp:=zH (Za Ug.out (Yb nm));have lr2:=kr.lt;have ne3:w2.1.size≠w.1.size+1:=by omega
 replace kx:=ma kx nm;replace kr:=ma kr nm;replace ba:=pa ba nm;have LB:=zH dy.size;clear Da Rj dy Ug HC fj cx lx;go_upto_region 2 with fail
 generalize w2.alloc _=w3 at kt kx kr ba Jp nm |-;have ct2:=kt.cell;have lt2:=kt.lt;clear nm;have Sq:=kx.cell;have Gr:=kx.lt;have Hr:w.1.size≠w.1.size+1:=by omega
 refine Yc (Kj (w.1.size+1)) [9] [0,1,2,3,4,5,6,7,8,9] zK zK ?_;refine Td (Gd (w.1.size+1)) ?_;intro Wc Ca da;have Lg:=zH (show Blk Wc _ _ _ by rw [Ca.out];exact kr.drew)
 have df:=zH (show vz w.1.size w Wc by rw [Ca.out];exact ba.drew)
 have Pq:=Lg.out.cell;have Uq:=Lg.out.frozen;replace Jp:=zH (Za Jp.out (show Od _ _ Wc by rw [Ca.out];exact Oo))
 clear Ca;refine Lk ?_;refine Bd (Gd (w.1.size+1)) rfl rfl rfl ?_;go_simp;refine ⟨UA [.bool O'.ideal,vd vq O'.st,vd vt O'.dr,ve A2 n2 c2,ve vB 0 0,ve vB 0 0,vd vq st,vd vq ct1] 0 _,?_⟩
 refine zPU ?_
 refine Ec ?_;have kf:=ug [.bool O'.ideal,vd vq O'.st,vd vt O'.dr,ve A2 n2 c2,ve vB 0 0,ve vB 0 0,vd vq st,vd vq ct1] Lg.out rfl;have Bc:=ak (xs:=[.bool O'.ideal,vd vq O'.st,vd vt O'.dr,ve A2 n2 c2,ve vB 0 0,ve vB 0 0,vd vq st,vd vq ct1]) (g:=w.1.size+1) df.out zO;have Si:∀ K:Nat -> Prop,¬K (w.1.size+1) -> Od K Wc (Cc Wc (w.1.size+1) [.bool O'.ideal,vd vq O'.st,vd vt O'.dr,ve A2 n2 c2,ve vB 0 0,ve vB 0 0,vd vq st,vd vq ct1] 0):=fun K h=>sj h _ _
 simp only [Cc,yf,Nat.reduceAdd] at kf Bc Si;generalize vE (vE (vE (vE (vE (vE (vE (vE (Wc) _ _) _ _) _ _) _ _) _ _) _ _) _ _) _ _=wf at kf Bc Si |-;have cf:=kf.cell;clear Sq Gr Hr Pq Uq da;go_wp2;have Uo:=Za Jp.out (Si _ (fun h=>h.elim (fun h=>by have:=h.2;omega) (fun h=>by have:=LR2.out;have:=LW.out;omega)))
 exact Tc (by simp [results,results108,go_sem,cf]) rfl ⟨A2,n2,c2,rfl,Xp Uo (fun b h=>h.elim (fun h=>.inl h.1) fun h=>.inr (by have:=LR2.out;have:=LW.out;omega)),Bc⟩
end Go.Proofs.YtodmnanljoaocaaGreat
