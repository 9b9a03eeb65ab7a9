/- A part of the proof. No condition. -/
import Derived.Test.YteoghgbnielkpaaGreatTC3

set_option maxRecDepth 100000
set_option maxHeartbeats 8000000
set_option linter.unusedVariables false
set_option linter.unusedSimpArgs false
namespace Go.Proofs.YteoghgbnielkpaaGreat
open Go.RowKit
open Tryz
open Go renaming World->vw, Value->vx, Addr->vy, Calls->vB
open Go.Value renaming int->vd, slice->ve, agg->vf
open Go.IntKind renaming u64->vn, i64->vq
open Go.Ending renaming returned->vl
open Go.RowKit renaming Below->vA
open Go.Act renaming put->vG
open Option renaming none->vD, some->vE
theorem zBI:prog.cellsOf 30=8:=by kernel_rfl
theorem zBK:prog.cellsOf 27=3:=by kernel_rfl
structure oR (w:vw) (p:Nat) (pub vars:Int) (A B:Option vy) (n c m d:Nat) (rows:List Ua) (ws:List Nat):Prop where
 p:p<18446744073709551616
 rows:RSl 3 Ud w [ve A n c] rows
 ws:RWd w [ve B m d] ws
theorem zC6 {w:vw} {cs:List vx} (hl:cs.length=8) (h:Fits prog w 30 cs):∃ (p:Nat) (pub vars:Int) (A B:Option vy) (n c m d:Nat) (rows:List Ua) (ws:List Nat) (bl bw qs:Int),cs=(XN p pub vars (ve A n c) bl bw qs (ve B m d)).toList /\ oR w p pub vars A B n c m d rows ws:=by
 match cs,hl with
 | [x0,x1,x2,x3,x4,x5,x6,x7],_ =>
  obtain ⟨t,y,ht,h1,h2,h3,h4⟩:=zC3 rfl (Pm (i:=0) underlying30 rfl rfl zBN h);have hx:=Pm (i:=1) underlying30 rfl rfl zBK h;obtain ⟨a,ha,-⟩:=TJ Cx (Pm (i:=0) underlying27 rfl rfl nH hx);obtain ⟨b,hb,-⟩:=TJ Cx (Pm (i:=1) underlying27 rfl rfl nH hx);obtain ⟨e,he,-⟩:=TJ Cx (Pm (i:=2) underlying27 rfl rfl nH hx);obtain ⟨ws,hw⟩:=uZ underlying28 underlying22 NJ (Pm (i:=2) underlying30 rfl rfl zBP h);simp at ht ha hb he hw
  obtain ⟨rfl,rfl,rfl,rfl⟩:=ht;subst ha hb he;obtain ⟨A,n,c,rfl⟩:=RSl.slc h4;have Yv:=hw;obtain ⟨B,m,d,he,-⟩:=hw;simp at he
  subst he;exact ⟨t.p,t.pub,t.vars,A,B,n,c,m,d,t.rows,ws,a,b,e,rfl,h1,h4,Yv⟩
def Qh:List Nat -> Nat
 | []=>0
 | x :: r=>x+256*Qh r
theorem QW:∀ (l:List Nat),(∀ x∈l,x<256) -> Qh l<256^l.length
 | [],_=>by simp [Qh]
 | x :: r,h=>by
  have h1:=h x (by simp)
  have h2:=QW r fun y hy=>h y (by simp [hy])
  rw [Qh,xg,If];omega
theorem zAB:∀ (l:List Nat) (x:Nat),Qh (l++[x])=Qh l+256^l.length*x
 | [],x=>by simp [Qh]
 | y :: r,x=>by
  rw [List.cons_append,Qh,zAB r x,Qh,xg,If,Nat.mul_add,<- Nat.mul_assoc,ze 256 (256^r.length),Nat.add_assoc]
theorem zAC {L:List Nat} {p:Nat} (h:∀ x∈L,x<256) (j:Nat):Qh ((L.drop p).take j)<256^j:=by
 have h1:=QW ((L.drop p).take j) fun x hx=>h x (List.mem_of_mem_drop (List.mem_of_mem_take hx))
 exact Kc h1 (Io (by omega) (by rw [Ru];omega))
theorem U7 (j:Nat):(256:Nat)^j=2^(8*j):=by rw [Nat.pow_mul]
theorem xX {z y j:Nat} (hz:z<256^j) (hy:y<256) (hj:j<8):z+256^j*y<18446744073709551616:=by
 have h1:z+256^j*y<256^j*(y+1):=by rw [Nat.mul_add];omega
 have h2:256^j*(y+1) <= 256^j*256:=Nat.mul_le_mul_left _ (by omega)
 have h3:256^j*256=256^(j+1):=(If ..).symm;have h4:(256:Nat)^(j+1) <= 256^8:=Io (by omega) (by omega)
 have h5:(256:Nat)^8=18446744073709551616:=by decide
 omega
theorem zE5 (z y j:Nat) (hz:z<256^j) (hy:y<256) (hj:j<8):bits BinOp.or vn (z:Int) (vn.wrap ((y:Int)*2^(8*j)))=((z+256^j*y:Nat):Int):=by
 have h0:=xX hz hy hj;have e1:(y:Int)*2^(8*j)=((256^j*y:Nat):Int):=by rw [U7,Uf,Bo,Jj];rfl
 rw [e1,pj];have e2:(((256^j*y:Nat):Int))%18446744073709551616=((256^j*y:Nat):Int):=by omega
 rw [e2,bits_or_u64_nat _ _ (by omega) (by omega)]
 congr 1
 rw [U7] at hz |-;have:=Nat.shiftLeft_add_eq_or_of_lt hz y;rw [Nat.shiftLeft_eq,ze y] at this;rw [Nat.or_comm,<- this,Nat.add_comm]
theorem zIa (L:List Nat) (p j y:Nat) (h:p+j<L.length) (hy:y=L[p+j]):Qh ((L.drop p).take j)+256^j*y=Qh ((L.drop p).take (j+1)):=by
 have hl:j<(L.drop p).length:=by rw [Im];omega
 rw [Su hl,zAB,Ru,Nat.min_eq_left (Nat.le_of_lt hl),List.getElem_drop,hy]
def WR (w:vw) (g:Nat) (bd:Nat × Nat) (l:List Nat) (f:Bool):Prop :=
 ∃ (A:Option vy) (n c p:Nat) (L:List Nat),Blk w g 340 #[ve A n c,vd vq p, .bool f] /\ Rd w 1 A n (U8 L) /\ ((∀ ad,A=vE ad -> bd.1 <= ad.block /\ ad.block<bd.2) /\ bd.2 <= g) /\ (p <= n /\ n <= c) /\ n <= 10000000 /\ L.drop p=l /\ ∀ x∈L,x<256
theorem W2 (g n c p:Nat) (A:Option vy) (f:Bool) (w:vw) (hb:Blk w g 340 #[ve A n c,vd vq p, .bool f]) (hp:p <= n) (hn:n <= 10000000) :
  vB prog 299 #[.pointer (vE ⟨g,0,vD⟩)] w fun e w'=>e=vl (vd vq ((n:Int)-p)) /\ ∃ k,w'=w.drewN k:=by
 have h0:=hb.cell 0;have h1:=hb.cell 1;simp at h0 h1
 clear hb;go_enter func299,ntmps299
 go_wp2_with fail
 go_quiet (fail)
 go_wp2;go_ret
 exact ⟨rfl,_,rfl⟩
def rk (k:Nat) (l:List Nat) (f:Bool):Nat × Bool × List Nat × Bool :=
 if f=true \/ l.length<k then (0,false,l,true) else (Qh (l.take k),true,l.drop k,false)
theorem zCj (g:Nat) (bd:Nat × Nat) (k:Nat) (l:List Nat) (f:Bool) (w:vw) (h:WR w g bd l f) (hk:k <= 8) :
  vB prog 268 #[.pointer (vE ⟨g,0,vD⟩),vd vq k] w fun e w'=>e=vl (.tuple #[vd vn (rk k l f).1, .bool (rk k l f).2.1]) /\ WR w' g bd (rk k l f).2.2.1 (rk k l f).2.2.2 /\ w.grownBy w' (vE g):=by
 obtain ⟨A,n,c,p,L,hb,hr,hAb,sC,hn,rfl,hL⟩:=h;have hp:=sC.1;have hA:∀ ad,A=vE ad -> ad.block≠g:=fun ad e=>by have:=hAb.1 ad e;omega
 have h0:=hb.cell 0;have h1:=hb.cell 1;have h2:=hb.cell 2;have f2:=hb.frozen 2;have f1:=hb.frozen 1;simp at h0 h1 h2
 have hlen:=hr.len1;rw [TI] at hlen;have HLn:=zH hlen;clear hlen;by_cases hf:f=true
 ·subst hf
  have HE:Hid (rk k (L.drop p) true=(0,false,L.drop p,true)):=by simp [Hid,rk]
  rw [HE.out];go_enter func268,ntmps268
  go_wp2
  go_ret2
  exact ⟨rfl,⟨A,n,c,p,L,by simpa using hb.set_ 2 (.bool true),hr.set_ (p:=⟨g,2,vD⟩) hA _,hAb,sC,hn,rfl,hL⟩,Wg (p:=⟨g,2,vD⟩) (Ee _ _) (.inl rfl) _⟩
 ·have hf':f=false:=by simpa using hf
  subst hf';clear hf;by_cases hs:n-p<k
  ·have HE:Hid (rk k (L.drop p) false=(0,false,L.drop p,true)):=by
    show _=_
    rw [rk,Na (.inr (by rw [Im,HLn.out];exact hs))]
   rw [HE.out];go_enter func268,ntmps268
   go_wp2_with (go_at_call 299;refine (W2 g n c p A false w hb hp hn).mono ?_;rintro e w1 ⟨rfl,kk,rfl⟩)
   go_ret2
   exact ⟨rfl,⟨A,n,c,p,L,by simpa using (hb.drewN kk).set_ 2 (.bool true),(hr.drewN kk).set_ (p:=⟨g,2,vD⟩) hA _,hAb,sC,hn,rfl,hL⟩,Wg (p:=⟨g,2,vD⟩) (JZ (Ee _ _) _) (.inl rfl) _⟩
  ·have HE:Hid (rk k (L.drop p) false=(Qh ((L.drop p).take k),true,(L.drop p).drop k,false)):=by
    show _=_
    rw [rk,ya (by rw [Im,HLn.out];simp;omega)]
   rw [HE.out];go_enter func268,ntmps268
   go_wp2_with (go_at_call 299;refine (W2 g n c p A false w hb hp hn).mono ?_;rintro e w1 ⟨rfl,kk,rfl⟩)
   go_loopw [6,7,22] (fun y d i wr=>∃ j z m:Nat,j <= k /\ i=vd vq j /\ y=vd vn z /\ Hid (z=Qh ((L.drop p).take j)) /\ z<18446744073709551616 /\ wr=w.drewN m)
    (fun _ _ i _=>k-(intOf i).toNat)
   case atStart=>exact ⟨0,0,kk,Mb _,rfl,rfl,rfl,by omega,rfl⟩
   case round =>
    obtain ⟨j,z,m,hj,rfl,rfl,HZ,hz,rfl⟩:=hrel;by_cases ta:j<k
    ·obtain ⟨ad,u,rfl,hu,hc⟩:=hr.at_ (show p+j<n by omega)
     have Yh:p+j<L.length:=by rw [HLn.out];omega
     obtain ⟨y,hy⟩:=zEX (L[p+j]);have hyl:y<256:=by rw [hy];exact hL _ (zf _)
     rw [at_U8 Yh,<- hy] at hu
     injection hu with hu
     subst hu;have HY:=zH hy;clear hy;have i1:(0:Int)<=p+(j:Int):=by omega
     have i2:(p:Int)+j<(n:Int):=by omega
     have i3:((p:Int)+j).toNat=p+j:=by omega
     go_wp2_with fail
     go_quiet (fail)
     have HV:=zH (zE5 z y j (by rw [HZ.out];exact zAC hL j) hyl (by omega))
     have hz':z+256^j*y<18446744073709551616:=xX (by rw [HZ.out];exact zAC hL j) hyl (by omega)
     have HN:=zH (zIa L p j y Yh HY.out);rw [<- HZ.out] at HN;clear hc hr hb hA hAb h0 h1 h2 i1 i2 i3 hL;go_wp2
     go_roundw
     case rel=>exact ⟨j+1,z+256^j*y,_,by omega,by go_num,by rw [HV.out],HN.out,hz',rfl⟩
     case measure=>simp [intOf];omega
    ·have e:j=k:=by omega
     subst e;go_wp2
     go_ret2
     refine ⟨by rw [<- HZ.out];rfl,⟨A,n,c,p+j,L,by simpa using (hb.drewN m).set_ 1 (vd vq ((p:Int)+j)),(hr.drewN m).set_ (p:=⟨g,1,vD⟩) hA _,hAb,⟨by omega,sC.2⟩,hn,by rw [fl],hL⟩,Wg (p:=⟨g,1,vD⟩) (JZ (Ee _ _) _) (.inl rfl) _⟩
def aJ (l:List Oper) (hs bars fs:List Nat):List Nat -> Array Bool -> Bool
 | [],za=>(Region.ready .any l.toArray za).isEmpty
 | i :: rest,za=>decide (i<l.length)&&(Region.ready .any l.toArray za).contains i &&
   (if hs.contains i then Region.ready .any l.toArray za == [i] else Region.free .any l.toArray za i&&!bars.contains i&&(Nd bars za||fs.contains i||bars.all fun b=>aL l b i))&&aJ l hs bars fs rest (za.setIfInBounds i true)
def Kt (P:Program) (l:List Oper) (hs bars fs:List Nat) (Q:Exit -> Act -> vw -> Prop) (R:vw -> vw -> Prop) (order:List Nat) (za:Array Bool) (a:Act) (w:vw):Prop :=
 Region.noSelect l.toArray=true -> aJ l hs bars fs order za=true -> wpB P l.toArray Q bars R order.length za a w
section
variable {P:Program} {l:List Oper} {hs bars fs:List Nat} {Q:Exit -> Act -> vw -> Prop} {R:vw -> vw -> Prop} {rest:List Nat} {i:Nat} {o:Oper} {za:Array Bool} {a:Act} {w:vw}
theorem dX {id:Nat} (R:vw -> vw -> Prop) (hs bars fs order:List Nat) (hm:P.follows .mixedOrders=true) (Xa:(Region.noSelect l.toArray&&order.length == l.length&&aJ l hs bars fs order (List.replicate l.length false).toArray)=true)
  (h:Kt P l hs bars fs Q R order (List.replicate l.length false).toArray a w.drew):(Code.region id l.toArray true).wp P Q a w:=by
 simp only [mc,qi] at Xa;refine wp_region_any hm (YW (bars:=bars) (S:=R w.drew) _ _ _ _ ?_);have h2:=h Xa.1.1 Xa.2;have e:Array.replicate l.toArray.size false=(List.replicate l.length false).toArray:=by simp
 rw [Xa.1.2] at h2;rw [e]
 simpa [wpB] using h2
theorem zA0 (M:ie R) {order:List Nat} (h:∀ W,R w W -> Kt P l hs bars fs Q R order za a W):Kt P l hs bars fs Q R order za a w:=h w (M.refl w)
theorem zIv (M:ie R) {order:List Nat} (h:∀ W,Hid (W=w) -> R w W -> Kt P l hs bars fs Q R order za a W):Kt P l hs bars fs Q R order za a w:=h w rfl (M.refl w)
theorem eX (h:Q .normal a w):Kt P l hs bars fs Q R [] za a w:=fun _ Xa=>⟨by simpa [aJ] using Xa,h⟩
theorem gQ (h:aJ l hs bars fs (i :: rest) za=true):i<l.length /\ (Region.ready .any l.toArray za).contains i=true /\
  (hs.contains i=true -> Region.ready .any l.toArray za=[i]) /\
  (hs.contains i=false -> Region.free .any l.toArray za i=true /\ i ∉ bars /\ (Nd bars za=true \/ fs.contains i=true \/ ∀ b∈bars,aL l b i=true)) /\ aJ l hs bars fs rest (za.setIfInBounds i true)=true:=by
 unfold aJ at h;simp only [mc,Oo] at h;obtain ⟨⟨⟨h1,h2⟩,h3⟩,h4⟩:=h;refine ⟨h1,h2,fun h6=>?_,fun h6=>?_,h4⟩
 ·rw [Na h6] at h3
  simpa using h3
 ·rw [ya (by rw [h6];exact Bool.noConfusion)] at h3
  simp only [mc,Xk,Bool.or_eq_true,fe] at h3;refine ⟨h3.1.1,fun hm=>?_,by rcases h3.2 with (h | h) | h;exact .inl h;exact .inr (.inl h);exact .inr (.inr h)⟩
  have:=h3.1.2;simp [hm] at this
theorem zIt {v:vx} (M:ie R) (hh:hs.contains i=false) (hf:fs.contains i=false) (ho:l[i]?=vE o) (hw:Region.wanted o (yielded l.toArray a.tmps)=true) (hQ:∀ c a w,Q (.panic c) (a.put o.dst v) w -> Q (.panic c) a w)
  (Uc:∀ w',(Nd bars za=false -> R w w') -> (execOp a.eval o).run P w'= .ok (.value v) w') (h:Kt P l hs bars fs Q R rest (za.setIfInBounds i true) (a.put o.dst v) w):Kt P l hs bars fs Q R (i :: rest) za a w:=by
 intro hn Xa;obtain ⟨h1,h2,-,h4,h5⟩:=gQ Xa;obtain ⟨f1,f2,f3⟩:=h4 hh;have Bj:l.toArray[i]?=vE o:=by rw [Ln];exact ho
 cases hp:Nd bars za
 ·refine xJ (T:=R w) Bj (Uu hn) hQ f2 (.inr ⟨fun _ h=>h,fun b hb ob hob=>UW hob ?_⟩) _ _ _ _ (.inr hp) (Region.free_spec Bj f1) (by simpa using h2) (.inl ⟨hw,fun w' hR=>Uc w' fun _=>hR⟩) (M.refl w) (fun _=>M.refl w) (h hn h5)
  rcases f3 with f3 | f3 | f3
  ·rw [hp] at f3;cases f3
  ·rw [hf] at f3;cases f3
  ·exact f3 b hb
 ·exact xJ (T:=fun _=>True) Bj (Uu hn) hQ f2 (.inl fun _=>trivial) _ _ _ _ (.inl fun _=>trivial) (Region.free_spec Bj f1) (by simpa using h2) (.inl ⟨hw,fun w' _=>Uc w' fun h=>by rw [hp] at h;cases h⟩) trivial (fun _=>M.refl w) (h hn h5)
theorem zIs {v:vx} (M:ie R) (hh:hs.contains i=false) (ho:l[i]?=vE o) (hw:Region.wanted o (yielded l.toArray a.tmps)=true) (hQ:∀ c a w,Q (.panic c) (a.put o.dst v) w -> Q (.panic c) a w)
  (Uc:∀ w',(execOp a.eval o).run P w'= .ok (.value v) w') (h:Kt P l hs bars fs Q R rest (za.setIfInBounds i true) (a.put o.dst v) w):Kt P l hs bars fs Q R (i :: rest) za a w:=by
 intro hn Xa;obtain ⟨h1,h2,-,h4,h5⟩:=gQ Xa;obtain ⟨f1,f2,-⟩:=h4 hh;have Bj:l.toArray[i]?=vE o:=by rw [Ln];exact ho
 exact xJ (T:=fun _=>True) Bj (Uu hn) hQ f2 (.inl fun _=>trivial) _ _ _ _ (.inl fun _=>trivial) (Region.free_spec Bj f1) (by simpa using h2) (.inl ⟨hw,fun w' _=>Uc w'⟩) trivial (fun _=>M.refl w) (h hn h5)
theorem zIu (M:ie R) (hh:hs.contains i=false) (ho:l[i]?=vE o) (hw:Region.wanted o (yielded l.toArray a.tmps)=false) (hQ:∀ c a w,Q (.panic c) (a.put o.dst undef) w -> Q (.panic c) a w)
  (h:Kt P l hs bars fs Q R rest (za.setIfInBounds i true) (a.put o.dst undef) w):Kt P l hs bars fs Q R (i :: rest) za a w:=by
 intro hn Xa;obtain ⟨h1,h2,-,h4,h5⟩:=gQ Xa;obtain ⟨f1,f2,f3⟩:=h4 hh;have Bj:l.toArray[i]?=vE o:=by rw [Ln];exact ho
 exact xJ (T:=fun _=>True) Bj (Uu hn) hQ f2 (.inl fun _=>trivial) _ _ _ _ (.inl fun _=>trivial) (Region.free_spec Bj f1) (by simpa using h2) (.inr ⟨hw,rfl⟩) trivial (fun _=>M.refl w) (h hn h5)
theorem iL {a b:Prop} (h:a) (s:Imp a b:=by
 (repeat ((first | (apply Imp.via (zIu (ra) rfl rfl rfl (fun _ _ _ h=>h))) | (apply Imp.via (zIt (v:=?_) (ra) rfl rfl rfl rfl (fun _ _ _ h=>h) ?hr);case hr=>(intro w' hR;(first | have Rn:=oK ((ra).trans _ _ _ ia (hR rfl)) | skip);clear hR;go_simp;try with_reducible rfl)) | (apply Imp.via (zIs (v:=?_) (ra) rfl rfl rfl (fun _ _ _ h=>h) ?hr);case hr=>(intro w';go_simp;try with_reducible rfl)));simp only [vG,zLa,zLb,zLc]))
 exact Imp.rfl'):b:=s h
theorem bL (M:ie R) (hh:hs.contains i=true) (ho:l[i]?=vE o) (hw:Region.wanted o (yielded l.toArray a.tmps)=true)
  (h:o.wp P a w (fun a' w'=>(Nd bars (za.setIfInBounds i true)=false -> R w w') /\ Kt P l hs bars fs Q R rest (za.setIfInBounds i true) a' w') Q):Kt P l hs bars fs Q R (i :: rest) za a w:=by
 intro hn Xa;obtain ⟨h1,h2,h3,-,h5⟩:=gQ Xa;have hr:=h3 hh;refine ⟨fun h0=>absurd (hr ▸ h0) (by simp),fun j hj=>?_⟩
 rw [hr,Fo] at hj;subst hj;unfold wpOp;have hi:l.toArray[j]?=vE o:=by rw [Ln];exact ho
 simp only [hi,hw,if_true];refine .inl (Oper.wp_mono (fun a' w' h'=>⟨h'.1,?_⟩) h)
 have hk:=h'.2 hn h5;cases hp:Nd bars (za.setIfInBounds j true)
 ·exact XW (fun w2 h2=>M.trans _ _ _ (h'.1 hp) h2) _ _ _ _ hk
 ·exact WW _ _ _ _ hp hk
end
def JF (l:List (Int × Nat)) (j:Nat):Int:=if j=0 then -1 else (l.getD (j-1) (0,0)).1
theorem zD8 {p:Nat} {n:Int} {l:List (Int × Nat)} {j:Nat} (hb:∀ k<j,ar p n l k=false) :
  ar p n l j=(decide ((l.getD j (0,0)).1 <= JF l j)||decide (n <= (l.getD j (0,0)).1)||(l.getD j (0,0)).2 == 0||decide (p <= (l.getD j (0,0)).2)):=by
 have h1:-1 <= JF l j:=by
  unfold JF;split
  ·omega
  ·have h:=hb (j-1) (by omega)
   unfold ar at h;simp only [Bool.or_eq_false_iff,mu] at h;omega
 unfold ar;have e:(decide ((l.getD j (0,0)).1<0)||(decide (0<j)&&decide ((l.getD j (0,0)).1 <= (l.getD (j-1) (0,0)).1)))=decide ((l.getD j (0,0)).1 <= JF l j):=by
  rw [Bool.eq_iff_iff];simp only [Bool.or_eq_true,mc,Oo];unfold JF at h1 |-;split
  ·omega
  ·rename_i h0
   rw [ya h0] at h1;omega
 rw [<- e];cases decide ((l.getD j (0,0)).1<0) <;> cases decide (n <= (l.getD j (0,0)).1) <;> simp
theorem iV (p:Nat) (pub n:Int) (rows:vx) (A:Option vy) (len c:Nat) (l:List (Int × Nat)) (w:vw) (hl:RLin w [ve A len c] l) (hs:slc rows) :
  vB prog 277 #[Tb p pub n rows,ve A len c] w fun e w'=>e=vl (.bool (Lh p n l)) /\ vA w.1.size w w':=by
 obtain ⟨A',n',c',he,hlen,Ld,Ef,Ra⟩:=hl;simp at he
 obtain ⟨rfl,rfl,rfl⟩:=he;obtain ⟨As,ns,cs,rfl⟩:=hs;subst hlen;unfold Tb;have kt:=Blk.new w 25 #[vd vn p,vd vq pub,vd vq n,ve As ns cs];have da:vA w.1.size w (w.alloc (.cells #[vd vn p,vd vq pub,vd vq n,ve As ns cs] 25)):=(Ca _ _).alloc zR _;have g0:(l.length:Int) <= 9223372036854775807:=by
  have h4:=Ef;simp [maxLen] at h4
  omega
 go_enter func277,ntmps277
 go_wp2_with fail
 generalize w.alloc _=w1 at kt da |-;go_loopw [5,10] (fun u i wr=>∃ (j:Nat) (la:Int),j <= l.length /\ i=vd vq j /\ u=vd vq la /\ Hid (la=JF l j) /\ Blk wr w.1.size 25 #[vd vn p,vd vq pub,vd vq n,ve As ns cs] /\ vA w.1.size w wr /\ Hid (∀ k<j,ar p n l k=false))
  (fun _ i _=>l.length-(intOf i).toNat)
 case atStart=>exact ⟨0,-1,Mb _,rfl,rfl,rfl,kt,da,fun k hk=>by omega⟩
 case round =>
  clear kt da;obtain ⟨j,la,hj,rfl,rfl,HLA,kt,da,HB⟩:=hrel;by_cases ta:j<l.length
  ·have HL:=zH ta
   obtain ⟨b,q,rfl⟩:=Ra.base (by omega) (by omega)
   have Uv:=Ra.below EF da;obtain ⟨c1,c2⟩:=RLin.at_ Uv ta;have Gb:=Jf _ _ c1;simp only at Gb;have g1:(0:Int)<=j:=by omega
   have g2:(j:Int)<l.length:=by omega
   have HD:=zH (zD8 HB.out);have HNX:=zH (show (l.getD j (0,0)).1=JF l (j+1) by simp [JF])
   rw [<- HLA.out] at HD;revert c1 c2 HD HNX
   generalize (l.getD j (0,0)).1=x;generalize (l.getD j (0,0)).2=y;intro c1 c2 HD HNX;have ct:=kt.cell;have lt:=kt.lt;clear Ra Uv HLA;by_cases z1:x <= la
   ·have d1:=tb z1
    go_wp2_with fail
    go_ret
    exact ⟨by rw [By HL.out (HD.out.trans (by simp [d1]))];rfl,da.alloc da.size _⟩
   ·have d1:=db z1
    by_cases z2:n <= x
    ·have d2:=tb z2
     go_wp2_with fail
     go_ret
     exact ⟨by rw [By HL.out (HD.out.trans (by simp [d1,d2]))];rfl,da.alloc da.size _⟩
    ·have d2:=db z2
     by_cases z4:y=0
     ·have HY:=zH z4
      subst z4;go_wp2_with fail
      go_ret
      exact ⟨by rw [By HL.out (HD.out.trans (by simp [d1,d2]))];rfl,da.alloc da.size _⟩
     ·have d4:((y:Int) == 0)=false:=by rw [Gd];omega
      have d4':(y == 0)=false:=by rw [Gd];exact z4
      by_cases z5:p <= y
      ·have d5:decide ((p:Int)<=y)=true:=tb (by omega)
       have d5':=tb z5;go_wp2_with fail
       go_ret
       exact ⟨by rw [By HL.out (HD.out.trans (by simp [d1,d2,d4',d5']))];rfl,da.alloc da.size _⟩
      ·have d5:decide ((p:Int)<=y)=false:=db (by omega)
       have d5':=db z5;have HE:=zH (show ar p n l j=false from HD.out.trans (by simp [d1,d2,d4',d5']))
       clear d4' d5';go_wp2_with fail
       go_roundw
       case rel=>exact ⟨j+1,x,by omega,by go_num,rfl,HNX.out,kt.alloc _,da.alloc da.size _,YS HB.out HE.out⟩
       case measure=>simp [intOf];omega
  ·obtain rfl:l.length=j:=by omega
   go_wp2;go_ret
   exact ⟨by rw [B4 HB.out];rfl,da⟩
theorem zFE (p:Nat) (pub vars:Int) (rows:vx) (r:Ua) (x y z:vx) (w:vw) (hx:RLin w [x] r.a) (hy:RLin w [y] r.b) (hz:RLin w [z] r.c) (hs:slc rows) :
  vB prog 211 #[Tb p pub vars rows,vf #[x,y,z]] w fun e w'=>e=vl (.bool (qn p vars r)) /\ vA w.1.size w w':=by
 obtain ⟨A1,n1,c1,rfl⟩:=RSl.slc hx;obtain ⟨A2,n2,c2,rfl⟩:=RSl.slc hy;obtain ⟨A3,n3,c3,rfl⟩:=RSl.slc hz;have HX:=zH (fun w' (hb:vA w.1.size w w')=>iV p pub vars rows _ _ _ r.a w' (uh _ _ _ _ hb hx) hs)
 have HY:=zH (fun w' (hb:vA w.1.size w w')=>iV p pub vars rows _ _ _ r.b w' (uh _ _ _ _ hb hy) hs)
 have HZ:=zH (fun w' (hb:vA w.1.size w w')=>iV p pub vars rows _ _ _ r.c w' (uh _ _ _ _ hb hz) hs)
 obtain ⟨As,ns,cs,rfl⟩:=hs;have hR:qn p vars r=(Lh p vars r.a&&Lh p vars r.b&&Lh p vars r.c):=rfl;rw [hR];clear hR hx hy hz;generalize Lh p vars r.a=b1 at *;generalize Lh p vars r.b=b2 at *;generalize Lh p vars r.c=b3 at *;unfold Tb at *;obtain ⟨kt,kr,da,-⟩:=Eh w 25 211 #[vd vn p,vd vq pub,vd vq vars,ve As ns cs] #[ve A1 n1 c1,ve A2 n2 c2,ve A3 n3 c3];go_enter func211,ntmps211
 go_wp2_with fail
 generalize (w.alloc _).alloc _=w0 at kt kr da |-;refine (HX.out _ da).mono ?_;rintro e w1 ⟨rfl,Ia⟩;replace kt:=ja kt Ia;replace kr:=ja kr Ia;replace da:=pa da Ia;clear Ia;have ct:=kt.cell;have cr:=kr.cell;cases b1
 ·go_wp2
  go_ret
  exact ⟨rfl,da⟩
 go_wp2_with fail
 refine (HY.out _ da).mono ?_;rintro e w2 ⟨rfl,Ba⟩;replace kt:=ja kt Ba;replace kr:=ja kr Ba;replace da:=pa da Ba;clear Ba ct cr;have ct:=kt.cell;have cr:=kr.cell;cases b2
 ·go_wp2
  go_ret
  exact ⟨rfl,da⟩
 go_wp2_with fail
 refine (HZ.out _ da).mono ?_;rintro e w3 ⟨rfl,Sa⟩;go_wp2;go_ret
 exact ⟨by simp,pa da Sa⟩
theorem zCQ (p:Nat) (w:vw) (hp:Fb p=false) :
  vB prog 214 #[fv p] w fun e w'=>e=vl (.bool false) /\ vA w.1.size w w':=by
 unfold Fb at hp;simp only [Bool.or_eq_false_iff,Gd] at hp;obtain ⟨⟨⟨⟨⟨⟨h1,h2⟩,h3⟩,h4⟩,h5⟩,h6⟩,h7⟩:=hp;have d1:((p:Int) == 17)=false:=by rw [Gd];omega
 have d2:((p:Int) == 97)=false:=by rw [Gd];omega
 have d3:((p:Int) == 193)=false:=by rw [Gd];omega
 have d4:((p:Int) == 257)=false:=by rw [Gd];omega
 have d5:((p:Int) == 12289)=false:=by rw [Gd];omega
 have d6:((p:Int) == 65537)=false:=by rw [Gd];omega
 have d7:((p:Int) == 18446744069414584321)=false:=by rw [Gd];omega
 clear h1 h2 h3 h4 h5 h6 h7;unfold fv;go_enter func214,ntmps214
 go_wp2_with fail
 go_ret
 exact ⟨rfl,(Ca _ _).alloc zR _⟩
theorem zCR (p:Nat) (w:vw):vB prog 214 #[fv p] w fun e w'=>e=vl (.bool (Fb p)) /\ vA w.1.size w w':=by
 cases h:Fb p
 ·exact zCQ p w h
 ·exact Qo p w h
theorem zFG (p:Nat) (pub vars:Int) (rows:vx) (w:vw) (hs:slc rows) :
  vB prog 210 #[Tb p pub vars rows] w fun e w'=>e=vl (.bool (Fb p&&!decide (pub<0)&&!decide (vars <= pub)&&!decide (65536<vars))) /\ vA w.1.size w w':=by
 have HV:=zH (fun w=>zCR p w)
 obtain ⟨As,ns,cs,rfl⟩:=hs;generalize Fb p=b0 at *;unfold Tb fv at *;have kt:=Blk.new w 25 #[vd vn p,vd vq pub,vd vq vars,ve As ns cs];have da:vA w.1.size w (w.alloc (.cells #[vd vn p,vd vq pub,vd vq vars,ve As ns cs] 25)):=(Ca _ _).alloc zR _;go_enter func210,ntmps210
 go_wp2_with fail
 generalize w.alloc _=w0 at kt da |-;refine (HV.out _).mono ?_;rintro e w1 ⟨rfl,Ia⟩;replace kt:=ja kt Ia;replace da:=pa da Ia;clear Ia;have ct:=kt.cell;cases b0
 ·go_wp2
  go_ret
  exact ⟨rfl,da⟩
 by_cases z1:pub<0
 ·have d1:decide (0 <= pub)=false:=db (by omega)
  have e1:=tb z1;go_wp2;go_ret
  exact ⟨by simp [e1],da⟩
 have d1:decide (0 <= pub)=true:=tb (by omega)
 have e1:=db z1;by_cases z2:vars <= pub
 ·have d2:decide (pub<vars)=false:=db (by omega)
  have e2:=tb z2;go_wp2;go_ret
  exact ⟨by simp [e2],da⟩
 have d2:decide (pub<vars)=true:=tb (by omega)
 have e2:=db z2;by_cases z3:65536<vars
 ·have d3:decide (vars <= 65536)=false:=db (by omega)
  have e3:=tb z3;go_wp2;go_ret
  exact ⟨by simp [e3],da⟩
 have d3:decide (vars <= 65536)=true:=tb (by omega)
 have e3:=db z3;go_wp2;go_ret
 exact ⟨by simp [e1,e2,e3],da⟩
theorem NM (p:Nat) (pub vars:Int) (A:Option vy) (n c:Nat) (rows:List Ua) (w:vw) (hr:RSl 3 Ud w [ve A n c] rows) :
  vB prog 115 #[Tb p pub vars (ve A n c)] w fun e w'=>e=vl (.bool (Nc p pub vars rows)) /\ vA w.1.size w w':=by
 have HS:=zH (fun w=>zFG p pub vars (ve A n c) w ⟨_,_,_,rfl⟩)
 have HR:=zH (fun r x y z w hx hy hz=>zFE p pub vars (ve A n c) r x y z w hx hy hz ⟨_,_,_,rfl⟩)
 obtain ⟨A',n',c',he,hlen,Ld,Ef,Ra⟩:=hr;simp at he
 obtain ⟨rfl,rfl,rfl⟩:=he;subst hlen;have g0:(rows.length:Int) <= 9223372036854775807:=by
  have h4:=Ef;simp [maxLen] at h4
  omega
 have E:=zH (show Nc p pub vars rows=((Fb p&&!decide (pub<0)&&!decide (vars <= pub)&&!decide (65536<vars))&&!decide ((16384:Int)<rows.length)&&rows.all (qn p vars)) from rfl)
 revert HS E
 generalize Nc p pub vars rows=ans;generalize (Fb p&&!decide (pub<0)&&!decide (vars <= pub)&&!decide (65536<vars))=b0;intro HS E;unfold Tb at *;have kt:=Blk.new w 25 #[vd vn p,vd vq pub,vd vq vars,ve A rows.length c];have da:vA w.1.size w (w.alloc (.cells #[vd vn p,vd vq pub,vd vq vars,ve A rows.length c] 25)):=(Ca _ _).alloc zR _;go_enter func115,ntmps115
 go_wp2_with fail
 generalize w.alloc _=w0 at kt da |-;refine (HS.out _).mono ?_;rintro e w1 ⟨rfl,Ia⟩;replace kt:=ja kt Ia;replace da:=pa da Ia;clear Ia;have ct:=kt.cell;cases b0
 ·go_wp2
  go_ret
  exact ⟨by rw [E.out];simp,da⟩
 by_cases z4:(16384:Int)<rows.length
 ·have d4:=tb z4
  go_wp2;go_ret
  exact ⟨by rw [E.out];simp [d4],da⟩
 have d4:=db z4;have E2:=zH (show ans=rows.all (qn p vars) by rw [E.out,d4];simp)
 clear E;go_wp2_with fail
 clear ct;go_loopw [17] (fun i wr=>∃ j:Nat,j <= rows.length /\ i=vd vq j /\ Blk wr w.1.size 25 #[vd vn p,vd vq pub,vd vq vars,ve A rows.length c] /\ vA w.1.size w wr /\ Hid (∀ k<j,∀ h:k<rows.length,qn p vars rows[k]=true))
  (fun i _=>rows.length-(intOf i).toNat)
 case atStart=>exact ⟨0,Mb _,rfl,kt,da,fun k hk=>by omega⟩
 case round =>
  clear kt da;obtain ⟨j,hj,rfl,kt,da,HB⟩:=hrel;by_cases ta:j<rows.length
  ·have HL:=zH ta
   obtain ⟨b,q,rfl⟩:=Ra.base (by omega) (by omega)
   obtain ⟨cs,-,hc,x,y,z,rfl,Zc,Ge,kd⟩:=(Ra.below Bg da).get ta;have h0:wr.cell? ⟨b,q+j*3,vD⟩=vE x:=hc 0 (by omega)
   have h1:wr.cell? ⟨b,q+j*3+1,vD⟩=vE y:=hc 1 (by omega)
   have h2:wr.cell? ⟨b,q+j*3+2,vD⟩=vE z:=hc 2 (by omega)
   have i1:(0:Int)<=j:=by omega
   have i2:(j:Int)<rows.length:=by omega
   have Gb:=Jf _ _ h0;simp only at Gb;have HC:=zH (fun w' (hb:vA wr.1.size wr w')=>HR.out rows[j] x y z w' (uh _ _ _ _ hb Zc) (uh _ _ _ _ hb Ge) (uh _ _ _ _ hb kd))
   obtain ⟨A1,n1,c1,rfl⟩:=RSl.slc Zc;obtain ⟨A2,n2,c2,rfl⟩:=RSl.slc Ge;obtain ⟨A3,n3,c3,rfl⟩:=RSl.slc kd;have ma:=(Ca wr.1.size wr).alloc zR (.cells #[ve A1 n1 c1,ve A2 n2 c2,ve A3 n3 c3] 211);have ct:=kt.cell;have lt:=kt.lt;clear hc Zc Ge kd;go_wp2_with fail
   refine (HC.out _ ma).mono ?_;rintro e w3 ⟨rfl,Sa⟩;have Ab:=pa ma Sa;replace kt:=ja kt Ab;replace da:=pa da Ab;clear ma Sa Ab h0 h1 h2 ct lt;cases bo:qn p vars rows[j]
   ·have HO:=zH bo
    clear bo;go_wp2;go_ret
    exact ⟨by rw [E2.out,jz.2 ⟨rows[j],zf HL.out,fun h=>Bool.noConfusion (HO.out.symm.trans h)⟩];rfl,da⟩
   ·have HO:=zH bo
    clear bo;go_wp2
    go_roundw
    case rel =>
     refine ⟨j+1,by omega,by go_num,kt,da,fun k hk h=>?_⟩
     by_cases e:k<j
     ·exact HB.out k e h
     ·obtain rfl:k=j:=by omega
      exact HO.out
    case measure=>simp [intOf];omega
  ·obtain rfl:rows.length=j:=by omega
   go_wp2;go_ret
   exact ⟨by rw [E2.out,fe.2 fun r hr=>by obtain ⟨k,hk,rfl⟩:=Hm hr;exact HB.out k hk hk];rfl,da⟩
theorem oQ (n k:Nat) (w:vw) (hn:n <= 1000000000) (hk:0<k) (hk2:k <= 1000000000) :
  vB prog 117 #[vd vq n,vd vq k] w fun e w'=>e=vl (vd vq (((n+k-1) / k:Nat):Int)) /\ w'=w:=by
 have e1:(n:Int)+k=((n+k:Nat):Int):=by omega
 obtain ⟨s,hs⟩:=zEX (n+k);obtain ⟨t,ht⟩:=zEX (n+k-1);obtain ⟨r,hr⟩:=zEX (t / k);have e2:(s:Int)-1=(t:Int):=by omega
 rw [<- hs] at e1;rw [<- ht,<- hr];have e3:(t:Int) / (k:Int)=r:=by rw [hr];rfl
 have e4:(t:Int).tdiv (k:Int)=r:=by rw [hr];rfl
 have e5:=ye s;have e6:=ye t;have Yq:r <= t:=by rw [hr];exact qz _ _
 have e7:=ye r;have q1:(0:Int)<k:=by omega
 have q2:¬((k:Int)=0):=by omega
 have q3:¬(k=0):=by omega
 clear hs ht hr Yq;go_enter func117,ntmps117
 go_wp2_with fail
 go_ret
 exact ⟨rfl,rfl⟩
theorem dT (p a n:Nat) (w:vw) (hp:Fb p=true) (hn:n <= 65536) :
  vB prog 226 #[fv p,vd vn a,vd vq n] w fun e w'=>∃ g,e=vl (ve (vE ⟨g,0,vD⟩) n n) /\ w.1.size <= g /\ Blk w' g 22 (Qa n fun i=>a^i%p) /\ vA w.1.size w w':=by
 obtain ⟨jf,Wd⟩:=Pb hp;have HV:=zH (fun w=>Qo p w hp)
 have HR:=zH (fun w=>GB p a w (by omega))
 obtain ⟨F,hF⟩:∃ F:Nat -> Nat,F=fun i=>a^i%p:=⟨_,rfl⟩
 obtain ⟨r,hr⟩:=zEX (a%p);have HM:=zH (show ∀ i (w:vw),vB prog 227 #[fv p,vd vn (F i:Int),vd vn r] w fun e w'=>e=vl (vd vn (F (i+1):Int)) /\ vA w.1.size w w' from fun i w=>by
  have:=BO p (a^i%p) (a%p) w hp (ic _ (by omega)) (ic _ (by omega))
  rw [<- Nat.mul_mod,<- If] at this;rw [hF,hr];exact this)
 have H0:=zH (show F 0=1 by rw [hF];show a^0%p=1;rw [Nat.pow_zero];exact Kj (by omega))
 rw [<- hr] at HR;rw [<- hF];have mk:=nw n (by omega)
 have g0:(0:Int)<=n:=by omega
 have g1:(n:Int) <= 65536:=by omega
 unfold fv at *;have kf:=Blk.new w 224 #[vd vn p];have da:vA w.1.size w (w.alloc (.cells #[vd vn p] 224)):=(Ca _ _).alloc zR _;clear hp hF hr;go_enter func226,ntmps226
 go_wp2_with fail
 generalize w.alloc _=w1 at kf da |-;refine (HV.out _).mono ?_;rintro e w2 ⟨rfl,xa⟩;replace kf:=ja kf xa;replace da:=pa da xa;clear xa;have cf:=kf.cell;go_wp2_with fail
 refine (HR.out _).mono ?_;rintro e w3 ⟨rfl,xa⟩;replace kf:=ja kf xa;replace da:=pa da xa;clear xa cf;go_wp2_with fail
 have kr:=Blk.new w3 22 (Qa n fun _=>0)
 have Vj:=(Ca w3.1.size w3).alloc zR (.cells (Qa n fun _=>0) 22)
 generalize w3.alloc _=w5 at kr Vj |-;have HZ:=zH (uJ n F fun _=>0)
 clear mk HR HV;go_loopw [8,28] (fun pw y wr=>∃ i:Nat,i <= n /\ y=vd vq i /\ pw=vd vn (F i:Int) /\ Blk wr w3.1.size 22 (Qa n (Ph F (fun _=>0) i)) /\ vA w3.1.size w3 wr) (fun _ y _=>n-(intOf y).toNat)
 case atStart=>exact ⟨0,Mb _,rfl,by rw [H0.out];rfl,by rw [HZ.out];exact kr,Vj⟩
 case round =>
  clear kr Vj;obtain ⟨i,hi,rfl,rfl,kr,Vj⟩:=hrel;by_cases ta:i<n
  ·have q1:(i:Int)<n:=by omega
   have q2:(0:Int)<=i:=by omega
   have cr:=kr.cell i;rw [zD _ _ ta] at cr;have fr:=kr.frozen;obtain ⟨x,hx⟩:=zEX (F i);obtain ⟨z,hz⟩:=zEX (F (i+1));have HS:=zH (AD (n:=n) (G:=fun _=>0) hx)
   have Gf:=zH (fun w=>by have:=HM.out i w;rw [<- hx,<- hz] at this;exact this)
   have HZ1:=zH hz;rw [<- hx];clear hx hz;have yc:=ja kf Vj;have hlf:=kf.lt;have hg:=Hj (w:=wr) w3.1.size i (vd vn x);have pg:=kr.set_ i (vd vn x);rw [HS.out] at pg;have Xf:=yc.grown hg (fun e=>by have:=Za e;omega)
   have Ba:=Vj.trans (Rp hg Vj.size zR);have cf:=Xf.cell;go_wp2_with fail
   clear cf hg cr fr yc;generalize wr.setCell _ _=w6 at pg Xf Ba |-;refine (Gf.out _).mono ?_;rintro e w7 ⟨rfl,xa⟩;replace pg:=ja pg xa;replace Ba:=pa Ba xa;go_wp2
   go_roundw
   case rel=>exact ⟨i+1,by omega,by go_num,by rw [<- HZ1.out],pg,Ba⟩
   case measure=>simp [intOf];omega
  ·obtain rfl:i=n:=by omega
   have q1:¬((i:Int)<i):=by omega
   rw [ZK] at kr;go_wp2;go_ret
   exact ⟨_,rfl,da.size,kr,pa da Vj⟩
def ou (p:Nat) (a b:List Nat):Nat -> Nat
 | 0=>0
 | k+1=>(ou p a b k+a.getD k 0%p*(b.getD k 0%p)%p)%p
theorem zCp {p:Nat} (hp:0<p) (a b:List Nat):∀ k,ou p a b k<p
 | 0=>hp
 | _+1=>ic _ hp
theorem zCM (p:Nat) (A B:Option vy) (n c m d:Nat) (a b:List Nat) (w:vw) (hp:Fb p=true) (ha:RWd w [ve A n c] a) (hb:RWd w [ve B m d] b) (hnm:n=m) :
  vB prog 294 #[fv p,ve A n c,ve B m d] w fun e w'=>e=vl (vd vn (ou p a b n:Int)) /\ vA w.1.size w w':=by
 subst hnm;obtain ⟨Yz,hac,hax,-,hra⟩:=Nb ha;obtain ⟨Qv,-,-,-,hrb⟩:=Nb hb;have gm:=um hac hax;obtain ⟨jf,Wd⟩:=Pb hp;have HV:=zH (fun w=>Qo p w hp)
 have HR:=zH (fun x w=>GB p x w (by omega))
 have HM:=zH (fun x y w hx hy=>BO p x y w hp hx hy)
 have HA:=zH (fun x y w hx hy=>mZ p x y w hp hx hy)
 have HL:=zH (fun x:Nat=>ic x (show 0<p by omega))
 have HD:=zH (fun k=>zCp (p:=p) (by omega) a b k)
 obtain ⟨S,hS⟩:=zEX (ou p a b);rw [<- hS] at HD |-;have Gq:=zH (show S 0=0 by rw [hS];rfl)
 have HSS:=zH (show ∀ k,S (k+1)=(S k+a.getD k 0%p*(b.getD k 0%p)%p)%p from fun k=>by rw [hS];rfl)
 have HNA:=zH Yz;have mx:=zH Qv;have bU:min (n:Int) (n:Int)=n:=Int.min_self _;unfold fv at *;have kf:=Blk.new w 224 #[vd vn p];have da:vA w.1.size w (w.alloc (.cells #[vd vn p] 224)):=(Ca _ _).alloc zR _;clear hS Yz Qv hp ha hb hac hax jf;go_enter func294,ntmps294
 go_wp2_with fail
 generalize w.alloc _=w1 at kf da |-;refine (HV.out _).mono ?_;rintro e w2 ⟨rfl,xa⟩;replace kf:=ja kf xa;replace da:=pa da xa;clear xa;go_wp2_with fail
 go_loopw [7,17] (fun s y wr=>∃ i:Nat,i <= n /\ y=vd vq i /\ s=vd vn (S i:Int) /\ Blk wr w.1.size 224 #[vd vn p] /\ vA w.1.size w wr) (fun _ y _=>n-(intOf y).toNat)
 case atStart=>exact ⟨0,Mb _,rfl,by rw [Gq.out];rfl,kf,da⟩
 case round =>
  clear kf da;obtain ⟨i,hi,rfl,rfl,kf,da⟩:=hrel;by_cases ta:i<n
  ·have q1:(i:Int)<n:=by omega
   have q2:(0:Int)<=i:=by omega
   obtain ⟨b1,Dr,rfl,dK,td⟩:=Fg (l:=a) (A:=A) (by rw [<- HNA.out];exact hra) (j:=i) (by rw [<- HNA.out];exact ta)
   obtain ⟨b2,q2',rfl,Nz,Of⟩:=Fg (l:=b) (A:=B) (by rw [<- mx.out];exact hrb) (j:=i) (by rw [<- mx.out];exact ta)
   have c1:=(da.cell (p:=⟨b1,Dr+i,vD⟩) dK).trans td;have c2:=(da.cell (p:=⟨b2,q2'+i,vD⟩) Nz).trans Of;have dz:=zH (HSS.out i);obtain ⟨x,hx⟩:=zEX (a.getD i 0);obtain ⟨y,hy⟩:=zEX (b.getD i 0);rw [<- hx] at c1 dz;rw [<- hy] at c2 dz;obtain ⟨x1,Zc⟩:=zEX (x%p);obtain ⟨y1,Ge⟩:=zEX (y%p);obtain ⟨z,hz⟩:=zEX (x1*y1%p);obtain ⟨s,hs⟩:=zEX (S i);obtain ⟨s1,Bd⟩:=zEX ((s+z)%p);rw [<- Zc,<- Ge,<- hz,<- hs,<- Bd] at dz;have HX:=zH (fun w=>by have:=HR.out x w;rw [<- Zc] at this;exact this)
   have HY:=zH (fun w=>by have:=HR.out y w;rw [<- Ge] at this;exact this)
   have HZ:=zH (fun w=>by have:=HM.out x1 y1 w (by rw [Zc];exact HL.out _) (by rw [Ge];exact HL.out _);rw [<- hz] at this;exact this)
   have HW:=zH (fun w=>by have:=HA.out s z w (by rw [hs];exact HD.out _) (by rw [hz];exact HL.out _);rw [<- Bd] at this;exact this)
   rw [<- hs];have cf:=kf.cell;have lf:=kf.lt;clear hx hy Zc Ge hz hs Bd td Of;have lb1:b1<wr.1.size:=Jf _ _ c1;have lb2:b2<wr.1.size:=Jf _ _ c2;go_upto_region 7 with fail
   refine zd (Ub) [8,14,15,16] [0,1,2,3,4,5,6,7,9,10,11,12,13,8,14,15,16,17] (by kernel_rfl) (by kernel_rfl) ?_
   refine Se (ra) ?_;intro Wc Ja ia;have Ka:=Tf Ja;refine Qb ?_;refine Bc (ra) rfl rfl rfl (fun _=>by go_simp <;> rfl) ((HX.out _).mono ?_)
   rintro e w4 ⟨rfl,xa⟩;refine ⟨_,rfl,xa,?_⟩;replace ia:=(ra).trans _ _ _ ia (xa);refine zPU ?_;refine Qb ?_;refine Bc (ra) rfl rfl rfl (fun _=>by go_simp <;> rfl) ((HY.out _).mono ?_)
   rintro e w5 ⟨rfl,Wl⟩;refine ⟨_,rfl,Wl,?_⟩;replace ia:=(ra).trans _ _ _ ia (Wl);refine zPU ?_;refine Qb ?_;refine Bc (ra) rfl rfl rfl (fun _=>by go_simp <;> rfl) ((HZ.out _).mono ?_)
   rintro e w6 ⟨rfl,Wj⟩;refine ⟨_,rfl,Wj,?_⟩;replace ia:=(ra).trans _ _ _ ia (Wj);refine zPU ?_;refine Qb ?_;refine Bc (ra) rfl rfl rfl (fun _=>by go_simp <;> rfl) ((HW.out _).mono ?_)
   rintro e w7 ⟨rfl,Jb⟩;refine ⟨_,rfl,Jb,?_⟩;replace ia:=(ra).trans _ _ _ ia (Jb);refine zPU ?_;refine Qb ?_;refine Jc ?_;have Xp:=pa (pa (pa (pa Ka xa) Wl) Wj) Jb;replace kf:=ja kf Xp;replace da:=pa da Xp;clear Xp Ka xa Wl Wj Jb ia Ja cf lf c1 c2 lb1 lb2;go_wp2_with fail
   go_roundw
   case rel=>exact ⟨i+1,by omega,by go_num,by rw [dz.out],kf,da⟩
   case measure=>simp [intOf];omega
  ·obtain rfl:i=n:=by omega
   have q1:¬((i:Int)<i):=by omega
   go_wp2;go_ret
   exact ⟨rfl,da⟩
def GK (bl bw qs:Int):Prop:=bl<2 \/ 256<bl \/ bl.toNat &&& (bl.toNat-1)≠0 \/ qs<1 \/ 64<qs \/ (bw≠1 /\ bw≠2 /\ bw≠4 /\ bw≠8)
theorem zEJ {p:Nat} {pub vars:Int} {nr:Nat} {bl bw qs:Int} (h:GK bl bw qs):qw ⟨p,pub,vars,nr,bl,bw,qs⟩=1:=Na h
theorem zFN (bl bw qs:Int) (w:vw) (h:GK bl bw qs) :
  vB prog 116 #[vf #[vd vq bl,vd vq bw,vd vq qs]] w fun e w'=>e=vl (.bool false) /\ vA w.1.size w w':=by
 have da:vA w.1.size w (w.alloc (.cells #[vd vq bl,vd vq bw,vd vq qs] 27)):=(Ca _ _).alloc zR _;by_cases hw:bw≠1 /\ bw≠2 /\ bw≠4 /\ bw≠8
 ·obtain ⟨h1,h2,h3,h4⟩:=hw
  have d1:(bw != 1)=true:=by rw [Bf];exact h1
  have d2:(bw != 2)=true:=by rw [Bf];exact h2
  have d3:(bw != 4)=true:=by rw [Bf];exact h3
  have d4:(bw != 8)=true:=by rw [Bf];exact h4
  clear h h1 h2 h3 h4;go_enter func116,ntmps116
  go_wp2_with fail
  go_ret
  exact ⟨rfl,da⟩
 have DC:bw=1 \/ bw=2 \/ bw=4 \/ bw=8:=by omega
 by_cases z1:bl<2
 ·have d1:decide (2 <= bl)=false:=db (by omega)
  clear h hw;rcases DC with rfl | rfl | rfl | rfl <;>
  ·go_enter func116,ntmps116
   go_wp2_with fail
   go_ret
   exact ⟨rfl,da⟩
 have d1:decide (2 <= bl)=true:=tb (by omega)
 by_cases z2:256<bl
 ·have d2:decide (bl <= 256)=false:=db (by omega)
  clear h hw;rcases DC with rfl | rfl | rfl | rfl <;>
  ·go_enter func116,ntmps116
   go_wp2_with fail
   go_ret
   exact ⟨rfl,da⟩
 have d2:decide (bl <= 256)=true:=tb (by omega)
 obtain ⟨b,rfl⟩:=Zk (show 0 <= bl by omega)
 unfold GK at h;rw [Bk] at h;have hand:=QN ⟨b,by omega⟩ (by show 2 <= b;omega)
 simp only at hand;have i1:(1:Int)<=b:=by omega
 have i2:(0:Int)<=b-1:=by omega
 have i3:(b:Int) <= 256:=by omega
 by_cases z3:b &&& (b-1)=0
 ·rw [z3] at hand
  have hq:¬(1 <= qs /\ qs <= 64):=by omega
  clear h hw z3;by_cases z4:qs<1
  ·have d4:decide (1 <= qs)=false:=db (by omega)
   rcases DC with rfl | rfl | rfl | rfl <;>
   ·go_enter func116,ntmps116
    go_wp2_with fail
    go_ret
    exact ⟨rfl,da⟩
  ·have d4:decide (1 <= qs)=true:=tb (by omega)
   have d5:decide (qs <= 64)=false:=db (by omega)
   rcases DC with rfl | rfl | rfl | rfl <;>
   ·go_enter func116,ntmps116
    go_wp2_with fail
    go_ret
    exact ⟨rfl,da⟩
 ·obtain ⟨v,hv⟩:=zEX (b &&& (b-1))
  rw [<- hv] at hand z3;have d3:((v:Int) == 0)=false:=by rw [Gd];omega
  clear h hw hv z3;rcases DC with rfl | rfl | rfl | rfl <;>
  ·go_enter func116,ntmps116
   go_wp2_with fail
   go_ret
   exact ⟨rfl,da⟩
theorem zFO (b bw q:Nat) (w:vw) (h0:2 <= b) (h1:b <= 256) (h2:b &&& (b-1)=0) (h3:1 <= q) (h4:q <= 64) (DC:bw=1 \/ bw=2 \/ bw=4 \/ bw=8) :
  vB prog 116 #[vf #[vd vq b,vd vq bw,vd vq q]] w fun e w'=>e=vl (.bool true) /\ vA w.1.size w w':=by
 have hand:=QN ⟨b,by omega⟩ (by show 2 <= b;omega)
 simp only at hand;rw [h2] at hand;have i1:(1:Int)<=b:=by omega
 have i2:(0:Int)<=b-1:=by omega
 have i3:(b:Int) <= 256:=by omega
 have d1:decide ((2:Int)<=b)=true:=tb (by omega)
 have d2:decide ((b:Int) <= 256)=true:=tb (by omega)
 have d4:decide ((1:Int)<=q)=true:=tb (by omega)
 have d5:decide ((q:Int) <= 64)=true:=tb (by omega)
 clear h0 h1 h2 h3 h4;have da:vA w.1.size w (w.alloc (.cells #[vd vq b,vd vq bw,vd vq q] 27)):=(Ca _ _).alloc zR _;rcases DC with rfl | rfl | rfl | rfl <;>
 ·go_enter func116,ntmps116
  go_wp2_with fail
  go_ret
  exact ⟨rfl,da⟩
section
variable (p:Nat) (pub vars:Int) (A:Option vy) (n c:Nat) (rows:List Ua) (bl bw qs:Int) (w:vw)
theorem zFz (hr:RSl 3 Ud w [ve A n c] rows) (ht:Nc p pub vars rows=true) (XH:GK bl bw qs) :
  vB prog 55 (iq p pub vars A n c bl bw qs) w fun e w'=>e=vl (.tuple #[vf Yf,vd vq 1]) /\ vA w.1.size w w':=by
 have HV:=zH (fun w' (hb:vA w.1.size w w')=>NM p pub vars A n c rows w' (Dg Bg _ _ _ _ hb hr))
 have HP:=zH (fun w=>zFN bl bw qs w XH)
 rw [ht] at HV;clear hr ht XH;unfold iq Tb Yf at *;obtain ⟨kt,kx,kz,da,-⟩:=Sp w 25 27 101 #[vd vn p,vd vq pub,vd vq vars,ve A n c] #[vd vq bl,vd vq bw,vd vq qs] #[vd vn 0,vd vq 0,vd vq 0,vd vq 0,vd vq 0,vd vq 0,vd vq 0,vd vq 0,vd vq 0,vd vq 0,vd vq 0];go_enter func55,ntmps55
 go_wp2_with fail
 generalize ((w.alloc _).alloc _).alloc _=w0 at kt kx kz da |-;refine (HV.out _ da).mono ?_;rintro e w1 ⟨rfl,Ia⟩;replace kt:=ja kt Ia;replace kx:=ja kx Ia;replace kz:=ja kz Ia;replace da:=pa da Ia;have cx:=kx.cell;clear Ia;go_wp2_with fail
 refine (HP.out _).mono ?_;rintro e w2 ⟨rfl,Ba⟩;replace kz:=ja kz Ba;replace da:=pa da Ba;clear Ba cx;have cz:=kz.cell;have fz:=kz.frozen;go_wp2_with fail
 obtain ⟨wf,Sb,kW,hW⟩:=Gt kz da;rw [Sb];clear Sb cz fz kz da;have c4:=kW.cell;exact Tc (v:=.tuple #[vf #[vd vn 0,vd vq 0,vd vq 0,vd vq 0,vd vq 0,vd vq 0,vd vq 0,vd vq 0,vd vq 0,vd vq 0,vd vq 0],vd vq 1]) (by simp [results,results55,go_sem,c4]) rfl ⟨rfl,hW⟩
end
theorem SK {w:vw} (g i:Nat) (v:vx):w.grownBy (w.setCell ⟨g,i,vD⟩ v) (vE g):=Wg (p:=⟨g,i,vD⟩) (Ee w _) (.inl rfl) _
def DL (w:vw) (g i:Nat):Nat:=match w.cell? ⟨g,i,vD⟩ with | some (vd _ n)=>n.toNat | _=>0
theorem zFA (p U V:Nat) (A:Option vy) (n c:Nat) (rows:List Ua) (b bw q:Nat) (w:vw) (hr:RSl 3 Ud w [ve A n c] rows) (ht:Nc p U V rows=true)
  (h0:2 <= b) (h1:b <= 256) (h2:b &&& (b-1)=0) (h3:1 <= q) (h4:q <= 64) (hw:bw=1 \/ bw=2 \/ bw=4 \/ bw=8) :
  vB prog 55 (iq p U V A n c b bw q) w fun e w'=>eE ⟨p,U,V,rows.length,b,bw,q⟩ e /\ vA w.1.size w w':=by
 have Xa:=oG ht;obtain ⟨jf,hp⟩:=Pb Xa;have HV:=zH (fun w' (hb:vA w.1.size w w')=>NM p U V A n c rows w' (Dg Bg _ _ _ _ hb hr))
 have HPa:=zH (fun w=>zFO b bw q w h0 h1 h2 h3 h4 hw)
 rw [ht] at HV;have DI:U<V /\ V <= 65536 /\ rows.length <= 16384:=by
  unfold Nc at ht;simp only [mc,Xk,mu] at ht;omega
 obtain ⟨t1,t2,t3⟩:=DI;obtain ⟨A',n',c',he,hlen,Ld,Ef,-⟩:=hr;simp at he
 obtain ⟨rfl,rfl,rfl⟩:=he;subst hlen;have hbw8:bw <= 8 /\ 1 <= bw:=by omega
 obtain ⟨k,hk⟩:=zEX (b+q);obtain ⟨kk,Ws⟩:=zEX (2*k);obtain ⟨s,hs⟩:=zEX (V-1-U);obtain ⟨v1,Xi⟩:=zEX (V-1);obtain ⟨pm,fq⟩:=zEX (p-1);have ek:(b:Int)+q=(k:Int):=by omega
 have ek1:=ye k;have vH:(2:Int)*k=(kk:Int):=by omega
 have ek3:=ye kk;have ev:(V:Int)-1=(v1:Int):=by omega
 have ev2:=ye v1;have es:(v1:Int)-U=(s:Int):=by omega
 have es2:=ye s;have ep:vn.wrap ((p:Int)-1)=(pm:Int):=by rw [fq];exact Py p 1 (by omega) hp
 have ep2:(p:Int)-1=(pm:Int):=by omega
 have ep3:vn.wrap (pm:Int)=pm:=Wk _ (by omega)
 have j1:kk <= 640:=by omega
 have j2:6 <= kk:=by omega
 have hb256:vn.wrap (b:Int)=b:=Wk b (by omega)
 have HB:=zH (And.intro h0 h1);have HQ:=zH (And.intro h3 h4);have HK:=zH hk;have HS:=zH hs;have HT:=zH (And.intro Xa (And.intro t1 (And.intro t2 t3)));have HP:=zH (show pm=p-1 /\ 17 <= p from ⟨fq,jf⟩)
 have HG:=zH (fun N NN hN ti=>X5 (p:=p) (U:=U) (V:=V) (nr:=rows.length) (bw:=bw) (N:=N) (NN:=NN) h0 h1 h2 h3 h4 hw fq hN ti)
 have He:=zH h2;have WA:=zH hbw8;have HW:=zH hw;have HKK:=zH (show kk=2*(b+q) by omega)
 have gm:(rows.length:Int) <= 16384:=by omega
 have u1:(rows.length+b-1) / b <= 100000:=xb (qz _ _) (by omega)
 have u2:(s+b-1) / b <= 100000:=xb (qz _ _) (by omega)
 have HU:=zH (fun w=>oQ rows.length b w (by omega) (by omega) (by omega))
 have zo:=zH (fun w=>oQ s b w (by omega) (by omega) (by omega))
 obtain ⟨ub,FI⟩:=zEX ((rows.length+b-1) / b);obtain ⟨ua,EI⟩:=zEX ((s+b-1) / b);rw [<- FI] at HU u1;rw [<- EI] at zo u2;have HUB:=zH FI;have HUA:=zH EI;clear FI EI h0 h1 h2 h3 h4 hk hs Ws Xa hp jf ht t1 t2 t3 fq hw hbw8 Xi;unfold iq Tb at *;obtain ⟨kt,kx,kz,da,-⟩:=Sp w 25 27 101 #[vd vn p,vd vq U,vd vq V,ve A rows.length c] #[vd vq b,vd vq bw,vd vq q] #[vd vn 0,vd vq 0,vd vq 0,vd vq 0,vd vq 0,vd vq 0,vd vq 0,vd vq 0,vd vq 0,vd vq 0,vd vq 0];go_enter func55,ntmps55
 go_wp2_with fail
 generalize ((w.alloc _).alloc _).alloc _=w0 at kt kx kz da |-;refine (HV.out _ da).mono ?_;rintro e w1 ⟨rfl,Ia⟩;replace kt:=ja kt Ia;replace kx:=ja kx Ia;replace kz:=ja kz Ia;replace da:=pa da Ia;have cx:=kx.cell;clear Ia;go_wp2_with fail
 refine (HPa.out _).mono ?_;rintro e w2 ⟨rfl,Ba⟩;replace kt:=ja kt Ba;replace kx:=ja kx Ba;replace kz:=ja kz Ba;replace da:=pa da Ba;clear Ba cx;have cx:=kx.cell;have ct:=kt.cell;go_wp2_with fail
 have ma:=(Ca w2.1.size w2).alloc zR (.cells #[vd vn p,vd vq b,vd vq q,vd vq k,vd vq 1,vd vq 0,vd vq 0,vd vq 0,vd vq 0,vd vq 0,vd vq 0] 101);have k6:=Blk.new w2 101 #[vd vn p,vd vq b,vd vq q,vd vq k,vd vq 1,vd vq 0,vd vq 0,vd vq 0,vd vq 0,vd vq 0,vd vq 0];have mI:w.1.size+1+1<w2.1.size:=kz.lt;replace kt:=ja kt ma;replace kx:=ja kx ma;replace kz:=ja kz ma;replace da:=pa da ma;clear ma cx ct;generalize w2.alloc _=w3 at kt kx kz da k6 |-;generalize w2.1.size=g6 at k6 mI |-;go_loopw [35] (fun _ wr=>∃ N:Nat,Hid ((∃ z,N=2^z) /\ N<2*kk) /\ N <= 1280 /\ 0<N /\ Blk wr w.1.size 25 #[vd vn p,vd vq U,vd vq V,ve A rows.length c] /\ Blk wr (w.1.size+1) 27 #[vd vq b,vd vq bw,vd vq q] /\ Blk wr (w.1.size+1+1) 101 #[vd vn 0,vd vq 0,vd vq 0,vd vq 0,vd vq 0,vd vq 0,vd vq 0,vd vq 0,vd vq 0,vd vq 0,vd vq 0] /\ Blk wr g6 101 #[vd vn p,vd vq b,vd vq q,vd vq k,vd vq N,vd vq 0,vd vq 0,vd vq 0,vd vq 0,vd vq 0,vd vq 0] /\ vA w.1.size w wr) (fun _ wr=>1300-DL wr g6 4)
 case atStart=>exact ⟨1,⟨⟨0,rfl⟩,by omega⟩,by omega,by omega,kt,kx,kz,k6,da⟩
 case round =>
  clear kt kx kz k6 da;obtain ⟨N,HN,Hk,Ti,kt,kx,kz,k6,da⟩:=hrel;have cM:DL wr g6 4=N:=by unfold DL;rw [k6.cell];simp
  by_cases ta:N<kk
  ·have q1:(N:Int)<kk:=by omega
   obtain ⟨N2,hN⟩:=zEX (2*N);have e1:(N:Int)*2=(N2:Int):=by omega
   have e2:=ye N2;have HN3:Hid ((∃ z,N2=2^z) /\ N2<2*kk):=by
    obtain ⟨⟨z,hz⟩,-⟩:=HN.out;exact ⟨⟨z+1,by rw [hN,hz,If,ze]⟩,by omega⟩
   have hN4:N2 <= 1280:=by omega
   have hN5:0<N2:=by omega
   have Li:=zH hN;have HCM:=zH cM;clear hN cM;have c6:=k6.cell;have f6:=k6.frozen;go_wp2_with fail
   have hg:=SK (w:=wr) g6 4 (vd vq N2);replace k6:=k6.set_ 4 (vd vq N2);simp at k6
   replace kt:=Ce kt hg;replace kx:=Ce kx hg;replace kz:=Ce kz hg;replace da:=Ff da hg;clear hg c6 f6
   go_roundw
   case rel=>exact ⟨N2,HN3,hN4,hN5,kt,kx,kz,k6,da⟩
   case measure =>
    have c2:DL (wr.setCell ⟨g6,4,vD⟩ (vd vq N2)) g6 4=N2:=by unfold DL;rw [k6.cell];simp
    rw [c2,HCM.out];have:=Li.out;omega
  ·have q1:¬((N:Int)<kk):=by omega
   clear cM;obtain ⟨NN,ti⟩:=zEX (bw*N);have hNNl:NN <= 10240:=by rw [ti];exact Nat.mul_le_mul WA.out.1 Hk
   have hNN0:0<NN:=by rw [ti];exact Nat.mul_pos (by have:=WA.out;omega) Ti
   have e1:(N:Int)*bw=(NN:Int):=by rw [ti,Uf,Jj]
   have e2:=ye NN;have eN:vn.wrap (NN:Int)=NN:=Wk _ (by omega)
   have RO:(∃ z,N=2^z) /\ 2*(b+q) <= N /\ (1 <= 2*(b+q) -> N<2*(2*(b+q))):=by
    have h:=HN.out;rw [HKK.out] at h;exact ⟨h.1,by rw [<- HKK.out];omega,fun _=>h.2⟩
   replace HG:=zH (HG.out _ _ RO ti);have HNP:Hid (∃ z,NN=2^z):=by
    obtain ⟨z,hz⟩:=RO.1;rcases HW.out with h | h | h | h <;> rw [ti,h,hz]
    ·exact ⟨z,by omega⟩
    ·exact ⟨z+1,by rw [If,ze]⟩
    ·exact ⟨z+2,by rw [Nat.pow_add,ze]⟩
    ·exact ⟨z+3,by rw [Nat.pow_add,ze]⟩
   have HNK:Hid (2*k <= NN):=by
    have h1:N <= NN:=by rw [ti];exact Nat.le_mul_of_pos_left _ (by have:=WA.out;omega)
    have:=RO.2.1;have:=HK.out;show 2*k <= NN
    omega
   clear RO HN ti Hk Ti ta;have Ww:Hid (∀ {er:Int},(if pm%b≠0 \/ pm%NN≠0 \/ pm <= NN then (7:Int) else if 1024<NN then 3 else 0)=er -> er=qw ⟨p,U,V,rows.length,b,bw,q⟩):=fun h=>h.symm.trans (HG.out.2).symm
   have c6:=k6.cell;have f6:=k6.frozen;have cx:=kx.cell;have lx:=kx.lt;go_upto_region 7 with fail
   have hg:=SK (w:=wr) g6 4 (vd vq NN);replace k6:=k6.set_ 4 (vd vq NN);simp at k6
   replace kt:=Ce kt hg;replace kx:=Ce kx hg;replace kz:=Ce kz hg;replace da:=Ff da hg;clear hg c6 f6 cx lx e1 e2;generalize wr.setCell _ _=w4 at kt kx kz k6 da |-;have c6:=k6.cell;have ct:=kt.cell;have cz:=kz.cell;have fz:=kz.frozen;have q1:(0:Int)<b:=by have:=HB.out;omega
   have q2:¬((b:Int)=0):=by omega
   have q3:¬(b=0):=by omega
   have q4:(0:Int)<NN:=by omega
   have q5:¬((NN:Int)=0):=by omega
   have q6:¬(NN=0):=by omega
   have r1:(pm:Int)%(b:Int)=((pm%b:Nat):Int):=rfl;have r2:(pm:Int)%(NN:Int)=((pm%NN:Nat):Int):=rfl;have r3:(pm:Int).tmod (b:Int)=((pm%b:Nat):Int):=rfl;have r4:(pm:Int).tmod (NN:Int)=((pm%NN:Nat):Int):=rfl;obtain ⟨x1,Zc⟩:=zEX (pm%b);obtain ⟨x2,Yi⟩:=zEX (pm%NN);rw [<- Zc] at r1 r3;rw [<- Yi] at r2 r4;have jB:=zH Zc.symm;have Gm:=zH Yi.symm;clear Zc Yi;have fin:∀ (er:Int),er=7 \/ er=3 -> er=qw ⟨p,U,V,rows.length,b,bw,q⟩ -> eE ⟨p,U,V,rows.length,b,bw,q⟩ (vl (.tuple #[vf Yf,vd vq er])):=fun er h h'=>⟨_,_,rfl, .inl ⟨by omega,rfl,h'⟩⟩
   have FIN:=zH fin;clear fin;have KW:=zH (Gt kz da);by_cases z1:x1=0
   ·subst z1
    by_cases z2:x2=0
    ·subst z2
     by_cases z3:pm <= NN
     ·have y1:decide ((pm:Int)<=NN)=true:=tb (by omega)
      have y2:decide (pm <= NN)=true:=tb z3;go_wp2_with fail
      obtain ⟨wf,Sb,kW,hW⟩:=KW.out;rw [Sb];clear Sb cz fz KW;have c4:=kW.cell;exact Tc (v:=.tuple #[vf Yf,vd vq 7]) (by simp [results,results55,go_sem,c4,Yf]) rfl ⟨FIN.out 7 (.inl rfl) (Ww.out (by rw [Na (.inr (.inr z3))])),hW⟩
     ·have y1:decide ((pm:Int)<=NN)=false:=db (by omega)
      have y2:decide (pm <= NN)=false:=db z3;by_cases z4:1024<NN
      ·have y3:decide ((1024:Int)<NN)=true:=tb (by omega)
       have y4:decide (1024<NN)=true:=tb z4;go_wp2_with fail
       obtain ⟨wf,Sb,kW,hW⟩:=KW.out;rw [Sb];clear Sb cz fz KW;have c4:=kW.cell;exact Tc (v:=.tuple #[vf Yf,vd vq 3]) (by simp [results,results55,go_sem,c4,Yf]) rfl ⟨FIN.out 3 (.inr rfl) (Ww.out (by rw [ya (by rw [jB.out,Gm.out];omega),Na z4])),hW⟩
      ·have y3:decide ((1024:Int)<NN)=false:=db (by omega)
       have y4:decide (1024<NN)=false:=db z4;have HZ3:=zH z3;have HZ4:=zH z4;have f6:=k6.frozen;have l6:=k6.lt;have n1:w.1.size≠g6:=by omega
       clear KW cz fz FIN;go_upto_region 14 with fail
       have hg:w4.grownBy ((w4.setCell ⟨g6,5,vD⟩ (vd vq s)).setCell ⟨g6,6,vD⟩ (vd vq rows.length)) (vE g6):=by
        iterate 2 refine Wg ?_ (.inl rfl) _
        exact Ee w4 _
       replace k6:=(k6.set_ 5 (vd vq s)).set_ 6 (vd vq rows.length);simp at k6
       replace kt:=Ce kt hg;replace kx:=Ce kx hg;replace kz:=Ce kz hg;replace da:=Ff da hg;clear hg c6 f6 ct l6;generalize (w4.setCell _ _).setCell _ _=w5 at kt kx kz k6 da |-;have c6:=k6.cell;have f6:=k6.frozen;have l6:=k6.lt;go_wp2_with fail
       refine (zo.out _).mono ?_;rintro e w6 ⟨rfl,rfl⟩;go_upto_region 15 with fail
       have hg:=SK (w:=w6) g6 7 (vd vq ua);replace k6:=k6.set_ 7 (vd vq ua);simp at k6
       replace kt:=Ce kt hg;replace kx:=Ce kx hg;replace kz:=Ce kz hg;replace da:=Ff da hg;clear hg c6 f6 l6;generalize w6.setCell _ _=w7 at kt kx kz k6 da |-;go_wp2_with fail
       go_loopw [8] (fun y wr=>∃ (i:Nat) (x1 x2 x3:Int),1 <= i /\ i <= 4 /\ y=vd vq i /\ Hid ((1<i -> x1=ub) /\ (2<i -> x2=ub) /\ (3<i -> x3=ub)) /\ Blk wr (w.1.size+1+1) 101 #[vd vn 0,vd vq 0,vd vq 0,vd vq 0,vd vq 0,vd vq 0,vd vq 0,vd vq 0,vd vq 0,vd vq 0,vd vq 0] /\ Blk wr g6 101 #[vd vn p,vd vq b,vd vq q,vd vq k,vd vq NN,vd vq s,vd vq rows.length,vd vq ua,vd vq x1,vd vq x2,vd vq x3] /\ vA w.1.size w wr) (fun y _=>4-(intOf y).toNat)
       case atStart=>exact ⟨1,0,0,0,by omega,by omega,rfl,⟨by omega,by omega,by omega⟩,kz,k6,da⟩
       case round =>
        clear kt kx kz k6 da;obtain ⟨i,x1,x2,x3,Mv,hi4,rfl,Jn,kz,k6,da⟩:=hrel;have c6:=k6.cell;have f6:=k6.frozen;have l6:=k6.lt;by_cases ta:i<4
        ·have hi:i=1 \/ i=2 \/ i=3:=by omega
         rcases hi with rfl | rfl | rfl
         ·go_wp2_with fail
          refine (HU.out _).mono ?_;rintro e w8 ⟨rfl,rfl⟩;go_wp2_with fail
          have hg:=SK (w:=w8) g6 8 (vd vq ub);replace k6:=k6.set_ 8 (vd vq ub);simp at k6
          replace kz:=Ce kz hg;replace da:=Ff da hg;clear hg c6 f6 l6
          go_roundw
          case rel=>exact ⟨2,(ub:Int),x2,x3,by omega,by omega,rfl,⟨by have:=Jn.out;omega,by have:=Jn.out;omega,by have:=Jn.out;omega⟩,kz,k6,da⟩
          case measure=>simp [intOf]
         ·go_wp2_with fail
          refine (HU.out _).mono ?_;rintro e w8 ⟨rfl,rfl⟩;go_wp2_with fail
          have hg:=SK (w:=w8) g6 9 (vd vq ub);replace k6:=k6.set_ 9 (vd vq ub);simp at k6
          replace kz:=Ce kz hg;replace da:=Ff da hg;clear hg c6 f6 l6
          go_roundw
          case rel=>exact ⟨3,x1,(ub:Int),x3,by omega,by omega,rfl,⟨by have:=Jn.out;omega,by have:=Jn.out;omega,by have:=Jn.out;omega⟩,kz,k6,da⟩
          case measure=>simp [intOf]
         ·go_wp2_with fail
          refine (HU.out _).mono ?_;rintro e w8 ⟨rfl,rfl⟩;go_wp2_with fail
          have hg:=SK (w:=w8) g6 10 (vd vq ub);replace k6:=k6.set_ 10 (vd vq ub);simp at k6
          replace kz:=Ce kz hg;replace da:=Ff da hg;clear hg c6 f6 l6
          go_roundw
          case rel=>exact ⟨4,x1,x2,(ub:Int),by omega,by omega,rfl,⟨by have:=Jn.out;omega,by have:=Jn.out;omega,by have:=Jn.out;omega⟩,kz,k6,da⟩
          case measure=>simp [intOf]
        ·obtain rfl:i=4:=by omega
         obtain ⟨e1,e2,e3⟩:=Jn.out;obtain rfl:=e1 (by omega)
         obtain rfl:=e2 (by omega)
         obtain rfl:=e3 (by omega)
         have cz:=kz.cell;have fz:=kz.frozen;have lz:=kz.lt;clear Jn e1 e2 e3;go_wp2_with fail
         obtain ⟨wf,Sb,kW,hW⟩:=qD kz da p b q k NN s rows.length ua ub ub ub;rw [Sb];clear Sb cz fz c6 f6 kz da lz l6;have c4:=kW.cell;have HL:Lb ⟨p,b,q,k,NN,s,rows.length,ua,ub⟩:=by
          have hB:=HB.out;have hQ:=HQ.out;have hT:=HT.out;refine ⟨hT.1,hB.1,hB.2,hQ.1,hQ.2,HK.out,HNP.out,by show NN <= 1024;have:=HZ4.out;omega,by have:=HS.out;show s <= 65536;omega,hT.2.2.2,u2,u1,He.out,?_,?_,?_,HNK.out,HUA.out,HUB.out⟩
          ·show (p-1)%b=0
           rw [<- HP.out.1];exact jB.out
          ·show (p-1)%NN=0
           rw [<- HP.out.1];exact Gm.out
          ·show NN<p-1
           rw [<- HP.out.1];have:=HZ3.out;omega
         have Bq:mi ⟨p,b,q,k,NN,s,rows.length,ua,ub⟩ ⟨p,U,V,rows.length,b,bw,q⟩:=by
          have e1:((V:Int)-1-(U:Int)).toNat=s:=by have:=HS.out;have:=HT.out;omega
          refine ⟨rfl,?_,(Ww.out (by rw [ya (by rw [jB.out,Gm.out];have:=HZ3.out;omega),ya HZ4.out])).symm,by show (0:Int) <= U;omega,by have:=HT.out;show (U:Int)<V;omega⟩
          have e5:NewIn.n ⟨p,U,V,rows.length,b,bw,q⟩=NN:=HG.out.1.symm;unfold ZP;simp only [Bk,e1];rw [e5,HK.out,HUA.out,HUB.out]
         exact Tc (v:=.tuple #[vf (jb ⟨p,b,q,k,NN,s,rows.length,ua,ub⟩),vd vq 0]) (by simp [results,results55,go_sem,c4,jb]) rfl ⟨⟨_,_,rfl, .inr ⟨rfl,_,HL,Bq,rfl⟩⟩,hW⟩
    ·have y1:((x2:Int) != 0)=true:=by rw [Bf];omega
     have y2:(x2 != 0)=true:=by rw [Bf];exact z2
     go_wp2_with fail
     obtain ⟨wf,Sb,kW,hW⟩:=KW.out;rw [Sb];clear Sb cz fz KW;have c4:=kW.cell;exact Tc (v:=.tuple #[vf Yf,vd vq 7]) (by simp [results,results55,go_sem,c4,Yf]) rfl ⟨FIN.out 7 (.inl rfl) (Ww.out (by rw [Na (.inr (.inl (by rw [Gm.out];exact z2)))])),hW⟩
   ·have y1:((x1:Int) != 0)=true:=by rw [Bf];omega
    have y2:(x1 != 0)=true:=by rw [Bf];exact z1
    go_wp2_with fail
    obtain ⟨wf,Sb,kW,hW⟩:=KW.out;rw [Sb];clear Sb cz fz KW;have c4:=kW.cell;exact Tc (v:=.tuple #[vf Yf,vd vq 7]) (by simp [results,results55,go_sem,c4,Yf]) rfl ⟨FIN.out 7 (.inl rfl) (Ww.out (by rw [Na (.inl (by rw [jB.out];exact z1))])),hW⟩
theorem zFy (p:Nat) (pub vars:Int) (A:Option vy) (n c:Nat) (rows:List Ua) (bl bw qs:Int) (w:vw) (hr:RSl 3 Ud w [ve A n c] rows) (ht:Nc p pub vars rows=true) :
  vB prog 55 (iq p pub vars A n c bl bw qs) w fun e w'=>eE ⟨p,pub,vars,rows.length,bl,bw,qs⟩ e /\ vA w.1.size w w':=by
 by_cases XH:GK bl bw qs
 ·exact (zFz p pub vars A n c rows bl bw qs w hr ht XH).mono fun _ _ h=>⟨⟨_,_,h.1, .inl ⟨by decide,rfl,(zEJ XH).symm⟩⟩,h.2⟩
 ·have pF:0 <= pub /\ pub<vars:=by
   have h:=ht;unfold Nc at h;simp only [mc,Xk,mu] at h;omega
  unfold GK at XH;obtain ⟨U,rfl⟩:=Zk pF.1;obtain ⟨V,rfl⟩:=Zk (show 0 <= vars by omega)
  obtain ⟨b,rfl⟩:=Zk (show 0 <= bl by omega)
  obtain ⟨q,rfl⟩:=Zk (show 0 <= qs by omega)
  obtain ⟨v,rfl⟩:=Zk (show 0 <= bw by omega)
  rw [Bk] at XH;exact zFA p U V A n c rows b v q w hr ht (by omega) (by omega) (by omega) (by omega) (by omega) (by omega)
def tj (l:List Nat) (n p:Nat):Bool:=decide (l.length=n)&&l.all fun x=>decide (x<p)
theorem zCC (x p B:Nat) (w:vw) (hc:w.cell? ⟨B,0,vD⟩=vE (vd vn p)) :
  vB prog 213 #[vd vn x, .pointer (vE ⟨B,0,vD⟩)] w fun e w'=>e=vl (.bool (decide (p <= x))) /\ vA w.1.size w w':=by
 obtain ⟨v,hv⟩:=zEX (decide (p <= x));have e1:decide ((p:Int)<=x)=v:=by rw [hv];by_cases h:p <= x <;> simp [h]
 rw [<- hv];have HV:=zH hv.symm;clear hv;go_enter func213,ntmps213
 go_wp2_with fail
 go_ret
 exact ⟨by first | rfl | (simp [HV.out]),Ca _ _⟩
theorem QX {l:List Nat} {p i:Nat} (h:(l.take i).all (fun x=>decide (x<p))=true) (hi:i<l.length) (hx:¬p <= l.getD i 0):(l.take (i+1)).all (fun x=>decide (x<p))=true:=by
 rw [BM l i hi,List.all_append,h];have:decide (l.getD i 0<p)=true:=tb (by omega)
 rw [List.all_cons,this]
 rfl
theorem PX {l:List Nat} {p i:Nat} (hi:i<l.length) (hx:p <= l.getD i 0):l.all (fun x=>decide (x<p))=false:=by
 rw [jz];refine ⟨l.getD i 0,?_,by rw [decide_eq_true_iff];omega⟩
 rw [Cb,Xb hi];exact zf _
theorem zDA (A:Option vy) (n c p B:Nat) (l:List Nat) (w:vw) (hl:RWd w [ve A n c] l) (hc:w.cell? ⟨B,0,vD⟩=vE (vd vn p)) :
  vB prog 278 #[ve A n c, .func (.func 213) #[] #[.pointer (vE ⟨B,0,vD⟩)]] w fun e w'=>∃ r:Int,e=vl (vd vq r) /\ decide (0 <= r)=!(l.all fun x=>decide (x<p)) /\ vA w.1.size w w':=by
 obtain ⟨rfl,h1,h2,ta,Ra⟩:=Nb hl;have gm:=um h1 h2;have lB:B<w.1.size:=Jf _ _ hc;have HX:=zH (fun x w' (hb:vA w.1.size w w')=>zCC x p B w' ((hb.cell (p:=⟨B,0,vD⟩) lB).trans hc))
 clear hl h1 h2 ta hc lB;obtain ⟨ans,ha⟩:=zEX (!(l.all fun x=>decide (x<p)))
 rw [<- ha];have HA:=zH ha;clear ha;go_enter func278,ntmps278
 go_wp2_with fail
 go_loopw [5,8] (fun _ y wr=>∃ i:Nat,i <= l.length /\ y=vd vq i /\ Hid ((l.take i).all (fun x=>decide (x<p))=true) /\ vA w.1.size w wr) (fun _ y _=>l.length-(intOf y).toNat)
 case atStart=>exact ⟨0,Mb _,rfl,rfl,Ca _ _⟩
 case round =>
  obtain ⟨i,hi,rfl,HT,Db⟩:=hrel;by_cases ta:i<l.length
  ·have g1:(0:Int)<=i:=by omega
   have g2:(i:Int)<l.length:=by omega
   obtain ⟨b,q,rfl,Gb,hc⟩:=Fg (Ra.below Db) ta;by_cases hx:p <= l.getD i 0
   ·have HF:=zH (show ans=true by rw [HA.out,PX ta hx];rfl)
    have HC:=zH (by have:=HX.out (l.getD i 0) wr Db;rw [tb hx] at this;exact this)
    generalize l.getD i 0=z at *;clear hx HT;go_wp2_with fail
    refine HC.out.mono ?_;rintro e w1 ⟨rfl,Ia⟩;go_wp2;go_ret
    exact ⟨_,rfl,by rw [HF.out];exact tb g1,pa Db Ia⟩
   ·have iB:=zH (QX HT.out ta hx)
    have HC:=zH (by have:=HX.out (l.getD i 0) wr Db;rw [db hx] at this;exact this)
    generalize l.getD i 0=z at *;clear hx HT;go_wp2_with fail
    refine HC.out.mono ?_;rintro e w1 ⟨rfl,Ia⟩;replace Db:=pa Db Ia;clear hc Ia Gb;go_wp2
    go_roundw
    case rel=>exact ⟨i+1,by omega,by go_num,iB.out,Db⟩
    case measure=>simp [intOf];omega
  ·obtain rfl:i=l.length:=by omega
   have HF:=zH (show ans=false by rw [HA.out];have:=HT.out;rw [Zr] at this;rw [this];rfl)
   go_wp2;go_ret
   exact ⟨_,rfl,by rw [HF.out];rfl,Db⟩
theorem zB2 (A:Option vy) (n c p B:Nat) (l:List Nat) (w:vw) (hl:RWd w [ve A n c] l) (hc:w.cell? ⟨B,0,vD⟩=vE (vd vn p)) :
  vB prog 212 #[ve A n c, .func (.func 213) #[] #[.pointer (vE ⟨B,0,vD⟩)]] w fun e w'=>e=vl (.bool (!(l.all fun x=>decide (x<p)))) /\ vA w.1.size w w':=by
 have HI:=zH (zDA A n c p B l w hl hc);clear hl hc;generalize (!(l.all fun x=>decide (x<p)))=ans at *
 go_enter func212,ntmps212
 go_wp2_with fail
 refine HI.out.mono ?_;rintro e w1 ⟨r,rfl,hr,Ia⟩;go_wp2;go_ret
 exact ⟨by first | rfl | (simp [hr]),Ia⟩
theorem QL (A:Option vy) (n c m p:Nat) (l:List Nat) (w:vw) (hl:RWd w [ve A n c] l) :
  vB prog 120 #[ve A n c,vd vq m,vd vn p] w fun e w'=>e=vl (.bool (tj l m p)) /\ vA w.1.size w w':=by
 have Ik:vA w.1.size w (w.alloc (.cells #[vd vn p] 22)):=(Ca _ _).alloc zR _;have kb:=Blk.new w 22 #[vd vn p];have HC:=zH (zB2 A n c p w.1.size l (w.alloc (.cells #[vd vn p] 22)) (Bb Ik hl) (by rw [kb.cell];rfl))
 obtain ⟨rfl,h1,h2,ta,Ra⟩:=Nb hl;clear hl h1 h2 ta Ra kb;have HE:=zH (show tj l m p=(decide (l.length=m)&&l.all fun x=>decide (x<p)) from rfl)
 by_cases hm:l.length=m
 ·have HF:=zH (show tj l m p=l.all fun x=>decide (x<p) by rw [HE.out,tb hm];rfl)
  have t1:((l.length:Int)==m)=true:=by rw [qi];omega
  rw [HF.out];clear hm HF HE;generalize l.length=n at *;generalize (l.all fun x=>decide (x<p))=v at *
  go_enter func120,ntmps120
  go_wp2_with fail
  refine HC.out.mono ?_;rintro e w1 ⟨rfl,Ia⟩;go_wp2;go_ret
  exact ⟨by cases v <;> rfl,pa Ik Ia⟩
 ·have HF:=zH (show tj l m p=false by rw [HE.out,db hm];rfl)
  have t1:((l.length:Int)==m)=false:=by rw [Gd];omega
  rw [HF.out];clear hm HF HE HC;generalize l.length=n at *;go_enter func120,ntmps120
  go_wp2_with fail
  go_ret
  exact ⟨rfl,Ik⟩
theorem WR.bytes {w:vw} {g:Nat} {bd:Nat × Nat} {l:List Nat} {f:Bool} (h:WR w g bd l f):∀ x∈l,x<256:=by
 obtain ⟨A,n,c,p,L,hb,hr,hA,hp,hn,rfl,hL⟩:=h;exact fun x hx=>hL x (List.mem_of_mem_drop hx)
theorem WR.lt {w:vw} {g:Nat} {bd:Nat × Nat} {l:List Nat} {f:Bool} (h:WR w g bd l f):g<w.1.size:=by
 obtain ⟨A,n,c,p,L,hb,_⟩:=h;exact hb.lt
theorem WR.drew {w:vw} {g:Nat} {bd:Nat × Nat} {l:List Nat} {f:Bool} (h:WR w g bd l f):WR w.drew g bd l f:=h
theorem WR.drewN {w:vw} {g:Nat} {bd:Nat × Nat} {l:List Nat} {f:Bool} (h:WR w g bd l f) (k:Nat):WR (w.drewN k) g bd l f:=h
theorem WR.grown {w w':vw} {g:Nat} {bd:Nat × Nat} {l:List Nat} {f:Bool} {row:Option Nat} (h:WR w g bd l f) (hg:w.grownBy w' row) (hr:∀ k,row=vE k -> k≠g /\ (bd.2 <= k \/ k<bd.1)):WR w' g bd l f:=by
 obtain ⟨A,n,c,p,L,hb,dt,hA,hp,hn,rfl,hL⟩:=h;refine ⟨A,n,c,p,L,hb.grown hg fun e=>(hr g e.symm).1 rfl,dt.grown hg fun ad e1 e2=>?_,hA,hp,hn,rfl,hL⟩
 have h1:=(hr _ e2.symm).2;have h2:=hA.1 ad e1;omega
theorem WR.below {w w':vw} {g B:Nat} {bd:Nat × Nat} {l:List Nat} {f:Bool} (h:WR w g bd l f) (hb:vA B w w') (hB:w.1.size <= B):WR w' g bd l f :=
 h.grown (row:=vD) ⟨hb.os,hb.tape,hb.output,hb.size,fun k hk _=>hb.block k (by omega)⟩ fun k hk=>by cases hk
theorem WR.fail {w:vw} {g:Nat} {bd:Nat × Nat} {l:List Nat} {f:Bool} (h:WR w g bd l f):WR (w.setCell ⟨g,2,vD⟩ (.bool true)) g bd l true:=by
 obtain ⟨A,n,c,p,L,hb,hr,hA,hp,hn,rfl,hL⟩:=h;exact ⟨A,n,c,p,L,by simpa using hb.set_ 2 (.bool true),hr.set_ (p:=⟨g,2,vD⟩) (fun ad e=>by have:=hA.1 ad e;have:=hA.2;show ad.block≠g;omega) _,hA,hp,hn,rfl,hL⟩
theorem WR.cell2 {w:vw} {g:Nat} {bd:Nat × Nat} {l:List Nat} {f:Bool} (h:WR w g bd l f):w.cell? ⟨g,2,vD⟩=vE (.bool f):=by
 obtain ⟨A,n,c,p,L,hb,_⟩:=h
 simpa using hb.cell 2
theorem WR.free {w:vw} {g:Nat} {bd:Nat × Nat} {l:List Nat} {f:Bool} (h:WR w g bd l f) (i:Nat):w.frozen? ⟨g,i,vD⟩=false:=by
 obtain ⟨A,n,c,p,L,hb,_⟩:=h;exact hb.frozen i
def Oh (ud:Nat) (l:List Nat) (f:Bool):Nat × List Nat × Bool :=
 if (rk 8 l f).2.1=false \/ ud<(rk 8 l f).1 then (0,(rk 8 l f).2.2.1,true) else ((rk 8 l f).1,(rk 8 l f).2.2)
theorem r8 {k:Nat} {l:List Nat} {f:Bool} (hl:∀ x∈l,x<256):(rk k l f).1<256^k:=by
 unfold rk;split
 ·exact Nat.pow_pos (by omega)
 ·exact Kc (QW _ fun x hx=>hl x (List.mem_of_mem_take hx)) (Io (by omega) (by rw [Ru];omega))
theorem p8 (g:Nat) (bd:Nat × Nat) (ud:Nat) (l:List Nat) (f:Bool) (w:vw) (h:WR w g bd l f) :
  vB prog 193 #[.pointer (vE ⟨g,0,vD⟩),vd vn ud] w fun e w'=>e=vl (vd vn (Oh ud l f).1) /\ WR w' g bd (Oh ud l f).2.1 (Oh ud l f).2.2 /\ w.grownBy w' (vE g):=by
 have hv:(rk 8 l f).1<18446744073709551616:=r8 h.bytes;have HD:=zH (zCj g bd 8 l f w h (by omega))
 obtain ⟨⟨v,ok,l',f'⟩,hD⟩:∃ x,x=rk 8 l f:=⟨_,rfl⟩;rw [<- hD] at HD hv;have HU:Hid (Oh ud l f=if ok=false \/ ud<v then (0,l',true) else (v,l',f')):=by simp only [Hid,Oh,<- hD]
 clear hD h;simp only at hv;cases ok with
 | false =>
  have HE:Hid (Oh ud l f=(0,l',true)):=by simp only [Hid,HU.out];simp
  rw [HE.out];go_enter func193,ntmps193
  go_wp2_with fail
  refine HD.out.mono ?_;rintro e w1 ⟨rfl,sh,jg⟩;have c2:=sh.cell2;have fr:=sh.free 2;go_wp2;go_ret
  exact ⟨rfl,sh.fail,Wg (p:=⟨g,2,vD⟩) jg (.inl rfl) _⟩
 | true =>
  by_cases hm:ud<v
  ·have HE:Hid (Oh ud l f=(0,l',true)):=by simp only [Hid,HU.out];rw [Na (.inr hm)]
   rw [HE.out];go_enter func193,ntmps193
   go_wp2_with fail
   refine HD.out.mono ?_;rintro e w1 ⟨rfl,sh,jg⟩;have c2:=sh.cell2;have fr:=sh.free 2;go_wp2;go_ret
   exact ⟨rfl,sh.fail,Wg (p:=⟨g,2,vD⟩) jg (.inl rfl) _⟩
  ·have HE:Hid (Oh ud l f=(v,l',f')):=by simp only [Hid,HU.out];rw [ya (by simp;omega)]
   rw [HE.out];go_enter func193,ntmps193
   go_wp2_with fail
   refine HD.out.mono ?_;rintro e w1 ⟨rfl,sh,jg⟩;go_wp2;go_ret
   exact ⟨rfl,sh,jg⟩
theorem zCo (g:Nat) (bd:Nat × Nat) (l:List Nat) (f:Bool) (w:vw) (h:WR w g bd l f) :
  vB prog 194 #[.pointer (vE ⟨g,0,vD⟩)] w fun e w'=>e=vl (.bool (!f&&l.isEmpty)) /\ ∃ k,w'=w.drewN k:=by
 obtain ⟨A,n,c,p,L,hb,hr,hA,⟨hp,_⟩,hn,rfl,hL⟩:=h;have h0:=hb.cell 0;have h1:=hb.cell 1;have h2:=hb.cell 2;simp at h0 h1 h2
 have hlen:=hr.len1;rw [TI] at hlen;have HB:Hid ((L.drop p).isEmpty=decide (p=n)):=by
  show _=_
  rw [Bool.eq_iff_iff,List.isEmpty_iff,List.drop_eq_nil_iff];simp
  omega
 clear hlen hb hr hA hL;cases f with
 | true =>
  go_enter func194,ntmps194
  go_wp2_with fail
  go_quiet (fail)
  go_wp2;go_ret
  exact ⟨by simp,_,rfl⟩
 | false =>
  rw [HB.out];by_cases e:p=n
  ·subst e
   go_enter func194,ntmps194
   go_wp2_with fail
   go_quiet (fail)
   go_wp2;go_ret
   exact ⟨by simp,_,rfl⟩
  ·have hq:((p:Int)==n)=false:=by simp;omega
   have HQ:=zH e;clear e;go_enter func194,ntmps194
   go_wp2_with fail
   go_quiet (fail)
   go_wp2;go_ret
   exact ⟨by simp [HQ.out],_,rfl⟩
theorem zEL (A:Option vy) (n c:Nat) (l:List Nat) (w:vw) (hr:Rd w 1 A n (U8 l)) (hn:n <= 10000000) (hl:∀ x∈l,x<256) :
  vB prog 192 #[ve A n c] w fun e w'=>∃ g bd,e=vl (.pointer (vE ⟨g,0,vD⟩)) /\ WR w' g bd l false /\ w.1.size <= g /\ w.1.size <= bd.1 /\ g+1=w'.1.size /\ vA w.1.size w w':=by
 go_enter func192,ntmps192
 go_wp2_with (go_at_call 201;refine (WV A n c 0 (U8 l) w hr (one_U8 _) (by omega)).mono ?_;rintro e w1 ⟨v,rfl,hv,hb⟩;obtain ⟨A1,c1,rfl,td,_,Zg,hA1⟩:=de hv)
 go_ret
 refine ⟨w1.1.size,(w.1.size,w1.1.size),rfl,⟨A1,n,c1,0,l,Blk.new _ _ _,Zg.alloc _,⟨fun ad e=>hA1 ad e,zR⟩,⟨Mb _,td⟩,hn,by simp,hl⟩,hb.size,zR,by simp,hb.alloc hb.size _⟩
def xe:Nat -> List Nat -> List Nat
 | 0,_=>[]
 | n+1,l=>Qh (l.take 8) :: xe n (l.drop 8)
theorem FD:∀ (n:Nat) (l:List Nat),(xe n l).length=n
 | 0,_=>rfl
 | n+1,l=>by rw [xe,xg,FD n]
theorem wJ:∀ (n:Nat) (l:List Nat) (i:Nat),i<n -> (xe n l)[i]?=vE (Qh ((l.drop (8*i)).take 8))
 | 0,_,_,h=>absurd h (by omega)
 | n+1,l,0,_=>by simp [xe]
 | n+1,l,i+1,h=>by
  rw [xe,List.getElem?_cons_succ,wJ n _ i (by omega),fl,show 8+8*i=8*(i+1) by omega]
theorem zAN (n:Nat) (l:List Nat):xe (n+1) l=xe n l++[Qh ((l.drop (8*n)).take 8)]:=by
 apply List.ext_getElem?
 intro i;rcases Nat.lt_trichotomy i n with h | h | h
 ·rw [pB (by rw [FD];exact h),wJ _ _ _ (by omega),wJ _ _ _ h]
 ·subst h
  rw [Yt (by rw [FD];exact zR),FD,wJ _ _ _ (by omega)]
  simp
 ·rw [Co (by rw [FD];omega),Co (by rw [Ni,FD];simp;omega)]
theorem zIl (n:Nat) (l:List Nat) (s k:Nat) (h:s+k <= n):((xe n l).drop s).take k=xe k (l.drop (8*s)):=by
 apply List.ext_getElem?
 intro i;by_cases hi:i<k
 ·rw [List.getElem?_take_of_lt hi,List.getElem?_drop,wJ _ _ _ (by omega),wJ _ _ _ hi,fl,show 8*s+8*i=8*(s+i) by omega]
 ·rw [Co (by rw [Ru,Im,FD];omega),Co (by rw [FD];omega)]
def zh (ud:Nat):Nat -> List Nat -> Bool -> List Nat × List Nat × Bool
 | 0,l,f=>([],l,f)
 | k+1,l,f=>((zh ud k l f).1++[(Oh ud (zh ud k l f).2.1 (zh ud k l f).2.2).1],(Oh ud (zh ud k l f).2.1 (zh ud k l f).2.2).2)
theorem z8 (ud:Nat) (l:List Nat):(Oh ud l true).2.2=true:=by simp [Oh,rk]
theorem LV (ud:Nat) (l:List Nat) (h8:8 <= l.length) (hm:Qh (l.take 8) <= ud):Oh ud l false=(Qh (l.take 8),l.drop 8,false):=by
 have h:¬l.length<8:=by omega
 have h2:¬ud<Qh (l.take 8):=by omega
 simp [Oh,rk,h,h2]
theorem A8 (ud:Nat) (l:List Nat) (h8:8 <= l.length) (hm:¬Qh (l.take 8) <= ud):(Oh ud l false).2.2=true:=by
 have h:¬l.length<8:=by omega
 have h2:ud<Qh (l.take 8):=by omega
 simp [Oh,rk,h,h2]
theorem KV (ud:Nat):∀ (k:Nat) (l:List Nat),(zh ud k l true).2.2=true
 | 0,_=>rfl
 | k+1,l=>by
  rw [zh];simp only;rw [KV ud k l];exact z8 _ _
theorem CQ (ud:Nat):∀ (k:Nat) (l:List Nat),8*k <= l.length -> (∀ x∈xe k l,x <= ud) -> zh ud k l false=(xe k l,l.drop (8*k),false)
 | 0,l,_,_=>by simp [zh,xe]
 | k+1,l,hl,h=>by
  rw [zAN] at h |-;have ih:=CQ ud k l (by omega) fun x hx=>h x (by simp [hx])
  rw [zh,ih];simp only;rw [LV ud (l.drop (8*k)) (by rw [Im];omega) (h _ (by simp)),fl,show 8*k+8=8*(k+1) by omega]
theorem s8 (ud:Nat):∀ (k:Nat) (l:List Nat),8*k <= l.length -> (¬ ∀ x∈xe k l,x <= ud) -> (zh ud k l false).2.2=true
 | 0,l,_,h=>absurd (fun x hx=>by simp [xe] at hx) h
 | k+1,l,hl,h=>by
  by_cases hk:∀ x∈xe k l,x <= ud
  ·rw [zh,CQ ud k l (by omega) hk]
   refine A8 _ _ (by rw [Im];omega) fun hv=>h fun x hx=>?_
   rw [zAN] at hx;rcases Np.1 hx with hx | hx
   ·exact hk x hx
   ·rw [Fo] at hx
    rw [hx];exact hv
  ·rw [zh]
   simp only;rw [s8 ud k l (by omega) hk]
   exact z8 _ _
def Uk (ps:Nat -> Nat × Nat) (l:List Nat) (f:Bool):Nat -> List Nat × Bool
 | 0=>(l,f)
 | i+1=>(zh ((ps i).2-1) (ps i).1 (Uk ps l f i).1 (Uk ps l f i).2).2
def xt (ps:Nat -> Nat × Nat) (l:List Nat) (f:Bool) (i:Nat):List Nat:=(zh ((ps i).2-1) (ps i).1 (Uk ps l f i).1 (Uk ps l f i).2).1
def Pe (ps:Nat -> Nat × Nat):Nat -> Nat
 | 0=>0
 | i+1=>Pe ps i+(ps i).1
theorem BW (ps:Nat -> Nat × Nat) (m:Nat):∀ i,i <= m -> Pe ps i <= Pe ps m:=by
 induction m with
 | zero =>
  intro i h;have:i=0:=by omega
  subst this;exact zR
 | succ m ih =>
  intro i h;rcases Sg i (m+1) with h1 | h1
  ·have:=ih i (by omega);rw [Pe];omega
  ·have:i=m+1:=by omega
   subst this;exact zR
theorem T9 (ps:Nat -> Nat × Nat) (l:List Nat):∀ i,(Uk ps l true i).2=true
 | 0=>rfl
 | i+1=>by
  rw [Uk,T9 ps l i];exact KV _ _ _
theorem RQ (ps:Nat -> Nat × Nat) (l:List Nat) (hp:∀ i,0<(ps i).2):∀ m,8*Pe ps m <= l.length -> (∀ i<m,∀ x∈xe (ps i).1 (l.drop (8*Pe ps i)),x<(ps i).2) -> Uk ps l false m=(l.drop (8*Pe ps m),false)
 | 0,_,_=>by simp [Uk,Pe]
 | m+1,hl,h=>by
  rw [Pe] at hl;have ih:=RQ ps l hp m (by omega) fun i hi=>h i (by omega)
  rw [Uk,ih,CQ _ _ _ (by rw [Im];omega) (fun x hx=>by have:=h m (by omega) x hx;have:=hp m;omega),fl,Pe,Nat.mul_add]
theorem zEf (ps:Nat -> Nat × Nat) (l:List Nat) (hp:∀ i,0<(ps i).2) (m i:Nat) (hi:i<m) (hl:8*Pe ps m <= l.length) (h:∀ i<m,∀ x∈xe (ps i).1 (l.drop (8*Pe ps i)),x<(ps i).2) :
  xt ps l false i=xe (ps i).1 (l.drop (8*Pe ps i)):=by
 have h1:=BW ps m i (by omega)
 have h2:=BW ps m (i+1) (by omega)
 rw [Pe] at h2;rw [xt,RQ ps l hp i (by omega) fun k hk=>h k (by omega),CQ _ _ _ (by rw [Im];omega) (fun x hx=>by have:=h i hi x hx;have:=hp i;omega)]
theorem U9 (ps:Nat -> Nat × Nat) (l:List Nat) (hp:∀ i,0<(ps i).2):∀ m,8*Pe ps m <= l.length -> (¬ ∀ i<m,∀ x∈xe (ps i).1 (l.drop (8*Pe ps i)),x<(ps i).2) -> (Uk ps l false m).2=true
 | 0,_,h=>absurd (fun i hi=>absurd hi (by omega)) h
 | m+1,hl,h=>by
  rw [Pe] at hl;by_cases hk:∀ i<m,∀ x∈xe (ps i).1 (l.drop (8*Pe ps i)),x<(ps i).2
  ·rw [Uk,RQ ps l hp m (by omega) hk]
   refine s8 _ _ _ (by rw [Im];omega) fun hv=>h fun i hi x hx=>?_
   rcases Sg i m with h1 | h1
   ·exact hk i h1 x hx
   ·have:i=m:=by omega
    subst this;have:=hv x hx;have:=hp i;omega
  ·rw [Uk,U9 ps l hp m (by omega) hk]
   exact KV _ _ _
theorem zDR {P:Program} {f:FuncId} {fn:Func} {s:ChangeSpec} {c:OpenClaim}
  (k1:(c.wf (OpenSpec.ofChange s))=true)
  (k2:(laidOutB P)=true)
  (k3:(mapsRowed P)=true)
  (k4:(fn.params.all (P.readableRec ·))=true)
  (k5:(namedTie P c.named s.vars)=true)
  (k6:((c.stops == []))=true)
  (k7:((P.stops == []))=true)
  (k8:((c.knobs == []))=true)
  (k9:((P.stopKnobs == []))=true)
  (k10:((c.inPlace == P.inPlace f))=true)
  (k11:((c.unfollowed == P.unfollowed f))=true)
  (k12:((c.recurses == P.recurses f))=true)
  (xy:((c.named == P.varsNamed f))=true)
  (k14:((c.maps == (fn.params.toList++s.plain.varTypes P).any (P.mapsRec ·)))=true)
  (Ym:((c.ifaces == (fn.params.toList++s.plain.varTypes P).any (P.ifacesRec ·)))=true)
  (k16:((c.mapsOut == P.mapsAmong fn.resultTypes.toList))=true)
  (k17:((c.loops == (fn.params.toList++s.plain.varTypes P).any (P.loopsFrom ·)))=true)
  (k18:((c.wideKeys == (fn.params.toList++s.plain.varTypes P++fn.resultTypes.toList).any (P.wideKeysFrom ·)))=true)
  (k19:(s.vars.all (P.varReadable ·))=true)
  (k20:(fn.resultTypes.all (fun t=>P.readableRec t&&decide (t<P.types.size)))=true)
  (Zm:((c.ifacesOut == fn.resultTypes.toList.any (P.ifacesRec ·)))=true)
  (k22:((c.loopsOut == fn.resultTypes.toList.any (P.loopsFrom ·)))=true)
  (k23:((c.plainKeys == P.plainKeys))=true)
  (k24:(c.shortTexts.isNone)=true)
  (k25:(P.stopsHeard)=true)
  (bn:(P.mayEnter)=true)
  (k27:((c.lifted == P.liftsFinal))=true)
  (fp:((P.make == vE c.make))=true)
  (k29:((c.kinds == (if c.domain.isEmpty then [] else fn.params.toList.map fun t=>match P.underlying t with | some (.int k)=>vE k | _=>vD)))=true)
  (k30:((c.pinned == c.pinnedBy))=true)
  (k31:((c.veiled == (fn.params.toList++s.plain.varTypes P++fn.resultTypes.toList).any (P.veiledRec ·)))=true)
  (k32:(c.veiledFits P fn.params.toList (fn.params.toList++s.plain.varTypes P++fn.resultTypes.toList))=true)
  : joinedFacts P f fn s c=true:=by
 unfold joinedFacts;simp only [mc];exact ⟨⟨⟨⟨⟨⟨⟨⟨⟨⟨⟨⟨⟨⟨⟨⟨⟨⟨⟨⟨⟨⟨⟨⟨⟨⟨⟨⟨⟨⟨⟨k1,k2⟩,k3⟩,k4⟩,k5⟩,k6⟩,k7⟩,k8⟩,k9⟩,k10⟩,k11⟩,k12⟩,xy⟩,k14⟩,Ym⟩,k16⟩,k17⟩,k18⟩,k19⟩,k20⟩,Zm⟩,k22⟩,k23⟩,k24⟩,k25⟩,bn⟩,k27⟩,fp⟩,k29⟩,k30⟩,k31⟩,k32⟩
end Go.Proofs.YteoghgbnielkpaaGreat
