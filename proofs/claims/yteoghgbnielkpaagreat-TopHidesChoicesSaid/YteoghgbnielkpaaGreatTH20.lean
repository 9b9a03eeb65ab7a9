/- A part of the proof. No condition. -/
import Derived.Test.YteoghgbnielkpaaGreatTH18
import Derived.Test.YteoghgbnielkpaaGreatTH19

set_option maxRecDepth 100000
set_option maxHeartbeats 8000000
set_option linter.unusedVariables false
set_option linter.unusedSimpArgs false
namespace Go.Proofs.YteoghgbnielkpaaGreat
open Go.RowKit Go.Maps
open Tryz
open Go renaming World->vw, Value->vx, Addr->vy, TypeId->vz, Calls->vB
open Go.Value renaming int->vd, slice->ve, agg->vf
open Go.IntKind renaming u64->vn, i64->vq
open Go.Ending renaming returned->vl
open Go.RowKit renaming Below->vA
open Go.World renaming setCell->vF
open Go.Act renaming put->vG
open Option renaming none->vD, some->vE
theorem R5 (real:Bool) (seed:Nat) (h:seed<18446744073709551616):oB (ar real seed) 0:=by
 cases real
 ·exact ⟨fun _ q hq=>by simp [ar] at hq,fun q hq=>by simp [ar] at hq,by simp [ar,Lc],by simpa [ar] using h⟩
 ·exact ⟨fun _ q hq=>by simp [ar] at hq,fun q hq=>by simp [ar] at hq,by simp [ar,Lc],by simp [ar]⟩
theorem zGb {O:Ga} {k:Nat} (h:oB O k) (L:Ra) (dg:Nat) (pub:List Nat):GQ (qe O L dg pub) (k+1) 0 :=
 zGa (s:=⟨O,20,0⟩) (c:=0) ⟨h,by show (20:Nat)<18446744073709551616;omega,zR⟩ 1 _
theorem yU {l:List Nat} {n:Int} {p:Nat} (h:Vn l n p=true):(l.length:Int)=n:=by
 unfold Vn at h;simp only [Cc,Hh] at h;exact h.2
theorem zEu {L:Ra} {j:Nat} {P:ProofR} (h:Rn L j P=true):P.code.length=L.k /\ P.linear.length=L.k+L.block-1 /\ P.quad.length=2*L.k-1:=by
 unfold Rn at h;simp only [Cc] at h;have h1:=yU h.2.1;have h2:=yU h.2.2.1;have h3:=yU h.2.2.2.1;omega
theorem zEx {L:Ra} {j:Nat} {P:ProofR} (hL:Rb L) (h:Rn L j P=true):(P.code++P.linear++P.quad).length <= 100000:=by
 obtain ⟨h1,h2,h3⟩:=zEu h;have a:=hL.k;have b:=hL.b2;have c:=hL.q2;simp only [Kf];omega
theorem BT (s:Tr) (all:List Nat) (n q:Nat) (h:q <= n):(Zk s all n q).length=q:=eZ _ _ _ _ _ h
theorem R4 {f g:Nat -> Nat} (n:Nat):∀ k,(∀ i,i<k -> f i=g i) -> uj f n k=uj g n k
 | 0,_=>rfl
 | k+1,h=>by
  rw [uj,uj,R4 n k fun i hi=>h i (by omega),h k (by omega)]
theorem WU {O:Ga} {s j:Nat}:∀ q,j <= q -> Ud (Pb O 19 (Yi s 0 j)) (Pb O 19 (Yi s 0 q))
 | 0,h=>by
  obtain rfl:j=0:=by omega
  exact fun _ _ _ h=>h
 | q+1,h=>by
  by_cases e:j=q+1
  ·subst e
   exact fun _ _ _ h=>h
  ·rw [iR O s 0 q]
   exact Qg (WU q (by omega)) (BA _ _ _)
theorem zFe {O Z:Ga} {s q i:Nat} (h:Ud (Pb O 19 (Yi s 0 q)) Z) (hi:i<q):rk Z s 0 i=rk O s 0 i:=by
 unfold rk;rw [zU (Yi s 0 i) (Qg (WU q (by omega)) h)]
 exact (FI (O:=Pb O 19 (Yi s 0 i)) (by rw [<- iR];exact Qg (WU q (by omega)) h)).1
theorem zFf {O Z:Ga} {s n q:Nat} (h:Ud (Pb O 19 (Yi s 0 q)) Z):xr Z s 0 n q=xr O s 0 n q:=by
 unfold xr;rw [R4 n q fun i hi=>zFe h hi]
theorem zFi {O Z:Ga} {st ct n q:Nat} {all:List Nat} (h:Ud (Cj ⟨O,st,ct⟩ all q) Z):Zk ⟨Z,st,ct⟩ all n q=Zk ⟨O,st,ct⟩ all n q:=by
 have ha:Ud (Yg ⟨O,st,ct⟩ 3 all).O Z:=Qg (jK _ _ _) h;unfold Zk;rw [mM ha];exact zFf h
theorem zFd {Z:Ga} {s:Tr} {all:List Nat} {n q:Nat} (hc:s.ct=3) (h:Ud (Cj s all q) Z):Zk ⟨Z,s.st,3⟩ all n q=Zk s all n q:=by
 cases s
 simp only at hc;subst hc;exact zFi h
theorem zFg {O Z:Ga} {st root p:Nat} (h:Ud (te ⟨O,st,0⟩ root).O Z):Si ⟨Z,st,0⟩ p root=Si ⟨O,st,0⟩ p root:=by
 obtain ⟨a,ha⟩:=zEX (Yg ⟨O,st,0⟩ 2 [root]);have hc:a.ct=0:=by rw [ha];rfl
 have e:te ⟨O,st,0⟩ root=Ic (Ic (Ic a)):=by rw [ha];rfl
 rw [e] at h;have h2:Ud (Ic (Ic a)).O Z:=Qg (BA _ _ _) h;have h1:Ud (Ic a).O Z:=Qg (BA _ _ _) h2;have h0:Ud a.O Z:=Qg (BA _ _ _) h1;have ez:Yg ⟨Z,st,0⟩ 2 [root]=⟨Z,a.st,0⟩:=by rw [mM (by rw [<- ha];exact h0),<- ha]
 have r1:Ic ⟨Z,a.st,0⟩=⟨Z,a.st,1⟩:=oM (O:=a.O) (by rw [<- hc];exact h1)
 have e1:(⟨(Ic a).O,a.st,1⟩:Tr)=Ic a:=by simp [Ic,hc]
 have r2:Ic ⟨Z,a.st,1⟩=⟨Z,a.st,2⟩:=oM (O:=(Ic a).O) (by rw [e1];exact h2)
 have e2:(⟨(Ic (Ic a)).O,a.st,2⟩:Tr)=Ic (Ic a):=by simp [Ic,hc]
 have v0:Ep ⟨Z,a.st,0⟩=Ep a:=by
  have:=(FI (O:=a.O) (lab:=19) (el:=[a.st,a.ct]) h1).1;unfold Ep;rw [hc] at this |-;exact this
 have v1:Ep ⟨Z,a.st,1⟩=Ep (Ic a):=by
  have:=(FI (O:=(Ic a).O) (lab:=19) (el:=[(Ic a).st,(Ic a).ct]) h2).1;unfold Ep;simp only [Ic,hc] at this |-;exact this
 have v2:Ep ⟨Z,a.st,2⟩=Ep (Ic (Ic a)):=by
  have:=(FI (O:=(Ic (Ic a)).O) (lab:=19) (el:=[(Ic (Ic a)).st,(Ic (Ic a)).ct]) h).1;unfold Ep;simp only [Ic,hc] at this |-;exact this
 unfold Si;rw [ez,r1,r2,v0,v1,v2,<- ha]
theorem tR {l:List Nat} (h:∀ x∈l,x<Za):Rc l=true:=Xd.2 fun x hx=>yb (h x hx)
theorem fJ {l:List Nat} (h:Rc l=true):∀ x∈l,x<Za:=fun x hx=>of_decide_eq_true (Xd.1 h x hx)
theorem zDt {O T:Ga} {d:Nat} {ls:List (List Nat)} {sa:List Nat} (hd:d <= 10) (hn:ls.length=2^d) (hsl:sa.length=ls.length) (Hm:Rc sa=true) (hle:∀ l∈ls,Rc l=true) (hO:Wl O)
  (hT:Ud (iq d (Pb O 16 (me ls sa)) (Tc O 16 (me ls sa))) T) {i:Nat} (hi:i<ls.length) :
  FA T (Vo (ff d (Pb O 16 (me ls sa)) (Tc O 16 (me ls sa)))) ls.length i (sa.getD i 0) (ls.getD i []) (lh (ff d (Pb O 16 (me ls sa)) (Tc O 16 (me ls sa))) i)=true /\
   Bw T (Vo (ff d (Pb O 16 (me ls sa)) (Tc O 16 (me ls sa)))) ls.length i (sa.getD i 0) (ls.getD i []) (lh (ff d (Pb O 16 (me ls sa)) (Tc O 16 (me ls sa))) i)=T:=by
 have hql:(me ls sa).length=ls.length:=MC _ _;have hqe:∀ q∈me ls sa,Rc q=true:=fun q hq=>by
  simp only [me,ld,Uh] at hq;obtain ⟨k,hk,rfl⟩:=hq;exact tR fun x hx=>by
   rcases Xg.1 hx with e | e
   ·rw [e];exact lH (fJ Hm) k
   ·exact fJ (hle _ (Js [] hk)) x e
 have ha:=BW O 16 (me ls sa) hqe i (by omega)
 rw [YY ls sa i hi] at ha;have hv:=cJ hO 16 (me ls sa);have yk:(Tc O 16 (me ls sa)).length=2^d:=by rw [Xv,hql,hn]
 have hOa:=bJ hO 16 (me ls sa);generalize Tc O 16 (me ls sa)=L at *;generalize Pb O 16 (me ls sa)=O1 at *;have hA:=hT _ _ _ (XQ d L ha);obtain ⟨w1,w2⟩:=z8 (T:=T) d O1 L 16 (sa.getD i 0 :: ls.getD i []) i yk hv hT hOa (by omega) hA
 have ht:=Q7 O1 hd yk;have hta:=iV d O1 L hOa hv;have hp:qA (Vo (ff d O1 L)) ls.length i (sa.getD i 0) (ls.getD i []) (lh (ff d O1 L) i)=true:=by
  unfold qA;rw [show fw ls.length=true by rw [hn];exact WT hd,yb hi,yb (show 2^(lh (ff d O1 L) i).length=ls.length by rw [YJ,fk,nm,ht.len,hn];rfl),
   yb (show Vo (ff d O1 L)<Za by rw [W5 ht];exact IU hta d 0),yb (lH (fJ Hm) i),hle _ (Js [] hi),tR (kU hta i)]
  rfl
 unfold FA Bw;rw [hp,w1,w2];exact ⟨by simp,rfl⟩
theorem kM {l:List Nat} {n p:Nat} (hl:l.length=n) (h:∀ y∈l,y<p):Vn l (n:Int) p=true:=by
 unfold Vn;rw [Cc,Xd];exact ⟨fun y hy=>yb (h y hy),by rw [hl];simp⟩
theorem pZ {ls:List (List Nat)} {m n p:Nat} (hl:ls.length=m) (h:∀ l∈ls,l.length=n /\ ∀ y∈l,y<p):uF ls (m:Int) (n:Int) p=true:=by
 unfold uF;rw [Cc,Xd];exact ⟨fun l hx=>kM (h l hx).1 (h l hx).2,by rw [hl];simp⟩
section
section
variable {x:PvIn} (O:Ga)
theorem PvIn.pos_len (h:x.Good):(x.pos O).length=x.L.queries:=BT _ _ _ _ (by have:=h.L.nk;have:=h.L.k;omega)
theorem PvIn.pos_lt (h:x.Good):∀ y∈x.pos O,y<x.L.n:=V4 _ _ _ _ _ (by have:=h.L.nk;have:=h.L.k;omega)
theorem PvIn.cols_get {i:Nat} (hi:i<x.L.n):x.cols.getD i []=(List.range (x.m.length+3)).map (Hs x.L (yj x.L x.m x.crs x.l1 x.l2 x.l3) i):=by
 unfold PvIn.cols;rw [Jb,Yt,dz hi]
 rfl
theorem PvIn.cols_lt (h:x.Good):∀ l∈x.cols,∀ y∈l,y<x.L.p:=fun l hl y hy=>by
 obtain ⟨i,-,rfl⟩:=ld.1 hl;obtain ⟨j,-,rfl⟩:=ld.1 hy;exact DN (p:=x.L.p) (by have:=Nb h.L.p;omega) x.L.n x.L.n.log2 _ (Mb x.L.p).1 i
theorem PvIn.valid (h:x.Good) (ha:Wl (x.t1 O).O):Rn x.L x.dd (x.pr O)=true:=by
 have Nf:0<x.L.p:=by have:=Nb h.L.p;omega
 have jy:=x.tree_lt O ha;have hr:x.root O<Za:=Y5 jy;have hs:(x.tree O).length=x.dd+1:=(zM _ _ _ (by rw [Xv,MC,x.cols_len,h.n])).1
 have Pe:=pos_len O h;have Sz:=pos_lt O h;unfold Rn;rw [Cc,Cc,Cc,Cc,Cc,Cc];refine ⟨?_,kM (by simp [PvIn.pr,PvIn.code]) (x.code_lt Nf h.c1.2 _),kM (by simp [PvIn.pr,PvIn.lin]) (x.lin_lt Nf h.c2.2 _),kM (by simp [PvIn.pr,PvIn.quad]) (x.quad_lt Nf _),pZ (by simp [PvIn.pr,Pe]) fun l hl=>?_,kM (by simp [PvIn.pr,Pe]) fun y hy=>?_,pZ (by simp [PvIn.pr,Pe]) fun l hl=>?_⟩
 ·rw [il,qv]
  have:wm=Za:=rfl;show ¬wm <= x.root O
  omega
 ·obtain ⟨i,hi,rfl⟩:=ld.1 hl
  have hm:x.cols.getD i []∈x.cols:=Js [] (by rw [x.cols_len];exact Sz i hi)
  exact ⟨by rw [x.cols_row _ hm,h.ms.ml],cols_lt h _ hm⟩
 ·obtain ⟨i,hi,rfl⟩:=ld.1 hy
  exact lH (fJ h.c4.2) i
 ·obtain ⟨i,hi,rfl⟩:=ld.1 hl
  exact ⟨by rw [YJ,fk,nm,hs];rfl,kU jy i⟩
theorem PvIn.again_ch {Z:Ga} (hZ:Ud (x.oF O) Z):Si (qe Z x.L x.dg x.pu) x.L.p (x.root O)=x.ch O:=by
 rw [AU (O:=O) (Qg (x.sub1 O) (Qg (x.sub2 O) (Qg (x.sub3 O) hZ)))];exact zFg (O:=x.o2 O) (Qg (x.sub3 O) hZ)
theorem PvIn.again_t2 {Z:Ga} (hZ:Ud (x.oF O) Z):te (qe Z x.L x.dg x.pu) (x.root O)=⟨Z,(x.t2 O).st,3⟩:=by
 rw [AU (O:=O) (Qg (x.sub1 O) (Qg (x.sub2 O) (Qg (x.sub3 O) hZ)))];exact V5 (O:=x.o2 O) (Qg (x.sub3 O) hZ)
theorem PvIn.t2_ct:(x.t2 O).ct=3:=R6 _ _ _
theorem PvIn.again_pos {Z:Ga} (hZ:Ud (x.oF O) Z):Zk (te (qe Z x.L x.dg x.pu) (x.root O)) (x.all O) x.L.n x.L.queries=x.pos O:=by
 rw [again_t2 O hZ];exact zFd (t2_ct O) hZ
theorem PvIn.again_o {Z:Ga} (hZ:Ud (x.oF O) Z):Cj (te (qe Z x.L x.dg x.pu) (x.root O)) (x.all O) x.L.queries=Z:=by
 rw [again_t2 O hZ];exact U5 (t2_ct O) hZ
theorem PvIn.opens (h:x.Good) (ha:Wl (x.t1 O).O) {Z:Ga} (hZ:Ud (x.oF O) Z) {i:Nat} (hi:i<x.L.n) :
  FA Z (x.root O) x.L.n i (x.l4.getD i 0) (x.cols.getD i []) (lh (x.tree O) i)=true /\ Bw Z (x.root O) x.L.n i (x.l4.getD i 0) (x.cols.getD i []) (lh (x.tree O) i)=Z:=by
 have:=zDt (O:=(x.t1 O).O) (T:=Z) (ls:=x.cols) (sa:=x.l4) h.dd (by rw [x.cols_len,h.n]) (by rw [x.cols_len];exact h.c4.1) h.c4.2 (x.cols_els h.L.p) ha (Qg (x.sub2 O) (Qg (x.sub3 O) hZ)) (i:=i) (by rw [x.cols_len];exact hi)
 rw [x.cols_len] at this;exact this
theorem PvIn.fits (h:x.Good) (al rh be:Nat) {i:Nat} (hi:i<x.L.n):yB x.L (Xh x.L x.pub rh x.rows) al be (x.code al) (x.lin rh) (x.quad be) (i:Int) (x.cols.getD i [])=true:=by
 rw [cols_get hi,<- ref_code h,<- ref_lin h,<- ref_quad h];exact zAz h.L h.ms (fun _ hr=>mN _ hr) (coef_len h rh) h.c1 h.c2 h.c3.1 al be hi
theorem PvIn.tests (h:x.Good) (hm:∀ r∈x.m,∀ y∈r,y<x.L.p) (al rh be t:Nat):RF x.L t (x.code al) (x.lin rh) (x.quad be)=BF x.L t (Xh x.L x.pub rh x.rows) x.m be:=by
 rw [<- ref_code h,<- ref_lin h,<- ref_quad h];exact zF7 h.L h.ms hm (fun _ hr=>mN _ hr) (coef_len h rh) h.c1 h.c2 h.c3.1 al be t
end
end
theorem nN {L:Ra} {r:List (List Nat)} {co li qu sa:List Nat} (h:Gs L r co li qu sa=true):sa.length=L.n /\ Rc sa=true:=by
 unfold Gs Jh at h;simp only [Cc,Bo] at h;exact ⟨h.2.2.2.2.2.1,h.2.2.2.2.2.2⟩
theorem QO {p:Nat} {pub vars:Int} {rows:List Ya} {bl bw qs:Int} {L:Ra} (ht:Zc p pub vars rows=true) (hf:ak L ⟨p,pub,vars,rows.length,bl,bw,qs⟩):Wp p pub vars rows bl bw qs=0:=by
 unfold Wp;rw [Qa ht];exact hf.err
theorem D9 {K KB:Nat -> Prop} {w wb u:vw} (hb:vA w.1.size w wb) (a:Wi KB wb u) (hK:∀ b,K b -> b<w.1.size -> KB b):Wi K w u :=
 ⟨a.os.trans hb.os,a.tape.trans hb.tape,a.output.trans hb.output,jb hb.size a.size,fun b hk hl=>(a.block b (hK b hk hl) (Sd hl hb.size)).trans (hb.block b hl)⟩
theorem hd_rrx {B:Nat} {w:vw} {v:vx} {l:List (List Nat)} (h:RRx B w v l):Hd (fun b=>B <= b /\ b<w.1.size) w fun u=>mg u [v] l:=fun _ a=>h.2 _ fun b h1 h2=>a.block b ⟨h1,h2⟩ h2
theorem zDZ {w:vw} {g:Nat} {O:Ga} {F K:Nat -> Prop} (h:OrcAt w g O F) (x:PvIn) (vars:Int) (A B A0 A1 A2 A3 A4:Option vy) (n c m d n0 c0 n1 c1 n2 c2 n3 c3 n4 c4:Nat) (bl bw qs:Int)
  (hL:Rb x.L) (uf:ak x.L ⟨x.L.p,(x.pub:Int),vars,x.rows.length,bl,bw,qs⟩) (hn:x.L.n=2^x.dd) (xH:x.dd <= 10) (ib:Zc x.L.p (x.pub:Int) vars x.rows=true) (hT:cu x.L x.pub vars x.rows) (hVO:ox vars x.rows) (hD:cG x.L.p (x.pub:Int) vars x.rows) (Lz:x.dg=Xf x.L.p (x.pub:Int) vars x.rows) (hxm:x.m=tj x.L x.rows x.ws x.pub)
  (AR:vw -> Prop) (hA:Hd K w AR) (hK:∀ b,K b -> b<w.1.size /\ ¬F b)
  (hr:∀ u,AR u -> RSl 3 oe u [ve A n c] x.rows) (hw:∀ u,AR u -> RWd u [ve B m d] x.ws) (h0:∀ u,AR u -> mg u [ve A0 n0 c0] x.crs) (h1:∀ u,AR u -> RWd u [ve A1 n1 c1] x.l1) (h2:∀ u,AR u -> RWd u [ve A2 n2 c2] x.l2) (h3:∀ u,AR u -> RWd u [ve A3 n3 c3] x.l3) (h4:∀ u,AR u -> RWd u [ve A4 n4 c4] x.l4)
  (yk:(x.ws.length:Int)=vars) (Jn:x.ws.getD 0 0=1) (Kn:(x.ws.all fun y=>decide (y<x.L.p))=true) (hsat:qw x.L.p x.rows x.ws=true) (Nh:Gs x.L x.crs x.l1 x.l2 x.l3 x.l4=true) (hO:Lc O 1000) (yf:x.L.a+x.L.b+x.L.b+x.L.b <= 1000) :
  vB prog 17 #[.pointer (vE ⟨g,0,vD⟩),sc x.L.p (x.pub:Int) vars (ve A n c),vf #[vd vq bl,vd vq bw,vd vq qs],ve B m d,vf #[ve A0 n0 c0,ve A1 n1 c1,ve A2 n2 c2,ve A3 n3 c3,ve A4 n4 c4]] w fun e w' =>
   ∃ (S:PS) (F':Nat -> Prop),e=vl (.tuple #[vf (Ld (x.pr O) S),vd vq 0]) /\ OrcAt w' g (x.oF O) F' /\ Moved F F' w w' /\ Hd (fun b=>w.1.size <= b /\ b<w'.1.size /\ ¬F' b) w' (fun u=>Gj u (x.pr O) S):=by
 obtain ⟨kt,kx,kc,kr,da,tb⟩:=VK w 25 27 41 46 #[vd vn x.L.p,vd vq x.pub,vd vq vars,ve A n c] #[vd vq bl,vd vq bw,vd vq qs] #[ve A0 n0 c0,ve A1 n1 c1,ve A2 n2 c2,ve A3 n3 c3,ve A4 n4 c4] #[vd vn 0,ve vD 0 0,ve vD 0 0,ve vD 0 0,ve vD 0 0,ve vD 0 0,ve vD 0 0];have a0:=yg hA;have Ly:=zH (fun w' (hb:vA w.1.size w w')=>uk hA (ng hb))
 have hz:=QO ib uf;have HN:=zH (fun w' (hb:vA w.1.size w w')=>(fU x.L.p (x.pub:Int) vars A n c x.rows bl bw qs w' (hr w' (Ly.out w' hb))).mono (R':=fun e fl=>e=vl (.tuple #[vf (Db x.L),vd vq 0]) /\ vA w'.1.size w' fl) (by
  rintro e fl ⟨⟨lcs,rfl,hp⟩,Aa⟩;rw [hz] at hp;rcases hp with ⟨Ta,-⟩ | ⟨-,-,L',-,hf',rfl⟩
  ·exact absurd rfl Ta
  ·rw [hz,show L'=x.L from hf'.eq.trans uf.eq.symm]
   exact ⟨rfl,Aa⟩))
 have HV:=zH (fun w' (hb:vA w.1.size w w')=>by have a:=Ly.out w' hb;have:=vZ x.L A0 A1 A2 A3 A4 n0 c0 n1 c1 n2 c2 n3 c3 n4 c4 x.crs x.l1 x.l2 x.l3 x.l4 w' hL (h0 w' a) (h1 w' a) (h2 w' a) (h3 w' a) (h4 w' a);rw [Nh] at this;exact this)
 have HBl:=zH (fun w' (hb:vA w.1.size w w')=>by have:=ZQ B m d x.ws x.L.p w' (hw w' (Ly.out w' hb));rw [Kn] at this;exact this)
 have hasg:Gh x.L.p vars x.ws=true:=by
  unfold Gh;have:=uf.vars;have:=uf.pub;simp only at *;rw [Jn,Kn,yk,show (vars == 0)=false by rw [pd];omega]
  simp
 have HS:=zH (fun w' (hb:vA w.1.size w w')=>by have:=zD1 x.L.p (x.pub:Int) vars A B n c m d x.rows x.ws w' (hr w' (Ly.out w' hb)) (hw w' (Ly.out w' hb));rw [ib,hasg,hsat] at this;exact this)
 have HM:=zH (fun w' (hb:vA w.1.size w w')=>(zDS x.L x.pub vars A B n c m d x.rows x.ws w' hL hT (hr w' (Ly.out w' hb)) (hw w' (Ly.out w' hb)) yk).mono (R':=fun e fl=>∃ v,e=vl v /\ RRx w'.1.size fl v x.m /\ vA w'.1.size w' fl) fun _ _ h=>by rw [hxm];exact h)
 obtain ⟨Hv,Cn,Ad,Re,Lh⟩:=YK Nh;have Xz:=nN Nh;have hmT:x.m.length=x.L.a+x.L.b+x.L.b+x.L.b:=by rw [hxm];exact MO _ _ _ _
 have ij:∀ r∈x.m,r.length=x.L.block:=fun r hr=>FZ (hxm ▸ hr)
 have b1:=hL.b2;have b2:=hL.n2;have b3:=hL.q2;have b4:=hL.k;have b5:=hL.a;have b6:=hL.b;have HC:=zH (fun AM nM cM w' (hb:vA w.1.size w w') (hm:mg w' [ve AM nM cM] x.m)=>by
  have a:=Ly.out w' hb;exact (zCI x.L A0 A1 A2 A3 A4 AM n0 n1 n2 n3 n4 nM c0 c1 c2 c3 c4 cM x.m x.crs x.l1 x.l2 x.l3 w' hL hm (h0 w' a) (h1 w' a) (h2 w' a) (h3 w' a) (by rw [hmT,Hv]) ij (fun r hr=>by have:=(Cn r hr).1;omega) (by omega) (by have:=Ad.1;omega) (by have:=Re.1;omega) (by have:=Lh.1;omega)).mono (R':=fun e fl=>∃ v,e=vl v /\ RRx w'.1.size fl v x.cols /\ vA w'.1.size w' fl) fun _ _ h=>h)
 have HCE:=zH (x.cols_els hL.p);have Oy:=zH (show ∀ l∈x.cols,l.length <= 100000 from fun l hl=>by rw [x.cols_row l hl,hmT];omega)
 have Nr:=zH h;have HAA:=zH hA;have HK:=zH hK;have pq:=zH hL;have HFo:=zH uf;have nG:=zH (And.intro ib (And.intro hT (And.intro hVO hD)));have Py:=zH (And.intro hn xH);have HDG:=zH Lz;have HRr:=zH hr;have HRw:=zH hw;have Wy:=zH h0;have Di:=zH h1;have Tt:=zH h2;have HR3:=zH h3;have rq:=zH h4;have HCO:=zH Nh;have po:=zH Xz;have HMT:=zH hmT;have lG:=zH ij;have HOL:=zH hO;have nF:∀ b,w.1.size <= b -> ¬F b:=fun b hb e=>by have:=h.lt b e;omega
 have NF:=zH nF;obtain ⟨jF,hwd,hwx,-,Ln⟩:=Qb (hw _ a0);have HWR:=zH (fun w' (hb:vA w.1.size w w')=>(Qb (hw w' (Ly.out w' hb))).2.2.2.2)
 have eF:(x.pub:Int)<vars:=uf.vars;have g1:(0:Int)<m:=by omega
 have d1:((m:Int) != vars)=false:=by rw [<- yk,jF];simp
 have dv:=Tl hwd hwx;have HWL:=zH jF;have HPV:=zH (show x.pub<m by omega)
 have HPU:=zH (show x.pub<65536 by unfold Zc at ib;simp only [Cc,il,qv] at ib;omega)
 have HW0:=zH Jn;clear h hA hK hL uf hn xH ib hT hVO hD Lz hxm hr hw h0 h1 h2 h3 h4 yk Jn Kn hsat Nh hO Hv Cn Ad Re Lh Xz hmT ij b1 b2 b3 b4 b5 b6 hz hasg a0 jF Ln hwx eF nF tb;unfold sc Vp Db at *;go_enter func17,ntmps17
 go_upto_region 1 with fail
 generalize (((w.alloc _).alloc _).alloc _).alloc _=w1 at kt kx kc kr da |-;have ct:=kt.cell;have cx:=kx.cell;go_wp2_with fail
 refine (HN.out w1 da).mono ?_;rintro e w2 ⟨rfl,Aa⟩;replace kt:=ia kt Aa;replace kx:=ia kx Aa;replace kc:=ia kc Aa;replace kr:=ia kr Aa;replace da:=ma da Aa;clear ct cx Aa HN;obtain ⟨L,hLx⟩:=zEX (x.L);have Ug:=zH hLx;rw [<- hLx] at kt HV HBl HS HM HC pq HFo nG Py po HDG HCO lG HMT |-;clear hLx;have ja:=(za w2.1.size w2).alloc zR (.cells #[vd vn L.p,vd vq L.block,vd vq L.queries,vd vq L.k,vd vq L.n,vd vq L.secret,vd vq L.rows,vd vq L.a,vd vq L.b,vd vq L.b,vd vq L.b] 101);have kl:=Blk.new w2 101 #[vd vn L.p,vd vq L.block,vd vq L.queries,vd vq L.k,vd vq L.n,vd vq L.secret,vd vq L.rows,vd vq L.a,vd vq L.b,vd vq L.b,vd vq L.b];have Xx:w.1.size+3<w2.1.size:=kr.lt;replace kt:=ia kt ja;replace kx:=ia kx ja;replace kc:=ia kc ja;replace kr:=ia kr ja;replace da:=ma da ja;clear ja kx;go_upto_region 2 with fail
 generalize w2.alloc _=w3 at kl kt kc kr da |-;generalize w2.1.size=gl at kl Xx |-;have ct:=kt.cell;have Ma:=HWR.out w3 da;rw [HWL.out] at Ma;obtain ⟨b,q,rfl,Gb,hc⟩:=Ie Ma (show 0<x.ws.length by have:=HWL.out;omega)
 have xg:w3.cell? ⟨b,q,vD⟩=vE (vd vn ((x.ws.getD 0 0:Nat):Int)):=hc;rw [HW0.out] at xg;clear hc Ma;go_wp2_with fail
 refine (HBl.out w3 da).mono ?_;rintro e _ ⟨rfl,rfl⟩;have cl:=kl.cell;have cc:=kc.cell;clear xg;go_wp2_with fail
 refine (HV.out w3 da).mono ?_;rintro e w4 ⟨rfl,zb⟩;replace kl:=ia kl zb;replace kt:=ia kt zb;replace kc:=ia kc zb;replace kr:=ia kr zb;replace da:=ma da zb;clear cl cc ct zb;have ct:=kt.cell;go_wp2_with fail
 refine (HS.out w4 da).mono ?_;rintro e w5 ⟨rfl,Wa⟩;replace kl:=ia kl Wa;replace kt:=ia kt Wa;replace kc:=ia kc Wa;replace kr:=ia kr Wa;replace da:=ma da Wa;clear ct Wa HV HBl HS d1;have ct:=kt.cell;have cl:=kl.cell;go_wp2_with fail
 have hw5:=da.size;refine (HM.out w5 da).mono ?_;rintro e w6 ⟨vm,rfl,hm6,Ec⟩;replace kl:=ia kl Ec;replace kt:=ia kt Ec;replace kc:=ia kc Ec;replace kr:=ia kr Ec;replace da:=ma da Ec;have h36:=kr.lt;clear ct cl HM;have hms5:=Ec.size;obtain ⟨AM,nM,cM,rfl⟩:=RSl.slc hm6.here;have cc:=kc.cell;have cl:=kl.cell;go_wp2_with fail
 refine (HC.out AM nM cM w6 da hm6.here).mono ?_;rintro e w7 ⟨vc,rfl,UN,pc⟩;obtain ⟨AC,nC,cC,rfl⟩:=RSl.slc UN.here;replace kl:=ia kl pc;replace kt:=ia kt pc;replace kc:=ia kc pc;replace kr:=ia kr pc;replace da:=ma da pc;obtain ⟨KB,Kx⟩:∃ KB:Nat -> Prop,KB=fun b=>b<w7.1.size /\ ¬F b:=⟨_,rfl⟩
 have pL:∀ b,b<w7.1.size -> ¬F b -> KB b:=fun b h1 h2=>by rw [Kx];exact ⟨h1,h2⟩
 have Xj:=zH (show Hd KB w7 (fun u=>AR u /\ Blk u w.1.size _ _ /\ Blk u (w.1.size+2) _ _ /\ Blk u gl _ _ /\ Blk u (w.1.size+3) _ _ /\ mg u [ve AM nM cM] x.m /\ mg u [ve AC nC cC] x.cols) from fun u a =>
  have bk:∀ {g t cs},Blk w7 g t cs -> w.1.size <= g -> Blk u g t cs:=fun k hg=>(a.block _ (pL _ k.lt (NF.out _ hg)) k.lt).trans k
  ⟨uk HAA.out (D9 da a fun b h1 h2=>pL b (Sd h2 da.size) (HK.out b h1).2),bk kt zR,bk kc (by omega),bk kl (by omega),bk kr (by omega),
   hm6.2 u fun b h1 h2=>(a.block b (pL b (Sd h2 pc.size) (NF.out _ (by omega))) (Sd h2 pc.size)).trans (pc.block b h2),
   UN.2 u fun b h1 h2=>a.block b (pL b h2 (NF.out _ (by omega))) h2⟩)
 have yl:=zH (show ∀ b,KB b -> b<w7.1.size /\ ¬F b by rw [Kx];exact fun b h=>h)
 have HCX:=zH UN;have hw6:w.1.size <= w6.1.size:=by omega
 have hw67:w6.1.size <= w7.1.size:=pc.size;clear hm6 UN Ec pc Kx pL cc cl HC HWR HWL HW0;obtain ⟨s1,yd⟩:=zEX (x.t1 O);obtain ⟨e0,he0⟩:=zEX (1+x.pub);have UE:=HPV.out;have e1:(1:Int)+x.pub=(e0:Int):=by omega
 have e2:=Ce e0;have e3:(1:Int)<=e0:=by omega
 have e4:(e0:Int)<=d:=by omega
 have e5:e0-1=x.pub:=by omega
 have HPB:=zH (fun u (a:AR u)=>IP (k:=x.pub) (tM (HRw.out u a) (t:=1) (by omega)) (by omega))
 obtain ⟨BP,hBP⟩:∃ BP,(if d=1 then vE (⟨b,q,vD⟩:vy) else vE ⟨b,q+1,vD⟩)=BP:=⟨_,rfl⟩
 rw [show (if d=1 then vE (⟨b,q,vD⟩:vy) else Option.map (fun y:vy=>y.add 1) (vE ⟨b,q,vD⟩))=BP from hBP] at HPB
 have HBP:=zH hBP;have Vg:=zH yd;have jo:=zH (fun w1 (hb:vA w.1.size w w1)=>by
  have a:=Ly.out w1 hb;have:=C3 (Nr.out.below hb) L pq.out L.p (x.pub:Int) vars A BP n c x.pub (d-1) x.rows x.pu (HRr.out w1 a) nG.out.2.2.2 nG.out.1 (HPB.out w1 a) (Ue HOL.out (by decide)) (by unfold PvIn.pu;rw [List.length_take];have:=HPU.out;omega)
  rw [<- HDG.out,show qe O L x.dg x.pu=s1 by rw [yd,Ug.out];rfl] at this
  unfold Db sc at this;exact this)
 have fO:=zH (show s1.st<18446744073709551616 by rw [yd];exact zq (Iz Nr.out.ok.ans 18 _))
 have QH:=zH (show Lc s1.O 1001 by rw [yd];exact Yp HOL.out 18 _)
 have VS:=zH (show Wl s1.O by rw [yd];exact TN Nr.out.ok.ans 18 _)
 obtain ⟨NQ,Zh⟩:=zEX (w7.1.size);have l0:w.1.size<NQ:=by rw [Zh];exact kt.lt
 have lgl:gl<NQ:=by rw [Zh];exact kl.lt
 have n0:=NF.out w.1.size zR;have ngl:=NF.out gl (by omega)
 have ct:=kt.cell;have cl:=kl.cell;have Ci:=zH Zh;have HB:=zH da;clear Zh kl kt kc kr da yd he0 hBP UE Gb;go_upto_region 10 with fail
 refine tK (F) (F) (NQ) [8,10] [0,1,2,3,4,5,6,7,8] [(9,129,#[vd vn 0,vd vn 0])] [10] (by kernel_rfl) (Cf.2 ⟨⟨_,rfl,rfl,fun a w=>by go_simp <;> rfl⟩,iB _⟩) (by kernel_rfl) ?_
 refine wK ?_;intro Wc Ha ea;have Sg:=zH (show vA w.1.size w Wc by rw [Ha.out];exact HB.out.drew)
 have mc:Hid (Tm F NQ F Wc):=zH (by rw [Ha.out,Ci.out];exact ⟨zR,(Nr.out.below HB.out).lt,fun _ _ h=>h⟩)
 have M8:=zH (show Moved F F w7 Wc by rw [Ha.out];exact Zv (zd (za _ _)))
 clear Ha;refine Gw ?_;rw [HBP.out];refine uK (f:=?_) (vals:=?_) rfl rfl rfl mc ?_ (fun wF Ze=>?_)
 rotate_left 3
 replace Sg:=zH (ma Sg.out Ze);replace M8:=zH (M8.out.trans (zd Ze));replace ea:=(Jc F NQ).trans _ _ _ ea (Mj Ze mc.out.size);replace mc:=zH (ru mc.out Ze);refine (jo.out wF Sg.out).mono ?_
 rotate_left
 ·intro w_;go_simp <;> rfl
 rintro e wA ⟨rfl,F1,h1,m1⟩;clear Ze;refine ⟨_,F1,rfl,m1,h1.lt,?_⟩;replace ea:=(Jc F NQ).trans _ _ _ ea (fH mc.out (m1));replace mc:=zH (mJ mc.out (m1) (h1.lt));refine zPU ?_;have H8:=zH h1;replace M8:=zH (M8.out.trans m1);clear h1 m1 Sg;refine Gw ?_;refine vK [(vE 16,9)] rfl mc (fun Cz wE Te Jo=>?_)
 have fE9:=Jo.blk _ (.head _) rfl;clear Jo;unfold Ah Sn;simp only [List.foldl];dsimp only at fE9
 generalize Cz 9=g9 at fE9  |-;obtain ⟨k9,hg9,hv9⟩:=fE9;replace H8:=zH (H8.out.below Te);replace M8:=zH (M8.out.trans (zd Te));replace ea:=(Jc F NQ).trans _ _ _ ea (Mj Te mc.out.size);replace mc:=zH (ru mc.out Te)
 refine zPU ?_
 have lg9:w7.1.size <= g9:=by rw [<- Ci.out];exact hg9
 have c9:=k9.cell;have f9:=k9.frozen;refine Ir ?_;refine Ye (Jc F NQ) rfl rfl rfl ?_;go_simp;refine ⟨Mj ((mE _ _ hg9).trans (mE _ _ hg9)) zR,?_⟩
 refine zPU ?_
 refine Qc ?_;have k9z:=aE k9 0 1 (vd vn s1.st) (vd vn 0);have h10:=(H8.out.set hv9 (vd vn s1.st) (i:=0)).set hv9 (vd vn 0) (i:=1);have Pm:=tg (tg M8.out lg9 0 (vd vn s1.st)) lg9 1 (vd vn 0);generalize vF (vF wE _ _) _ _=wZ at k9z h10 Pm |-;have k9y:Blk wZ g9 129 #[vd vn s1.st,vd vn 0]:=by simpa using k9z
 have K9:=zH k9y;have H10:=zH h10;have M10:=zH Pm;have N9:=zH (show ¬F1 g9 from hv9)
 have G9:=zH (show w.1.size+3<g9 by have:=HB.out.size;omega)
 clear c9 f9 ea k9 k9z k9y h10 Pm mc H8 M8 Te ct cl l0 lgl n0 ngl hv9 hg9 Ci jo;have AZ:=zH (Td Xj.out (ik M10.out fun b h=>(yl.out b h).2))
 have hkz:∀ b,KB b -> b<wZ.1.size /\ ¬F1 b:=fun b hb=>⟨Sd (yl.out b hb).1 M10.out.size,fe M10.out (yl.out b hb).1 (yl.out b hb).2⟩
 have Ux:=zAA H10.out AC A4 nC cC n4 c4 x.cols x.l4 x.dd (uO (Kz AZ.out fun u h=>h.2.2.2.2.2.2)) (SY (Kz AZ.out fun u h=>rq.out u h.1)) hkz Py.out.2 (by rw [x.cols_len,<- Ug.out,Py.out.1]) (by rw [x.cols_len,<- Ug.out];exact po.out.1) po.out.2 HCE.out Oy.out (Ue QH.out (by decide))
 have HCm:=zH Ux;obtain ⟨-,-,kc,-,-,-,-⟩:=yg AZ.out;have cc:=kc.cell;clear Ux hkz;go_wp2_with fail
 refine HCm.out.mono ?_;rintro _ w8 ⟨tv,F2,T,rfl,h8,m8,kt8,hT8⟩;obtain ⟨o2,ho2⟩:=zEX (x.o2 O);obtain ⟨tr,Yz⟩:=zEX (x.tree O);have h8':OrcAt w8 g o2 F2:=by rw [ho2];rw [Vg.out] at h8;exact h8
 have uT:yp T w8 tv tr:=by rw [Yz];rw [Vg.out] at kt8;exact kt8
 have HTO:=zH (show IG x.dd tr by rw [Yz];exact Q7 _ Py.out.2 (by rw [Xv,MC,x.cols_len,<- Ug.out,Py.out.1]))
 obtain ⟨AT,nT,cT,rfl⟩:=RSl.slc (TY uT);have Rt:=zH ho2;have HTR:=zH Yz;have ja:=(za w8.1.size w8).alloc zR (.cells #[ve AT nT cT] 132);have kT:=Blk.new w8 132 #[ve AT nT cT];have nT2:¬F2 w8.1.size:=fun e=>by have:=h8'.lt _ e;omega
 have H9:=zH (h8'.below ja);have M9:=zH ((M10.out.trans m8).trans (zd (F:=F2) ja));have n92:¬F2 g9:=fe m8 K9.out.lt N9.out;have k9b:=(K9.out.moved m8 N9.out).below ja (K9.out.moved m8 N9.out).lt;have lT9:g9<w8.1.size:=(K9.out.moved m8 N9.out).lt;have pB:=zH (hd_krr (sT uT ja));have sG:=zH (show ∀ b,T b -> w.1.size <= b /\ b<w8.1.size /\ ¬F2 b /\ g9<b from fun b hb=>⟨by have:=(hT8 b hb).1;have:=M10.out.size;have:=HB.out.size;omega,(hT8 b hb).2.1,(hT8 b hb).2.2,Sd K9.out.lt (hT8 b hb).1⟩)
 have h2lt:=zH (show ∀ b,F2 b -> b<w8.1.size from h8'.lt)
 clear ho2 Yz h8 kt8 h8' uT m8 hT8 H10 M10 N9 K9 ja AZ HCm cc kc;go_upto_region 14 with fail
 generalize w8.alloc _=w9 at kT H9 M9 k9b pB |-;generalize w8.1.size=gT at kT nT2 lT9 sG h2lt |-;have K9:=zH k9b;have KT:=zH kT;have cT9:=kT.cell;clear k9b kT;obtain ⟨rt,Sq⟩:=zEX (Vo tr);have HRo:=zH (fun u (h:mg u [ve AT nT cT] tr)=>by have:=zFj h HTO.out;rw [<- Sq] at this;exact this)
 have HRT:=zH (show rt=x.root O by rw [Sq,HTR.out];rfl)
 clear Sq;go_wp2_with fail
 refine (HRo.out w9 (yg pB.out)).mono ?_;rintro e GA ⟨rfl,Jp⟩;replace H9:=zH (H9.out.below Jp);replace M9:=zH (M9.out.trans (zd Jp));replace K9:=zH (K9.out.below Jp K9.out.lt);replace KT:=zH (KT.out.below Jp KT.out.lt);replace pB:=zH (Td pB.out (ng Jp));clear Jp cT9 HRo;have ja:=(za GA.1.size GA).alloc zR (.cells #[vd vn rt,ve vD 0 0,ve vD 0 0,ve vD 0 0,ve vD 0 0,ve vD 0 0,ve vD 0 0] 46);have kP:=Blk.new GA 46 #[vd vn rt,ve vD 0 0,ve vD 0 0,ve vD 0 0,ve vD 0 0,ve vD 0 0,ve vD 0 0];have hgP:gT<GA.1.size:=KT.out.lt;have bO:w7.1.size <= GA.1.size:=M9.out.size;have nP2:¬F2 GA.1.size:=fun e=>by have:=h2lt.out _ e;omega
 replace H9:=zH (H9.out.below ja);replace M9:=zH (M9.out.trans (zd ja));replace K9:=zH (K9.out.below ja K9.out.lt);replace KT:=zH (KT.out.below ja KT.out.lt);replace pB:=zH (Td pB.out (ng ja));clear ja;go_upto_region 15 with fail
 generalize GA.alloc _=w11 at kP H9 M9 K9 KT pB |-;generalize GA.1.size=gP at kP nP2 hgP bO |-;obtain ⟨-,-,-,kl,-,-,-⟩:=yg (Td Xj.out (ik M9.out fun b h=>(yl.out b h).2))
 have cl:=kl.cell;have c9:=K9.out.cell;have cP:=kP.cell;have KP:=zH kP;have Af:=Nb pq.out.p;have Yw:=zH (show rt<Za by rw [HRT.out];exact Y5 (x.tree_lt O (by rw [<- Vg.out];exact VS.out)))
 have Ux:=G3 H9.out s1.st 0 fO.out L (by omega) Af.2 rt (zq Yw.out) (by
  rw [Rt.out];refine Ue (x.o2_le O (by rw [<- Ug.out];exact Py.out.1) (by rw [<- Vg.out];exact QH.out)) ?_
  have:=pq.out.n2;rw [<- Ug.out];omega)
 obtain ⟨ch,Tx⟩:=zEX (Si ⟨o2,s1.st,0⟩ L.p rt);obtain ⟨s2,re⟩:=zEX (te ⟨o2,s1.st,0⟩ rt);rw [<- Tx,<- re] at Ux;have Lt:=zH Ux;have HAO:=zH (show Wl o2 from H9.out.ok.ans)
 have HS2L:=zH (show s2.st<18446744073709551616 by rw [re];exact zq (Iz HAO.out 18 _))
 have HS2O:=zH (show Lc s2.O 800000 by
  rw [re];refine Ue (aP (ct:=0) (k:=4000) ?_ s1.st rt) (by omega)
  rw [Rt.out];refine Ue (x.o2_le O (by rw [<- Ug.out];exact Py.out.1) (by rw [<- Vg.out];exact QH.out)) ?_
  have:=pq.out.n2;rw [<- Ug.out];omega)
 have HTL:=zH (show ∀ k j,(tr.getD k []).getD j 0<18446744073709551616 from fun k j=>zq (IU (by rw [HTR.out];exact x.tree_lt O (by rw [<- Vg.out];exact VS.out)) k j))
 have HCH:=zH (show ch=x.ch O by rw [Tx,Rt.out,HRT.out,Ug.out,Vg.out];rfl)
 have Xm:=zH (show s2=x.t2 O by rw [re,Rt.out,HRT.out,Vg.out];rfl)
 unfold Db at Lt;clear kP kl Ux Tx re Af;go_wp2_with fail
 refine Lt.out.mono ?_;rintro _ w12 ⟨rfl,F3,h12,ry⟩;have k9c:=K9.out.moved ry n92;have n93:¬F3 g9:=fe ry K9.out.lt n92;have c9':=k9c.cell;have f9':=k9c.frozen;have l9':=k9c.lt;have e9T:gT≠g9:=by omega
 have e9P:gP≠g9:=by omega
 have h13:=(h12.set n93 (vd vn s2.st) (i:=0)).set n93 (vd vn 3) (i:=1);have m13:=tg (tg (M9.out.trans ry) lg9 0 (vd vn s2.st)) lg9 1 (vd vn 3);have k9n:=aE k9c 0 1 (vd vn s2.st) (vd vn 3);have ktn:=((KT.out.moved ry nT2).far (p:=⟨g9,0,vD⟩) e9T (vd vn s2.st)).far (p:=⟨g9,1,vD⟩) e9T (vd vn 3);have kpn:=((KP.out.moved ry nP2).far (p:=⟨g9,0,vD⟩) e9P (vd vn s2.st)).far (p:=⟨g9,1,vD⟩) e9P (vd vn 3);have nTT:¬T g9:=fun e=>by have:=sG.out _ e;omega
 have trn:=Td (Td (Td pB.out (ik ry fun b hb=>(sG.out b hb).2.2.1)) (bW (i:=0) (c:=vd vn s2.st) nTT)) (bW (i:=1) (c:=vd vn 3) nTT)
 have nT3:¬F3 gT:=fe ry KT.out.lt nT2;have nP3:¬F3 gP:=fe ry KP.out.lt nP2;have nC3:¬F3 w12.1.size:=fun e=>by have:=h12.lt _ e;omega
 have HF3C:=zH (show ∀ b,F3 b -> b<w12.1.size from h12.lt)
 have hCP:gP<w12.1.size:=(KP.out.moved ry nP2).lt;have HT3:=zH (show ∀ b,T b -> ¬F3 b from fun b hb=>fe ry (by have:=(sG.out b hb).2.1;have:=KT.out.lt;omega) (sG.out b hb).2.2.1)
 obtain ⟨wS,hwS⟩:∃ wS,(w12.setCell ⟨g9,0,vD⟩ (vd vn s2.st)).setCell ⟨g9,1,vD⟩ (vd vn 3)=wS:=⟨_,rfl⟩;have tb:wS.1.size=w12.1.size:=by rw [<- hwS];simp [vF]
 rw [hwS] at h13 m13 k9n ktn kpn trn;have ja:=(za wS.1.size wS).alloc zR (.cells #[vd vn ch.al,vd vn ch.rh,vd vn ch.be] 136);have kC:=Blk.new wS 136 #[vd vn ch.al,vd vn ch.rh,vd vn ch.be];rw [tb] at kC;have KC:=zH kC;have H13:=zH (h13.below ja);have M13:=zH (m13.trans (zd (F:=F3) ja));have K9n:=zH (ia k9n ja);have KTn:=zH (ia ktn ja);have KPn:=zH (ia kpn ja);have TRn:=zH (Td trn (ng ja));have HWS:=zH hwS;clear c9 cl cP k9c h12 ry ja h13 m13 k9n ktn kpn trn kC hwS tb H9 M9 K9 KT KP pB Lt nTT n92;go_upto_region 16 with fail
 rw [HWS.out];generalize wS.alloc _=Gr at KC H13 M13 K9n KTn KPn TRn |-;generalize w12.1.size=gC at KC nC3 hCP HF3C |-;clear c9' f9' l9' HWS;obtain ⟨aU,kt,kc,kl,-,hmU,-⟩:=yg (Td Xj.out (ik M13.out fun b h=>(yl.out b h).2))
 have k9d:Blk Gr g9 129 #[vd vn s2.st,vd vn 3]:=by simpa using K9n.out
 have K9:=zH k9d;have cl:=kl.cell;have ct:=kt.cell;have cc:=kc.cell;have cC:=KC.out.cell;have han:=zDK L x.pub ch.rh ch.al ch.be vars A AM A0 A1 A2 A3 A4 n c nM cM n0 n1 n2 n3 n4 c0 c1 c2 c3 c4 x.rows x.m x.crs x.l1 x.l2 x.l3 x.l4 Gr pq.out nG.out.2.1 (HRr.out _ aU) nG.out.2.2.1 hmU (Wy.out _ aU) (Di.out _ aU) (Tt.out _ aU) (HR3.out _ aU) (rq.out _ aU) HCO.out HMT.out lG.out;have HAn:=zH han;unfold Db sc at HAn;clear han K9n k9d kt kc kl hmU aU;go_wp2_with fail
 refine HAn.out.mono ?_;rintro _ w14 ⟨v1,v2,v3,rfl,o1,o2',o3,rH⟩;obtain ⟨cd,Gv⟩:=zEX (x.code ch.al);obtain ⟨ln,zg⟩:=zEX (x.lin ch.rh);obtain ⟨qd,hqd⟩:=zEX (x.quad ch.be);have zt:w14.ownsRow Gr.1.size 22 1 v1 L.k (Ia cd):=by rw [Gv];unfold PvIn.code;rw [<- Ug.out];exact o1
 have XT:w14.ownsRow Gr.1.size 22 1 v2 (L.k+L.block-1) (Ia ln):=by rw [zg];unfold PvIn.lin;rw [<- Ug.out];exact o2'
 have lA:w14.ownsRow Gr.1.size 22 1 v3 (2*L.k-1) (Ia qd):=by rw [hqd];unfold PvIn.quad;rw [<- Ug.out];exact o3
 have HCF:=zH (YK HCO.out);have YA:=zH (Nb pq.out.p);have tl:=zH (show ∀ y∈cd,y<18446744073709551616 from fun y hy=>Eh (x.code_lt (by rw [<- Ug.out];have:=YA.out;omega) (by rw [<- Ug.out];exact HCF.out.2.2.1.2) ch.al y (by rw [<- Gv];exact hy)) (by rw [<- Ug.out];exact YA.out.2))
 have fp:=zH (show ∀ y∈ln,y<18446744073709551616 from fun y hy=>Eh (x.lin_lt (by rw [<- Ug.out];have:=YA.out;omega) (by rw [<- Ug.out];exact HCF.out.2.2.2.1.2) ch.rh y (by rw [<- zg];exact hy)) (by rw [<- Ug.out];exact YA.out.2))
 have Ny:=zH (show ∀ y∈qd,y<18446744073709551616 from fun y hy=>Eh (x.quad_lt (by rw [<- Ug.out];have:=YA.out;omega) ch.be y (by rw [<- hqd];exact hy)) (by rw [<- Ug.out];exact YA.out.2))
 have HCL1:=zH (show cd.length=L.k by rw [Gv];simp [PvIn.code,Ug.out])
 have HCL2:=zH (show ln.length=L.k+L.block-1 by rw [zg];simp [PvIn.lin,Ug.out])
 have HCL3:=zH (show qd.length=2*L.k-1 by rw [hqd];simp [PvIn.quad,Ug.out])
 have Nw:=zH (And.intro Gv (And.intro zg hqd));obtain ⟨P1,p1,rfl,-⟩:=ud zt;obtain ⟨P2,p2,rfl,-⟩:=ud XT;obtain ⟨P3,p3,rfl,-⟩:=ud lA;have zL:gP<Gr.1.size:=KPn.out.lt;have kp:=KPn.out.below rH zL;have cP:=kp.cell;have fP:=kp.frozen;have e9P':g9≠gP:=fun e=>e9P e.symm
 have eTP:gT≠gP:=by omega
 have eCP:gC≠gP:=by omega
 have Xa:=zBR (w:=w14) (g:=gP) (ve P1 L.k p1) (ve P2 (L.k+L.block-1) p2) (ve P3 (2*L.k-1) p3);have h15:=(((H13.out.below rH).set nP3 (ve P1 L.k p1) (i:=1)).set nP3 (ve P2 (L.k+L.block-1) p2) (i:=2)).set nP3 (ve P3 (2*L.k-1) p3) (i:=3);have m15:=tg (tg (tg (M13.out.trans (zd (F:=F3) rH)) bO 1 (ve P1 L.k p1)) bO 2 (ve P2 (L.k+L.block-1) p2)) bO 3 (ve P3 (2*L.k-1) p3);have rT:=((kp.set_ 1 (ve P1 L.k p1)).set_ 2 (ve P2 (L.k+L.block-1) p2)).set_ 3 (ve P3 (2*L.k-1) p3);simp only [Ba,Fa,Da] at rT;have k9f:=(K9.out.below rH K9.out.lt).grown Xa (fun e=>e9P' (db e))
 have ktf:=(KTn.out.below rH KTn.out.lt).grown Xa (fun e=>eTP (db e))
 have TRf:=zH (Td (Td TRn.out (ng rH)) (C9 Xa fun b e hT=>by have:=sG.out b hT;have:=db e;omega))
 have o1f:=ti zt Xa zL;have o2f:=ti XT Xa zL;have o3f:=ti lA Xa zL;have HF3L:=zH (show ∀ b,F3 b -> b<Gr.1.size from fun b hb=>by have:=HF3C.out b hb;have:=KC.out.lt;omega)
 have H15:=zH h15;have M15:=zH m15;have SM:=zH ktf;have zQ:=zH k9f;have KPq:=zH rT;clear Xa h15 m15 ktf k9f rT kp o1 o2' o3 H13 M13 KTn K9 KPn TRn KC cl ct cc cC rH HAn zt XT lA;go_upto_region 17 with fail
 generalize ((w14.setCell _ _).setCell _ _).setCell _ _=IA at H15 M15 SM zQ KPq TRf o1f o2f o3f |-;have q1:=Om o1f tl.out;have q2:=Om o2f fp.out;have q3:=Om o3f Ny.out;have SE:∀ u:vw,RSl 1 RWd u [ve vD 0 0] []:=fun u=>⟨vD,0,0,rfl,rfl,zR,by simp [maxLen],fun i hi=>absurd hi (by simp)⟩
 have vY:∀ u:vw,RWd u [ve vD 0 0] []:=fun u=>⟨vD,0,0,rfl,zR,by simp [maxLen],⟨rfl,fun h=>absurd h (by omega)⟩,fun x hx=>by cases hx⟩
 have Lv:=pq.out;have hpo:=Z3 H15.out s2.st 3 HS2L.out L Lv ⟨rt,cd,ln,qd,[],[],[]⟩ ⟨P1,L.k,p1,P2,L.k+L.block-1,p2,P3,2*L.k-1,p3,vD,0,0,vD,0,0,vD,0,0⟩ ⟨zq Yw.out,q1,q2,q3,SE _,vY _,SE _⟩ HS2O.out (by
  show (cd++ln++qd).length <= 100000
  rw [Kf,Kf,HCL1.out,HCL2.out,HCL3.out];have:=Lv.k;have:=Lv.b2;have:=Lv.q2;omega)
 obtain ⟨pos,Kl⟩:=zEX (x.pos O);have Sp:Zk ⟨s2.O,s2.st,3⟩ (cd++ln++qd) L.n L.queries=pos:=by
  rw [Kl];show Zk s2 _ _ _=_
  unfold PvIn.pos PvIn.all;rw [<- Xm.out,<- Ug.out,<- HCH.out,<- Nw.out.1,<- Nw.out.2.1,<- Nw.out.2.2]
 have hoe:Cj ⟨s2.O,s2.st,3⟩ (cd++ln++qd) L.queries=x.oF O:=by
  show Cj s2 _ _=_
  unfold PvIn.oF PvIn.all;rw [<- Xm.out,<- Ug.out,<- HCH.out,<- Nw.out.1,<- Nw.out.2.1,<- Nw.out.2.2]
 have hqn:L.queries <= L.n:=by have:=Lv.nk;have:=Lv.k;omega
 have Wm:=zH (show pos.length=L.queries by rw [<- Sp];exact eZ _ _ _ _ _ hqn)
 have HPT:=zH (show ∀ y∈pos,y<L.n by rw [<- Sp];exact V4 _ _ _ _ _ hqn)
 have HPOS:=zH Kl;dsimp only at hpo
 rw [Sp,hoe] at hpo;have Sr:=zH hpo;unfold Db Ld at Sr;dsimp only at Sr
 obtain ⟨-,-,-,kl,-,-,-⟩:=yg (Td Xj.out (ik M15.out fun b h=>(yl.out b h).2))
 have cl:=kl.cell;have c9:=zQ.out.cell;have cP:=KPq.out.cell;clear hpo Sp hoe Kl q1 q2 q3 SE vY kl Lv;go_wp2_with fail
 refine Sr.out.mono ?_;rintro _ w16 ⟨gr,dr,F4,rfl,h16,sy,dP,nr16⟩;clear cl c9 cP Sr;have LM:=zH (show ∀ b,Gr.1.size <= b -> ¬F3 b from fun b hb e=>by have:=HF3L.out b e;omega)
 have kb:=KPq.out.moved sy nP3;have kT:=SM.out.moved sy nT3;have nP4:¬F4 gP:=fe sy KPq.out.lt nP3;have TR16:=zH (Td TRf.out (ik sy HT3.out));have O1:=zH (AF o1f sy fun b hb=>LM.out b (o1f.lt b hb).1)
 have O2:=zH (AF o2f sy fun b hb=>LM.out b (o2f.lt b hb).1)
 have O3:=zH (AF o3f sy fun b hb=>LM.out b (o3f.lt b hb).1)
 have N1:=zH (show ∀ b,Gr.1.size <= b -> b<IA.1.size -> ¬F4 b from fun b h1 h2=>fe sy h2 (LM.out b h1))
 have L1:=zH (show (∀ b,(ve P1 L.k p1).ownBlock=vE b -> Gr.1.size <= b /\ b<IA.1.size) /\ (∀ b,(ve P2 (L.k+L.block-1) p2).ownBlock=vE b -> Gr.1.size <= b /\ b<IA.1.size) /\ ∀ b,(ve P3 (2*L.k-1) p3).ownBlock=vE b -> Gr.1.size <= b /\ b<IA.1.size from ⟨o1f.lt,o2f.lt,o3f.lt⟩)
 have H16:=zH h16;have M16:=zH (M15.out.trans sy);have KT:=zH kT;have AY:=Y2 dP;have hP15:gP<IA.1.size:=KPq.out.lt;have h15s:IA.1.size <= w16.1.size:=sy.size;have h715:w7.1.size <= IA.1.size:=M15.out.size;have hT15:gT<IA.1.size:=SM.out.lt;have lgr:gr<w16.1.size:=(dP.lt gr rfl).2;have hgr15:IA.1.size <= gr:=(dP.lt gr rfl).1;have HR16:=zH AY;clear h16 sy dP AY H15 M15 SM zQ KPq TRf o1f o2f o3f nr16 kT;obtain ⟨N,hN⟩:=zEX (w16.1.size);have aO:gP<N:=by omega
 have hN5:N <= w16.1.size:=by omega
 have tu:w16.1.size <= N:=by omega
 have HQ64:=zH (show L.queries <= 64 from pq.out.q2)
 clear hN;have HPa:=zH (fun (u:vw) (z:Nat) (h:mg u [ve AT nT cT] tr) (hz:z<2^x.dd)=>zEd h HTO.out hz HTL.out)
 go_upto_region 18 with fail
 go_loopw [122] (fun y wr=>∃ (i:Nat) (xs:Nat -> vx) (nn:Nat -> Nat) (vs:Nat -> List vx),i <= L.queries /\ y=vd vq i /\ Blk wr gP 46 #[vd vn rt,ve P1 L.k p1,ve P2 (L.k+L.block-1) p2,ve P3 (2*L.k-1) p3,xs 0,xs 1,xs 2] /\ OwnF N wr (i+3) tyF xs nn vs /\ Hid (InvP pos x.cols x.l4 (fun z=>lh tr z) x.dd w6.1.size w7 i xs nn vs) /\ fo gP N w16 wr /\ N <= wr.1.size) (fun y _=>L.queries-(intOf y).toNat)
 case atStart =>
  refine ⟨0,fun _=>ve vD 0 0,fun _=>0,fun _=>[],Lb _,rfl,kb,⟨fun j _=>⟨rfl, .inl ⟨rfl,rfl⟩⟩,fun j i _ _ _ q h=>nomatch h⟩,zH ⟨rfl,rfl,rfl,rfl,zDn _ _,rfl,fun k hk=>absurd hk (by omega)⟩,(Yb _ _).refl _,hN5⟩
 case round =>
  clear kb;obtain ⟨i,xs,nn,vs,hi,rfl,kb,Bd,HI,tc,Ji⟩:=hrel;have AW:=zH (uk Xj.out (TD (ik M16.out fun b h=>(yl.out b h).2) (aW tc fun b h=>by have:=(yl.out b h).1;omega)))
  by_cases ra:i<L.queries
  ·have g1:(0:Int)<=i:=by omega
   have g2:(i:Int)<L.queries:=by omega
   have Wb:=zH ra;obtain ⟨z,hz⟩:∃ z:Nat,z=pos.getD i 0:=⟨_,rfl⟩;have hzn:z<L.n:=by rw [hz];exact HPT.out _ (Js 0 (by rw [Wm.out];exact ra))
   obtain ⟨b0,q0,e0,lb0,xg⟩:=Cy HR16.out (by omega)
   have a0:w16.cell? ⟨b0,q0+i,vD⟩=vE (vd vq z):=by rw [xg i ra,hz];exact UT (by rw [Wm.out];exact ra)
   have rL:gr=b0:=by injection e0 with e0;injection e0 with e1
   have Nv:0=q0:=by injection e0 with e0;injection e0 with e1 e2
   subst rL Nv;rw [Mk] at a0;have PG:wr.cell? ⟨gr,i,vD⟩=vE (vd vq z):=(bE (tc.2.2.2.2 gr (by omega) (by omega))).trans a0
   have lgr':gr<wr.1.size:=by omega
   obtain ⟨aR,-,kc,-,-,-,-⟩:=AW.out;have cc:=kc.cell;have lc:=kc.lt;obtain ⟨bC,qC,B1,Xp,Fp,eC,Qj,Mq,hcC,BY⟩:=I6 HCX.out (show z<x.cols.length by rw [x.cols_len,<- Ug.out];exact hzn)
   have hcC':wr.cell? ⟨bC,qC+z,vD⟩=vE (ve B1 Xp Fp):=(bE ((tc.2.2.2.2 bC (by omega) (by omega)).trans (M16.out.block bC Mq (NF.out bC (by omega))))).trans hcC
   have lbC:bC<wr.1.size:=by omega
   have hbC1:bC<N:=by omega
   have hbC2:bC≠N:=by omega
   have Tv:(z:Int)<nC:=by have:=(zj HCX.out.here).1;rw [x.cols_len,<- Ug.out] at this;omega
   have sj:(0:Int)<=z:=by omega
   obtain ⟨hl4n,-,-,-,hr4⟩:=Qb (rq.out _ aR);have SS:=hr4;rw [hl4n] at SS;obtain ⟨bS,qS,eS,lbS,hcS⟩:=Ie SS (show z<x.l4.length by rw [po.out.1];exact hzn)
   obtain ⟨sz,XS⟩:∃ sz,sz=x.l4.getD z 0:=⟨_,rfl⟩;have hcS':wr.cell? ⟨bS,qS+z,vD⟩=vE (vd vn sz):=by rw [XS];exact hcS
   have hzs:(z:Int)<n4:=by have:=po.out.1;omega
   obtain ⟨b7,q7,e7,lb7,-⟩:=Ie (show Rd w7 1 A4 x.l4.length (Ia x.l4) from by have a7:=Qb (rq.out _ (yg Xj.out).1);have h7:=a7.2.2.2.2;rw [a7.1] at h7;exact h7) (show z<x.l4.length by rw [po.out.1];exact hzn)
   have lbS7:bS<w7.1.size:=by rw [eS] at e7;injection e7 with e7;injection e7 with e8;omega
   have CS16:=zH (show w16.cell? ⟨bS,qS+z,vD⟩=vE (vd vn sz) from (bE (tc.2.2.2.2 bS (by omega) (by omega))).symm.trans hcS')
   have CC16:=zH (show ∀ j,w16.cell? ⟨w.1.size+1+1,j,vD⟩=_ from fun j=>(bE (tc.2.2.2.2 (w.1.size+1+1) (by omega) (by omega))).symm.trans (cc j))
   have GK:=zH (show Gi w6.1.size vD w7 (ve B1 Xp Fp) (x.cols.getD z []) from fun u hu=>by rw [Jb,oc (show z<x.cols.length by rw [x.cols_len,<- Ug.out];exact hzn)];exact BY u fun b h1 h2=>hu b h1 h2 fun e=>by cases e)
   have HZ:=zH hz;have HSZ:=zH XS;have HZN:=zH hzn;have hcnt:nn 0 <= 64 /\ nn 1 <= 64 /\ nn 2 <= 64:=by have h0:=HI.out.n0;have h1:=HI.out.n1;have h2:=HI.out.n2;have:=HQ64.out;omega
   obtain ⟨gn0,gn1,gn2⟩:=hcnt;subst eC eS;clear hcS' e7 cc lc BY hcC hcS hr4 SS hl4n xg e0 a0 aR hz XS ra kc hzn hi;have hgb1:gP≠N:=by omega
   have hgb2:w.1.size+1+1<N:=by omega
   have hgb3:w.1.size+1+1≠N:=by omega
   have hgb4:gT<N:=by omega
   have hgb5:gT≠N:=by omega
   have cb:=kb.cell;have lb:=kb.lt;obtain ⟨Ax,cx,Sv,-⟩:=ud (Bd.own 0 (by omega))
   have my:xs 0=ve Ax (nn 0) cx:=Sv;rw [my] at kb;have zl:=zH my;clear Sv my cb;have cb:=kb.cell;go_upto_region 20 with fail
   refine JA (fo N N) [6,7,9] [9] [0,1,2,3,4,5,6,7,8,9] (by kernel_rfl) (by kernel_rfl) ?_
   refine LA (Yb N N) ?_;intro Wc Ha ea;have Ja:=Tf Ha;have jc:N <= Wc.1.size:=by have:=Ja.size;omega
   replace kb:=ia kb Ja;replace Bd:=Bd.below Ja;replace tc:=(Yb gP N).trans _ _ _ tc (Ii Ja Ji);clear Ha Ja;refine Fk ?_;refine Ui (Yb N N) rfl rfl rfl ?_;go_simp;have ja:=(za Wc.1.size Wc).alloc zR (.cells #[ve B1 Xp Fp] 28);have xh:=Ku Wc (ve B1 Xp Fp) 28;refine ⟨fun _=>Ii ja jc,?_⟩
   replace kb:=ia kb ja;replace Bd:=Bd.below ja;replace tc:=(Yb gP N).trans _ _ _ tc (Ii ja jc);have Og:=jb jc ja.size
   refine zPU ?_
   generalize Wc.alloc _=wa at kb Bd tc xh Og |-;generalize Wc.1.size=g6 at xh |-;clear ja jc ea cb;have ea:=(Yb N N).refl wa;have xa:wa.ownsRow N 28 1 (ve Ax (nn 0) cx) (nn 0) (vs 0):=by rw [<- zl.out];exact Bd.own 0 (by omega)
   refine Fk ?_;refine Ui (Yb N N) rfl rfl rfl ?_;refine Ew _ _ rfl Ex rfl xa rfl xh (by intro u hu;simp at hu;subst hu;rfl) (by omega) Og ?_
   intro v' wn Kb Va Zb;obtain ⟨AwA,cwA,rfl,-⟩:=ud Kb;have Jd:∀ q,(ve Ax (nn 0) cx).ownBlock=vE q -> N <= q:=fun q e=>(xa.lt q e).1
   refine ⟨fun _=>Hx Va Og Jd,?_⟩
   replace kb:=kb.grown Va (fun e=>by have:=Jd _ e.symm;omega)
   replace Bd:=Bd.app (k:=0) (by omega) Kb (show wa.grownBy wn (xs 0).ownBlock by rw [zl.out];exact Va) (show _=(xs 0).ownBlock \/ _ by rw [zl.out];exact Zb)
   replace tc:=(Yb gP N).trans _ _ _ tc (Hx Va Og Jd);have Jg:=jb Og Va.size;clear xa Va Zb Jd Og xh ea Kb zl;have ea:=(Yb N N).refl wn;have cb:=kb.cell;have fb:=kb.frozen;have lb:=kb.lt
   refine zPU ?_
   refine Fk ?_;refine Ui (Yb N N) rfl rfl rfl ?_;go_simp;refine ⟨fun h=>Bool.noConfusion h,?_⟩
   have Xa:=Bj (w:=wn) gP 4 (ve AwA (nn 0+1) cwA);replace kb:=kb.set_ 4 (ve AwA (nn 0+1) cwA);simp only [Ba,Fa,Da] at kb;replace Bd:=Bd.stay Xa aO;replace tc:=(Yb gP N).trans _ _ _ tc (gH Xa Jg);replace Jg:=jb Jg Xa.size;clear Xa cb fb ea;generalize wn.setCell _ _=wz1 at kb Bd tc Jg |-;have ea:=(Yb N N).refl wz1;refine Fk ?_;refine KA ?_;clear ea;have Ji:=Jg;clear Jg;have cb:=kb.cell;have lb:=kb.lt;clear hcC' PG;have hold:∀ j e,j<N -> j≠gP -> wz1.cell? ⟨j,e,vD⟩=w16.cell? ⟨j,e,vD⟩:=fun j e h1 h2=>bE (tc.2.2.2.2 j h1 h2)
   have ccz:=fun j=>(hold (w.1.size+1+1) j (by omega) (by omega)).trans (CC16.out j)
   have csz:=(hold bS (qS+z) (by omega) (by omega)).trans CS16.out
   have US:bS<N:=by omega
   have hs2':bS≠N:=by omega
   have hs3':bS<wz1.1.size:=by omega
   have hs4':w.1.size+1+1<wz1.1.size:=by omega
   clear hold;obtain ⟨Ax,cx,Sv,-⟩:=ud (Bd.own 1 (by omega))
   have my:xs 1=ve Ax (nn 1) cx:=Sv;rw [my] at kb;have zl:=zH my;clear Sv my cb;have cb:=kb.cell;go_upto_region 21 with fail
   refine JA (fo N N) [7,8,10] [10] [0,1,2,3,4,5,6,7,8,9,10] (by kernel_rfl) (by kernel_rfl) ?_
   refine LA (Yb N N) ?_;intro Wc Ha ea;have Ja:=Tf Ha;have jc:N <= Wc.1.size:=by have:=Ja.size;omega
   replace kb:=ia kb Ja;replace Bd:=Bd.below Ja;replace tc:=(Yb gP N).trans _ _ _ tc (Ii Ja Ji);clear Ha Ja;refine Fk ?_;refine Ui (Yb N N) rfl rfl rfl ?_;go_simp;have ja:=(za Wc.1.size Wc).alloc zR (.cells #[vd vn sz] 22);have xh:=Ku Wc (vd vn sz) 22;refine ⟨fun _=>Ii ja jc,?_⟩
   replace kb:=ia kb ja;replace Bd:=Bd.below ja;replace tc:=(Yb gP N).trans _ _ _ tc (Ii ja jc);have Og:=jb jc ja.size
   refine zPU ?_
   generalize Wc.alloc _=wa at kb Bd tc xh Og |-;generalize Wc.1.size=g6 at xh |-;clear ja jc ea cb;have ea:=(Yb N N).refl wa;have xa:wa.ownsRow N 22 1 (ve Ax (nn 1) cx) (nn 1) (vs 1):=by rw [<- zl.out];exact Bd.own 1 (by omega)
   refine Fk ?_;refine Ui (Yb N N) rfl rfl rfl ?_;refine Ew _ _ rfl Hp rfl xa rfl xh (by intro u hu;simp at hu;subst hu;rfl) (by omega) Og ?_
   intro v' wn Kb Va Zb;obtain ⟨AwB,cwB,rfl,-⟩:=ud Kb;have Jd:∀ q,(ve Ax (nn 1) cx).ownBlock=vE q -> N <= q:=fun q e=>(xa.lt q e).1
   refine ⟨fun _=>Hx Va Og Jd,?_⟩
   replace kb:=kb.grown Va (fun e=>by have:=Jd _ e.symm;omega)
   replace Bd:=Bd.app (k:=1) (by omega) Kb (show wa.grownBy wn (xs 1).ownBlock by rw [zl.out];exact Va) (show _=(xs 1).ownBlock \/ _ by rw [zl.out];exact Zb)
   replace tc:=(Yb gP N).trans _ _ _ tc (Hx Va Og Jd);have Jg:=jb Og Va.size;clear xa Va Zb Jd Og xh ea Kb zl;have ea:=(Yb N N).refl wn;have cb:=kb.cell;have fb:=kb.frozen;have lb:=kb.lt
   refine zPU ?_
   refine Fk ?_;refine Ui (Yb N N) rfl rfl rfl ?_;go_simp;refine ⟨fun h=>Bool.noConfusion h,?_⟩
   have Xa:=Bj (w:=wn) gP 5 (ve AwB (nn 1+1) cwB);replace kb:=kb.set_ 5 (ve AwB (nn 1+1) cwB);simp only [Ba,Fa,Da] at kb;replace Bd:=Bd.stay Xa aO;replace tc:=(Yb gP N).trans _ _ _ tc (gH Xa Jg);replace Jg:=jb Jg Xa.size;clear Xa cb fb ea;generalize wn.setCell _ _=wz2 at kb Bd tc Jg |-;have ea:=(Yb N N).refl wz2;refine Fk ?_;refine KA ?_;clear ea;have Ji:=Jg;clear Jg;have cb:=kb.cell;have lb:=kb.lt;clear ccz csz hs3' hs4';have hold:∀ j e,j<N -> j≠gP -> wz2.cell? ⟨j,e,vD⟩=w16.cell? ⟨j,e,vD⟩:=fun j e h1 h2=>bE (tc.2.2.2.2 j h1 h2)
   have ctz:=fun j=>(hold gT j (by omega) (by omega)).trans (KT.out.cell j)
   have hs5':gT<wz2.1.size:=by omega
   clear hold;obtain ⟨Ax,cx,Sv,-⟩:=ud (Bd.own 2 (by omega))
   have my:xs 2=ve Ax (nn 2) cx:=Sv;rw [my] at kb;have zl:=zH my;clear Sv my cb;have cb:=kb.cell;go_upto_region 22 with fail
   refine JA (fo N N) [4,5,6,8] [8] [0,1,2,3,4,5,6,7,8] (by kernel_rfl) (by kernel_rfl) ?_
   refine LA (Yb N N) ?_;intro Wc Ha ea;have Ja:=Tf Ha;have jc:N <= Wc.1.size:=by have:=Ja.size;omega
   replace kb:=ia kb Ja;replace Bd:=Bd.below Ja;replace tc:=(Yb gP N).trans _ _ _ tc (Ii Ja Ji);clear Ha Ja;refine Fk ?_;have Yz:=uk TR16.out (aW tc fun b h=>by have:=sG.out b h;omega)
   have hN0':=jc;refine Gt (Yb N N) rfl rfl rfl (fun _=>by go_simp <;> rfl) ((HPa.out _ z Yz (by rw [<- Py.out.1];exact HZN.out)).mono ?_)
   rintro e wY ⟨vp,rfl,op,ta⟩;refine ⟨_,rfl,fun _=>Ii ta jc,?_⟩
   replace ea:=(Yb N N).trans _ _ _ ea (Ii ta jc);refine zPU ?_;replace kb:=ia kb ta;replace Bd:=Bd.new (x:=vp) ta op jc;replace tc:=(Yb gP N).trans _ _ _ tc (Ii ta jc);replace jc:=jb jc ta.size;obtain ⟨Ap,cp,rfl,-⟩:=ud op;clear ta op Yz hN0';refine Fk ?_;refine Ui (Yb N N) rfl rfl rfl ?_;go_simp;have ja:=(za wY.1.size wY).alloc zR (.cells #[ve Ap x.dd cp] 28);have xh:=Ku wY (ve Ap x.dd cp) 28;refine ⟨fun _=>Ii ja jc,?_⟩
   replace kb:=ia kb ja;replace Bd:=Bd.below ja;replace tc:=(Yb gP N).trans _ _ _ tc (Ii ja jc);have Og:=jb jc ja.size
   refine zPU ?_
   generalize wY.alloc _=wa at kb Bd tc xh Og |-;generalize wY.1.size=g6 at xh |-;clear ja jc ea cb;have ea:=(Yb N N).refl wa;have xa:wa.ownsRow N 28 1 (ve Ax (nn 2) cx) (nn 2) (vs 2):=by rw [<- zl.out];exact Bd.own 2 (by omega)
   refine Fk ?_;refine Ui (Yb N N) rfl rfl rfl ?_;refine Ew _ _ rfl Ex rfl xa rfl xh (by intro u hu;simp at hu;subst hu;rfl) (by omega) Og ?_
   intro v' wn Kb Va Zb;obtain ⟨AwC,cwC,rfl,-⟩:=ud Kb;have Jd:∀ q,(ve Ax (nn 2) cx).ownBlock=vE q -> N <= q:=fun q e=>(xa.lt q e).1
   refine ⟨fun _=>Hx Va Og Jd,?_⟩
   replace kb:=kb.grown Va (fun e=>by have:=Jd _ e.symm;omega)
   replace Bd:=Bd.app (k:=2) (by omega) Kb (show wa.grownBy wn (xs 2).ownBlock by rw [zl.out];exact Va) (show _=(xs 2).ownBlock \/ _ by rw [zl.out];exact Zb)
   replace tc:=(Yb gP N).trans _ _ _ tc (Hx Va Og Jd);have Jg:=jb Og Va.size;clear xa Va Zb Jd Og xh ea Kb zl;have ea:=(Yb N N).refl wn;have cb:=kb.cell;have fb:=kb.frozen;have lb:=kb.lt
   refine zPU ?_
   refine Fk ?_;refine Ui (Yb N N) rfl rfl rfl ?_;go_simp;refine ⟨fun h=>Bool.noConfusion h,?_⟩
   have Xa:=Bj (w:=wn) gP 6 (ve AwC (nn 2+1) cwC);replace kb:=kb.set_ 6 (ve AwC (nn 2+1) cwC);simp only [Ba,Fa,Da] at kb;replace Bd:=Bd.stay Xa aO;replace tc:=(Yb gP N).trans _ _ _ tc (gH Xa Jg);replace Jg:=jb Jg Xa.size;clear Xa cb fb ea;generalize wn.setCell _ _=wz3 at kb Bd tc Jg |-;have ea:=(Yb N N).refl wz3;refine Fk ?_;refine KA ?_;clear ea;have Ji:=Jg;clear Jg;have cb:=kb.cell;have lb:=kb.lt;clear ctz hs5' cb;have VA:=zH (HI.out.step (by rw [Wm.out];exact Wb.out) HZ.out (a:=ve AwA (nn 0+1) cwA) (b:=ve AwB (nn 1+1) cwB) (c:=ve AwC (nn 2+1) cwC) (p:=ve Ap x.dd cp) GK.out HSZ.out)
   have kbn:Blk wz3 gP 46 #[vd vn rt,ve P1 L.k p1,ve P2 (L.k+L.block-1) p2,ve P3 (2*L.k-1) p3,Od (Od (Od (Od xs 0 (ve AwA (nn 0+1) cwA)) 1 (ve AwB (nn 1+1) cwB)) (i+3) (ve Ap x.dd cp)) 2 (ve AwC (nn 2+1) cwC) 0,Od (Od (Od (Od xs 0 (ve AwA (nn 0+1) cwA)) 1 (ve AwB (nn 1+1) cwB)) (i+3) (ve Ap x.dd cp)) 2 (ve AwC (nn 2+1) cwC) 1,Od (Od (Od (Od xs 0 (ve AwA (nn 0+1) cwA)) 1 (ve AwB (nn 1+1) cwB)) (i+3) (ve Ap x.dd cp)) 2 (ve AwC (nn 2+1) cwC) 2]:=by
    rw [Wj _ _ (show (0:Nat)≠2 by omega),Wj _ _ (show (0:Nat)≠i+3 by omega),Wj _ _ (show (0:Nat)≠1 by omega),Mu,Wj _ _ (show (1:Nat)≠2 by omega),Wj _ _ (show (1:Nat)≠i+3 by omega),Mu,Mu]
    exact kb
   rw [show i+3+1=i+1+3 by omega] at Bd
   have HOF:=zH Bd;have KBN:=zH kbn;have HWI:=zH (show wrap64 ((i:Int)+1)=((i+1:Nat):Int) by unfold wrap64;have:=HQ64.out;have:=Wb.out;omega)
   clear Bd kbn kb;go_wp2
   go_roundw
   case rel=>exact ⟨i+1,_,_,_,Wb.out,by rw [HWI.out],KBN.out,HOF.out,VA,tc,Ji⟩
   case measure =>
    have h1:=Wb.out;have e:=HWI.out
    try dsimp only
    rw [e];exact zCQ h1
  ·obtain rfl:i=L.queries:=by omega
   obtain ⟨-,-,-,-,kr,-,-⟩:=AW.out;obtain ⟨Ac,ca,e0,-⟩:=ud (Bd.own 0 (by omega))
   obtain ⟨As,cs,e1,-⟩:=ud (Bd.own 1 (by omega))
   obtain ⟨Ap,cp,e2,-⟩:=ud (Bd.own 2 (by omega))
   have f0:xs 0=ve Ac L.queries ca:=by rw [e0,HI.out.n0]
   have f1:xs 1=ve As L.queries cs:=by rw [e1,HI.out.n1]
   have f2:xs 2=ve Ap L.queries cp:=by rw [e2,HI.out.n2]
   rw [f0,f1,f2] at kb;have E0:=zH (And.intro f0 (And.intro f1 f2));clear e0 e1 e2 f0 f1 f2 ra hi;have KF:=zH (store7 kr (vd vn rt) (ve P1 L.k p1) (ve P2 (L.k+L.block-1) p2) (ve P3 (2*L.k-1) p3) (ve Ac L.queries ca) (ve As L.queries cs) (ve Ap L.queries cp));have HOF:=zH Bd;have HFX:=zH tc;have HN0:=zH Ji;have hB13:w.1.size+3<Gr.1.size:=by omega
   have PVR:=zH (fun u hU hV hW hus=>zEI (w7:=w7) (w16:=w16) (wr:=wr) (u:=u) (F4:=F4) (gP:=gP) (N:=N) (R:=w.1.size+3) (B0:=w.1.size) (B6:=w6.1.size) (B13:=Gr.1.size) (B15:=IA.1.size) (x:=x) (O:=O) (tr:=tr) (pos:=pos) hU hV hW hus (by omega) hB13 zL (by omega) h36 hw67 (by omega) N1.out O1.out O2.out O3.out L1.out tl.out fp.out Ny.out (by rw [<- HCH.out];exact Nw.out.1) (by rw [<- HCH.out];exact Nw.out.2.1) (by rw [<- HCH.out];exact Nw.out.2.2) HOF.out HI.out Wm.out HPOS.out HTR.out E0.out.1 E0.out.2.1 E0.out.2.2 (by rw [<- HRT.out];exact Yw.out) po.out.2 (x.tree_lt O (by rw [<- Vg.out];exact VS.out)))
   have cr:=kr.cell;have fr:=kr.frozen;have cb:=kb.cell;clear kb kr Bd tc Ji AW;go_wp2;obtain ⟨wf,dc,kf,AH,BH,BE⟩:=KF.out;rw [dc];clear dc KF;clear cr fr cb;have cf:=kf.cell;have Rs:=zEH (R:=w.1.size+3) HB.out Nr.out.lt M16.out hN5 tu (by omega) aO (by omega) (by omega) HFX.out HN0.out AH BH BE H16.out.lt nP4
   have HFR:=zH Rs;clear Rs;refine ed (by simp [results,results17,go_sem,cf];rfl) rfl ⟨⟨P1,L.k,p1,P2,L.k+L.block-1,p2,P3,2*L.k-1,p3,Ac,L.queries,ca,As,L.queries,cs,Ap,L.queries,cp⟩,F4,?_,?_,?_,?_⟩
   ·rw [HRT.out];rfl
   ·exact H16.out.keep HFR.out.2.1 HFR.out.1
   ·exact HFR.out.2.2.1
   ·intro u a
    obtain ⟨hU,hV,hW,hus⟩:=HFR.out.2.2.2 u a;have Ma:=PVR.out u hU hV hW hus;exact Ma
theorem TK {p:Nat} {vars:Int} {ws:List Nat} (h:Gh p vars ws=true):(ws.length:Int)=vars /\ ws.getD 0 0=1 /\ (ws.all fun y=>decide (y<p))=true:=by
 unfold Gh at h;simp only [Cc,il,pk] at h;exact ⟨h.1.1.1,by have:=h.1.2;omega,h.2⟩
theorem oF_le (x:PvIn) (O:Ga) {k:Nat} (hn:x.L.n=2^x.dd) (h:Lc O k):Lc (x.oF O) (k+1+2*x.L.n+4+1+x.L.queries):=by
 have h1:Lc (x.t1 O).O (k+1):=Yp h 18 _;have h2:=x.o2_le O hn h1;have h3:Lc (x.t2 O).O (k+1+2*x.L.n+4):=aP h2 _ _ _;have h4:Lc (Yg (x.t2 O) 3 (x.all O)).O (k+1+2*x.L.n+4+1):=Yp h3 18 _;have h5:=YC (lab:=19) (Yi (Yg (x.t2 O) 3 (x.all O)).st 0 x.L.queries) h4;rw [yT] at h5;exact h5
theorem aY {l:List (List Nat)} {B:Nat} (h:∀ r∈l,r.length <= B):l.flatten.length <= l.length*B:=by
 induction l with
 | nil=>simp
 | cons a r ih =>
  have h1:=h a (.head _);have h2:=ih fun r hr=>h r (.tail _ hr)
  simp only [List.flatten_cons,Kf,jf,Nat.succ_mul];omega
theorem zDh (x:PvIn) (O:Ga) (hL:Rb x.L) (hn:x.L.n=2^x.dd) (hd:x.dd <= 10) (hm:x.m.length <= 1000):(On (x.pr O)).length <= 1000000:=by
 have b1:=hL.nk;have b2:=hL.k;have b3:=hL.q2;have b4:=hL.b2;have hq:(x.pos O).length=x.L.queries:=BT _ _ _ _ (by omega)
 have h1:((x.pos O).map fun i=>x.cols.getD i []).flatten.length <= ((x.pos O).map fun i=>x.cols.getD i []).length*1003:=aY fun r hr=>by
  obtain ⟨i,-,rfl⟩:=ld.1 hr;by_cases hi:i<x.cols.length
  ·rw [x.cols_row _ (Js [] hi)]
   omega
  ·rw [Jb,Xr (by omega)]
   simp
 have h2:((x.pos O).map fun i=>lh (x.tree O) i).flatten.length <= ((x.pos O).map fun i=>lh (x.tree O) i).length*100:=aY fun r hr=>by
  obtain ⟨i,-,rfl⟩:=ld.1 hr;have hs:(x.tree O).length=x.dd+1:=(zM _ _ _ (by rw [Xv,MC,x.cols_len,hn])).1
  rw [YJ,fk,nm];omega
 rw [fk,hq] at h1 h2;have h3:∀ al,(x.code al).length=x.L.k:=fun al=>by simp [PvIn.code]
 have h4:∀ rh,(x.lin rh).length=x.L.k+x.L.block-1:=fun rh=>by simp [PvIn.lin]
 have h5:∀ be,(x.quad be).length=2*x.L.k-1:=fun be=>by simp [PvIn.quad]
 show ([x.root O]++x.code (x.ch O).al++x.lin (x.ch O).rh++x.quad (x.ch O).be++((x.pos O).map fun i=>x.cols.getD i []).flatten++((x.pos O).map fun i=>x.l4.getD i 0)++((x.pos O).map fun i=>lh (x.tree O) i).flatten).length <= 1000000
 simp only [Kf,jf,List.length_nil,h3,h4,h5];rw [fk,hq];omega
theorem qY {K:Nat -> Prop} {w:vw} {A:Option vy} {n c:Nat} {l:List Nat} (h:Hd K w fun u=>RWd u [ve A n c] l) {i:Nat} (hi:i<l.length):n=l.length /\ ∃ b q,A=vE ⟨b,q,vD⟩ /\ K b /\ b<w.1.size /\ w.cell? ⟨b,q+i,vD⟩=vE (vd vn ((l.getD i 0:Nat):Int)):=by
 obtain ⟨hn,-,-,-,hr⟩:=Qb (yg h);rw [hn] at hr;obtain ⟨b,q,rfl,hb,hc⟩:=Ie hr hi;refine ⟨hn,b,q,rfl,RI fun hK=>?_,hb,hc⟩
 obtain ⟨LH,-,-,-,xk⟩:=Qb (h (GF w b) (RQ hK));rw [LH] at xk;obtain ⟨b',q',e,-,zn⟩:=Ie xk hi
 injection e with e
 injection e with e1 e2
 subst e1 e2;rw [UU hb] at zn;cases zn
theorem zC0 {L:Ra} {rows:List Ya} {ws:List Nat} {pu:Nat} (hp:0<L.p) (hw:∀ x∈ws,x<L.p):∀ x∈tj L rows ws pu,∀ y∈x,y<L.p:=fun x hx y hy=>by
 obtain ⟨j,hj,rfl⟩:=uo hy;have:=zC1 hp hw hx j
 rwa [Jb,oc hj] at this
theorem zFF {p:Nat} {rows:List Ya} {ws:List Nat} (h:qw p rows ws=true):∀ r∈rows,Mc p r.a ws*Mc p r.b ws%p=Mc p r.c ws:=fun r hr=>of_decide_eq_true (Xd.1 h r hr)
section
variable {L:Ra} {j pu coin:Nat} {vars:Int} {rows:List Ya} {ws:List Nat} {bl bw qs:Int} {O:Ga} {k:Nat}
end
theorem LO {V:Nat -> Prop} {w:vw} {x:Nat} (hx:V x) (i:Nat) (u:vx):Moved V V w (w.setCell ⟨x,i,vD⟩ u) :=
 ⟨rfl,rfl,rfl,by simp [vF],fun b _ hn=>Uf w _ u b (fun e=>hn (by subst e;exact hx)),fun _ h=>.inl h⟩
theorem set_lt {l:List Nat} {p i y:Nat} (h:∀ x∈l,x<p) (hy:y<p):∀ x∈l.set i y,x<p:=fun x hx=>(List.mem_or_eq_of_mem_set hx).elim (h x) fun e=>e ▸ hy
theorem zAg {w:vw} {g i:Nat} {t:vz} {l:List Nat} (k:Blk w g t (Ia l).toArray) (y:Nat):Blk (w.setCell ⟨g,i,vD⟩ (vd vn y)) g t (Ia (l.set i y)).toArray:=by
 have h:=k.set_ i (vd vn y)
 rwa [Ba,show (Ia l).set i (vd vn y)=Ia (l.set i y) by simp [Ia,List.map_set]] at h
def Nx28 (gl gt p XD n:Nat) (w w':vw):Prop:=∃ (l':List Nat) (Hi:Nat),l'.length=n /\ (∀ x∈l',x<p) /\ Hi <= XD+n /\ Blk w' gl 22 (Ia l').toArray /\ Blk w' gt 3 #[vd vq Hi] /\ Moved (fun b=>b=gl \/ b=gt) (fun b=>b=gl \/ b=gt) w w'
theorem zDb (gl ga gt:Nat) (l add:List Nat) (B:Option vy) (m d XD p:Nat) (w:vw) (kl:Blk w gl 22 (Ia l).toArray) (ka:Blk w ga 28 #[ve B m d]) (kt:Blk w gt 3 #[vd vq XD])
  (SN:Hd (fun b=>b≠gl /\ b≠gt) w fun u=>RWd u [ve B m d] add) (hl:∀ x∈l,x<p) (hp:0<p) (uc:p<18446744073709551616) (hn:l.length <= 100000) (ht:XD <= 1000000) (h1:gl≠ga) (h2:gl≠gt) (h3:ga≠gt) :
  vB prog 104 #[ve (vE ⟨gl,0,vD⟩) l.length l.length,vd vn p, .pointer (vE ⟨ga,0,vD⟩), .pointer (vE ⟨gt,0,vD⟩)] w fun e w'=>e=vl (.tuple #[]) /\ Nx28 gl gt p XD l.length w w':=by
 have hm:m=add.length:=(Qb (yg SN)).1;have yf:=(Qb (yg SN));have gmx:=Tl yf.2.1 yf.2.2.1;have HP:=zH hp;have Uw:=zH uc;obtain ⟨n,Ag⟩:=zEX (l.length);rw [<- Ag] at hn |-;have gn:(n:Int) <= 100000:=by omega
 have HADD:=zH SN;have HM:=zH hm;have HT:=zH ht;have HN:=zH hn;have DD:=zH (And.intro h1 (And.intro h2 h3));have Nf:((p:Int) == 0)=false:=by rw [pd];omega
 have Bi:=zH Ag;clear yf hm SN hp uc ht Ag;go_enter func104,ntmps104
 go_wp2_with fail
 go_loopw [9] (fun y wr=>∃ (i:Nat) (l':List Nat) (Hi:Nat),i <= n /\ y=vd vq i /\ l'.length=n /\ Hid (∀ x∈l',x<p) /\ Hi <= XD+i /\ Blk wr gl 22 (Ia l').toArray /\ Blk wr gt 3 #[vd vq Hi] /\ Moved (fun b=>b=gl \/ b=gt) (fun b=>b=gl \/ b=gt) w wr) (fun y _=>n-(intOf y).toNat)
 case atStart=>exact ⟨0,l,XD,Lb _,rfl,Bi.out.symm,zH hl,zR,kl,kt,Moved.refl⟩
 case round =>
  clear kl kt hl;obtain ⟨i,l',Hi,hi,rfl,Jl,HL,zm,kl,kt,Gd⟩:=hrel;have ka1:=ka.moved Gd (by intro e;have:=DD.out;omega)
  by_cases ra:i<n
  ·have Wb:=zH ra
   have g1:(0:Int)<=i:=by omega
   have g2:(i:Int)<n:=by omega
   have cl:=lN kl (show i<l'.length by omega)
   have ca:=ka1.cell;have ct:=kt.cell;have ll:=kl.lt;have la:=ka1.lt;have lt:=kt.lt;have Wg:=zH Gd;have rp:=zH Jl;have ql:=zH zm;by_cases RE:0<m
   ·have Ks:=Td HADD.out (ik Gd fun b hb=>by omega)
    obtain ⟨x,hx⟩:=zEX (l'.getD i 0);obtain ⟨z,hz⟩:=zEX (Hi%m);have hzm:z<m:=by rw [hz];exact ic _ RE
    obtain ⟨-,bB,qB,eB,kbB,lbB,SB⟩:=qY Ks (show z<add.length by rw [<- HM.out];exact hzm)
    obtain ⟨y,hy⟩:=zEX (add.getD z 0);have hx64:x<18446744073709551616:=by rw [hx];exact Eh (zv (p:=p) HP.out HL.out i) Uw.out
    have hy64:y<18446744073709551616:=by rw [hy];exact (Qb (yg Ks)).2.2.2.1 _ (Js 0 (by rw [<- HM.out];exact hzm))
    rw [<- hx] at cl;rw [<- hy] at SB;obtain ⟨x2,fh⟩:=zEX (x / 2);obtain ⟨y2,Au⟩:=zEX (y / 2);obtain ⟨s,hs⟩:=zEX (x2+y2);obtain ⟨r,hr⟩:=zEX (s%p);have VE:r<p:=by rw [hr];exact ic _ HP.out
    have e1:(x:Int).tdiv 2=(x2:Int):=by rw [yG (by omega)];omega
    have e2:vn.wrap (x2:Int)=x2:=by rw [Ei];omega
    have e3:(y:Int).tdiv 2=(y2:Int):=by rw [yG (by omega)];omega
    have e4:vn.wrap (y2:Int)=y2:=by rw [Ei];omega
    have e5:(x2:Int)+y2=(s:Int):=by omega
    have e6:vn.wrap (s:Int)=s:=by rw [Ei];omega
    have e7:(s:Int).tmod (p:Int)=r:=by rw [hr];rfl
    have e8:vn.wrap (r:Int)=r:=by rw [Ei];have:=Uw.out;omega
    have e9:(Hi:Int).tmod (m:Int)=z:=by rw [hz];rfl
    have eA:=Ce z;obtain ⟨yo,Ns⟩:=zEX (Hi+1);have eB1:(Hi:Int)+1=(yo:Int):=by omega
    have eB2:vq.wrap (yo:Int)=yo:=Vi _ (by omega) (by have:=HT.out;omega)
    obtain ⟨r1,-,-,-,Gn,Pz,Rp⟩:=S5 Hi m RE;rw [<- hz] at r1;obtain ⟨r4,-,-,-,Ed,hp3,hp4⟩:=S5 s p HP.out;rw [<- hr] at r4;have r6:(x:Int) / 2=(x2:Int):=by omega
    have r7:(y:Int) / 2=(y2:Int):=by omega
    have d1:(0:Int)<m:=by omega
    have g3:(0:Int)<=z:=by omega
    have g4:(z:Int)<m:=by omega
    have HR:=zH VE;have Qu:=zH Ns;subst eB;have nB:=zH kbB;clear hx hz hy fh Au hs hr VE hx64 hy64 Ks hzm RE Ns kbB Jl zm hi ra Gd;go_upto_region 4 with fail
    refine Ve (Tb) (pa) [19] [19] [0,1,2,3,4,5,6,7,8,9,10,11,12,13,14,15,16,17,18,19] (by kernel_rfl) (by kernel_rfl) ?_
    refine Xe (pa) ?_;intro Wc ea;refine kd ?_;refine Ti rfl rfl rfl rfl ?_;intro wh Bc;replace ea:=(pa).trans _ _ _ ea Bc;have Ub:=ma (za wr.1.size wr).drew ea;replace kl:=ia kl Ub;replace kt:=ia kt Ub;have HXD:=zH Ub;clear Ub ea Bc cl ca ct ll la lt SB lbB;have f2:=kl.frozen;have c2:=lN kl (show i<l'.length by rw [rp.out];exact Wb.out)
    go_simp;refine ⟨fun h=>Bool.noConfusion h,?_⟩
    have Xa:=LO (V:=fun b=>b=gl \/ b=gt) (w:=wh) (x:=gl) (.inl rfl) i (vd vn r)
    replace kl:=zAg (i:=i) kl r;replace kt:=kt.moved (LO (V:=fun b=>b=gl) (w:=wh) rfl i (vd vn r)) (fun e=>by have:=DD.out;omega)
    have Hk:=zH (set_lt (i:=i) HL.out HR.out);have HMZ:=zH (Wg.out.trans ((zd HXD.out).trans Xa));clear Xa f2 c2;generalize wh.setCell _ _=we at kl kt HMZ |-;refine Dj rfl ?_;have ct:=kt.cell;have ft:=kt.frozen;go_wp2;have HMY:=zH (HMZ.out.trans (LO (V:=fun b=>b=gl \/ b=gt) (w:=we) (x:=gt) (.inr rfl) 0 (vd vq yo)))
    have Wk:=zH (kl.moved (LO (V:=fun b=>b=gt) (w:=we) rfl 0 (vd vq yo)) (fun e=>by have:=DD.out;omega))
    have kt':=zH (kt.set_ 0 (vd vq yo));clear ct ft kl kt;generalize we.setCell _ _=wy at HMY Wk kt' |-
    go_roundw
    case rel=>exact ⟨i+1,l'.set i r,yo,Wb.out,by go_num,by rw [List.length_set];exact rp.out,Hk,by have:=Qu.out;have:=ql.out;omega,Wk.out,kt'.out,HMY.out⟩
    case measure=>have:=Wb.out;simp [intOf];omega
   ·have d1:¬((0:Int)<m):=by omega
    clear RE cl Jl zm hi ra Gd;go_wp2
    go_roundw
    case rel=>exact ⟨i+1,l',Hi,Wb.out,by go_num,rp.out,HL,by have:=ql.out;omega,kl,kt,Wg.out⟩
    case measure=>have:=Wb.out;simp [intOf];omega
  ·obtain rfl:i=n:=by omega
   have HF:=zH (show Nx28 gl gt p XD i w wr from ⟨l',Hi,Jl,HL.out,zm,kl,kt,Gd⟩)
   clear ra hi Jl zm kl kt Gd;go_wp2;exact bodyPost_end (v:=.tuple #[]) (by simp [results,results104,go_sem]) rfl ⟨rfl,HF.out⟩
structure NxS (M:Nat) (bk nn pp:Nat -> Nat) (gt:Nat) (wS:vw) (V:Nat -> Prop) (wr:vw) (ll:Nat -> List Nat) (Hi:Nat):Prop where
 l:∀ k,k<M -> Blk wr (bk k) 22 (Ia (ll k)).toArray /\ (ll k).length=nn k /\ ∀ x∈ll k,x<pp k
 a:Blk wr gt 3 #[vd vq Hi]
 m:Moved V V wS wr
structure NxF (M:Nat) (bk nn pp:Nat -> Nat) (ga gt:Nat) (wS:vw) (V:Nat -> Prop) (B:Option vy) (m d:Nat) (add:List Nat):Prop where
 inj:∀ i k,i<M -> k<M -> bk i=bk k -> i=k
 ne:∀ k,k<M -> bk k≠gt
 vb:∀ k,k<M -> V (bk k)
 vt:V gt
 va:¬V ga
 ka:Blk wS ga 28 #[ve B m d]
 rd:Hd (fun b=>¬V b) wS fun u=>RWd u [ve B m d] add
 p0:∀ k,k<M -> 0<pp k /\ pp k<18446744073709551616
 n0:∀ k,k<M -> nn k <= 100000
theorem UL {M:Nat} {bk nn pp:Nat -> Nat} {ga gt:Nat} {wS wr:vw} {V:Nat -> Prop} {B:Option vy} {m d:Nat} {add:List Nat} {ll:Nat -> List Nat} {Hi:Nat} (h:NxS M bk nn pp gt wS V wr ll Hi) (hF:NxF M bk nn pp ga gt wS V B m d add) (zm:Hi <= 1000000) {k:Nat} (hk:k<M) :
  vB prog 104 #[ve (vE ⟨bk k,0,vD⟩) (nn k) (nn k),vd vn (pp k:Int), .pointer (vE ⟨ga,0,vD⟩), .pointer (vE ⟨gt,0,vD⟩)] wr fun e w'=>e=vl (.tuple #[]) /\
   ∃ (l':Nat -> List Nat) (yo:Nat),yo <= Hi+nn k /\ NxS M bk nn pp gt wS V w' l' yo:=by
 obtain ⟨h1,h2,h3⟩:=h.l k hk;have hga:bk k≠ga:=fun e=>hF.va (e ▸ hF.vb k hk)
 have hgg:ga≠gt:=fun e=>hF.va (e ▸ hF.vt)
 have hsub:∀ b,b=bk k \/ b=gt -> V b:=fun b hb=>hb.elim (fun e=>e ▸ hF.vb k hk) fun e=>e ▸ hF.vt
 have hc:=zDb (bk k) ga gt (ll k) add B m d Hi (pp k) wr h1 (hF.ka.moved h.m hF.va) h.a (WN (Td hF.rd (ik h.m fun b hb=>hb)) fun b hb=>⟨fun e=>hb (e ▸ hF.vb k hk),fun e=>hb (e ▸ hF.vt)⟩) h3 (hF.p0 k hk).1 (hF.p0 k hk).2 (by rw [h2];exact hF.n0 k hk) zm hga (hF.ne k hk) hgg
 rw [h2] at hc;refine hc.mono ?_;rintro e w' ⟨rfl,l',yo,hl,ra,Ns,kb,kt,hm⟩;refine ⟨rfl,fun i=>if i=k then l' else ll i,yo,Ns,⟨fun i hi=>?_,kt,h.m.trans ⟨hm.os,hm.tape,hm.output,hm.size,fun b hb hn=>hm.block b hb fun e=>hn (hsub b e),fun b hb=>.inl hb⟩⟩⟩
 by_cases e:i=k
 ·subst e
  rw [Qa rfl];exact ⟨kb,hl,ra⟩
 ·rw [La e]
  obtain ⟨k1,k2,k3⟩:=h.l i hi;exact ⟨k1.moved hm (fun hb=>hb.elim (fun e'=>e (hF.inj i k hi hk e')) fun e'=>hF.ne i hi e'),k2,k3⟩
def ku (f:Nat -> Bool) (q:Nat):Nat -> Bool
 | 0=>true
 | r+1=>f (q-(r+1))&&ku f q r
theorem gX (f:Nat -> Bool) {q i:Nat} (h:i<q):ku f q (q-i)=(f i&&ku f q (q-(i+1))):=by
 rw [show q-i=(q-(i+1))+1 by omega,ku,show q-(q-(i+1)+1)=i by omega]
theorem zAx (f:Nat -> Bool) (q:Nat):ku f q (q-q)=true:=by rw [Nat.sub_self];rfl
theorem fX (f:Nat -> Bool) (q:Nat) (h:∀ i,i<q -> f i=true):∀ r,r <= q -> ku f q r=true
 | 0,_=>rfl
 | r+1,hr=>by
  rw [ku,h _ (by omega),fX f q h r (by omega)]
  rfl
def Gu (v:Ga -> Nat -> Bool) (o:Ga -> Nat -> Ga) (q:Nat):Nat -> Ga -> Bool × Ga
 | 0,O=>(true,O)
 | r+1,O=>if v O (q-(r+1)) then Gu v o q r (o O (q-(r+1))) else (false,o O (q-(r+1)))
theorem Z0 (v:Ga -> Nat -> Bool) (o:Ga -> Nat -> Ga) {q i:Nat} (h:i<q) (O:Ga):Gu v o q (q-i) O=if v O i then Gu v o q (q-(i+1)) (o O i) else (false,o O i):=by
 rw [show q-i=(q-(i+1))+1 by omega,Gu,show q-(q-(i+1)+1)=i by omega]
theorem zDr (v:Ga -> Nat -> Bool) (o:Ga -> Nat -> Ga) (q:Nat) (O:Ga):Gu v o q (q-q) O=(true,O):=by rw [Nat.sub_self];rfl
theorem Y0 {v:Ga -> Nat -> Bool} {o:Ga -> Nat -> Ga} {q:Nat} {Z:Ga} (h:∀ i,i<q -> v Z i=true /\ o Z i=Z):∀ r,r <= q -> Gu v o q r Z=(true,Z)
 | 0,_=>rfl
 | r+1,hr=>by
  have h1:=h (q-(r+1)) (by omega)
  rw [Gu,Qa h1.1,h1.2];exact Y0 h r (by omega)
def ss (O:Ga) (L:Ra) (j pu dg:Nat) (rows:List Ya) (pb:List Nat) (P:ProofR):Bool × Ga :=
 if Rn L j P then
  if RF L (Et L.p rows.length (Si (qe O L dg pb) L.p P.root).rh (1 :: pb) rows 3) P.code P.linear P.quad then
   if ku (fun i=>yB L (Xh L pu (Si (qe O L dg pb) L.p P.root).rh rows) (Si (qe O L dg pb) L.p P.root).al (Si (qe O L dg pb) L.p P.root).be P.code P.linear P.quad (((Zk (te (qe O L dg pb) P.root) (P.code++P.linear++P.quad) L.n L.queries).getD i 0:Nat):Int) (P.cols.getD i [])) L.queries L.queries then
    Gu (fun Z i=>FA Z P.root L.n ((Zk (te (qe O L dg pb) P.root) (P.code++P.linear++P.quad) L.n L.queries).getD i 0) (P.salts.getD i 0) (P.cols.getD i []) (P.paths.getD i []))
     (fun Z i=>Bw Z P.root L.n ((Zk (te (qe O L dg pb) P.root) (P.code++P.linear++P.quad) L.n L.queries).getD i 0) (P.salts.getD i 0) (P.cols.getD i []) (P.paths.getD i [])) L.queries L.queries
     (Cj (te (qe O L dg pb) P.root) (P.code++P.linear++P.quad) L.queries)
   else (false,Cj (te (qe O L dg pb) P.root) (P.code++P.linear++P.quad) L.queries)
  else (false,Cj (te (qe O L dg pb) P.root) (P.code++P.linear++P.quad) L.queries)
 else (false,O)
section
variable {x:PvIn} {O Z:Ga}
theorem PvIn.get_pr (h:x.Good) {i:Nat} (hi:i<x.L.queries):(x.pr O).cols.getD i []=x.cols.getD ((x.pos O).getD i 0) [] /\ (x.pr O).salts.getD i 0=x.l4.getD ((x.pos O).getD i 0) 0 /\ (x.pr O).paths.getD i []=lh (x.tree O) ((x.pos O).getD i 0) /\ (x.pos O).getD i 0<x.L.n:=by
 have hl:=PvIn.pos_len O h;have hh:i<(x.pos O).length:=by rw [hl];exact hi
 exact ⟨by simp [PvIn.pr,Jb,hh],by simp [PvIn.pr,Jb,hh],by simp [PvIn.pr,Jb,hh],PvIn.pos_lt O h _ (Js 0 hh)⟩
theorem PvIn.acc (h:x.Good) (ha:Wl (x.t1 O).O) (hm:∀ r∈x.m,∀ y∈r,y<x.L.p) (hZ:Ud (x.oF O) Z) :
  ss Z x.L x.dd x.pub x.dg x.rows x.pu (x.pr O)=(BF x.L (Et x.L.p x.rows.length (x.ch O).rh (1 :: x.pu) x.rows 3) (Xh x.L x.pub (x.ch O).rh x.rows) x.m (x.ch O).be,Z):=by
 unfold ss;have e1:Si (qe Z x.L x.dg x.pu) x.L.p (x.pr O).root=x.ch O:=PvIn.again_ch O hZ;have e2:Cj (te (qe Z x.L x.dg x.pu) (x.pr O).root) ((x.pr O).code++(x.pr O).linear++(x.pr O).quad) x.L.queries=Z:=PvIn.again_o O hZ;have e3:Zk (te (qe Z x.L x.dg x.pu) (x.pr O).root) ((x.pr O).code++(x.pr O).linear++(x.pr O).quad) x.L.n x.L.queries=x.pos O:=PvIn.again_pos O hZ;rw [PvIn.valid O h ha,Qa rfl,e1,e2,e3,show RF x.L (Et x.L.p x.rows.length (x.ch O).rh (1 :: x.pu) x.rows 3) (x.pr O).code (x.pr O).linear (x.pr O).quad=_ from PvIn.tests h hm _ _ _ _]
 cases BF x.L (Et x.L.p x.rows.length (x.ch O).rh (1 :: x.pu) x.rows 3) (Xh x.L x.pub (x.ch O).rh x.rows) x.m (x.ch O).be
 ·rfl
 ·rw [Qa rfl,Qa (fX _ _ (fun i hi=>?_) _ zR)]
  ·refine Y0 (fun i hi=>?_) _ zR
   obtain ⟨g1,g2,g3,g4⟩:=PvIn.get_pr (O:=O) h hi;rw [g1,g2,g3];exact PvIn.opens O h ha hZ g4
  ·obtain ⟨g1,-,-,g4⟩:=PvIn.get_pr (O:=O) h hi
   rw [g1];exact PvIn.fits h _ _ _ g4
end
structure RealF (O:Ga):Prop where
 fair:IM O
 real:O.ideal=false
structure CoR where
 r:List (List Nat)
 l1:List Nat
 l2:List Nat
 l3:List Nat
 l4:List Nat
def CoR.ok (C:CoR) (L:Ra):Bool:=Gs L C.r C.l1 C.l2 C.l3 C.l4
structure CoS where
 A0:Option vy
 n0:Nat
 c0:Nat
 A1:Option vy
 n1:Nat
 c1:Nat
 A2:Option vy
 n2:Nat
 c2:Nat
 A3:Option vy
 n3:Nat
 c3:Nat
 A4:Option vy
 n4:Nat
 c4:Nat
def eJ (S:CoS):Array vx:=#[ve S.A0 S.n0 S.c0,ve S.A1 S.n1 S.c1,ve S.A2 S.n2 S.c2,ve S.A3 S.n3 S.c3,ve S.A4 S.n4 S.c4]
structure OA (w:vw) (C:CoR) (S:CoS):Prop where
 r:mg w [ve S.A0 S.n0 S.c0] C.r
 l1:RWd w [ve S.A1 S.n1 S.c1] C.l1
 l2:RWd w [ve S.A2 S.n2 S.c2] C.l2
 l3:RWd w [ve S.A3 S.n3 S.c3] C.l3
 l4:RWd w [ve S.A4 S.n4 S.c4] C.l4
def mh (L:Ra) (j pu:Nat) (vars:Int) (rows:List Ya) (ws:List Nat) (C:CoR):PvIn :=
 ⟨L,j,pu,Xf L.p (pu:Int) vars rows,rows,ws,tj L rows ws pu,C.r,C.l1,C.l2,C.l3,C.l4⟩
def uw (L:Ra) (coin:Nat):CoR:=⟨tA L coin (L.a+L.b+L.b+L.b),yc L.p coin [1] L.k,yc L.p coin [2] (L.k+L.block-2),yc L.p coin [3] (L.block+2*L.queries-1),yc Za coin [4] L.n⟩
theorem uM {L:Ra} (hL:Rb L) (coin:Nat):(uw L coin).ok L=true:=eX L coin (by have:=Nb hL.p;omega)
theorem C5 (L:Ra) (j pu:Nat) (vars:Int) (rows:List Ya) (ws:List Nat) (C:CoR) (hL:Rb L) (hn:L.n=2^j) (hC:C.ok L=true):(mh L j pu vars rows ws C).Good:=by
 obtain ⟨Hv,Cn,Ad,Re,Lh⟩:=YK hC;exact ⟨hL,hn,pP hn hL.n2,⟨MO _ _ _ _,Hv.trans (MO _ _ _ _).symm,fun _ h=>FZ h,fun r h=>(Cn r h).1⟩,Ad,Re,Lh,nN hC⟩
theorem gU {w:vw} {g:Nat} {O:Ga} {F K:Nat -> Prop} (h:OrcAt w g O F) (L:Ra) (j pu:Nat) (C:CoR) (S:CoS) (vars:Int) (A B:Option vy) (n c m d:Nat) (rows:List Ya) (ws:List Nat) (bl bw qs:Int)
  (hL:Rb L) (hn:L.n=2^j) (uf:ak L ⟨L.p,(pu:Int),vars,rows.length,bl,bw,qs⟩) (ht:L.a+3*L.b <= 40) (hT:rB L.p (pu:Int) vars rows ws true) (hC:C.ok L=true)
  (hA:Hd K w fun u=>RSl 3 oe u [ve A n c] rows /\ RWd u [ve B m d] ws /\ OA u C S) (hK:∀ b,K b -> b<w.1.size /\ ¬F b) (hO:Lc O 1000) :
  vB prog 17 #[.pointer (vE ⟨g,0,vD⟩),sc L.p (pu:Int) vars (ve A n c),vf #[vd vq bl,vd vq bw,vd vq qs],ve B m d,vf (eJ S)] w fun e w' =>
   ∃ (S':PS) (F':Nat -> Prop),e=vl (.tuple #[vf (Ld ((mh L j pu vars rows ws C).pr O) S'),vd vq 0]) /\ OrcAt w' g ((mh L j pu vars rows ws C).oF O) F' /\ Moved F F' w w' /\ Hd (fun b=>w.1.size <= b /\ b<w'.1.size /\ ¬F' b) w' (fun u=>Gj u ((mh L j pu vars rows ws C).pr O) S'):=by
 obtain ⟨yk,Jn,Kn⟩:=TK hT.asg;exact zDZ h (mh L j pu vars rows ws C) vars A B S.A0 S.A1 S.A2 S.A3 S.A4 n c m d S.n0 S.c0 S.n1 S.c1 S.n2 S.c2 S.n3 S.c3 S.n4 S.c4 bl bw qs hL uf hn (pP hn hL.n2) hT.tab (YP hT.tab uf) (pV hT.tab) (lX hT.tab hT.small) rfl rfl _ hA hK (fun u a=>a.1) (fun u a=>a.2.1) (fun u a=>a.2.2.r) (fun u a=>a.2.2.l1) (fun u a=>a.2.2.l2) (fun u a=>a.2.2.l3) (fun u a=>a.2.2.l4) yk Jn Kn hT.sat hC hO (by show L.a+L.b+L.b+L.b <= 1000;omega)
section
variable {L:Ra} {j pu:Nat} {C:CoR} {vars:Int} {rows:List Ya} {ws:List Nat} {bl bw qs:Int} {O Z:Ga} {k:Nat}
theorem pass_x (hL:Rb L) (uf:ak L ⟨L.p,(pu:Int),vars,rows.length,bl,bw,qs⟩) (hT:rB L.p (pu:Int) vars rows ws true) (rh be:Nat) :
  BF L (Et L.p rows.length rh (1 :: (ws.drop 1).take pu) rows 3) (Xh L pu rh rows) (tj L rows ws pu) be=true:=by
 obtain ⟨yk,Jn,Kn⟩:=TK hT.asg;have hv:(pu:Int)<vars:=uf.vars;have Tz:ws.take (1+pu)=1 :: (ws.drop 1).take pu:=by
  cases ws with
  | nil=>simp at yk;omega
  | cons a r =>
   have e:a=1:=Jn;subst e;rw [Nat.add_comm,List.take_succ_cons]
   rfl
 exact zFD hL (YP hT.tab uf) (pV hT.tab) yk Tz (zFF hT.sat) be
theorem msgs_x (hL:Rb L) (hT:rB L.p (pu:Int) vars rows ws true):∀ r∈tj L rows ws pu,∀ y∈r,y<L.p:=by
 obtain ⟨-,-,Kn⟩:=TK hT.asg;exact zC0 (by have:=Nb hL.p;omega) fun y hy=>of_decide_eq_true (Xd.1 Kn y hy)
theorem acc_x (hL:Rb L) (hn:L.n=2^j) (uf:ak L ⟨L.p,(pu:Int),vars,rows.length,bl,bw,qs⟩) (hT:rB L.p (pu:Int) vars rows ws true) (hC:C.ok L=true) (hO:oB O k) (hZ:Ud ((mh L j pu vars rows ws C).oF O) Z) :
  ss Z L j pu (Xf L.p (pu:Int) vars rows) rows ((ws.drop 1).take pu) ((mh L j pu vars rows ws C).pr O)=(true,Z):=by
 have h:=PvIn.acc (x:=mh L j pu vars rows ws C) (O:=O) (Z:=Z) (C5 L j pu vars rows ws C hL hn hC) (zGb hO _ _ _).o.ans (msgs_x hL hT) hZ;exact h.trans (congrArg (fun b=>(b,Z)) (pass_x hL uf hT _ _))
end
def zo (T:Nat) (f:Nat -> Nat) (g1 g2 g3 g4 k:Nat):Nat:=if k<T then f k else if k=T then g1 else if k=T+1 then g2 else if k=T+2 then g3 else g4
def Yq (L:Ra) (T k:Nat):Nat:=if k<T then L.queries else if k=T then L.k else if k=T+1 then L.k+L.block-2 else if k=T+2 then L.block+2*L.queries-1 else L.n
def ZC (L:Ra) (T k:Nat):Nat:=if k<T+3 then L.p else Za
theorem ZD {T k:Nat} {f:Nat -> Nat} {g1 g2 g3 g4:Nat} (h:k<T):zo T f g1 g2 g3 g4 k=f k:=Qa h
theorem LG {T:Nat} {f:Nat -> Nat} {g1 g2 g3 g4:Nat}:zo T f g1 g2 g3 g4 T=g1:=by unfold zo;rw [La (by omega),Qa rfl]
theorem MG {T:Nat} {f:Nat -> Nat} {g1 g2 g3 g4:Nat}:zo T f g1 g2 g3 g4 (T+1)=g2:=by unfold zo;rw [La (by omega),La (by omega),Qa rfl]
theorem NG {T:Nat} {f:Nat -> Nat} {g1 g2 g3 g4:Nat}:zo T f g1 g2 g3 g4 (T+2)=g3:=by unfold zo;rw [La (by omega),La (by omega),La (by omega),Qa rfl]
theorem OG {T:Nat} {f:Nat -> Nat} {g1 g2 g3 g4:Nat}:zo T f g1 g2 g3 g4 (T+3)=g4:=by unfold zo;rw [La (by omega),La (by omega),La (by omega),La (by omega)]
theorem TL {L:Ra} {T k:Nat} (h:k<T):Yq L T k=L.queries:=Qa h
theorem TO {L:Ra} {T:Nat}:Yq L T T=L.k:=by unfold Yq;rw [La (by omega),Qa rfl]
theorem UO {L:Ra} {T:Nat}:Yq L T (T+1)=L.k+L.block-2:=by unfold Yq;rw [La (by omega),La (by omega),Qa rfl]
theorem VO {L:Ra} {T:Nat}:Yq L T (T+2)=L.block+2*L.queries-1:=by unfold Yq;rw [La (by omega),La (by omega),La (by omega),Qa rfl]
theorem WO {L:Ra} {T:Nat}:Yq L T (T+3)=L.n:=by unfold Yq;rw [La (by omega),La (by omega),La (by omega),La (by omega)]
theorem cq {L:Ra} {T k:Nat} (h:k<T+3):ZC L T k=L.p:=Qa h
theorem rP {L:Ra} {T:Nat}:ZC L T (T+3)=Za:=La (by omega)
theorem eL {l:List Nat} {n p:Nat} (hl:l.length=n) (h:∀ x∈l,x<p):Jh l n p=true:=by
 unfold Jh;rw [Cc];exact ⟨by simp [hl],Xd.2 fun x hx=>yb (h x hx)⟩
theorem nK {T k:Nat} (h:k<T+4):k<T \/ k=T \/ k=T+1 \/ k=T+2 \/ k=T+3:=by omega
def UG (T:Nat) (ll:Nat -> List Nat):CoR:=⟨(List.range T).map ll,ll T,ll (T+1),ll (T+2),ll (T+3)⟩
theorem coX_ok {L:Ra} {ll:Nat -> List Nat} (h:∀ k,k<L.a+L.b+L.b+L.b+4 -> (ll k).length=Yq L (L.a+L.b+L.b+L.b) k /\ ∀ x∈ll k,x<ZC L (L.a+L.b+L.b+L.b) k):(UG (L.a+L.b+L.b+L.b) ll).ok L=true:=by
 generalize hT:L.a+L.b+L.b+L.b=T at h;have h1:=h T (by omega)
 have h2:=h (T+1) (by omega)
 have h3:=h (T+2) (by omega)
 have h4:=h (T+3) (by omega)
 rw [TO,cq (by omega)] at h1
 rw [UO,cq (by omega)] at h2
 rw [VO,cq (by omega)] at h3
 rw [WO,rP] at h4;unfold CoR.ok Gs UG;simp only [Cc];refine ⟨by simp [hT],Xd.2 fun r hr=>?_,eL h1.1 h1.2,eL h2.1 h2.2,eL h3.1 h3.2,eL h4.1 h4.2⟩
 obtain ⟨k,hk,rfl⟩:=ld.1 hr;have PE:=Uh.1 hk;have h0:=h k (by omega)
 rw [TL PE,cq (by omega)] at h0
 exact eL h0.1 h0.2
theorem coX_in {L:Ra} {u:vw} {cs:Array vx} {g0 g1 g2 g3 g4:Nat} {f:Nat -> Nat} {ll:Nat -> List Nat} (hL:Rb L) (ht:L.a+3*L.b <= 40) (k0:Blk u g0 28 cs)
  (hc:∀ k,k<L.a+L.b+L.b+L.b -> cs[k]?=vE (ve (vE ⟨f k,0,vD⟩) L.queries L.queries))
  (h:∀ k,k<L.a+L.b+L.b+L.b+4 -> Blk u (zo (L.a+L.b+L.b+L.b) f g1 g2 g3 g4 k) 22 (Ia (ll k)).toArray /\ (ll k).length=Yq L (L.a+L.b+L.b+L.b) k /\ ∀ x∈ll k,x<ZC L (L.a+L.b+L.b+L.b) k) :
  OA u (UG (L.a+L.b+L.b+L.b) ll) ⟨vE ⟨g0,0,vD⟩,L.a+L.b+L.b+L.b,L.a+L.b+L.b+L.b,vE ⟨g1,0,vD⟩,L.k,L.k,vE ⟨g2,0,vD⟩,L.k+L.block-2,L.k+L.block-2,vE ⟨g3,0,vD⟩,L.block+2*L.queries-1,L.block+2*L.queries-1,vE ⟨g4,0,vD⟩,L.n,L.n⟩:=by
 have Af:=Nb hL.p;have Tp:=hL.q2;have b2:=hL.b2;have b5:=hL.k;have b6:=hL.n2;have hm:∀ m,m <= 65536 -> m <= maxLen:=fun m h=>by simp [maxLen];omega
 have hbg:Za<18446744073709551616:=by decide
 generalize hT:L.a+L.b+L.b+L.b=T at h hc |-;have h1:=h T (by omega)
 have h2:=h (T+1) (by omega)
 have h3:=h (T+2) (by omega)
 have h4:=h (T+3) (by omega)
 rw [LG,TO,cq (by omega)] at h1
 rw [MG,UO,cq (by omega)] at h2
 rw [NG,VO,cq (by omega)] at h3
 rw [OG,WO,rP] at h4;have h64:∀ {l:List Nat},(∀ x∈l,x<L.p) -> ∀ x∈l,x<18446744073709551616:=fun h x hx=>Eh (h x hx) Af.2
 have m0:T <= maxLen:=hm _ (by omega)
 have m1:L.k <= maxLen:=hm _ (by omega)
 have m2:L.k+L.block-2 <= maxLen:=hm _ (by omega)
 have m3:L.block+2*L.queries-1 <= maxLen:=hm _ (by omega)
 have m4:L.n <= maxLen:=hm _ (by omega)
 have m5:L.queries <= maxLen:=hm _ (by omega)
 refine ⟨cS (N:=0) (gb:=vD) (fun k (hk:k<T)=>?_) k0 m0,rI h1.1 h1.2.1 (h64 h1.2.2) m1,rI h2.1 h2.2.1 (h64 h2.2.2) m2,rI h3.1 h3.2.1 (h64 h3.2.2) m3,rI h4.1 h4.2.1 (fun x hx=>Eh (h4.2.2 x hx) hbg) m4⟩
 have h0:=h k (by omega)
 rw [ZD hk,TL hk,cq (by omega)] at h0
 exact ⟨_,hc k hk,LU h0.1 h0.2.1 (h64 h0.2.2) m5 (Lb _) (fun e=>by cases e)⟩
theorem CoB.below {N:Nat} {w u:vw} {q:Nat} {cs:Array vx} {n:Nat} {r:Nat -> List Nat} {l1 l2 l3 l4:List Nat} {g0 g1 g2 g3 g4 NF:Nat} {f:Nat -> Nat} (h:CoB N w q cs n r l1 l2 l3 l4 g0 g1 g2 g3 g4 NF f) (hb:vA w.1.size w u):CoB N u q cs n r l1 l2 l3 l4 g0 g1 g2 g3 g4 NF f :=
 ⟨h.k0.below hb h.k0.lt,h.k1.below hb h.k1.lt,h.k2.below hb h.k2.lt,h.k3.below hb h.k3.lt,h.k4.below hb h.k4.lt,h.kr.keep fun b _ hl=>hb.block b hl,h.ge,h.lt,h.nd⟩
def llX (T:Nat) (r:Nat -> List Nat) (l1 l2 l3 l4:List Nat) (k:Nat):List Nat:=if k<T then r k else if k=T then l1 else if k=T+1 then l2 else if k=T+2 then l3 else l4
theorem zAv {L:Ra} {N coin:Nat} {w:vw} {cs:Array vx} {g0 g1 g2 g3 g4 NF gt:Nat} {f:Nat -> Nat} {V:Nat -> Prop} (hL:Rb L)
  (h:CoB N w L.queries cs (L.a+L.b+L.b+L.b) (fun k=>yc L.p coin [0,k] L.queries) (yc L.p coin [1] L.k) (yc L.p coin [2] (L.k+L.block-2)) (yc L.p coin [3] (L.block+2*L.queries-1)) (yc Za coin [4] L.n) g0 g1 g2 g3 g4 NF f) (kt:Blk w gt 3 #[vd vq ((0:Nat):Int)]) :
  ∃ ll,NxS (L.a+L.b+L.b+L.b+4) (zo (L.a+L.b+L.b+L.b) f g1 g2 g3 g4) (Yq L (L.a+L.b+L.b+L.b)) (ZC L (L.a+L.b+L.b+L.b)) gt w V w ll 0:=by
 have Nf:0<L.p:=by have:=Nb hL.p;omega
 have hv:∀ p r m,0<p -> (yc p coin r m).length=m /\ ∀ x∈yc p coin r m,x<p:=fun p r m hp=>⟨by simp [yc],fun x hx=>by
  obtain ⟨k,_,rfl⟩:=ld.1 hx;exact ic _ hp⟩
 generalize L.a+L.b+L.b+L.b=T at h |-;refine ⟨llX T (fun k=>yc L.p coin [0,k] L.queries) (yc L.p coin [1] L.k) (yc L.p coin [2] (L.k+L.block-2)) (yc L.p coin [3] (L.block+2*L.queries-1)) (yc Za coin [4] L.n),⟨fun k hk=>?_,kt,Moved.refl⟩⟩
 rcases nK hk with e | rfl | rfl | rfl | rfl
 ·rw [ZD e,TL e,cq (by omega),show llX T _ _ _ _ _ k=_ from Qa e]
  exact ⟨(h.kr.at_ k e).2.1,hv _ _ _ Nf⟩
 ·rw [LG,TO,cq (by omega),show llX k _ _ _ _ _ k=_ from (La (by omega)).trans (Qa rfl)]
  exact ⟨h.k1,hv _ _ _ Nf⟩
 ·rw [MG,UO,cq (by omega),show llX T _ _ _ _ _ (T+1)=_ from (La (by omega)).trans ((La (by omega)).trans (Qa rfl))]
  exact ⟨h.k2,hv _ _ _ Nf⟩
 ·rw [NG,VO,cq (by omega),show llX T _ _ _ _ _ (T+2)=_ from (La (by omega)).trans ((La (by omega)).trans ((La (by omega)).trans (Qa rfl)))]
  exact ⟨h.k3,hv _ _ _ Nf⟩
 ·rw [OG,WO,rP,show llX T _ _ _ _ _ (T+3)=_ from (La (by omega)).trans ((La (by omega)).trans ((La (by omega)).trans (La (by omega))))]
  exact ⟨h.k4,hv _ _ _ (by decide)⟩
theorem cob_lt {N:Nat} {w:vw} {q:Nat} {cs:Array vx} {T:Nat} {r:Nat -> List Nat} {l1 l2 l3 l4:List Nat} {g0 g1 g2 g3 g4 NF:Nat} {f:Nat -> Nat} (h:CoB N w q cs T r l1 l2 l3 l4 g0 g1 g2 g3 g4 NF f) {k:Nat} (hk:k<T+4) :
  N <= zo T f g1 g2 g3 g4 k /\ zo T f g1 g2 g3 g4 k<w.1.size /\ zo T f g1 g2 g3 g4 k≠g0:=by
 have a:=h.ge;have b:=h.lt;have c1:=h.k1.lt;have c2:=h.k2.lt;have c3:=h.k3.lt;have c4:=h.k4.lt;have nd:=h.nd;simp only [List.nodup_cons,Xg,List.not_mem_nil,or_false,not_or,not_false_eq_true,List.nodup_nil,and_true] at nd;rcases nK hk with e | rfl | rfl | rfl | rfl
 ·rw [ZD e]
  have:=h.kr.at_ k e;have:=this.2.1.lt;omega
 ·rw [LG];omega
 ·rw [MG];omega
 ·rw [NG];omega
 ·rw [OG];omega
theorem zAu {N:Nat} {w:vw} {q:Nat} {cs:Array vx} {T:Nat} {r:Nat -> List Nat} {l1 l2 l3 l4:List Nat} {g0 g1 g2 g3 g4 NF:Nat} {f:Nat -> Nat} (h:CoB N w q cs T r l1 l2 l3 l4 g0 g1 g2 g3 g4 NF f):∀ i k,i<T+4 -> k<T+4 -> zo T f g1 g2 g3 g4 i=zo T f g1 g2 g3 g4 k -> i=k:=by
 have b:=h.lt;have nd:=h.nd;simp only [List.nodup_cons,Xg,List.not_mem_nil,or_false,not_or,not_false_eq_true,List.nodup_nil,and_true] at nd;have hf:∀ k,k<T -> NF <= f k:=fun k hk=>(h.kr.at_ k hk).2.2
 intro i k hi hk e;by_cases h1:i<T <;> by_cases h2:k<T
 ·rw [ZD h1,ZD h2] at e
  rcases Nat.lt_trichotomy i k with x | x | x
  ·have:=h.kr.lt i k x h2;omega
  ·exact x
  ·have:=h.kr.lt k i x h1;omega
 ·rw [ZD h1] at e
  have:=hf i h1;rcases nK hk with x | rfl | rfl | rfl | rfl
  ·exact absurd x h2
  ·rw [LG] at e;omega
  ·rw [MG] at e;omega
  ·rw [NG] at e;omega
  ·rw [OG] at e;omega
 ·rw [ZD h2] at e
  have:=hf k h2;rcases nK hi with x | rfl | rfl | rfl | rfl
  ·exact absurd x h1
  ·rw [LG] at e;omega
  ·rw [MG] at e;omega
  ·rw [NG] at e;omega
  ·rw [OG] at e;omega
 ·rcases nK hi with x | rfl | rfl | rfl | rfl
  ·exact absurd x h1
  all_goals
   rcases nK hk with x | x | x | x | x
   ·exact absurd x h2
   all_goals
    first
    | (subst x;rfl)
    | (exfalso;rw [x] at e;simp only [LG,MG,NG,OG] at e;omega)
theorem nnX_le {L:Ra} (hL:Rb L) {T k:Nat}:Yq L T k <= 2000:=by
 have:=hL.q2;have:=hL.b2;have:=hL.k;have:=hL.n2;unfold Yq;split
 ·omega
 ·split
  ·omega
  ·split
   ·omega
   ·split <;> omega
theorem ppX_lt {L:Ra} (hL:Rb L) {T k:Nat}:0<ZC L T k /\ ZC L T k<18446744073709551616:=by
 have:=Nb hL.p;unfold ZC;split
 ·omega
 ·decide
theorem l7 {w:vw} {g:Nat} {t:vz} {y0 y1 y2 y3 y4 y5 y6 y7 y8 y9 ue:vx} (k:Blk w g t #[y0,y1,y2,y3,y4,y5,y6,y7,y8,y9,ue]) (x0 x1 x2 x3 x4 x5 x6 x7 x8 x9 Yn:vx):∃ wf,(((((((((((w).setCell ⟨g,0,vD⟩ x0).setCell ⟨g,1,vD⟩ x1).setCell ⟨g,2,vD⟩ x2).setCell ⟨g,3,vD⟩ x3).setCell ⟨g,4,vD⟩ x4).setCell ⟨g,5,vD⟩ x5).setCell ⟨g,6,vD⟩ x6).setCell ⟨g,7,vD⟩ x7).setCell ⟨g,8,vD⟩ x8).setCell ⟨g,9,vD⟩ x9).setCell ⟨g,10,vD⟩ Yn=wf /\ Blk wf g t #[x0,x1,x2,x3,x4,x5,x6,x7,x8,x9,Yn] /\ StB g w wf :=
 ⟨_,rfl,FF [x0,x1,x2,x3,x4,x5,x6,x7,x8,x9,Yn] k rfl,VU g [x0,x1,x2,x3,x4,x5,x6,x7,x8,x9,Yn] w⟩
theorem StB.fromF {g N:Nat} {V:Nat -> Prop} {w wf:vw} (h:StB g w wf) (hg:V g):zi V N w wf:=⟨h.os,h.tape,h.output,Nat.le_of_eq h.size.symm,fun b _ hn=>h.far b fun e=>hn (e ▸ hg)⟩
theorem Moved.st {g:Nat} {F F':Nat -> Prop} {w0 w wf:vw} (m:Moved F F' w0 w) (h:StB g w wf) (hg:w0.1.size <= g):Moved F F' w0 wf :=
 ⟨h.os.trans m.os,h.tape.trans m.tape,h.output.trans m.output,jb m.size (Nat.le_of_eq h.size.symm),fun b hb hn=>(h.far b (by omega)).trans (m.block b hb hn),m.foot⟩
theorem StB.orc {g gb:Nat} {F:Nat -> Prop} {O:Ga} {w wf:vw} (h:StB g w wf) (k:OrcAt w gb O F) (hg:¬F g):OrcAt wf gb O F:=k.keep (Nat.le_of_eq h.size.symm) fun b hb=>h.far b fun e=>hg (e ▸ hb)
theorem zEE {w:vw} {g:Nat} {O:Ga} {F K:Nat -> Prop} (h:OrcAt w g O F) (L:Ra) (j pu coin:Nat) (vars bl bw qs:Int) (A B D:Option vy) (n c m d mD dD:Nat) (rows:List Ya) (ws add:List Nat) (real:Bool) (seed:Nat)
  (hL:Rb L) (hn:L.n=2^j) (uf:ak L ⟨L.p,(pu:Int),vars,rows.length,bl,bw,qs⟩) (ht:L.a+3*L.b <= 40) (hT:rB L.p (pu:Int) vars rows ws true) (tL:coin<18446744073709551616)
  (hA:Hd K w fun u=>RSl 3 oe u [ve A n c] rows /\ RWd u [ve B m d] ws /\ RWd u [ve D mD dD] add) (hK:∀ b,K b -> b<w.1.size /\ ¬F b) (hO:Lc O 1000) :
  vB prog 45 #[.pointer (vE ⟨g,0,vD⟩),vf (QW L.p (pu:Int) vars A B n c m d bl bw qs (coin:Int) real seed),ve D mD dD] w fun e w' =>
   ∃ (C:CoR) (S:PS) (F':Nat -> Prop),C.ok L=true /\ e=vl (.tuple #[vf (Db L),vf (Ld ((mh L j pu vars rows ws C).pr O) S), .bool true]) /\ OrcAt w' g ((mh L j pu vars rows ws C).oF O) F' /\ Moved F F' w w' /\
    Hd (fun b=>w.1.size <= b /\ b<w'.1.size /\ ¬F' b) w' (fun u=>Gj u ((mh L j pu vars rows ws C).pr O) S):=by
 obtain ⟨kc,ka,kr,kz,da,-⟩:=VK w 32 28 101 46 (QW L.p (pu:Int) vars A B n c m d bl bw qs (coin:Int) real seed) #[ve D mD dD] #[vd vn 0,vd vq 0,vd vq 0,vd vq 0,vd vq 0,vd vq 0,vd vq 0,vd vq 0,vd vq 0,vd vq 0,vd vq 0] #[vd vn 0,ve vD 0 0,ve vD 0 0,ve vD 0 0,ve vD 0 0,ve vD 0 0,ve vD 0 0];have hz:=QO hT.tab uf;have HN:=zH (fun w' (hb:vA w.1.size w w')=>(fU L.p (pu:Int) vars A n c rows bl bw qs w' (uk hA (ng hb)).1).mono (R':=fun e fl=>e=vl (.tuple #[vf (Db L),vd vq 0]) /\ vA w'.1.size w' fl) (by
  rintro e fl ⟨⟨lcs,rfl,hp⟩,Aa⟩;rw [hz] at hp;rcases hp with ⟨Ta,-⟩ | ⟨-,-,L',-,hf',rfl⟩
  ·exact absurd rfl Ta
  ·rw [hz,show L'=L from hf'.eq.trans uf.eq.symm]
   exact ⟨rfl,Aa⟩))
 have HFS:=zH (fun u=>zCJ L coin u hL tL)
 have im:=zH (fun (N:Nat) (u:vw) (cs:Array vx) (g0 g1 g2 g3 g4 NF gt:Nat) (f:Nat -> Nat) (V:Nat -> Prop)=>zAv (L:=L) (coin:=coin) (N:=N) (w:=u) (cs:=cs) (g0:=g0) (g1:=g1) (g2:=g2) (g3:=g3) (g4:=g4) (NF:=NF) (gt:=gt) (f:=f) (V:=V) hL)
 have Ur:=zH (fun (C:CoR) (S:CoS) (hC:C.ok L=true) (u:vw) (hb:vA w.1.size w u) (Nh:Hd (fun b=>w.1.size <= b /\ b<u.1.size) u fun u=>OA u C S)=>gU (K:=fun b=>K b \/ (w.1.size <= b /\ b<u.1.size)) (h.below hb) L j pu C S vars A B n c m d rows ws bl bw qs hL hn uf ht hT hC
  (fun x a=>by
   have h1:=uk hA (TD (ng hb) (gu a fun b hb=>.inl hb))
   exact ⟨h1.1,h1.2.1,Nh x (gu a fun b hb=>.inr hb)⟩)
  (fun b hk=>hk.elim (fun hk=>⟨Sd (hK b hk).1 hb.size,(hK b hk).2⟩) fun hk=>⟨hk.2,fun e=>by have:=h.lt b e;omega⟩) hO)
 have HCi:=zH (fun (u:vw) (cs:Array vx) (g0 g1 g2 g3 g4:Nat) (f:Nat -> Nat) (ll:Nat -> List Nat)=>coX_in (L:=L) (u:=u) (cs:=cs) (g0:=g0) (g1:=g1) (g2:=g2) (g3:=g3) (g4:=g4) (f:=f) (ll:=ll) hL ht)
 have Lt:=zH (fun (ll:Nat -> List Nat)=>coX_ok (L:=L) (ll:=ll))
 have HNn:=zH (fun (T k:Nat)=>nnX_le (L:=L) (T:=T) (k:=k) hL)
 have YA:=zH (fun (T k:Nat)=>ppX_lt (L:=L) (T:=T) (k:=k) hL)
 have Ww:=zH (Kz hA fun u h=>h.2.2)
 have HK:=zH hK;have H:=zH h;have HF:=zH h.lt;have HTT:=zH (show L.a+L.b+L.b+L.b <= 40 by omega)
 clear hz hA hK h hL hn uf ht hT tL hO;obtain ⟨T,hTe⟩:=zEX (L.a+L.b+L.b+L.b);rw [<- hTe] at HFS im HCi Lt HTT;have aB:=zH (show (T:Int) <= 40 by have:=HTT.out;omega)
 obtain ⟨m2,Pz⟩:=zEX (L.k+L.block-2);obtain ⟨m3,Rp⟩:=zEX (L.block+2*L.queries-1);rw [<- Pz,<- Rp] at HFS im HCi;have Tg:=zH Pz;have zD:=zH Rp;clear hTe Pz Rp;unfold sc Vp at *;unfold Db at HN HFS;go_enter func45,ntmps45
 go_upto_region 1 with fail
 generalize (((w.alloc _).alloc _).alloc _).alloc _=w1 at kc ka kr kz da |-;have cc:=kc.cell;go_wp2_with fail
 refine (HN.out _ da).mono ?_;rintro e w2 ⟨rfl,Aa⟩;replace kc:=ia kc Aa;replace ka:=ia ka Aa;replace kr:=ia kr Aa;replace kz:=ia kz Aa;replace da:=ma da Aa;have HGL:=zH kz.lt;have ja:=(za w2.1.size w2).alloc zR (.cells #[vd vn L.p,vd vq L.block,vd vq L.queries,vd vq L.k,vd vq L.n,vd vq L.secret,vd vq L.rows,vd vq L.a,vd vq L.b,vd vq L.b,vd vq L.b] 101);have kl:=Blk.new w2 101 #[vd vn L.p,vd vq L.block,vd vq L.queries,vd vq L.k,vd vq L.n,vd vq L.secret,vd vq L.rows,vd vq L.a,vd vq L.b,vd vq L.b,vd vq L.b];replace kc:=ia kc ja;replace ka:=ia ka ja;replace kr:=ia kr ja;replace kz:=ia kz ja;replace da:=ma da ja;clear Aa ja cc HN;go_upto_region 4 with fail
 generalize w2.alloc _=w3 at kc ka kr kz da kl |-;generalize w2.1.size=gl at kl HGL |-;have cc:=kc.cell;have cl:=kl.cell;go_wp2_with fail
 refine (HFS.out _).mono ?_;rintro e w4 ⟨cs,g0,g1,g2,g3,g4,NF,f,rfl,Nh,zb⟩;have l3:=kz.lt;have la3:=ka.lt;have ll3:=kl.lt;replace kc:=ia kc zb;replace ka:=ia ka zb;replace kr:=ia kr zb;replace kz:=ia kz zb;replace kl:=ia kl zb;replace da:=ma da zb;clear cc cl HFS;obtain ⟨ko,kt,Wa,tb⟩:=Ih w4 41 3 #[ve (vE ⟨g0,0,vD⟩) T T,ve (vE ⟨g1,0,vD⟩) L.k L.k,ve (vE ⟨g2,0,vD⟩) m2 m2,ve (vE ⟨g3,0,vD⟩) m3 m3,ve (vE ⟨g4,0,vD⟩) L.n L.n] #[vd vq 0];go_upto_region 6 with fail
 generalize (w4.alloc _).alloc _=w5 at ko kt Wa tb |-;have l45:=zb.size;have HCB:=zH Nh;have wu:=Nh.k0.lt;have hgN:=Nh.ge;have k0:=Nh.k0.below Wa Nh.k0.lt;have Gf:=zH (fun k hk=>(Nh.kr.at_ k hk).1)
 obtain ⟨bk,xE⟩:=zEX (zo T f g1 g2 g3 g4);obtain ⟨nn,Ag⟩:=zEX (Yq L T);obtain ⟨pp,Af⟩:=zEX (ZC L T);obtain ⟨gt,hgt⟩:=zEX (w4.1.size+1);obtain ⟨go,hgo⟩:=zEX (w4.1.size);rw [<- hgt] at kt |-;rw [<- hgo] at ko |-;obtain ⟨V,hV⟩:∃ V:Nat -> Prop,V=fun b=>b=gt \/ ∃ k,k<T+4 /\ b=bk k:=⟨_,rfl⟩
 obtain ⟨ll0,Tq⟩:=im.out _ _ _ _ _ _ _ _ _ _ _ V (Nh.below Wa) kt;rw [<- xE,<- Ag,<- Af] at Tq;have Gb:∀ k,k<T+4 -> w3.1.size <= bk k /\ bk k<w4.1.size /\ bk k≠g0:=fun k hk=>by rw [xE];exact cob_lt Nh hk
 have uG:=zH (show ∀ b,V b -> w3.1.size <= b /\ b≠g0 /\ b≠go by
  rw [hV];rintro b (rfl | ⟨k,hk,rfl⟩)
  ·omega
  ·have:=Gb k hk;omega)
 have oS:=ma (ma da (za _ _)) Wa;have HFx:=zH (show NxF (T+4) bk nn pp (w.1.size+1) gt w5 V D mD dD add from {
  inj:=by rw [xE];exact zAu Nh
  ne:=fun k hk=>by have:=Gb k hk;omega
  vb:=fun k hk=>by rw [hV];exact .inr ⟨k,hk,rfl⟩
  vt:=by rw [hV];exact .inl rfl
  va:=fun e=>by have:=(uG.out _ e).1;omega
  ka:=ia ka Wa
  rd:=WN (Td (hd_lt Ww.out) (ng oS)) fun b hb e=>by have:=(uG.out _ e).1;have:=hb.2;have:=da.size;omega
  p0:=fun k _=>by rw [Af];exact YA.out _ _
  n0:=fun k _=>by rw [Ag];have:=HNn.out T k;omega })
 have hNb:∀ k,k<T+4 -> nn k <= 2000:=fun k _=>by rw [Ag];exact HNn.out _ _
 have Sw:=zH hNb;obtain ⟨KB,Kx⟩:∃ KB:Nat -> Prop,KB=fun b=>¬V b /\ b<w5.1.size:=⟨_,rfl⟩
 have Dz:∀ b,¬V b -> b<w5.1.size -> KB b:=fun b h1 h2=>by rw [Kx];exact ⟨h1,h2⟩
 have yl:=zH (show ∀ b,KB b -> ¬V b by rw [Kx];exact fun b h=>h.1)
 replace kc:=ia kc Wa;replace kr:=ia kr Wa;replace kz:=ia kz Wa;replace kl:=ia kl Wa;have nV:∀ b,b<w3.1.size -> ¬V b:=fun b hb e=>by have:=(uG.out _ e).1;omega
 have Xj:=zH (show Hd KB w5 (fun u=>Blk u w.1.size _ _ /\ Blk u (w.1.size+1+1) _ _ /\ Blk u (w.1.size+1+1+1) _ _ /\ Blk u gl _ _ /\ Blk u go _ _ /\ Blk u g0 _ _) from fun u a =>
  have bx:∀ {g:Nat} {t:vz} {cs:Array vx},Blk w5 g t cs -> ¬V g -> Blk u g t cs:=fun k hg=>(a.block _ (Dz _ hg k.lt) k.lt).trans k
  ⟨bx kc (nV _ (by omega)),bx kr (nV _ (by omega)),bx kz (nV _ (by omega)),bx kl (nV _ (by omega)),bx ko (fun e=>(uG.out _ e).2.2 rfl),bx k0 (fun e=>(uG.out _ e).2.1 rfl)⟩)
 have HB5:=zH oS;have Wr:=zH (show ∀ b,V b -> w.1.size <= b from fun b hb=>by have:=(uG.out _ hb).1;have:=da.size;omega)
 have gG:=zH xE;have XA:=zH Ag;have FD:=zH Af;have tq:=zH Tq;have HI:=zH (show w.1.size <= g0 /\ g0<w5.1.size /\ ∀ k,k<T+4 -> w.1.size <= bk k /\ bk k<w5.1.size from ⟨by have:=da.size;omega,by omega,fun k hk=>by have:=Gb k hk;have:=da.size;omega⟩)
 clear Tq Af Ag xE oS kc kr kz kl ko k0 kt Kx Dz nV hNb Gb hV hgt hgo Nh zb Wa da tb wu hgN im Ww HNn YA l3 la3 ll3 l45 ka uG;have hT2:=aB.out;obtain ⟨-,-,-,-,ko5,-⟩:=yg Xj.out;have co5:=ko5.cell;go_upto_region 8 with fail
 clear co5 ko5;go_loopw [39] (fun y wr=>∃ (i:Nat) (ll:Nat -> List Nat) (Hi:Nat),i <= T /\ y=vd vq i /\ Hid (Hi <= 2000*i) /\ Hid (NxS (T+4) bk nn pp gt w5 V wr ll Hi)) (fun y _=>T-(intOf y).toNat)
 case atStart=>exact ⟨0,ll0,0,Lb _,rfl,zH zR,tq⟩
 case round =>
  obtain ⟨i,ll,Hi,hi,rfl,ql,HS⟩:=hrel;clear tq;by_cases ra:i<T
  ·have Wb:=zH ra
   obtain ⟨kc,kr,kz,kl,ko,k0⟩:=yg (Td Xj.out (ik HS.out.m yl.out));have Gd:=UL HS.out HFx.out (by have:=ql.out;have:=HTT.out;omega) (k:=i) (by omega)
   rw [show bk i=f i by rw [gG.out];exact ZD ra,show nn i=L.queries by rw [XA.out];exact TL ra,show pp i=L.p by rw [FD.out];exact cq (by omega)] at Gd
   have im:=zH Gd;have Vm:=zH (show L.queries <= 2000 by have:=Sw.out i (by omega);rwa [show nn i=L.queries by rw [XA.out];exact TL ra] at this)
   have c0i:=(k0.cell i).trans (Gf.out i ra);have cl:=kl.cell;have g1:(0:Int)<=i:=by omega
   have g2:(i:Int)<T:=by omega
   clear kc kr kz kl ko k0 Gd ra hi;go_wp2_with fail
   refine im.out.mono ?_;rintro e w6 ⟨rfl,l',yo,Ns,re⟩;have Xm:=zH re;have Qu:=zH (show yo <= 2000*(i+1) by have:=ql.out;have:=Vm.out;omega)
   clear Ns re c0i cl im;go_wp2
   go_roundw
   case rel=>exact ⟨i+1,l',yo,Wb.out,by go_num,Qu,Xm⟩
   case measure=>have:=Wb.out;simp [intOf];omega
  ·obtain rfl:i=T:=by omega
   clear ra hi;replace ql:=zH (show Hi <= 80000 by have:=ql.out;have:=HTT.out;omega)
   obtain ⟨kc,kr,kz,kl,ko,k0⟩:=yg (Td Xj.out (ik HS.out.m yl.out));have Gd:=UL HS.out HFx.out (by have:=ql.out;omega) (k:=i) (by omega)
   have og:nn (i)=L.k:=by rw [XA.out];exact TO
   rw [show bk (i)=g1 by rw [gG.out];exact LG,og,show pp (i)=L.p by rw [FD.out];exact cq (by omega)] at Gd
   have im:=zH Gd;have Vm:=zH (show L.k <= 2000 by have:=Sw.out (i) (by omega);rwa [og] at this)
   clear og;have co:=ko.cell;have cl:=kl.cell;clear kc kr kz kl ko k0 Gd;go_wp2_with fail
   refine im.out.mono ?_;rintro e v1 ⟨rfl,l1,yo,Ns,re⟩;replace HS:=zH re;replace ql:=zH (show yo <= 82000 by have:=ql.out;have:=Vm.out;omega)
   clear Ns re co cl im Vm;obtain ⟨kc,kr,kz,kl,ko,k0⟩:=yg (Td Xj.out (ik HS.out.m yl.out));have Gd:=UL HS.out HFx.out (by have:=ql.out;omega) (k:=i+1) (by omega)
   have og:nn (i+1)=m2:=by rw [XA.out];exact UO.trans Tg.out.symm
   rw [show bk (i+1)=g2 by rw [gG.out];exact MG,og,show pp (i+1)=L.p by rw [FD.out];exact cq (by omega)] at Gd
   have im:=zH Gd;have Vm:=zH (show m2 <= 2000 by have:=Sw.out (i+1) (by omega);rwa [og] at this)
   clear og;have co:=ko.cell;have cl:=kl.cell;clear kc kr kz kl ko k0 Gd;go_wp2_with fail
   refine im.out.mono ?_;rintro e v2 ⟨rfl,l2,at3,Ns,re⟩;replace HS:=zH re;replace ql:=zH (show at3 <= 84000 by have:=ql.out;have:=Vm.out;omega)
   clear Ns re co cl im Vm;obtain ⟨kc,kr,kz,kl,ko,k0⟩:=yg (Td Xj.out (ik HS.out.m yl.out));have Gd:=UL HS.out HFx.out (by have:=ql.out;omega) (k:=i+2) (by omega)
   have og:nn (i+2)=m3:=by rw [XA.out];exact VO.trans zD.out.symm
   rw [show bk (i+2)=g3 by rw [gG.out];exact NG,og,show pp (i+2)=L.p by rw [FD.out];exact cq (by omega)] at Gd
   have im:=zH Gd;have Vm:=zH (show m3 <= 2000 by have:=Sw.out (i+2) (by omega);rwa [og] at this)
   clear og;have co:=ko.cell;have cl:=kl.cell;clear kc kr kz kl ko k0 Gd;go_wp2_with fail
   refine im.out.mono ?_;rintro e v3 ⟨rfl,l3,at4,Ns,re⟩;replace HS:=zH re;replace ql:=zH (show at4 <= 86000 by have:=ql.out;have:=Vm.out;omega)
   clear Ns re co cl im Vm;obtain ⟨kc,kr,kz,kl,ko,k0⟩:=yg (Td Xj.out (ik HS.out.m yl.out));have Gd:=UL HS.out HFx.out (by have:=ql.out;omega) (k:=i+3) (by omega)
   have og:nn (i+3)=L.n:=by rw [XA.out];exact WO
   rw [show bk (i+3)=g4 by rw [gG.out];exact OG,og,show pp (i+3)=18446744069414584321 by rw [FD.out];exact rP] at Gd
   rw [show ((18446744069414584321:Nat):Int)=18446744069414584321 from rfl] at Gd
   have im:=zH Gd;have Vm:=zH (show L.n <= 2000 by have:=Sw.out (i+3) (by omega);rwa [og] at this)
   clear og;have co:=ko.cell;have cl:=kl.cell;clear kc kr kz kl ko k0 Gd;go_wp2_with fail
   refine im.out.mono ?_;rintro e v4 ⟨rfl,l4,at5,Ns,re⟩;replace HS:=zH re;replace ql:=zH (show at5 <= 88000 by have:=ql.out;have:=Vm.out;omega)
   clear Ns re co cl im Vm;obtain ⟨kc,kr,kz,kl,ko,k0⟩:=yg (Td Xj.out (ik HS.out.m yl.out));have Fb:=dJ HB5.out HS.out.m Wr.out;have hCo:Hd (fun b=>w.1.size <= b /\ b<v4.1.size) v4 fun u=>OA u (UG i l4) ⟨vE ⟨g0,0,vD⟩,i,i,vE ⟨g1,0,vD⟩,L.k,L.k,vE ⟨g2,0,vD⟩,m2,m2,vE ⟨g3,0,vD⟩,m3,m3,vE ⟨g4,0,vD⟩,L.n,L.n⟩:=fun u a=>by
    have tb:=HS.out.m.size;exact HCi.out _ _ _ _ _ _ _ _ _ ((a.block _ ⟨HI.out.1,Sd HI.out.2.1 tb⟩ k0.lt).trans k0) Gf.out fun k hk=>by
     obtain ⟨h1,h2,h3⟩:=HS.out.l k hk;have hb:=HI.out.2.2 k hk;refine ⟨?_,by rw [h2,XA.out],by rw [<- FD.out];exact h3⟩
     rw [<- gG.out];exact (a.block _ ⟨hb.1,Sd hb.2 tb⟩ h1.lt).trans h1
   have hCk:=Lt.out _ fun k hk=>by
    obtain ⟨-,h2,h3⟩:=HS.out.l k hk;exact ⟨by rw [h2,XA.out],by rw [<- FD.out];exact h3⟩
   have HP:=zH (Ur.out _ _ hCk v4 Fb hCo);obtain ⟨P,hP⟩:=zEX ((mh L j pu vars rows ws (UG i l4)).pr O);obtain ⟨OF,hOF⟩:=zEX ((mh L j pu vars rows ws (UG i l4)).oF O);rw [<- hP,<- hOF] at HP;have HCK:=zH hCk;have HPE:=zH hP;have HOE:=zH hOF;unfold eJ at HP;dsimp only at HP
   have Kt:=zH Fb;clear hP hOF hCk hCo Fb Ur HCi Lt HI HS ql Gf HFx Xj HB5 gG XA FD Sw Tg zD;have cc:=kc.cell;have co:=ko.cell;go_wp2_with fail
   refine HP.out.mono ?_;rintro e v5 ⟨S,F',rfl,ho,hm,hp⟩;have nF:∀ {b},w.1.size <= b -> ¬F b:=fun hb e=>by have:=HF.out _ e;omega
   have nr:=fe hm kr.lt (nF (by omega))
   have nz:=fe hm kz.lt (nF (by omega))
   have lr4:=kr.lt;have lz4:=kz.lt;replace kr:=kr.moved hm (nF (by omega))
   replace kz:=kz.moved hm (nF (by omega))
   replace kl:=kl.moved hm (nF (by have:=HGL.out;omega))
   have dm:=zH ((zd (F:=F) Kt.out).trans hm);have hs4:=Kt.out.size;unfold Ld;have ja:=(za v5.1.size v5).alloc zR (.cells #[vd vn P.root,ve S.A1 S.n1 S.c1,ve S.A2 S.n2 S.c2,ve S.A3 S.n3 S.c3,ve S.A4 S.n4 S.c4,ve S.A5 S.n5 S.c5,ve S.A6 S.n6 S.c6] 46);have kp:=Blk.new v5 46 #[vd vn P.root,ve S.A1 S.n1 S.c1,ve S.A2 S.n2 S.c2,ve S.A3 S.n3 S.c3,ve S.A4 S.n4 S.c4,ve S.A5 S.n5 S.c5,ve S.A6 S.n6 S.c6];have lr5:=kr.lt;have lz5:=kz.lt;have ll5:=kl.lt;replace kr:=ia kr ja;replace kz:=ia kz ja;replace kl:=ia kl ja;have HO:=zH (ho.below ja);replace dm:=zH (dm.out.trans (zd ja));have qq:=zH (Td (WN hp (K':=fun b=>v4.1.size <= b /\ b<v5.1.size /\ ¬F' b) fun b h=>h) (ng ja))
   have s56:=ja.size;clear hm ho hp ja cc co HP kc ko k0;go_upto_region 17 with fail
   generalize v5.alloc _=v6 at kp kr kz kl HO dm qq s56 |-;generalize v5.1.size=gp at kp lr5 lz5 ll5 qq s56 |-;obtain ⟨VR,hVR⟩:∃ VR:Nat -> Prop,VR=fun b=>b=w.1.size+1+1 \/ b=w.1.size+1+1+1:=⟨_,rfl⟩
   have v1:VR (w.1.size+1+1):=by rw [hVR];exact .inl rfl
   have v2:VR (w.1.size+1+1+1):=by rw [hVR];exact .inr rfl
   have fr0:¬VR gl:=by rw [hVR];intro e;have:=HGL.out;omega
   have fr1:¬VR gp:=by rw [hVR];intro e;omega
   have r0:gl<v6.1.size:=kl.lt;have r1:gp<v6.1.size:=kp.lt;have cl:=kl.cell;have cp:=kp.cell;obtain ⟨NR,LB⟩:=zEX (v6.1.size);rw [<- LB] at r0 r1;have HR:=zH kr;have HZ:=zH kz;clear hVR LB kr kz kl kp;refine Cd (zi VR NR) [4,5] [0,1,2,3,4,5,6] (by kernel_rfl) (by kernel_rfl) ?_
   refine De (Jc VR NR) ?_;intro Wc Ha ea;replace HR:=zH (show Blk Wc _ _ _ by rw [Ha.out];exact HR.out.drew)
   replace HZ:=zH (show Blk Wc _ _ _ by rw [Ha.out];exact HZ.out.drew)
   replace HO:=zH (show OrcAt Wc g OF F' by rw [Ha.out];exact HO.out.drew)
   replace dm:=zH (show Moved F F' w Wc by rw [Ha.out];exact Zv dm.out)
   replace qq:=zH (show Hd _ Wc _ from Td qq.out (by rw [Ha.out];exact ZV))
   have sW:gp <= Wc.1.size:=by rw [Ha.out];exact s56
   clear Ha;refine Ir ?_;have cr:=HR.out.cell;have fr:=HR.out.frozen;refine Ye (Jc VR NR) rfl rfl rfl ?_;go_simp;obtain ⟨wy,hwy,kr,sr⟩:=l7 HR.out (vd vn L.p) (vd vq L.block) (vd vq L.queries) (vd vq L.k) (vd vq L.n) (vd vq L.secret) (vd vq L.rows) (vd vq L.a) (vd vq L.b) (vd vq L.b) (vd vq L.b);rw [hwy];refine ⟨sr.fromF v1,?_⟩
   refine zPU ?_
   replace HZ:=zH (sr.blk HZ.out (by omega))
   replace HO:=zH (sr.orc HO.out nr);replace dm:=zH (dm.out.st sr (by omega))
   replace qq:=zH (sr.hd qq.out fun e=>by omega)
   have KR:=zH kr;replace sW:gp <= wy.1.size:=by rw [sr.size];exact sW
   clear hwy cr fr ea sr kr HR;have ea:=(Jc VR NR).refl wy;refine Ir ?_;have cz:=HZ.out.cell;have fz:=HZ.out.frozen;refine Ye (Jc VR NR) rfl rfl rfl ?_;go_simp;obtain ⟨wz,hwz,kz,sz⟩:=zFU HZ.out (vd vn P.root) (ve S.A1 S.n1 S.c1) (ve S.A2 S.n2 S.c2) (ve S.A3 S.n3 S.c3) (ve S.A4 S.n4 S.c4) (ve S.A5 S.n5 S.c5) (ve S.A6 S.n6 S.c6);rw [hwz];refine ⟨sz.fromF v2,?_⟩
   refine zPU ?_
   replace HO:=zH (sz.orc HO.out nz);replace dm:=zH (dm.out.st sz (by omega))
   replace qq:=zH (sz.hd qq.out fun e=>by omega)
   have cr:=(sz.blk KR.out (by omega)).cell
   have cz':=kz.cell;have lgp:gp <= wz.1.size:=by rw [sz.size];exact sW
   clear hwz cz fz ea sz kz HZ KR cl cp;have ea:=(Jc VR NR).refl wz;refine Ir ?_;refine Qc ?_;go_wp2;refine ed (v:=.tuple #[vf #[vd vn L.p,vd vq L.block,vd vq L.queries,vd vq L.k,vd vq L.n,vd vq L.secret,vd vq L.rows,vd vq L.a,vd vq L.b,vd vq L.b,vd vq L.b],vf #[vd vn P.root,ve S.A1 S.n1 S.c1,ve S.A2 S.n2 S.c2,ve S.A3 S.n3 S.c3,ve S.A4 S.n4 S.c4,ve S.A5 S.n5 S.c5,ve S.A6 S.n6 S.c6], .bool true]) (by simp [results,results45,go_sem,cr,cz']) rfl ?_
   refine ⟨UG i l4,S,F',HCK.out,?_,?_,dm.out,?_⟩
   ·rw [<- HPE.out];rfl
   ·rw [<- HOE.out];exact HO.out
   ·rw [<- HPE.out]
    exact WN qq.out fun b hb=>⟨jb hs4 hb.1,Sd hb.2.1 lgp,hb.2.2⟩
theorem BU {w:vw} {b i:Nat} {t:vz} (k:Blk w b t #[vd vq i,vd vn 1]) (hi:i<100):RLin w [ve (vE ⟨b,0,vD⟩) 1 1] [((i:Int),1)]:=by
 refine ⟨_,1,1,rfl,rfl,zR,by simp [maxLen],fun j hj=>⟨_,[vd vq i,vd vn 1],rfl,rfl,fun q hq=>?_,?_⟩⟩
 ·obtain rfl:j=0:=by simpa using hj
  rw [pn,show 0+(0*2+q)=q by omega,k.cell]
  simp
 ·obtain rfl:j=0:=by simpa using hj
  exact ⟨rfl,by simp;omega,by simp⟩
def Br (i j k:Nat):Ya:=⟨[((i:Int),1)],[((j:Int),1)],[((k:Int),1)]⟩
theorem rrow_N {w:vw} {b1 b2 b3 b4 i j k:Nat} {t u:vz} (hi:i<100) (hj:j<100) (hk:k<100) (k1:Blk w b1 t #[vd vq i,vd vn 1]) (k2:Blk w b2 t #[vd vq j,vd vn 1]) (k3:Blk w b3 t #[vd vq k,vd vn 1]) (k4:Blk w b4 u #[ve (vE ⟨b1,0,vD⟩) 1 1,ve (vE ⟨b2,0,vD⟩) 1 1,ve (vE ⟨b3,0,vD⟩) 1 1]) :
  RSl 3 oe w [ve (vE ⟨b4,0,vD⟩) 1 1] [Br i j k]:=by
 refine ⟨_,1,1,rfl,rfl,zR,by simp [maxLen],fun x hx=>⟨_,[ve (vE ⟨b1,0,vD⟩) 1 1,ve (vE ⟨b2,0,vD⟩) 1 1,ve (vE ⟨b3,0,vD⟩) 1 1],rfl,rfl,fun q hq=>?_,?_⟩⟩
 ·obtain rfl:x=0:=by simpa using hx
  rw [pn,show 0+(0*3+q)=q by omega,k4.cell]
  simp
 ·obtain rfl:x=0:=by simpa using hx
  exact ⟨_,_,_,rfl,BU k1 hi,BU k2 hj,BU k3 hk⟩
theorem zF3 (i:Int) (w:vw) :
  vB prog 113 #[vd vq i] w fun e w'=>∃ g,e=vl (ve (vE ⟨g,0,vD⟩) 1 1) /\ w.1.size <= g /\ Blk w' g 208 #[vd vq i,vd vn 1] /\ vA w.1.size w w':=by
 go_enter func113,ntmps113
 go_wp2_with fail
 go_ret
 exact ⟨_,rfl,zR,Blk.new _ _ _,(za _ _).alloc zR _⟩
theorem zBa (w:vw) :
  vB prog 52 #[] w fun e w'=>∃ gr gw,e=vl (vf #[vd vn 97,vd vq 1,vd vq 4,ve (vE ⟨gr,0,vD⟩) 1 1,vd vq 2,vd vq 1,vd vq 2,ve (vE ⟨gw,0,vD⟩) 4 4,vd vn 3, .bool true,vd vn 0]) /\ RSl 3 oe w' [ve (vE ⟨gr,0,vD⟩) 1 1] [Br 2 3 1] /\ RWd w' [ve (vE ⟨gw,0,vD⟩) 4 4] [1,35,5,7] /\ vA w.1.size w w':=by
 have HT:=zH (fun i w=>zF3 i w)
 have k0:=Blk.new w 32 #[vd vn 0,vd vq 0,vd vq 0,ve vD 0 0,vd vq 0,vd vq 0,vd vq 0,ve vD 0 0,vd vn 0, .bool false,vd vn 0];have da:=(za w.1.size w).alloc zR (.cells #[vd vn 0,vd vq 0,vd vq 0,ve vD 0 0,vd vq 0,vd vq 0,vd vq 0,ve vD 0 0,vd vn 0, .bool false,vd vn 0] 32);go_enter func52,ntmps52
 go_upto_region 2 with fail
 generalize w.alloc _=w1 at k0 da |-;go_wp2_with fail
 refine (HT.out _ _).mono ?_;rintro e w2 ⟨a1,rfl,h1,k1,ta⟩;have ay:=k0.lt;have Gz:w.1.size<a1:=by omega
 replace k0:=ia k0 ta;replace da:=ma da ta;clear ta h1 ay;go_wp2_with fail
 refine (HT.out _ _).mono ?_;rintro e w3 ⟨a2,rfl,h2,k2,ta⟩;have ay:=k0.lt;have ha2:w.1.size<a2:=by omega
 replace k0:=ia k0 ta;replace k1:=ia k1 ta;replace da:=ma da ta;clear ta h2 ay;go_wp2_with fail
 refine (HT.out _ _).mono ?_;rintro e w4 ⟨a3,rfl,h3,k3,ta⟩;have ay:=k0.lt;have ha3:w.1.size<a3:=by omega
 replace k0:=ia k0 ta;replace k1:=ia k1 ta;replace k2:=ia k2 ta;replace da:=ma da ta;clear ta h3 ay;go_upto_region 3 with fail
 obtain ⟨kr,kt,ta,-⟩:=Ih w4 211 25 #[ve (vE ⟨a1,0,vD⟩) 1 1,ve (vE ⟨a2,0,vD⟩) 1 1,ve (vE ⟨a3,0,vD⟩) 1 1] #[vd vn 97,vd vq 1,vd vq 4,ve (vE ⟨w4.1.size,0,vD⟩) 1 1];have hr0:w.1.size<w4.1.size:=k0.lt;replace k0:=ia k0 ta;replace k1:=ia k1 ta;replace k2:=ia k2 ta;replace k3:=ia k3 ta;replace da:=ma da ta;clear ta;generalize (w4.alloc _).alloc _=w5 at kr kt k0 k1 k2 k3 da |-;generalize w4.1.size+1=gt at kt |-;generalize w4.1.size=gr at kr kt hr0 |-;have ct:=kt.cell;have lt:=kt.lt;have Jn:w.1.size<w5.1.size:=k0.lt;have c0:=k0.cell;have f0:=k0.frozen;go_wp2_with fail
 obtain ⟨wy,hwy,kf,sf⟩:=l7 k0 (vd vn 97) (vd vq 1) (vd vq 4) (ve (vE ⟨gr,0,vD⟩) 1 1) (vd vq 2) (vd vq 1) (vd vq 2) (ve (vE ⟨w5.1.size,0,vD⟩) 4 4) (vd vn 3) (.bool true) (vd vn 0);rw [hwy];have kw:=Blk.new wy 22 #[vd vn 1,vd vn 35,vd vn 5,vd vn 7];rw [sf.size] at kw;replace k1:=sf.blk k1 (by omega)
 replace k2:=sf.blk k2 (by omega)
 replace k3:=sf.blk k3 (by omega)
 replace kr:=sf.blk kr (by omega)
 replace da:=sf.below da zR;have ja:=(za wy.1.size wy).alloc zR (.cells #[vd vn 1,vd vn 35,vd vn 5,vd vn 7] 22);replace kf:=ia kf ja;replace k1:=ia k1 ja;replace k2:=ia k2 ja;replace k3:=ia k3 ja;replace kr:=ia kr ja;replace da:=ma da ja;clear hwy sf ct lt c0 f0 k0 ja;generalize wy.alloc _=wf at kw kf k1 k2 k3 kr da |-;generalize w5.1.size=gw at kw kf |-;have cf:=kf.cell;have y1:=rrow_N (i:=2) (j:=3) (k:=1) (by omega) (by omega) (by omega) k1 k2 k3 kr
 have y2:=rI (l:=[1,35,5,7]) kw rfl (by decide) (by simp [maxLen])
 refine ed (v:=vf #[vd vn 97,vd vq 1,vd vq 4,ve (vE ⟨gr,0,vD⟩) 1 1,vd vq 2,vd vq 1,vd vq 2,ve (vE ⟨gw,0,vD⟩) 4 4,vd vn 3, .bool true,vd vn 0]) ?_ rfl ?_
 ·simp [results,results52,go_sem,cf]
 ·exact ⟨gr,gw,rfl,y1,y2,da⟩
def layE:Ra:=⟨97,2,2,4,8,2,1,1,1⟩
theorem xO:Rb layE:=⟨by decide,by decide,by decide,by decide,by decide,by decide,⟨3,rfl⟩,by decide,by decide,by decide,by decide,by decide,by decide,by decide,by decide,by decide,by decide,by decide,by decide⟩
theorem wO:ak layE ⟨layE.p,((1:Nat):Int),4,[Br 2 3 1].length,2,1,2⟩:=⟨rfl,by kernel_rfl,by decide +kernel,by decide,by decide⟩
theorem XP:rB layE.p ((1:Nat):Int) 4 [Br 2 3 1] [1,35,5,7] true:=⟨by decide +kernel,by decide +kernel,fun _=>by decide,by decide,by decide +kernel⟩
theorem I1:∀ (p:List Nat) {O:Ga} {k:Nat} (lab:Nat) (el:List Nat) (i:Nat),Lc O k -> Lc (Rm p O lab el i) (k+p.length+1)
 | [],O,k,lab,el,_,h=>Ue (yI h lab el) (by simp)
 | a :: ps,O,k,lab,el,i,h=>by
  unfold Rm;cases qn O lab el with
  | none=>exact Ue (yI h lab el) (by simp only [jf];omega)
  | some b=>exact Ue (I1 ps _ _ _ (yI h lab el)) (by simp only [jf];omega)
theorem zDv {O:Ga} {k:Nat} (h:Lc O k) (root n i salt:Nat) (leaf path:List Nat):Lc (Bw O root n i salt leaf path) (k+11):=by
 unfold Bw;split
 ·next hv =>
  have:=(W4 hv).1;exact Ue (I1 path 16 _ i h) (by omega)
 ·exact Ue h (by omega)
theorem zEy {L:Ra} {j:Nat} {P:ProofR} (h:Rn L j P=true):P.cols.length=L.queries /\ (∀ c∈P.cols,c.length=L.a+L.b+L.b+L.b+3) /\ P.salts.length=L.queries /\ P.paths.length=L.queries /\ ∀ c∈P.paths,c.length=j:=by
 unfold Rn uF Vn at h;simp only [Cc,Hh,Xd] at h;obtain ⟨-,-,-,-,⟨hc,Mh⟩,⟨-,hs⟩,hp,Pe⟩:=h;exact ⟨by omega,fun c k=>by have:=(hc c k).2;omega,by omega,by omega,fun c k=>by have:=(hp c k).2;omega⟩
theorem zDJ {w:vw} {g:Nat} {O:Ga} {F K:Nat -> Prop} (h:OrcAt w g O F) (L:Ra) (j pu:Nat) (vars bl bw qs:Int) (A B:Option vy) (n c m d:Nat) (rows:List Ya) (pb:List Nat) (P:ProofR) (S:PS)
  (hX:dG L.p (pu:Int) vars rows bl bw qs pb L) (hn:L.n=2^j) (hD:cG L.p (pu:Int) vars rows) (ht:L.a+3*L.b <= 40)
  (hA:Hd K w fun u=>RSl 3 oe u [ve A n c] rows /\ RWd u [ve B m d] pb /\ Gj u P S) (hK:∀ b,K b -> b<w.1.size /\ ¬F b) (hO:Lc O 100000) :
  vB prog 83 #[.pointer (vE ⟨g,0,vD⟩),vf (Db L),sc L.p (pu:Int) vars (ve A n c),ve B m d,vf (Ld P S)] w fun e w' =>
   ∃ F',e=vl (.bool (ss O L j pu (Xf L.p (pu:Int) vars rows) rows pb P).1) /\ OrcAt w' g (ss O L j pu (Xf L.p (pu:Int) vars rows) rows pb P).2 F' /\ Moved F F' w w':=by
 obtain ⟨kl,kt,kp,da,-⟩:=rn w 101 25 46 (Db L) #[vd vn L.p,vd vq pu,vd vq vars,ve A n c] (Ld P S);have hj:=pP hn hX.ok.n2;have a0:=yg hA;have Wt:=zH (fun u (hb:vA w.1.size w u)=>p4 L j P S u hX.ok hn hj (uk hA (ng hb)).2.2)
 have H:=zH h;have nF:=zH (show ∀ b,w.1.size <= b -> ¬F b from fun b hb e=>by have:=h.lt b e;omega)
 have HK:=zH hK;obtain ⟨r,hr⟩:=zEX (ss O L j pu (Xf L.p (pu:Int) vars rows) rows pb P);rw [<- hr];cases hv:Rn L j P
 ·rw [hv] at Wt
  have HR:=zH (show r=(false,O) by rw [hr];unfold ss;rw [hv];rfl)
  clear hr hv a0 hj hA hX hD ht hK hO hn h;unfold Db Ld sc at *;go_enter func83,ntmps83
  go_upto_region 1 with fail
  generalize ((w.alloc _).alloc _).alloc _=w1 at kl kt kp da |-;have cl:=kl.cell;have cp:=kp.cell;go_wp2_with fail
  refine (Wt.out _ da).mono ?_;rintro e w2 ⟨rfl,Aa⟩;have hb:=ma da Aa;go_wp2;go_ret
  exact ⟨F,by rw [HR.out];rfl,by rw [HR.out];exact H.out.below hb,zd hb⟩
 rw [hv] at Wt;obtain ⟨ch,Tx⟩:=zEX (Si (qe O L (Xf L.p (pu:Int) vars rows) pb) L.p P.root);obtain ⟨pos,Kl⟩:=zEX (Zk (te (qe O L (Xf L.p (pu:Int) vars rows) pb) P.root) (P.code++P.linear++P.quad) L.n L.queries);obtain ⟨O1,tn⟩:=zEX (Cj (te (qe O L (Xf L.p (pu:Int) vars rows) pb) P.root) (P.code++P.linear++P.quad) L.queries);obtain ⟨sb,YE⟩:=zEX (RF L (Et L.p rows.length ch.rh (1 :: pb) rows 3) P.code P.linear P.quad);obtain ⟨f,hf⟩:∃ f:Nat -> Bool,f=fun i=>yB L (Xh L pu ch.rh rows) ch.al ch.be P.code P.linear P.quad ((pos.getD i 0:Nat):Int) (P.cols.getD i []):=⟨_,rfl⟩
 obtain ⟨v,Rv⟩:∃ v:Ga -> Nat -> Bool,v=fun Z i=>FA Z P.root L.n (pos.getD i 0) (P.salts.getD i 0) (P.cols.getD i []) (P.paths.getD i []):=⟨_,rfl⟩
 obtain ⟨o,ho⟩:∃ o:Ga -> Nat -> Ga,o=fun Z i=>Bw Z P.root L.n (pos.getD i 0) (P.salts.getD i 0) (P.cols.getD i []) (P.paths.getD i []):=⟨_,rfl⟩
 obtain ⟨q,hq⟩:=zEX (L.queries);have HR:=zH (show r=if sb then (if ku f q q then Gu v o q q O1 else (false,O1)) else (false,O1) by
  rw [hr,YE,hf,Rv,ho,tn,Kl,Tx,hq];unfold ss;rw [hv,Qa rfl])
 have hm:m=pu:=by have h1:=(Qb a0.2.1).1;have h2:=hX.len;omega
 subst hm;have hpu:m<65536:=by have:=(mK hX.tab);omega
 have hc:=fun (u:vw) (ho:OrcAt u g O F) (a:Wi K w u)=>zDM ho L j hX.ok hn hj (Nb hX.ok.p).2 L.p m vars A B n c m d rows pb P S (uk hA a).1 hD hX.tab (uk hA a).2.1 (Kz (Td hA a) fun u h=>h.2.2) (fun b hb=>(hK b hb).2) (Ue hO (by omega)) hv rfl (by omega) hX.lt (zEx hX.ok hv) a0.2.2.root
 rw [<- Tx,<- tn,<- Kl] at hc;have hs:=fun (u:vw) (a:Wi K w u)=>zD4 L m ch.rh ch.al ch.be vars A B S.A1 S.A2 S.A3 n c d S.n1 S.c1 S.n2 S.c2 S.n3 S.c3 rows pb P.code P.linear P.quad u hX.ok (YP hX.tab hX.lfor) (uk hA a).1 (uk hA a).2.1 (uk hA a).2.2.code (uk hA a).2.2.linear (uk hA a).2.2.quad
 rw [<- YE] at hs;have hcol:∀ (i:Nat) (u:vw),Wi K w u -> ∀ (B1:Option vy) (nn cn:Nat),RWd u [ve B1 nn cn] (P.cols.getD i []) -> vB prog 177 #[vf (Db L),sc L.p (m:Int) vars (ve A n c),vf #[vd vn ch.al,vd vn ch.rh,vd vn ch.be],ve S.A1 S.n1 S.c1,ve S.A2 S.n2 S.c2,ve S.A3 S.n3 S.c3,vd vq ((pos.getD i 0:Nat):Int),ve B1 nn cn] u fun e w'=>e=vl (.bool (f i)) /\ vA u.1.size u w':=fun i u a B1 nn cn Mh=>by
  rw [hf];exact zDN L m ch.rh ch.al ch.be vars _ A S.A1 S.A2 S.A3 B1 n c S.n1 S.c1 S.n2 S.c2 S.n3 S.c3 nn cn rows P.code P.linear P.quad _ u hX.ok (YP hX.tab hX.lfor) (uk hA a).1 (pV hX.tab) (uk hA a).2.2.code (uk hA a).2.2.linear (uk hA a).2.2.quad Mh
 obtain ⟨hl4,Lp,hl5,hl6,yE⟩:=zEy hv;have hver:∀ (i:Nat) (u:vw) (Z:Ga) (Fz KB:Nat -> Prop),i<q -> OrcAt u g Z Fz -> Lc Z 300000 -> ∀ (B1 B2:Option vy) (Xp Fp VC xB:Nat),Me KB u (ve B1 Xp Fp) (P.cols.getD i []) -> Me KB u (ve B2 VC xB) (P.paths.getD i []) -> (∀ b,KB b -> b<u.1.size /\ ¬Fz b) ->
   vB prog 178 #[.pointer (vE ⟨g,0,vD⟩),vd vn P.root,vd vq L.n,vd vq ((pos.getD i 0:Nat):Int),vf #[ve B1 Xp Fp,vd vn ((P.salts.getD i 0:Nat):Int),ve B2 VC xB]] u fun e w'=>∃ F',e=vl (.bool (v Z i)) /\ OrcAt w' g (o Z i) F' /\ Moved Fz F' u w':=fun i u Z Fz KB hi hz hzl B1 B2 Xp Fp VC xB h1 h2 hk=>by
  rw [Rv,ho];exact zGz hz P.root L.n _ _ B1 B2 Xp Fp VC xB _ _ h1 h2 hk (by rw [Lp _ (Js [] (by rw [hl4,<- hq];exact hi))];omega) (by rw [yE _ (Js [] (by rw [hl6,<- hq];exact hi))];omega) hzl
 have hole:∀ Z k i,Lc Z k -> Lc (o Z i) (k+11):=fun Z k i hz=>by rw [ho];exact zDv hz _ _ _ _ _ _
 have iY:Lc O1 101000:=by
  rw [tn];have h1:Lc (qe O L (Xf L.p (m:Int) vars rows) pb).O (100000+1):=Yp hO 18 _;have h3:=aP h1 (qe O L (Xf L.p (m:Int) vars rows) pb).st (qe O L (Xf L.p (m:Int) vars rows) pb).ct P.root;have h4:=Yp h3 18 ((te (qe O L (Xf L.p (m:Int) vars rows) pb) P.root).st :: 3 :: (P.code++P.linear++P.quad));have h5:=YC (lab:=19) (Yi (Yg (te (qe O L (Xf L.p (m:Int) vars rows) pb) P.root) 3 (P.code++P.linear++P.quad)).st 0 L.queries) h4;rw [yT] at h5;have:=hX.ok.q2;exact Ue h5 (by omega)
 have Pe:pos.length=q:=by rw [Kl,hq];exact BT _ _ _ _ (by have:=hX.ok.nk;have:=hX.ok.k;omega)
 have hq64:q <= 64:=by rw [hq];exact hX.ok.q2
 have HC:=zH hc;have HS:=zH hs;have HCol:=zH hcol;have HVer:=zH hver;have HOL:=zH hole;have Ty:=zH iY;have Wm:=zH Pe;have HQ:=zH hq64;have HL:=zH (show P.cols.length=q /\ P.salts.length=q /\ P.paths.length=q by rw [hq];exact ⟨hl4,hl5,hl6⟩)
 have HA:=zH hA;rw [<- hq] at HC;clear hr hv a0 hj hA hX hD ht hK hO hn h hc hs hcol hver hole iY Pe hq64 hl4 hl5 hl6 Lp yE tn Kl Tx YE hf Rv ho hq hpu;unfold Db Ld sc at *;go_enter func83,ntmps83
 go_upto_region 1 with fail
 generalize ((w.alloc _).alloc _).alloc _=w1 at kl kt kp da |-;have cl:=kl.cell;have cp:=kp.cell;go_wp2_with fail
 refine (Wt.out _ da).mono ?_;rintro e w2 ⟨rfl,Aa⟩;replace kl:=ia kl Aa;replace kt:=ia kt Aa;replace kp:=ia kp Aa;replace da:=ma da Aa;clear Aa cl cp Wt;have cl:=kl.cell;have ct:=kt.cell;have cp:=kp.cell;go_wp2_with fail
 refine (HC.out _ (H.out.below da) (ng da)).mono ?_;rintro _ w3 ⟨gr,dr,F1,rfl,ho1,m1,ow1,nr1⟩;have nl:=fe m1 kl.lt (nF.out _ zR);have nt:=fe m1 kt.lt (nF.out _ (by omega))
 have np:=fe m1 kp.lt (nF.out _ (by omega))
 replace kl:=kl.moved m1 (nF.out _ zR);replace kt:=kt.moved m1 (nF.out _ (by omega))
 replace kp:=kp.moved m1 (nF.out _ (by omega))
 have AG:=TD (ng da) (ik m1 fun b hb=>(HK.out b hb).2)
 have MV:=(zd (F:=F) da).trans m1;have lgr:gr<w3.1.size:=(ow1.lt gr rfl).2;have KF:∀ b,K b -> ¬F1 b /\ b<w3.1.size:=fun b hb=>⟨fe m1 (Sd (HK.out b hb).1 da.size) (HK.out b hb).2,Sd (HK.out b hb).1 MV.size⟩
 have OWR:=vL ow1;have nc:¬F1 w3.1.size:=fun e=>by have:=ho1.lt _ e;omega
 have kc:=Blk.new w3 136 #[vd vn ch.al,vd vn ch.rh,vd vn ch.be];have ja:=(za w3.1.size w3).alloc zR (.cells #[vd vn ch.al,vd vn ch.rh,vd vn ch.be] 136);have tb:=ja.size;clear m1 ow1 da cl ct cp HC;go_upto_region 4 with fail
 generalize w3.alloc _=w4 at kc ja tb |-;replace ho1:=ho1.below ja;replace MV:=MV.trans (zd ja);replace AG:=TD AG (ng ja);replace OWR:=Td OWR (ng ja);replace kl:=ia kl ja;replace kt:=ia kt ja;replace kp:=ia kp ja;obtain ⟨gc,hgc⟩:=zEX (w3.1.size);rw [<- hgc] at kc nc |-;obtain ⟨KB,Kx⟩:∃ KB:Nat -> Prop,KB=fun b=>¬F1 b /\ b<w4.1.size:=⟨_,rfl⟩
 have Dz:∀ b,¬F1 b -> b<w4.1.size -> KB b:=fun b h1 h2=>by rw [Kx];exact ⟨h1,h2⟩
 have yl:=zH (show ∀ b,KB b -> ¬F1 b /\ b<w4.1.size by rw [Kx];exact fun b h=>h)
 have KKB:=zH (show ∀ b,K b -> KB b from fun b hb=>Dz b (KF b hb).1 (Sd (KF b hb).2 tb))
 have HKM:=zH (show KB w.1.size /\ KB (w.1.size+1+1) /\ KB gc /\ KB gr from ⟨Dz _ nl kl.lt,Dz _ np kp.lt,Dz _ nc kc.lt,Dz _ nr1 (Sd lgr tb)⟩)
 have Xj:=zH (show Hd KB w4 (fun u=>Blk u w.1.size _ _ /\ Blk u (w.1.size+1) _ _ /\ Blk u (w.1.size+1+1) _ _ /\ Blk u gc _ _ /\ Wi K w u /\ Rd u 1 (vE ⟨gr,0,vD⟩) q (Jk (Nn pos))) from fun u a =>
  have bk:∀ {g:Nat} {t:vz} {cs:Array vx},Blk w4 g t cs -> ¬F1 g -> Blk u g t cs:=fun k hg=>(a.block _ (Dz _ hg k.lt) k.lt).trans k
  ⟨bk kl nl,bk kt nt,bk kp np,bk kc nc,TD AG (gu a KKB.out),Y2 (uk OWR (gu a fun b h=>by have e:gr=b:=db h;rw [<- e];exact HKM.out.2.2.2))⟩)
 have HSu:=zH (HS.out _ AG);have mG:=zH ho1;have dm:=zH MV;clear ja tb hgc Kx Dz lgr KF OWR nl nt np nr1 ho1 MV AG HS;have cl:=kl.cell;have ct:=kt.cell;have cp:=kp.cell;have cc:=kc.cell;go_wp2_with fail
 refine HSu.out.mono ?_;rintro e w5 ⟨rfl,Wa⟩;replace mG:=zH (mG.out.below Wa);replace dm:=zH (dm.out.trans (zd Wa));have eD:=zH Wa.size;replace Xj:=zH (Td Xj.out (ng Wa));clear kl kt kp kc cl ct cp cc Wa HSu nc;cases sb
 ·go_wp2
  go_ret
  exact ⟨F1,by rw [HR.out];rfl,by rw [HR.out];exact mG.out,dm.out⟩
 replace HR:=zH (HR.out.trans (Qa rfl));have Nv:(q:Int) <= 64:=by have:=HQ.out;omega
 go_upto_region 7 with fail
 go_loopw [45] (fun y wr=>∃ i:Nat,i <= q /\ y=vd vq i /\ vA w5.1.size w5 wr /\ Hid (ku f q q=ku f q (q-i))) (fun y _=>q-(intOf y).toNat)
 case atStart=>exact ⟨0,Lb _,rfl,za _ _,zH rfl⟩
 case round =>
  obtain ⟨i,hi,rfl,Ab,HI⟩:=hrel;have HW:=zH (Td Xj.out (ng Ab));by_cases ra:i<q
  ·have Wb:=zH ra
   obtain ⟨kl,kt,kp,kc,ag,Ma⟩:=yg HW.out;obtain ⟨b0,q0,e0,lb0,xg⟩:=Cy Ma (by omega)
   have rL:gr=b0:=by injection e0 with e0;injection e0 with e1
   have RS:0=q0:=by injection e0 with e0;injection e0 with e1 e2
   subst rL RS;obtain ⟨z,hz⟩:∃ z:Nat,z=pos.getD i 0:=⟨_,rfl⟩;have PG:=(xg i ra).trans (by rw [UT (by rw [Wm.out];exact ra),<- hz]:_=vE (vd vq z))
   rw [Mk] at PG;have Ks:=Td HA.out ag;obtain ⟨bC,qC,B1,Xp,Fp,eC,kbC,lbC,hcC,hrC⟩:=IL (uO (Kz Ks fun u h=>h.2.2.cols)) (show i<P.cols.length by rw [HL.out.1];exact ra)
   have hn4:S.n4=q:=(zj (yg Ks).2.2.cols).1.symm.trans HL.out.1;obtain ⟨fi,Vx⟩:=zEX (f i);have ah:=fun (u:vw) (hb:vA wr.1.size wr u)=>HCol.out i u (TD ag (ng hb)) B1 Xp Fp (Bb hb (Sj hrC))
   rw [<- Vx,<- hz] at ah;have HCx:=zH ah;have HFI:=zH Vx;have g1:(0:Int)<=i:=by omega
   have g2:(i:Int)<q:=by omega
   have g4:(i:Int)<S.n4:=by omega
   have cl:=kl.cell;have ct:=kt.cell;have cp:=kp.cell;have cc:=kc.cell;have l0:=kl.lt;have l1:=kt.lt;have l2:=kp.lt;have l3:=kc.lt;have HBr:=zH Ab;clear kl kt kp kc Ma xg e0 hz Ks hn4 ah Vx hrC kbC ra hi ag Ab;generalize S.A4=S4 at eC cp |-;subst eC;go_upto_region 9 with fail
   refine Cd (Tb) [15] [0,1,2,3,4,5,6,7,8,9,10,11,12,13,14,15,16] (by kernel_rfl) (by kernel_rfl) ?_
   refine De (pa) ?_;intro Wc Ha ea;have Ja:=Tf Ha;refine Ob ?_;refine Gc (pa) rfl rfl rfl (fun _=>by go_simp <;> rfl) ((HCx.out _ Ja).mono ?_)
   rintro e w6 ⟨rfl,Ec⟩;refine ⟨_,rfl,Ec,?_⟩;replace ea:=(pa).trans _ _ _ ea (Ec);refine zPU ?_;have HB6:=zH (ma (ma HBr.out Ja) Ec);clear Ec Ja;refine Ob ?_;refine Qc ?_;clear ea Ha cl ct cp cc l0 l1 l2 l3 hcC PG lb0 lbC HCx;cases fi
   ·have Ut:=zH (show r=(false,O1) by rw [HR.out,HI.out,gX f Wb.out,<- HFI.out];rfl)
    go_wp2;go_ret
    exact ⟨F1,by rw [Ut.out];rfl,by rw [Ut.out];exact mG.out.below HB6.out,dm.out.trans (zd HB6.out)⟩
   ·have Gk:=zH (show ku f q q=ku f q (q-(i+1)) by rw [HI.out,gX f Wb.out,<- HFI.out];rfl)
    go_wp2
    go_roundw
    case rel=>exact ⟨i+1,Wb.out,by go_num,HB6.out,Gk⟩
    case measure=>have:=Wb.out;simp [intOf];omega
  ·obtain rfl:i=q:=by omega
   replace HR:=zH (HR.out.trans (Qa (HI.out.trans (zAx f i))));replace mG:=zH (mG.out.below Ab);replace dm:=zH (dm.out.trans (zd Ab));have KW:=zH (show ∀ b,KB b -> b<wr.1.size from fun b hb=>Sd (yl.out b hb).2 (jb eD.out Ab.size))
   clear Ab HI hi ra Xj HCol eD;obtain ⟨wo,rfl⟩:=zEX (wr);go_upto_region 13 with fail
   go_loopw [70] (fun y wx=>∃ (k:Nat) (Fr:Nat -> Prop) (Oc:Ga),k <= i /\ y=vd vq k /\ OrcAt wx g Oc Fr /\ Moved F1 Fr wo wx /\ Hid (Lc Oc (101000+11*k)) /\ Hid (Gu v o i i O1=Gu v o i (i-k) Oc)) (fun y _=>i-(intOf y).toNat)
   case atStart=>exact ⟨0,F1,O1,Lb _,rfl,mG.out,Moved.refl,zH Ty.out,zH rfl⟩
   case round =>
    obtain ⟨k,Fr,Oc,hk,rfl,NS,hmv,Ry,HI⟩:=hrel;have HOr:=zH NS;have HMx:=zH hmv;by_cases ra:k<i
    ·have Wb:=zH ra
     have HWx:=zH (Td HW.out (ik hmv fun b hb=>(yl.out b hb).1))
     have HKr:=zH (show ∀ b,KB b -> b<wr.1.size /\ ¬Fr b from fun b hb=>⟨Sd (KW.out b hb) hmv.size,fe hmv (KW.out b hb) (yl.out b hb).1⟩)
     obtain ⟨kl,kt,kp,kc,ag,Ma⟩:=yg HWx.out;obtain ⟨b0,q0,e0,lb0,xg⟩:=Cy Ma (by omega)
     have rL:gr=b0:=by injection e0 with e0;injection e0 with e1
     have RS:0=q0:=by injection e0 with e0;injection e0 with e1 e2
     subst rL RS;have Ks:=Td HA.out ag;obtain ⟨bC,qC,B1,Xp,Fp,eC,kbC,lbC,hcC,hrC⟩:=IL (uO (Kz Ks fun u h=>h.2.2.cols)) (show k<P.cols.length by rw [HL.out.1];exact ra)
     obtain ⟨bP,qP,B2,VC,xB,eP,kbP,lbP,hcP,hrP⟩:=IL (uO (Kz Ks fun u h=>h.2.2.paths)) (show k<P.paths.length by rw [HL.out.2.2];exact ra)
     obtain ⟨hl5,bS,qS,eS,kbS,lbS,hcS⟩:=qY (Kz Ks fun u h=>h.2.2.salts) (show k<P.salts.length by rw [HL.out.2.1];exact ra)
     have hn4:S.n4=i:=(zj (yg Ks).2.2.cols).1.symm.trans HL.out.1;have hn6:S.n6=i:=(zj (yg Ks).2.2.paths).1.symm.trans HL.out.2.2;have hn5:S.n5=i:=hl5.trans HL.out.2.1;have ly:=fun (u:vw) (ho:OrcAt u g Oc Fr) (h1:Me K u (ve B1 Xp Fp) (P.cols.getD k [])) (h2:Me K u (ve B2 VC xB) (P.paths.getD k [])) (hk:∀ b,K b -> b<u.1.size /\ ¬Fr b)=>HVer.out k u Oc Fr K ra ho (Ue Ry.out (by have:=HQ.out;omega)) B1 B2 Xp Fp VC xB h1 h2 hk
     obtain ⟨z,hz⟩:∃ z:Nat,z=pos.getD k 0:=⟨_,rfl⟩;obtain ⟨sz,tb⟩:∃ sz:Nat,sz=P.salts.getD k 0:=⟨_,rfl⟩;obtain ⟨vk,hvk⟩:=zEX (v Oc k);have PG:=(xg k ra).trans (by rw [UT (by rw [Wm.out];exact ra),<- hz]:_=vE (vd vq z))
     rw [Mk] at PG;rw [<- hvk,<- hz,<- tb] at ly;rw [<- tb] at hcS;have HVx:=zH ly;have HVK:=zH hvk;have HRC:=zH hrC;have HRP:=zH hrP;have g1:(0:Int)<=k:=by omega
     have g2:(k:Int)<i:=by omega
     have g4:(k:Int)<S.n4:=by omega
     have g5:(k:Int)<S.n5:=by omega
     have g6:(k:Int)<S.n6:=by omega
     obtain ⟨NR,LB⟩:=zEX (wr.1.size);have HNR:=zH LB;have fr0:=(HKr.out _ HKM.out.2.1).2;have fr1:=(HKr.out _ (KKB.out _ kbC)).2;have fr2:=(HKr.out _ (KKB.out _ kbP)).2;have fr3:=(HKr.out _ (KKB.out _ kbS)).2;have r0:w.1.size+1+1<NR:=by rw [LB];exact kp.lt
     have r1:bC<NR:=by rw [LB];exact lbC
     have r2:bP<NR:=by rw [LB];exact lbP
     have r3:bS<NR:=by rw [LB];exact lbS
     have cp:=kp.cell;clear kl kt kp kc Ma xg e0 hz tb Ks hn4 hn5 hn6 hl5 ly hvk hrC hrP kbC kbP kbS lbC lbP lbS ra hk ag hmv NS LB;have eC':=zH eC;have eP':=zH eP;have eS':=zH eS;rw [eC,eP,eS] at cp;clear eC eP eS;go_upto_region 15 with fail
     refine tK (Fr) (Fr) (NR) [17] [0,1,2,3,4,5,6,7,8,9,10,11,12,13,14,15] [(16,274,#[ve vD 0 0,vd vn 0,ve vD 0 0])] [17] (by kernel_rfl) (Cf.2 ⟨⟨_,rfl,rfl,fun a w=>by go_simp <;> rfl⟩,iB _⟩) (by kernel_rfl) ?_
     refine wK ?_;intro Wc Ha ea;have mc:Hid (Tm Fr NR Fr Wc):=zH (by rw [Ha.out,HNR.out];exact ⟨zR,HOr.out.lt,fun _ _ h=>h⟩)
     have HOq:=zH (show OrcAt Wc g Oc Fr by rw [Ha.out];exact HOr.out.drew)
     have HBq:=zH (show vA wr.1.size wr Wc by rw [Ha.out];exact (za _ _).drew)
     clear Ha;refine Gw ?_;refine vK [(vE 17,16)] rfl mc (fun Cz wE Te Jo=>?_)
     have LR:=Jo.blk _ (.head _) rfl;clear Jo;unfold Ah Sn;simp only [List.foldl];dsimp only at LR
     generalize Cz 16=g16 at LR  |-;obtain ⟨Bu,yL,hv16⟩:=LR;replace HOq:=zH (HOq.out.below Te);replace HBq:=zH (ma HBq.out Te);replace ea:=(Jc Fr NR).trans _ _ _ ea (Mj Te mc.out.size);replace mc:=zH (ru mc.out Te)
     refine zPU ?_
     clear Te;have QG:=Bu.cell;have f16:=Bu.frozen;refine Ir ?_;refine Ye (Jc Fr NR) rfl rfl rfl ?_;go_simp;refine ⟨Mj (QU yL [ve B1 Xp Fp,vd vn sz,ve B2 VC xB] 0 _) zR,?_⟩
     refine zPU ?_
     obtain ⟨wG,hwG,kP,sP⟩:=store3 Bu (ve B1 Xp Fp) (vd vn sz) (ve B2 VC xB);rw [hwG];have HOz:=zH (HOq.out.keep (Nat.le_of_eq sP.size.symm) fun b hb=>sP.far b fun e=>by have h1:=HOr.out.lt b hb;have h2:=HNR.out;omega)
     have Mw:=zH (sP.below HBq.out (by have:=HNR.out;omega))
     clear hwG QG f16 ea mc Bu sP HOq HBq yL hv16;have ea:=(Jc Fr NR).refl wG;refine Ir ?_;refine Qc ?_;clear ea cp hcC hcP hcS PG r0 r1 r2 r3 fr0 fr1 fr2 fr3 lb0;have HWz:=Td HWx.out (ng Mw.out);obtain ⟨kl,kt,kp,kc,ag,Ma⟩:=yg HWz;have HVz:=zH (HVx.out wG HOz.out (Mm HRC.out Mw.out) (Mm HRP.out Mw.out) fun b hb=>⟨Sd (HKr.out b (KKB.out b hb)).1 Mw.out.size,(HKr.out b (KKB.out b hb)).2⟩)
     have cl:=kl.cell;have cp:=kp.cell;have QG:=kP.cell;clear kl kt kp kc ag Ma HWz kP HVx;go_wp2_with fail
     refine HVz.out.mono ?_;rintro e w6 ⟨F2,rfl,ho2,mo2⟩;have Rt:=zH ho2;have HM2:=zH (HMx.out.trans ((zd Mw.out).trans mo2));clear ho2 mo2 cl cp QG HVz;cases vk
     ·have Ut:=zH (show r=(false,o Oc k) by rw [HR.out,HI.out,Z0 v o Wb.out,<- HVK.out];rfl)
      go_wp2;go_ret
      exact ⟨F2,by rw [Ut.out];rfl,by rw [Ut.out];exact Rt.out,dm.out.trans HM2.out⟩
     ·have Gk:=zH (show Gu v o i i O1=Gu v o i (i-(k+1)) (o Oc k) by rw [HI.out,Z0 v o Wb.out,<- HVK.out];rfl)
      have HLE2:=zH (show Lc (o Oc k) (101000+11*(k+1)) from Ue (HOL.out _ _ _ Ry.out) (by omega))
      go_wp2
      go_roundw
      case rel=>exact ⟨k+1,F2,o Oc k,Wb.out,by go_num,Rt.out,HM2.out,HLE2,Gk⟩
      case measure=>have:=Wb.out;simp [intOf];omega
    ·obtain rfl:k=i:=by omega
     have Ut:=zH (show r=(true,Oc) from HR.out.trans (HI.out.trans (zDr v o k Oc)))
     clear ra hk hmv NS HI;go_wp2;go_ret
     exact ⟨Fr,by rw [Ut.out];rfl,by rw [Ut.out];exact HOr.out,dm.out.trans HMx.out⟩
def JL (p:Nat) (pub vars:Int) (rows:List Ya) (bl bw qs:Int):Ra:=RO ⟨p,pub,vars,rows.length,bl,bw,qs⟩
def OI (O:Ga) (p:Nat) (pub vars:Int) (rows:List Ya) (bl bw qs:Int) (l:List Nat) (P:ProofR):Int × Ga :=
 if Fq p pub vars rows bl bw qs l≠0 then (Fq p pub vars rows bl bw qs l,O)
 else (if (ss O (JL p pub vars rows bl bw qs) (JL p pub vars rows bl bw qs).n.log2 pub.toNat (Xf p pub vars rows) rows l P).1 then 0 else 10,(ss O (JL p pub vars rows bl bw qs) (JL p pub vars rows bl bw qs).n.log2 pub.toNat (Xf p pub vars rows) rows l P).2)
theorem zBc {p:Nat} {pub vars:Int} {rows:List Ya} {bl bw qs:Int} {l:List Nat} {L:Ra} (h:dG p pub vars rows bl bw qs l L):Fq p pub vars rows bl bw qs l=0:=IX (QO h.tab h.lfor) ⟨h.len,h.lt⟩
theorem s8 {O:Ga} {p j pu:Nat} {vars:Int} {rows:List Ya} {bl bw qs:Int} {l:List Nat} {P:ProofR} {L:Ra} (h:dG p (pu:Int) vars rows bl bw qs l L) (hn:L.n=2^j) :
  OI O p (pu:Int) vars rows bl bw qs l P=(if (ss O L j pu (Xf p (pu:Int) vars rows) rows l P).1 then 0 else 10,(ss O L j pu (Xf p (pu:Int) vars rows) rows l P).2):=by
 have e:JL p (pu:Int) vars rows bl bw qs=L:=h.lfor.eq.symm;unfold OI;rw [La (fun k=>k (zBc h)),e,hn,Nat.log2_two_pow,Lk]
theorem r8 {O:Ga} {p:Nat} {pub vars:Int} {rows:List Ya} {bl bw qs:Int} {l:List Nat} {P:ProofR} (h:Fq p pub vars rows bl bw qs l≠0):OI O p pub vars rows bl bw qs l P=(Fq p pub vars rows bl bw qs l,O):=Qa h
theorem pAcc_r {w:vw} {g:Nat} {O:Ga} {F K:Nat -> Prop} (h:OrcAt w g O F) (L:Ra) (j pu:Nat) (vars bl bw qs:Int) (A B:Option vy) (n c m d:Nat) (rows:List Ya) (pb:List Nat) (P:ProofR) (S:PS)
  (hX:dG L.p (pu:Int) vars rows bl bw qs pb L) (hn:L.n=2^j) (hS:YI rows) (ht:L.a+3*L.b <= 40)
  (hA:Hd K w fun u=>RSl 3 oe u [ve A n c] rows /\ RWd u [ve B m d] pb /\ Gj u P S) (hK:∀ b,K b -> b<w.1.size /\ ¬F b) (hO:Lc O 100000) (r:Int × Ga)
  (hr:r=(if (ss O L j pu (Xf L.p (pu:Int) vars rows) rows pb P).1 then 0 else 10,(ss O L j pu (Xf L.p (pu:Int) vars rows) rows pb P).2)) :
  vB prog 83 #[.pointer (vE ⟨g,0,vD⟩),vf (Db L),sc L.p (pu:Int) vars (ve A n c),ve B m d,vf (Ld P S)] w fun e w' =>
   ∃ rb F',e=vl (.bool rb) /\ r.1=(if rb then 0 else 10) /\ OrcAt w' g r.2 F' /\ Moved F F' w w':=by
 refine (zDJ h L j pu vars bl bw qs A B n c m d rows pb P S hX hn (lX hX.tab hS) ht hA hK hO).mono ?_;rintro e w' ⟨F',rfl,h1,h2⟩;subst hr;exact ⟨_,F',rfl,rfl,h1,h2⟩
theorem B4 {w:vw} {g:Nat} {O:Ga} {F K:Nat -> Prop} (h:OrcAt w g O F) (p:Nat) (pub vars bl bw qs:Int) (A B:Option vy) (n c m d:Nat) (rows:List Ya) (l:List Nat) (P:ProofR) (S:PS)
  (hS:YI rows) (hR:∀ L,Rb L -> ak L ⟨p,pub,vars,rows.length,bl,bw,qs⟩ -> L.a+3*L.b <= 40)
  (hA:Hd K w fun u=>RSl 3 oe u [ve A n c] rows /\ RWd u [ve B m d] l /\ Gj u P S) (hK:∀ b,K b -> b<w.1.size /\ ¬F b) (hO:Lc O 100000) :
  vB prog 23 #[.pointer (vE ⟨g,0,vD⟩),sc p pub vars (ve A n c),vf #[vd vq bl,vd vq bw,vd vq qs],ve B m d,vf (Ld P S)] w fun e w' =>
   ∃ F',e=vl (vd vq (OI O p pub vars rows bl bw qs l P).1) /\ OrcAt w' g (OI O p pub vars rows bl bw qs l P).2 F' /\ Moved F F' w w':=by
 obtain ⟨kt,kx,kp,da,-⟩:=rn w 25 27 46 #[vd vn p,vd vq pub,vd vq vars,ve A n c] #[vd vq bl,vd vq bw,vd vq qs] (Ld P S);have HEx:=zH (fun u (hb:vA w.1.size w u)=>zDR p pub vars A B n c m d rows l bl bw qs u (uk hA (ng hb)).1 (uk hA (ng hb)).2.1)
 obtain ⟨r,hr⟩:=zEX (OI O p pub vars rows bl bw qs l P);rw [<- hr];have H:=zH h;have KM:=zH (fun k=>(hr.trans (r8 k)))
 have ea:∀ (L:Ra) (j pu:Nat),pub=(pu:Int) -> p=L.p -> dG p pub vars rows bl bw qs l L -> L.n=2^j -> ∀ (u:vw),vA w.1.size w u -> vB prog 83 #[.pointer (vE ⟨g,0,vD⟩),vf (Db L),sc p pub vars (ve A n c),ve B m d,vf (Ld P S)] u fun e w' =>
   ∃ rb F',e=vl (.bool rb) /\ r.1=(if rb then 0 else 10) /\ OrcAt w' g r.2 F' /\ Moved F F' u w':=by
  intro L j pu epu ep hX hn u hb;subst epu ep;exact pAcc_r (h.below hb) L j pu vars bl bw qs A B n c m d rows l P S hX hn hS (hR L hX.ok hX.lfor) (Td hA (ng hb)) (fun b hk=>⟨Sd (hK b hk).1 hb.size,(hK b hk).2⟩) hO r (hr.trans (s8 hX hn))
 have xD:=zH ea;clear hr hA hK hO hS hR h ea;unfold Ld sc at *;go_enter func23,ntmps23
 go_upto_region 1 with fail
 generalize ((w.alloc _).alloc _).alloc _=w1 at kt kx kp da |-;have ct:=kt.cell;have cx:=kx.cell;go_wp2_with fail
 refine (HEx.out _ da).mono ?_;rintro e w2 ⟨⟨y0,y1,y2,y3,y4,y5,y6,y7,y8,y9,ue,rfl,hy⟩,Aa⟩;obtain ⟨ee,hee⟩:=zEX (Fq p pub vars rows bl bw qs l);rw [<- hee] at hy KM |-;replace kt:=ia kt Aa;replace kp:=ia kp Aa;replace da:=ma da Aa;clear Aa ct cx HEx kx hee;have ja:=(za w2.1.size w2).alloc zR (.cells #[vd vn y0,vd vq y1,vd vq y2,vd vq y3,vd vq y4,vd vq y5,vd vq y6,vd vq y7,vd vq y8,vd vq y9,vd vq ue] 101);have kl:=Blk.new w2 101 #[vd vn y0,vd vq y1,vd vq y2,vd vq y3,vd vq y4,vd vq y5,vd vq y6,vd vq y7,vd vq y8,vd vq y9,vd vq ue];replace kt:=ia kt ja;replace kp:=ia kp ja;replace da:=ma da ja;clear ja;by_cases hz:ee=0
 rotate_left
 ·have HR:=zH (KM.out hz)
  have d1:(ee != (0:Int))=true:=Df.2 hz;clear hz hy xD KM kt kp kl;go_wp2_with fail
  generalize w2.alloc _=w3 at da |-;go_ret
  exact ⟨F,by rw [HR.out];rfl,by rw [HR.out];exact H.out.below da,zd da⟩
 obtain ⟨L,hX,rE⟩:=hy hz;obtain ⟨rfl,rfl,rfl,rfl,rfl,rfl,rfl,rfl,rfl,rfl,rfl⟩:=wT rE;obtain ⟨j,hj⟩:=hX.ok.n;have hAc:=xD.out L j pub.toNat (by have:=hX.len;omega) hX.lfor.p.symm hX hj
 unfold Db at hAc;have HAc:=zH hAc;clear hX rE hy hj hAc xD KM;subst hz;go_upto_region 2 with fail
 generalize w2.alloc _=w3 at da kl kt kp |-;generalize w2.1.size=gl at kl |-;have cl:=kl.cell;have ct:=kt.cell;have cp:=kp.cell;go_wp2_with fail
 refine (HAc.out _ da).mono ?_;rintro e w4 ⟨rb,F',rfl,Oo,ho,hm⟩;have HM:=zH ((zd (F:=F) da).trans hm);have HO:=zH ho;have pG:=zH Oo;clear ho hm Oo cl ct cp kl kt kp HAc;cases rb
 ·go_wp2
  go_ret
  exact ⟨F',by rw [show r.1=_ from pG.out];rfl,HO.out,HM.out⟩
 ·go_wp2
  go_ret
  exact ⟨F',by rw [show r.1=_ from pG.out];rfl,HO.out,HM.out⟩
section
variable {L:Ra} {j pu:Nat} {C:CoR} {vars:Int} {rows:List Ya} {ws:List Nat} {bl bw qs:Int} {O Z:Ga} {k:Nat}
theorem exm_x (hL:Rb L) (uf:ak L ⟨L.p,(pu:Int),vars,rows.length,bl,bw,qs⟩) (hT:rB L.p (pu:Int) vars rows ws true):dG L.p (pu:Int) vars rows bl bw qs ((ws.drop 1).take pu) L where
 tab:=hT.tab
 len:=by
  obtain ⟨yk,-,-⟩:=TK hT.asg;have:=uf.vars;simp only at this;rw [List.length_take,List.length_drop];omega
 lt:=by
  obtain ⟨-,-,Kn⟩:=TK hT.asg;rw [Xd];exact fun y hy=>Xd.1 Kn y (List.mem_of_mem_drop (List.mem_of_mem_take hy))
 ok:=hL
 lfor:=uf
theorem few_x (uf:ak L ⟨L.p,(pu:Int),vars,rows.length,bl,bw,qs⟩) (ht:L.a+3*L.b <= 40):∀ L',Rb L' -> ak L' ⟨L.p,(pu:Int),vars,rows.length,bl,bw,qs⟩ -> L'.a+3*L'.b <= 40:=fun L' _ h=>by rw [h.eq,<- uf.eq];exact ht
theorem I0 (hL:Rb L) (hn:L.n=2^j) (hO:oB O k) (hk:k <= 1000):Lc ((mh L j pu vars rows ws C).oF O) 100000:=by
 have Wd:=hL.n2;have Tp:=hL.q2;refine Ue (oF_le (mh L j pu vars rows ws C) O hn hO.le) ?_;show k+1+2*L.n+4+1+L.queries <= 100000
 omega
end
theorem zGA {w:vw} {g:Nat} {O Z:Ga} {F K:Nat -> Prop} {k:Nat} (h:OrcAt w g Z F) (L:Ra) (j pu:Nat) (C:CoR) (vars bl bw qs:Int) (A B:Option vy) (n c m d:Nat) (rows:List Ya) (ws:List Nat) (S:PS)
  (hL:Rb L) (hn:L.n=2^j) (uf:ak L ⟨L.p,(pu:Int),vars,rows.length,bl,bw,qs⟩) (ht:L.a+3*L.b <= 40) (hT:rB L.p (pu:Int) vars rows ws true) (hC:C.ok L=true) (hO:oB O k) (hZ:Ud ((mh L j pu vars rows ws C).oF O) Z)
  (hA:Hd K w fun u=>RSl 3 oe u [ve A n c] rows /\ RWd u [ve B m d] ((ws.drop 1).take pu) /\ Gj u ((mh L j pu vars rows ws C).pr O) S) (hK:∀ b,K b -> b<w.1.size /\ ¬F b) (hZl:Lc Z 100000) :
  vB prog 23 #[.pointer (vE ⟨g,0,vD⟩),sc L.p (pu:Int) vars (ve A n c),vf #[vd vq bl,vd vq bw,vd vq qs],ve B m d,vf (Ld ((mh L j pu vars rows ws C).pr O) S)] w fun e w' =>
   ∃ F',e=vl (vd vq 0) /\ OrcAt w' g Z F' /\ Moved F F' w w':=by
 have hv:=B4 h L.p (pu:Int) vars bl bw qs A B n c m d rows ((ws.drop 1).take pu) _ S hT.small (few_x uf ht) hA hK hZl;rw [s8 (exm_x hL uf hT) hn,acc_x hL hn uf hT hC hO hZ] at hv;exact hv
theorem zA9:∀ L,Rb L -> ak L ⟨layE.p,((1:Nat):Int),4,[Br 2 3 1].length,2,1,2⟩ -> L.a+3*L.b <= 40:=fun L _ h=>by
 rw [h.eq,<- wO.eq];decide
theorem exm0:Fq layE.p ((1:Nat):Int) 4 [Br 2 3 1] 2 1 2 []=1:=JX (QO XP.tab wO) (fun h=>by have:=h.1;simp at this)
def aD (C:CoR):ProofR:=(mh layE 3 1 4 [Br 2 3 1] [1,35,5,7] C).pr ⟨false,0,0,[]⟩
def zF (C:CoR):Ga:=(mh layE 3 1 4 [Br 2 3 1] [1,35,5,7] C).oF ⟨false,0,0,[]⟩
theorem CP:oB ⟨false,0,0,[]⟩ 0:=R5 true 0 (by decide)
theorem zAa (w:vw):vB prog 14 #[] w fun e w'=>e=vl (.bool true) /\ vA w.1.size w w':=by
 have HEx:=zH (fun w=>zBa w)
 have HRe:=zH (fun w=>zFa w)
 go_enter func14,ntmps14
 go_wp2_with fail
 refine (HEx.out _).mono ?_;rintro e w1 ⟨gr,gw,rfl,hr,hw,hb⟩;have kc:=Blk.new w1 32 #[vd vn 97,vd vq 1,vd vq 4,ve (vE ⟨gr,0,vD⟩) 1 1,vd vq 2,vd vq 1,vd vq 2,ve (vE ⟨gw,0,vD⟩) 4 4,vd vn 3, .bool true,vd vn 0];have ja:=(za w1.1.size w1).alloc zR (.cells #[vd vn 97,vd vq 1,vd vq 4,ve (vE ⟨gr,0,vD⟩) 1 1,vd vq 2,vd vq 1,vd vq 2,ve (vE ⟨gw,0,vD⟩) 4 4,vd vn 3, .bool true,vd vn 0] 32);replace hr:=Dg Bg _ _ _ _ ja hr;replace hw:=Bb ja hw;replace hb:=ma hb ja;clear ja;go_upto_region 2 with fail
 generalize w1.alloc _=w2 at kc hr hw hb |-;generalize w1.1.size=gc at kc |-;have lc:=kc.lt;go_wp2_with fail
 refine (HRe.out _).mono ?_;rintro e w3 ⟨g,F,rfl,ho,hF,Ua⟩;have hR:Hd (fun b=>b<w2.1.size) w3 fun u=>RSl 3 oe u [ve (vE ⟨gr,0,vD⟩) 1 1] [Br 2 3 1] /\ RWd u [ve (vE ⟨gw,0,vD⟩) 4 4] [1,35,5,7] /\ RWd u [ve vD 0 0] []:=fun u a=>⟨rY (Dg Bg) hr Ua u a,rY dI hw Ua u a,L6 u⟩
 have hK:∀ b,b<w2.1.size -> b<w3.1.size /\ ¬F b:=fun b hb=>⟨Sd hb Ua.size,fun e=>by have:=hF b e;omega⟩
 have HP:Hid (vB prog 45 #[.pointer (vE ⟨g,0,vD⟩),vf #[vd vn 97,vd vq 1,vd vq 4,ve (vE ⟨gr,0,vD⟩) 1 1,vd vq 2,vd vq 1,vd vq 2,ve (vE ⟨gw,0,vD⟩) 4 4,vd vn 3, .bool true,vd vn 0],ve vD 0 0] w3 fun e w' =>
   ∃ (C:CoR) (S:PS) (F':Nat -> Prop),C.ok layE=true /\ e=vl (.tuple #[vf #[vd vn 97,vd vq 2,vd vq 2,vd vq 4,vd vq 8,vd vq 2,vd vq 1,vd vq 1,vd vq 1,vd vq 1,vd vq 1],vf (Ld (aD C) S), .bool true]) /\ OrcAt w' g (zF C) F' /\ Moved F F' w3 w' /\ Hd (fun b=>w3.1.size <= b /\ b<w'.1.size /\ ¬F' b) w' (fun u=>Gj u (aD C) S)) :=
  zH (zEE (K:=fun b=>b<w2.1.size) ho layE 3 1 3 4 2 1 2 (vE ⟨gr,0,vD⟩) (vE ⟨gw,0,vD⟩) vD 1 1 4 4 0 0 [Br 2 3 1] [1,35,5,7] [] true 0 xO rfl wO (by decide) XP (by decide) hR hK (Ue CP.le (by omega)))
 have Ik:Hid (∀ (C:CoR) (S:PS) (u:vw) (F1 K:Nat -> Prop) (gb:Nat),C.ok layE=true -> OrcAt u g (zF C) F1 -> (∀ b,K b -> b<u.1.size /\ ¬F1 b) -> Hd K u (fun u=>RSl 3 oe u [ve (vE ⟨gr,0,vD⟩) 1 1] [Br 2 3 1] /\ RWd u [ve (vE ⟨gb,0,vD⟩) 1 1] [35] /\ Gj u (aD C) S) -> vB prog 23 #[.pointer (vE ⟨g,0,vD⟩),vf #[vd vn 97,vd vq 1,vd vq 4,ve (vE ⟨gr,0,vD⟩) 1 1],vf #[vd vq 2,vd vq 1,vd vq 2],ve (vE ⟨gb,0,vD⟩) 1 1,vf (Ld (aD C) S)] u fun e w'=>∃ F',e=vl (vd vq 0) /\ OrcAt w' g (zF C) F' /\ Moved F1 F' u w') :=
  zH (fun C S u F1 K gb hC ho hK hA=>zGA ho layE 3 1 C 4 2 1 2 (vE ⟨gr,0,vD⟩) (vE ⟨gb,0,vD⟩) 1 1 1 1 [Br 2 3 1] [1,35,5,7] S xO rfl wO (by decide) XP hC CP (fun _ _ _ h=>h) hA hK (I0 xO rfl CP (by decide)))
 have Ym:Hid (∀ (C:CoR) (S:PS) (u:vw) (F1 K:Nat -> Prop),C.ok layE=true -> OrcAt u g (zF C) F1 -> (∀ b,K b -> b<u.1.size /\ ¬F1 b) -> Hd K u (fun u=>RSl 3 oe u [ve (vE ⟨gr,0,vD⟩) 1 1] [Br 2 3 1] /\ RWd u [ve vD 0 0] [] /\ Gj u (aD C) S) -> vB prog 23 #[.pointer (vE ⟨g,0,vD⟩),vf #[vd vn 97,vd vq 1,vd vq 4,ve (vE ⟨gr,0,vD⟩) 1 1],vf #[vd vq 2,vd vq 1,vd vq 2],ve vD 0 0,vf (Ld (aD C) S)] u fun e w'=>∃ F',e=vl (vd vq 1) /\ OrcAt w' g (zF C) F' /\ Moved F1 F' u w') :=
  zH (fun C S u F1 K hC ho hK hA=>by
   have hq:OI (zF C) layE.p ((1:Nat):Int) 4 [Br 2 3 1] 2 1 2 [] (aD C)=(1,zF C):=by rw [r8 (by rw [exm0];decide),exm0]
   refine Calls.mono (B4 ho layE.p ((1:Nat):Int) 4 2 1 2 (vE ⟨gr,0,vD⟩) vD 1 1 0 0 [Br 2 3 1] [] (aD C) S XP.small zA9 hA hK (I0 xO rfl CP (by decide))) fun e w' h=>?_
   obtain ⟨F',he,h1,h2⟩:=h;rw [hq] at he h1;dsimp only at he h1
   exact ⟨F',he,h1,h2⟩)
 have HR:=zH hR;have HW3:=zH (ma hb Ua);have HF:=zH hF;have nFc:¬F gc:=fun e=>by have:=hF _ e;omega
 have s23:=Ua.size;have sw:=hb.size;replace kc:=ia kc Ua;clear hr hw hR hK ho hF hb HEx HRe Ua;have cc:=kc.cell;go_wp2_with fail
 refine HP.out.mono ?_;rintro e w4 ⟨C,S,F',hC,rfl,ho,hm,hp⟩;have HC:=zH hC;have nFc':=fe hm kc.lt nFc;replace kc:=kc.moved hm nFc;have KD:=zH (dJ HW3.out hm fun b hb=>by have:=HF.out b hb;omega)
 have HF4:=zH (show ∀ b,F' b -> w2.1.size <= b from fun b hb=>(hm.foot b hb).elim (HF.out b) fun h=>by omega)
 have rq:=zH (Td HR.out (ik hm fun b hb e=>by have:=HF.out b e;omega))
 have s34:=hm.size;have Ur:=zH hp;have HO:=zH ho;replace Ik:=zH (fun u F1 K gb=>Ik.out C S u F1 K gb hC)
 replace Ym:=zH (fun u F1 K=>Ym.out C S u F1 K hC)
 generalize aD C=P at *;generalize zF C=OF at *;unfold Ld at *;obtain ⟨kl,kp,Wa,hs5⟩:=Ih w4 101 46 #[vd vn 97,vd vq 2,vd vq 2,vd vq 4,vd vq 8,vd vq 2,vd vq 1,vd vq 1,vd vq 1,vd vq 1,vd vq 1] #[vd vn P.root,ve S.A1 S.n1 S.c1,ve S.A2 S.n2 S.c2,ve S.A3 S.n3 S.c3,ve S.A4 S.n4 S.c4,ve S.A5 S.n5 S.c5,ve S.A6 S.n6 S.c6];have nl:¬F' w4.1.size:=fun e=>by have:=HO.out.lt _ e;omega
 have np:¬F' (w4.1.size+1):=fun e=>by have:=HO.out.lt _ e;omega
 have sF:=zH (show ∀ b,F' b -> b<w4.1.size from HO.out.lt)
 obtain ⟨KP,hKP⟩:∃ KP:Nat -> Prop,KP=fun b=>w3.1.size <= b /\ b<w4.1.size /\ ¬F' b:=⟨_,rfl⟩
 rw [<- hKP] at Ur;have HKP:=zH (show ∀ b,KP b -> b<w4.1.size /\ ¬F' b by rw [hKP];exact fun b h=>h.2)
 clear hm hp ho hC cc HP HW3 HR hKP;go_upto_region 6 with fail
 generalize (w4.alloc _).alloc _=w5 at kl kp Wa hs5 |-;have eD:=Wa.size;clear hs5;replace kc:=ia kc Wa;replace HO:=zH (HO.out.below Wa);replace rq:=zH (Td rq.out (ng Wa));replace Ur:=zH (Td Ur.out (ng Wa));replace KD:=zH (ma KD.out Wa);have kb:=Blk.new w5 22 #[vd vn 35];have ja:=(za w5.1.size w5).alloc zR (.cells #[vd vn 35] 22);have cc5:=kc.cell;have cl5:=kl.cell;have cp5:=kp.cell;have nb:¬F' w5.1.size:=fun e=>by have:=sF.out _ e;omega
 have s56:=ja.size;have h35:=rI (l:=[35]) kb rfl (by decide) (by simp [maxLen])
 replace kc:=ia kc ja;replace kp:=ia kp ja;have cc:=kc.cell;have cp:=kp.cell;replace HO:=zH (HO.out.below ja);replace rq:=zH (Td rq.out (ng ja));replace Ur:=zH (Td Ur.out (ng ja));replace KD:=zH (ma KD.out ja);clear Wa ja kl;go_wp2_with fail
 generalize w5.alloc _=w6 at kc kp kb HO rq Ur KD h35 cc cp s56 |-;have lb:=kb.lt;generalize w5.1.size=gb at kb nb h35 eD s56 lb |-;have Wt:=zH (Ik.out w6 F' (fun b=>b<w2.1.size \/ KP b \/ b=gb) gb HO.out
  (fun b hb=>hb.elim (fun h=>⟨by omega,fun e=>by have:=HF4.out b e;omega⟩) fun hb=>hb.elim (fun h=>⟨by have:=(HKP.out b h).1;omega,(HKP.out b h).2⟩) fun h=>by subst h;exact ⟨lb,nb⟩)
  (fun u a=>⟨(rq.out u (gu a fun b hb=>.inl hb)).1,rI (l:=[35]) ((a.block gb (.inr (.inr rfl)) lb).trans kb) rfl (by decide) (by simp [maxLen]),Ur.out u (gu a fun b hb=>.inr (.inl hb))⟩))
 clear cc5 cl5 cp5 cc cp h35 Ik;refine Wt.out.mono ?_;rintro e w7 ⟨F2,rfl,ho7,jC⟩;have HO7:=zH ho7;have zh:∀ {b},b<w6.1.size -> ¬F' b -> ¬F2 b:=fun h1 h2=>fe jC h1 h2
 have lc6:=kc.lt;have lp6:=kp.lt;have s67:=jC.size;replace kc:=kc.moved jC nFc';replace kp:=kp.moved jC np;replace rq:=zH (Td rq.out (ik jC fun b hb e=>by have:=HF4.out b e;omega))
 replace Ur:=zH (Td Ur.out (ik jC fun b hb=>(HKP.out b hb).2))
 replace KD:=zH (dJ KD.out jC fun b hb=>by have:=HF4.out b hb;omega)
 have HF7:=zH (show ∀ b,F2 b -> w2.1.size <= b from fun b hb=>(jC.foot b hb).elim (HF4.out b) fun h=>by omega)
 have HVb:=zH (Ym.out w7 F2 (fun b=>b<w2.1.size \/ KP b) ho7
  (fun b hb=>hb.elim (fun h=>⟨by omega,fun e=>by have:=HF7.out b e;omega⟩) fun h=>⟨by have:=(HKP.out b h).1;omega,zh (by have:=(HKP.out b h).1;omega) (HKP.out b h).2⟩)
  (fun u a=>⟨(rq.out u (gu a fun b hb=>.inl hb)).1,L6 u,Ur.out u (gu a fun b hb=>.inr hb)⟩))
 have cc:=kc.cell;have cp:=kp.cell;clear jC ho7 kc kp Wt Ym rq Ur zh;go_wp2_with fail
 refine HVb.out.mono ?_;rintro e w8 ⟨F3,rfl,ho8,hm8⟩;have HW8:=zH (dJ KD.out hm8 fun b hb=>by have:=HF7.out b hb;omega)
 clear cc cp hm8 ho8 HVb;go_wp2;go_ret
 exact ⟨rfl,HW8.out⟩
structure Nk (O U:Ga):Prop where
 io:O.ideal=true
 iu:U.ideal=true
 st:U.st=O.st
 dr:U.dr=O.dr
 find:∀ lab el,lab≠16 -> xd U.qs lab el=xd O.qs lab el
theorem LN (qs:List Qn) (q:Qn) (lab:Nat) (el:List Nat):xd (qs++[q]) lab el=(xd qs lab el).or (xd [q] lab el):=by
 unfold xd;rw [List.find?_append];cases qs.find? (Tn lab el) <;> rfl
theorem zGl {O:Ga} (h:O.ideal=true):Nk O O:=⟨h,h,rfl,rfl,fun _ _ _=>rfl⟩
theorem XV (O:Ga) (lab a:Nat) (el:List Nat):(Wh (Jj O) lab el a).st=AB O.st:=by
 cases O
 rfl
theorem VV (O:Ga) (lab a:Nat) (el:List Nat):(Wh (Jj O) lab el a).dr=O.dr+1:=by
 cases O
 rfl
theorem WV (O:Ga) (lab a:Nat) (el:List Nat):(Wh (Jj O) lab el a).ideal=O.ideal:=by
 cases O
 rfl
theorem W7 {O U:Ga} (h:Nk O U) {lab Ql a:Nat} {el el':List Nat} (hq:∀ l e,l≠16 -> xd [⟨Ql,el',a⟩] l e=xd [⟨lab,el,a⟩] l e):Nk (Wh (Jj O) lab el a) (Wh (Jj U) Ql el' a):=by
 refine ⟨by rw [WV];exact h.io,by rw [WV];exact h.iu,?_,?_,fun l e hl=>?_⟩
 ·rw [XV,XV,h.st]
 ·rw [VV,VV,h.dr]
 ·rw [eu,eu,LN,LN,hq l e hl,show (Jj U).qs=U.qs from zz U,show (Jj O).qs=O.qs from zz O,h.find l e hl]
theorem lV {O U:Ga} (h:Nk O U):Cq U=Cq O:=by unfold Cq;rw [h.st]
theorem BM {O U:Ga} (h:Nk O U) {lab:Nat} (hl:lab≠16) (el:List Nat):Pd U lab el=Pd O lab el /\ Nk (Dc O lab el) (Dc U lab el):=by
 unfold Pd Dc;rw [h.find lab el hl,h.io,h.iu,lV h];split
 ·cases xd O.qs lab el with
  | none=>exact ⟨rfl,W7 h fun _ _ _=>rfl⟩
  | some a=>exact ⟨rfl,h⟩
 ·exact ⟨rfl,h⟩
theorem bQ {lab:Nat} (hl:lab≠16):∀ (qs:List (List Nat)) {O U:Ga},Nk O U -> Nk (Pb O lab qs) (Pb U lab qs)
 | [],_,_,h=>h
 | q :: qs,O,U,h=>bQ hl qs (O:=Dc O lab q) (U:=Dc U lab q) (BM h hl q).2
theorem zGh {lab:Nat} (hl:lab≠16) (qs:List (List Nat)) {O U:Ga} (h:Nk O U):Tc U lab qs=Tc O lab qs:=by
 unfold Tc;exact Uu fun i _=>(BM (bQ hl (qs.take i) h) hl _).1
theorem lY {O:Ga} {el:List Nat} (hi:O.ideal=true) (he:Rc el=true) (hn:xd O.qs 16 el=vD):Pd O 16 el=Cq O /\ Dc O 16 el=Wh (Jj O) 16 el (Cq O):=by
 unfold Pd Dc;rw [Qa he,Qa he,hn];generalize Cq O=d;show (if O.ideal=true then d else _)=d /\ (if O.ideal=true then Wh (Jj O) 16 el d else _)=_
 rw [Qa hi,Qa hi];exact ⟨rfl,rfl⟩
theorem JN (lab Ql a:Nat) (el el':List Nat):xd [⟨lab,el,a⟩] Ql el'=if lab=Ql /\ el=el' then vE a else vD:=by
 unfold xd;by_cases h:lab=Ql /\ el=el'
 ·obtain ⟨rfl,rfl⟩:=h
  simp [Tn]
 ·rw [La h]
  by_cases h1:lab=Ql
  ·have h2:¬el=el':=fun e=>h ⟨h1,e⟩
   simp [Tn,h1,h2]
  ·simp [Tn,h1]
theorem TQ (O:Ga) (lab:Nat) (q:List Nat) (qs:List (List Nat)):Pb O lab (q :: qs)=Pb (Dc O lab q) lab qs:=rfl
theorem CW (O:Ga) (lab:Nat) (q:List Nat) (qs:List (List Nat)):Tc O lab (q :: qs)=Pd O lab q :: Tc (Dc O lab q) lab qs:=by
 unfold Tc;rw [jf,List.range_succ_eq_map,List.map_cons,List.map_map,List.take_zero];have e0:Pb O lab []=O:=rfl;have e1:(q :: qs).getD 0 []=q:=rfl;rw [e0,e1];refine congrArg (Pd O lab q :: ·) ?_
 refine Uu fun i _=>?_
 show Pd (Pb O lab ((q :: qs).take (i+1))) lab ((q :: qs).getD (i+1) [])=_
 rw [List.take_succ_cons,TQ,List.getD_cons_succ]
theorem DW (O:Ga) (lab:Nat):Tc O lab []=[]:=by
 unfold Tc;rw [List.length_nil,List.range_zero,List.map_nil]
theorem zGj (qs:List (List Nat)):∀ (rs:List (List Nat)) {O U:Ga},qs.length=rs.length -> Nk O U -> qs.Nodup -> rs.Nodup -> (∀ q∈qs,Rc q=true /\ xd O.qs 16 q=vD) -> (∀ q∈rs,Rc q=true /\ xd U.qs 16 q=vD) ->
  Tc U 16 rs=Tc O 16 qs /\ Nk (Pb O 16 qs) (Pb U 16 rs):=by
 induction qs with
 | nil =>
  intro rs O U hl h _ _ _ _;cases rs with
  | nil=>exact ⟨by rw [DW,DW],h⟩
  | cons r rs=>simp at hl
 | cons q qs ih =>
  intro rs O U hl h hq hr hqa hra;cases rs with
  | nil=>simp at hl
  | cons r rs =>
   obtain ⟨e1,e2⟩:=lY h.io (hqa q (.head _)).1 (hqa q (.head _)).2;obtain ⟨f1,f2⟩:=lY h.iu (hra r (.head _)).1 (hra r (.head _)).2;have ht:Nk (Dc O 16 q) (Dc U 16 r):=by
    rw [e2,f2,lV h];refine W7 h fun l e hl=>?_
    rw [JN,JN,La (fun c=>hl c.1.symm),La (fun c=>hl c.1.symm)]
   obtain ⟨pj,Tp⟩:=List.nodup_cons.1 hq;obtain ⟨Of,Ll⟩:=List.nodup_cons.1 hr;have:=ih rs (by simpa using hl) ht Tp Ll (fun y hy=>⟨(hqa y (.tail _ hy)).1,by rw [e2,eu,LN,show (Jj O).qs=O.qs from zz O,(hqa y (.tail _ hy)).2,JN,La (show ¬((16:Nat)=16 /\ q=y) from fun c=>pj (c.2 ▸ hy))];rfl⟩)
    (fun y hy=>⟨(hra y (.tail _ hy)).1,by rw [f2,eu,LN,show (Jj U).qs=U.qs from zz U,(hra y (.tail _ hy)).2,JN,La (show ¬((16:Nat)=16 /\ r=y) from fun c=>Of (c.2 ▸ hy))];rfl⟩)
   rw [CW,CW,TQ,TQ,e1,f1,lV h];exact ⟨by rw [this.1],this.2⟩
theorem X7:∀ (d:Nat) {O U:Ga} (l:List Nat),Nk O U -> ff d U l=ff d O l /\ Nk (iq d O l) (iq d U l)
 | 0,_,_,_,h=>⟨rfl,h⟩
 | d+1,O,U,l,h=>by
  have e:=zGh (show (17:Nat)≠16 by decide) (Vc l) h
  have t:=X7 d (Tc O 17 (Vc l)) (bQ (show (17:Nat)≠16 by decide) (Vc l) h)
  show l :: ff d (Pb U 17 (Vc l)) (Tc U 17 (Vc l))=l :: ff d (Pb O 17 (Vc l)) (Tc O 17 (Vc l)) /\ Nk (iq d (Pb O 17 (Vc l)) (Tc O 17 (Vc l))) (iq d (Pb U 17 (Vc l)) (Tc U 17 (Vc l)))
  rw [e];exact ⟨by rw [t.1],t.2⟩
structure jB (lab:Nat) (O:Ga):Prop where
 ideal:O.ideal=true
 no:∀ q∈O.qs,q.lab≠lab
theorem zDd {lab Ql:Nat} {O:Ga} (h:jB lab O) (hl:Ql≠lab) (el:List Nat):jB lab (Dc O Ql el):=by
 refine ⟨by rw [mS];exact h.ideal,?_⟩
 unfold Dc;split
 ·split
  ·exact h.no
  ·rw [Qa h.ideal,eu]
   intro q hq;rcases uq.1 hq with hq | hq
   ·rw [show (Jj O).qs=O.qs from zz O] at hq
    exact h.no q hq
   ·rw [zp] at hq
    rw [hq];exact hl
 ·exact h.no
theorem zDc {O:Ga} (h:jB 16 O) (L:Ra) (dg:Nat) (l:List Nat):jB 16 (qe O L dg l).O:=zDd h (by decide) _
structure SD (s t:Tr):Prop where
 o:Nk s.O t.O
 st:t.st=s.st
 ct:t.ct=s.ct
theorem V7 {s t:Tr} (h:SD s t) (tag:Nat) (l:List Nat):SD (Yg s tag l) (Yg t tag l):=by
 have e:=BM h.o (show (18:Nat)≠16 by decide) (s.st :: tag :: l)
 unfold Yg;rw [h.st];exact ⟨e.2,e.1,rfl⟩
theorem kV {s t:Tr} (h:SD s t):SD (Ic s) (Ic t) /\ Ep t=Ep s:=by
 have e:=BM h.o (show (19:Nat)≠16 by decide) [s.st,s.ct]
 unfold Ic Ep;rw [h.st,h.ct];exact ⟨⟨e.2,rfl,rfl⟩,e.1⟩
theorem zGf {s t:Tr} (h:SD s t) (p root:Nat):Si t p root=Si s p root /\ SD (te s root) (te t root):=by
 have b:=kV (V7 h 2 [root]);have c:=kV b.1;have d:=kV c.1;unfold Si te;rw [b.2,c.2,d.2];exact ⟨rfl,d.1⟩
theorem zGi {O U:Ga} (h:Nk O U) (s c i:Nat):rk U s c i=rk O s c i:=by
 unfold rk;exact (BM (bQ (by decide) _ h) (by decide) _).1
theorem zGk {O U:Ga} (h:Nk O U) (s c n q:Nat):xr U s c n q=xr O s c n q:=by
 unfold xr;rw [show rk U s c=rk O s c from funext fun i=>zGi h s c i]
theorem zGg {s t:Tr} (h:SD s t) (all:List Nat) (n q:Nat):Zk t all n q=Zk s all n q:=by
 have a:=V7 h 3 all;unfold Zk;rw [a.st,zGk a.o]
theorem ZY {ls:List (List Nat)} {sa:List Nat} (hl:sa.length=ls.length) (hd:sa.Nodup):(me ls sa).Nodup:=by
 have hp:=List.pairwise_iff_getElem.1 hd;unfold me List.Nodup;rw [List.pairwise_map,List.pairwise_iff_getElem];intro i j hi hj hij e;rw [nm] at hi hj;rw [List.getElem_range,List.getElem_range] at e;have e1:=(List.cons.inj e).1;rw [Jb,Jb,oc (show i<sa.length by omega),oc (show j<sa.length by omega)] at e1
 exact hp i j (by omega) (by omega) hij e1
theorem WY {ls:List (List Nat)} {sa:List Nat} (Hm:Rc sa=true) (hle:∀ l∈ls,Rc l=true):∀ q∈me ls sa,Rc q=true:=fun q hq=>by
 simp only [me,ld,Uh] at hq;obtain ⟨k,hk,rfl⟩:=hq;exact tR fun x hx=>by
  rcases Xg.1 hx with e | e
  ·rw [e];exact lH (fJ Hm) k
  ·exact fJ (hle _ (Js [] hk)) x e
theorem WZ {lab:Nat} {O:Ga} (h:jB lab O) (el:List Nat):xd O.qs lab el=vD:=by
 cases e:xd O.qs lab el with
 | none=>rfl
 | some a =>
  obtain ⟨q,hq,h1,-,-⟩:=zBr e;exact absurd h1 (h.no q hq)
def PvIn.salted (x:PvIn) (s:List Nat):PvIn:={ x with l4:=s }
section
variable {x:PvIn} {s:List Nat} {O:Ga}
theorem PvIn.salt_com (hO:jB 16 O) (h:x.Good) (hs:s.length=x.L.n /\ Rc s=true) (dx:x.l4.Nodup) (ds:s.Nodup) :
  Tc (x.t1 O).O 16 (me x.cols s)=Tc (x.t1 O).O 16 (me x.cols x.l4) /\ Nk (Pb (x.t1 O).O 16 (me x.cols x.l4)) (Pb (x.t1 O).O 16 (me x.cols s)):=by
 have h1:jB 16 (x.t1 O).O:=zDc hO x.L x.dg x.pu;have hc:=x.cols_els h.L.p;refine zGj _ _ (by rw [MC,MC]) (zGl h1.ideal) (ZY (by rw [x.cols_len];exact h.c4.1) dx) (ZY (by rw [x.cols_len];exact hs.1) ds) (fun q hq=>⟨WY h.c4.2 hc q hq,WZ h1 q⟩) (fun q hq=>⟨WY hs.2 hc q hq,WZ h1 q⟩)
theorem PvIn.salt_tree (hO:jB 16 O) (h:x.Good) (hs:s.length=x.L.n /\ Rc s=true) (dx:x.l4.Nodup) (ds:s.Nodup) :
  (x.salted s).tree O=x.tree O /\ Nk (x.o2 O) ((x.salted s).o2 O):=by
 have a:=PvIn.salt_com hO h hs dx ds;have b:=X7 x.dd (Tc (x.t1 O).O 16 (me x.cols x.l4)) a.2;unfold PvIn.tree PvIn.o2;show ff x.dd (Pb (x.t1 O).O 16 (me x.cols s)) (Tc (x.t1 O).O 16 (me x.cols s))=_ /\ Nk _ (iq x.dd (Pb (x.t1 O).O 16 (me x.cols s)) (Tc (x.t1 O).O 16 (me x.cols s)))
 rw [a.1];exact b
theorem PvIn.salt_pr (hO:jB 16 O) (h:x.Good) (hs:s.length=x.L.n /\ Rc s=true) (dx:x.l4.Nodup) (ds:s.Nodup) :
  (x.salted s).pr O={ x.pr O with salts:=(x.pos O).map fun i=>s.getD i 0 }:=by
 obtain ⟨ht,hw⟩:=PvIn.salt_tree hO h hs dx ds;have hr:(x.salted s).root O=x.root O:=by unfold PvIn.root;rw [ht]
 have hT:SD ⟨x.o2 O,(x.t1 O).st,0⟩ ⟨(x.salted s).o2 O,(x.t1 O).st,0⟩:=⟨hw,rfl,rfl⟩;obtain ⟨e1,e2⟩:=zGf hT x.L.p (x.root O);have hc:(x.salted s).ch O=x.ch O:=by
  unfold PvIn.ch;rw [hr];exact e1
 have ha:(x.salted s).all O=x.all O:=by
  unfold PvIn.all;rw [hc]
  rfl
 have hp:(x.salted s).pos O=x.pos O:=by
  unfold PvIn.pos PvIn.t2;rw [ha,hr];exact zGg e2 (x.all O) x.L.n x.L.queries
 unfold PvIn.pr;rw [hr,hc,hp,ht]
 rfl
end
theorem L5 (L:Ra) (coin:Nat) (w:vw) (hL:Rb L) (hs:coin<18446744073709551616) :
  vB prog 15 #[vf (Db L),vd vn coin] w fun e w'=>∃ S:CoS,e=vl (vf (eJ S)) /\ S.n4=L.n /\ S.n4 <= S.c4 /\ S.c4 <= maxLen /\ Hd (fun b=>w.1.size <= b /\ b<w'.1.size) w' (fun u=>OA u (uw L coin) S) /\ vA w.1.size w w':=by
 refine (zES L coin w hL hs).mono ?_;rintro e w' ⟨v0,v1,v2,v3,v4,nr,crs,rfl,o0,wu,o1,o2,o3,o4,hb⟩;have Nh:=eX L coin (by have:=Nb hL.p;omega)
 obtain ⟨Hv,Cn,Ad,Re,Lh⟩:=YK Nh;have Lp:=nN Nh;have uc:=(Nb hL.p).2;have WE:=JU wu o0 zR zR;obtain ⟨A0,n0,c0,rfl⟩:=RSl.slc WE.here;obtain ⟨A1,c1,rfl,-⟩:=ud o1;obtain ⟨A2,c2,rfl,-⟩:=ud o2;obtain ⟨A3,c3,rfl,-⟩:=ud o3;obtain ⟨A4,c4,rfl,h41,h42,-⟩:=ud o4;exact ⟨⟨A0,n0,c0,A1,_,c1,A2,_,c2,A3,_,c3,A4,_,c4⟩,rfl,rfl,h41,h42,fun u a =>
  ⟨hd_rrx WE u a,Om (vL o1 u (gu a fun b h=>o1.lt b h)) fun y hy=>Eh (Ad.2 y hy) uc,
   Om (vL o2 u (gu a fun b h=>o2.lt b h)) fun y hy=>Eh (Re.2 y hy) uc,
   Om (vL o3 u (gu a fun b h=>o3.lt b h)) fun y hy=>Eh (Lh.2 y hy) uc,
   Om (vL o4 u (gu a fun b h=>o4.lt b h)) fun y hy=>zq (of_decide_eq_true (Xd.1 Lp.2 y hy))⟩,hb⟩
def GI (L:Ra) (coin salt:Nat):CoR:={ uw L coin with l4:=yc Za salt [4] L.n }
theorem zFw {L:Ra} (hL:Rb L) (coin salt:Nat):(GI L coin salt).ok L=true:=by
 have h1:=uM hL coin;have h2:=uM hL salt;unfold CoR.ok Gs GI uw at *;simp only [Cc] at *;exact ⟨h1.1,h1.2.1,h1.2.2.1,h1.2.2.2.1,h1.2.2.2.2.1,h2.2.2.2.2.2⟩
theorem salt_x {L:Ra} {j pu coin salt seed:Nat} {vars:Int} {rows:List Ya} {ws:List Nat} (hL:Rb L) (hn:L.n=2^j) (dx:(yc Za coin [4] L.n).Nodup) (ds:(yc Za salt [4] L.n).Nodup) :
  {(mh L j pu vars rows ws (GI L coin salt)).pr (ar false seed) with salts:=((mh L j pu vars rows ws (uw L coin)).pr (ar false seed)).salts }=(mh L j pu vars rows ws (uw L coin)).pr (ar false seed):=by
 have h:=PvIn.salt_pr (x:=mh L j pu vars rows ws (uw L coin)) (s:=yc Za salt [4] L.n) (O:=ar false seed) ⟨rfl,fun q hq=>by simp [ar] at hq⟩ (C5 L j pu vars rows ws _ hL hn (uM hL coin)) (nN (uM hL salt)) dx ds
 rw [show mh L j pu vars rows ws (GI L coin salt)=(mh L j pu vars rows ws (uw L coin)).salted (yc Za salt [4] L.n) from rfl,h]
theorem zGB {n:Int} (h:(Lit.int vn n).wf=true):∃ m:Nat,n=(m:Int) /\ m<18446744073709551616:=by
 have hx:0 <= n /\ n <= 18446744073709551615:=by simpa [Lit.wf,IntKind.min,IntKind.max,IntKind.signed,IntKind.bits] using h
 obtain ⟨m,rfl⟩:=Kk hx.1;exact ⟨m,rfl,by omega⟩
theorem zBD {w:vw} {x0 x1 x2 x3 x4:vx}:(Instr.field 41 (vf #[x0,x1,x2,x3,x4]) 4).run prog w= .ok x4 w:=by
 simp [Instr.field,run_underlying underlying41,asAgg,part,Result.andThen]
theorem XW {w u:vw} {C:CoR} {S:CoS} (h:OA w C S) (hb:vA w.1.size w u):OA u C S :=
 ⟨zKR hb h.r,Bb hb h.l1,Bb hb h.l2,Bb hb h.l3,Bb hb h.l4⟩
theorem B8 {w:vw} {A:Option vy} {n c:Nat} {l:List Nat} (h:RWd w [ve A n c] l) (h0:0<l.length):∃ b q,A=vE ⟨b,q,vD⟩ /\ b<w.1.size /\ ∀ u,vA w.1.size w u -> ∀ i,i<l.length -> u.cell? ⟨b,q+i,vD⟩=vE (vd vn ((l.getD i 0:Nat):Int)):=by
 obtain ⟨hn,-,-,-,hr⟩:=Qb h;rw [hn] at hr;obtain ⟨b,q,rfl,hb,-⟩:=Ie hr h0;refine ⟨b,q,rfl,hb,fun u hu i hi=>?_⟩
 obtain ⟨b',q',e,-,hc⟩:=Ie hr hi
 injection e with e
 injection e with e1 e2
 subst e1 e2;exact (hu.cell (p:=⟨b,q+i,vD⟩) hb).trans hc
theorem YZ {l:List Nat} (h:∀ i k,k<i -> i<l.length -> l.getD i 0≠l.getD k 0):l.Nodup:=by
 rw [List.Nodup,List.pairwise_iff_getElem];intro i k hi hk hik e;have:=h k i hik hk;rw [Jb,Jb,oc hi,oc hk] at this;exact this e.symm
theorem zF9 (W:vw) (Zg:Array vx) (f0:Fits prog W 32 (vf Zg).cells.toList) (n1:Int) (f1:(Lit.int vn n1).wf=true) :
  vB prog 3 #[vf Zg,vd vn n1] W fun e W'=>e=vl (.bool true) /\ vA W.1.size W W':=by
 obtain ⟨p,pub,vars,A,B,n,c,m,d,rows,ws,bl,bw,qs,coin,seed,real,rfl,Kc,tL,WS⟩:=zDs f0;obtain ⟨salt,rfl,XE⟩:=zGB f1;clear f0 f1;have da:vA W.1.size W (W.alloc (.cells #[vd vn p,vd vq pub,vd vq vars,ve A n c,vd vq bl,vd vq bw,vd vq qs,ve B m d,vd vn coin, .bool real,vd vn seed] 32)):=(za _ W).alloc zR _;have kc0:=Blk.new W 32 #[vd vn p,vd vq pub,vd vq vars,ve A n c,vd vq bl,vd vq bw,vd vq qs,ve B m d,vd vn coin, .bool real,vd vn seed];have HR:=zH (fun w' (hb:vA W.1.size W w')=>zE1 p pub vars A B n c m d rows ws bl bw qs coin seed real w' (Dg Bg _ _ _ _ hb Kc.rows) (Bb hb Kc.ws) Kc.p)
 have HAw:=zH (fun w=>zAa w)
 have HId:=zH (fun w=>zB2 seed w WS)
 have Vf:=zH (R5 false seed WS);have VA:=zH Kc;have HCN:=zH tL;have HSL:=zH XE;clear Kc tL WS XE;go_enter func3,ntmps3
 go_upto_region 1 with fail
 generalize W.alloc _=w0 at da kc0 |-;have c0:=kc0.cell;go_wp2_with fail
 refine (HR.out _ da).mono ?_;rintro e w1 ⟨⟨AJ,CJ⟩,hb⟩;obtain ⟨y0,y1,y2,y3,y4,y5,y6,y7,y8,y9,ue,b,s,rfl,hL⟩:=AJ;have Fb:=ma da hb;have kc:=ia kc0 hb;clear hb da kc0 c0 HR;have Gb:=Fb.alloc Fb.size (.cells #[vd vn y0,vd vq y1,vd vq y2,vd vq y3,vd vq y4,vd vq y5,vd vq y6,vd vq y7,vd vq y8,vd vq y9,vd vq ue] 35);by_cases yn:b=true /\ s=true
 rotate_left
 ·have hh:b=false \/ (b=true /\ s=false):=by cases b <;> cases s <;> simp at yn |-
  clear hL CJ yn kc;rcases hh with rfl | ⟨rfl,rfl⟩
  all_goals
   go_wp2_with fail
   refine (HAw.out _).mono ?_;rintro e w2 ⟨rfl,Aa⟩;replace Gb:=ma Gb Aa;go_wp2_with fail
   refine (HAw.out _).mono ?_;rintro e w3 ⟨rfl,Ua⟩;go_wp2;go_ret
   exact ⟨rfl,ma Gb Ua⟩
 obtain ⟨rfl,rfl⟩:=yn;obtain ⟨L,ib,uf,hn64,h40,rE⟩:=hL rfl;have hT:=CJ _ _ rfl;obtain ⟨rfl,rfl,rfl,rfl,rfl,rfl,rfl,rfl,rfl,rfl,rfl⟩:=wT rE;obtain ⟨j,hj⟩:=ib.n;obtain ⟨pu,rfl⟩:=Kk uf.pub;obtain rfl:L.p=p:=uf.p;have kl:=Blk.new w1 35 #[vd vn L.p,vd vq L.block,vd vq L.queries,vd vq L.k,vd vq L.n,vd vq L.secret,vd vq L.rows,vd vq L.a,vd vq L.b,vd vq L.b,vd vq L.b];have Nl:=kc.alloc (.cells #[vd vn L.p,vd vq L.block,vd vq L.queries,vd vq L.k,vd vq L.n,vd vq L.secret,vd vq L.rows,vd vq L.a,vd vq L.b,vd vq L.b,vd vq L.b] 35);have HL:=zH ib;have HF:=zH uf;have HT:=zH hT;have H40:=zH h40;have HJ:=zH hj;have HN64:=zH hn64;clear rE hL CJ ib uf hn64 h40 hT hj Fb kc;go_wp2_with fail
 generalize w1.alloc _=w2 at Gb kl Nl |-;generalize w1.1.size=gl at kl |-;refine (HAw.out _).mono ?_;rintro e w3 ⟨rfl,Ua⟩;replace kl:=ia kl Ua;replace Nl:=ia Nl Ua;replace Gb:=ma Gb Ua;clear Ua HAw;have HFs:=zH (fun w'=>L5 L coin w' HL.out HCN.out)
 have HFt:=zH (fun w'=>L5 L salt w' HL.out HSL.out)
 unfold Db at HFs HFt;have cl:=kl.cell;have cc:=Nl.cell;go_wp2_with fail
 refine (HFs.out _).mono ?_;rintro e w4 ⟨S1,rfl,yd,re,tC,Ms,zb⟩;have Vg:=zH yd;clear yd;replace kl:=ia kl zb;replace Nl:=ia Nl zb;replace Gb:=ma Gb zb;unfold eJ;have k8:=Blk.new w4 41 #[ve S1.A0 S1.n0 S1.c0,ve S1.A1 S1.n1 S1.c1,ve S1.A2 S1.n2 S1.c2,ve S1.A3 S1.n3 S1.c3,ve S1.A4 S1.n4 S1.c4];have ja:=(za w4.1.size w4).alloc zR (.cells #[ve S1.A0 S1.n0 S1.c0,ve S1.A1 S1.n1 S1.c1,ve S1.A2 S1.n2 S1.c2,ve S1.A3 S1.n3 S1.c3,ve S1.A4 S1.n4 S1.c4] 41);replace kl:=ia kl ja;replace Nl:=ia Nl ja;replace Gb:=ma Gb ja;replace Ms:=Td Ms (ng ja);have eD:=ja.size;clear cl cc zb ja HFs;go_upto_region 5 with fail
 generalize w4.alloc _=w5 at k8 kl Nl Gb Ms eD |-;generalize w4.1.size=g8 at k8 Ms eD |-;have c8:=k8.cell;have k9:=Blk.new w5 41 #[ve S1.A0 S1.n0 S1.c0,ve S1.A1 S1.n1 S1.c1,ve S1.A2 S1.n2 S1.c2,ve S1.A3 S1.n3 S1.c3,ve S1.A4 S1.n4 S1.c4];have ja:=(za w5.1.size w5).alloc zR (.cells #[ve S1.A0 S1.n0 S1.c0,ve S1.A1 S1.n1 S1.c1,ve S1.A2 S1.n2 S1.c2,ve S1.A3 S1.n3 S1.c3,ve S1.A4 S1.n4 S1.c4] 41);have l85:=k8.lt;have ll5:=kl.lt;have lc5:=Nl.lt;replace kl:=ia kl ja;replace Nl:=ia Nl ja;replace k8:=ia k8 ja;replace Gb:=ma Gb ja;replace Ms:=Td Ms (ng ja);clear ja;go_upto_region 6 with fail
 clear c8;generalize w5.alloc _=w6 at k8 k9 kl Nl Gb Ms |-;generalize w5.1.size=g9 at k9 l85 ll5 lc5 eD |-;have cl:=kl.cell;go_wp2_with fail
 refine (HFt.out _).mono ?_;rintro e w7 ⟨S2,rfl,iy,WH,ht3,hS2,pc⟩;have Xm:=zH iy;clear iy;unfold eJ;have l96:=k9.lt;replace kl:=ia kl pc;replace Nl:=ia Nl pc;replace k8:=ia k8 pc;replace k9:=ia k9 pc;replace Gb:=ma Gb pc;replace Ms:=Td Ms (ng pc);clear cl pc HFt;have hfld:=fun (w:vw) (x0 x1 x2 x3 x4:vx)=>zBD (w:=w) (x0:=x0) (x1:=x1) (x2:=x2) (x3:=x3) (x4:=x4)
 have c9:=k9.cell;have f9:=k9.frozen;go_upto_region 7 with fail
 have k9':=k9.set_ 4 (ve S2.A4 S2.n4 S2.c4);simp only [Ba,Da,Fa] at k9';have sg:=Z6 (w:=w7) g9 4 (ve S2.A4 S2.n4 S2.c4);replace Nl:=sg.blk Nl (by omega)
 replace k8:=sg.blk k8 (by omega)
 replace Gb:=sg.below Gb (by have:=Gb.size;omega)
 replace Ms:=sg.hd Ms (by omega)
 replace hS2:=sg.hd hS2 (by omega)
 clear sg c9 f9 k9 kl hfld;generalize w7.setCell _ _=w8 at k9' Nl k8 Gb Ms hS2 |-;have oE:=yg Ms;have pE:=yg hS2;have hQ:∀ u,vA w8.1.size w8 u -> RSl 3 oe u [ve A n c] rows /\ RWd u [ve B m d] ws /\ OA u (uw L coin) S1 /\ OA u (GI L coin salt) ⟨S1.A0,S1.n0,S1.c0,S1.A1,S1.n1,S1.c1,S1.A2,S1.n2,S1.c2,S1.A3,S1.n3,S1.c3,S2.A4,S2.n4,S2.c4⟩:=fun u hb =>
  have h1:=XW oE hb
  ⟨Dg Bg _ _ _ _ (ma Gb hb) VA.out.rows,Bb (ma Gb hb) VA.out.ws,h1,⟨h1.r,h1.l1,h1.l2,h1.l3,(XW pE hb).l4⟩⟩
 have HQ:=zH hQ;obtain ⟨sa,Xz⟩:=zEX (yc Za coin [4] L.n);obtain ⟨sb,YE⟩:=zEX (yc Za salt [4] L.n);have Vs:sa.length=L.n:=by rw [Xz];simp [yc]
 have Qq:sb.length=L.n:=by rw [YE];simp [yc]
 have Ws:0<L.n:=by have:=HL.out.nk;have:=HL.out.k;have:=HL.out.b1;omega
 obtain ⟨b1,q1,e1,lb1,Vk⟩:=B8 (l:=sa) (by rw [Xz];exact oE.l4) (by rw [Vs];exact Ws)
 obtain ⟨b2,q2,e2,lb2,iF⟩:=B8 (l:=sb) (by rw [YE];exact pE.l4) (by rw [Qq];exact Ws)
 rw [Vs] at Vk;rw [Qq] at iF;have tp:=zH Vk;have HW2:=zH iF;have po:=zH Xz;have HSB:=zH YE;have WA:=zH (And.intro Vs Qq);have HBL:=zH Gb;have H8:=zH k8;have H9:=zH k9';have HKC:=zH Nl;have Yl:=zH e1;have Tg:=zH e2;obtain ⟨N,hN⟩:=zEX (L.n);have HN:=zH hN;have US:S1.n4=N:=Vg.out.trans hN.symm;have ht1':S2.n4=N:=Xm.out.trans hN.symm;have sQ:=zH US;have HS2N:=zH ht1';have gN:(N:Int) <= 1024:=by have:=HL.out.n2;omega
 have c8:=k8.cell;rw [<- hN] at tp HW2;rw [sQ.out] at c8;clear US ht1' Ms hS2 oE pE hQ Xz YE Vs Qq Ws e1 e2 Vk iF Gb k8 k9' Nl hN re tC WH ht3 l85 ll5 lc5 eD l96 lb1 lb2;go_upto_region 8 with fail
 clear c8;go_loopw [48] (fun y wr=>∃ i:Nat,i <= N /\ y=vd vq i /\ vA w8.1.size w8 wr /\ Hid (∀ a k,k<a -> a<i -> sa.getD a 0≠sa.getD k 0 /\ sb.getD a 0≠sb.getD k 0)) (fun y _=>N-(intOf y).toNat)
 case atStart=>exact ⟨0,Lb _,rfl,za _ _,zH (fun a k h1 h2=>by omega)⟩
 case round =>
  obtain ⟨i,hi,rfl,Ab,HI⟩:=hrel;by_cases ra:i<N
  ·have Wb:=zH ra
   have g1:(0:Int)<=i:=by omega
   have g2:(i:Int)<N:=by omega
   have g3:(i:Int) <= 1024:=by omega
   clear hi ra;obtain ⟨wo,rfl⟩:=zEX (wr);go_upto_region 11 with fail
   go_loopw [52] (fun y wx=>∃ k:Nat,k <= i /\ y=vd vq k /\ vA w8.1.size w8 wx /\ Hid (∀ a,a<k -> sa.getD i 0≠sa.getD a 0 /\ sb.getD i 0≠sb.getD a 0)) (fun y _=>i-(intOf y).toNat)
   case atStart=>exact ⟨0,Lb _,rfl,Ab,zH (fun a h=>by omega)⟩
   case round =>
    clear Ab;obtain ⟨k,hk,rfl,ta,HK⟩:=hrel;by_cases hlk:k<i
    ·have Sy:=zH hlk
     have k8:=H8.out.below ta H8.out.lt;have k9:=H9.out.below ta H9.out.lt;have c8:=k8.cell;have c9:=k9.cell;rw [Yl.out,sQ.out] at c8;rw [Tg.out,HS2N.out] at c9;have l8:=k8.lt;have l9:=k9.lt;obtain ⟨x1,Yc⟩:=zEX (sa.getD i 0);obtain ⟨y1,de⟩:=zEX (sa.getD k 0);obtain ⟨x2,fh⟩:=zEX (sb.getD i 0);obtain ⟨y2,Au⟩:=zEX (sb.getD k 0);have cx1:=tp.out wr ta i Wb.out;have cy1:=tp.out wr ta k (by have:=Wb.out;omega)
     have cx2:=HW2.out wr ta i Wb.out;have cy2:=HW2.out wr ta k (by have:=Wb.out;omega)
     rw [<- Yc] at cx1;rw [<- de] at cy1;rw [<- fh] at cx2;rw [<- Au] at cy2;have lb1:=mf _ _ cx1;have lb2:=mf _ _ cx2;have HX:=zH (And.intro Yc (And.intro de (And.intro fh Au)));have k1:(0:Int)<=k:=by omega
     have k2:(k:Int)<i:=by omega
     have k3:(k:Int)<N:=by omega
     have HBx:=zH ta;clear Yc de fh Au k8 k9 hk hlk;have hcase:x1=y1 \/ (x1≠y1 /\ x2=y2) \/ (x1≠y1 /\ x2≠y2):=by omega
     rcases hcase with h1 | ⟨h1,h2⟩ | ⟨h1,h2⟩
     ·have d1:((x1:Int)==y1)=true:=by rw [Hh];omega
      clear h1;go_upto_region 13 with fail
      refine Cd (Tb) [] [0,1,2,3,4,5,6,7,8,9,10,11,12,13,14,15,16,17,18,19,20,21,22,23] (by kernel_rfl) (by kernel_rfl) ?_
      refine De (pa) ?_;intro Wc Ha ea;have Mw:=zH (show vA w8.1.size w8 Wc by rw [Ha.out];exact HBx.out.drew)
      clear Ha;refine Ob ?_;refine Qc ?_;clear ea;go_wp2;go_ret
      exact ⟨rfl,ma HBL.out Mw.out⟩
     ·have d1:((x1:Int)==y1)=false:=by rw [pd];omega
      have d2:((x2:Int)==y2)=true:=by rw [Hh];omega
      clear h1 h2;go_upto_region 13 with fail
      refine Cd (Tb) [] [0,1,2,3,4,5,6,7,8,9,10,11,12,13,14,15,16,17,18,19,20,21,22,23] (by kernel_rfl) (by kernel_rfl) ?_
      refine De (pa) ?_;intro Wc Ha ea;have Mw:=zH (show vA w8.1.size w8 Wc by rw [Ha.out];exact HBx.out.drew)
      clear Ha;refine Ob ?_;refine Qc ?_;clear ea;go_wp2;go_ret
      exact ⟨rfl,ma HBL.out Mw.out⟩
     ·have d1:((x1:Int)==y1)=false:=by rw [pd];omega
      have d2:((x2:Int)==y2)=false:=by rw [pd];omega
      have Lr:=zH (show ∀ a,a<k+1 -> sa.getD i 0≠sa.getD a 0 /\ sb.getD i 0≠sb.getD a 0 from fun a ha=>by
       rcases Hg a k with h | h
       ·exact HK.out a h
       ·obtain rfl:a=k:=by omega
        obtain ⟨e1,e2,e3,e4⟩:=HX.out;rw [<- e1,<- e2,<- e3,<- e4];exact ⟨h1,h2⟩)
      clear h1 h2;go_upto_region 13 with fail
      refine Cd (Tb) [] [0,1,2,3,4,5,6,7,8,9,10,11,12,13,14,15,16,17,18,19,20,21,22,23] (by kernel_rfl) (by kernel_rfl) ?_
      refine De (pa) ?_;intro Wc Ha ea;have Mw:=zH (show vA w8.1.size w8 Wc by rw [Ha.out];exact HBx.out.drew)
      clear Ha;refine Ob ?_;refine Qc ?_;clear ea c8 c9 cx1 cy1 cx2 cy2;go_wp2
      go_roundw
      case rel=>exact ⟨k+1,Sy.out,by go_num,Mw.out,Lr⟩
      case measure=>have:=Sy.out;simp [intOf];omega
    ·obtain rfl:k=i:=by omega
     have Gk:=zH (show ∀ a b,b<a -> a<k+1 -> sa.getD a 0≠sa.getD b 0 /\ sb.getD a 0≠sb.getD b 0 from fun a b hb ha=>by
      rcases Hg a k with h | h
      ·exact HI.out a b hb h
      ·obtain rfl:a=k:=by omega
       exact HK.out b hb)
     have HBx:=zH ta;clear hlk hk ta;go_wp2
     go_roundw
     case rel=>exact ⟨k+1,Wb.out,by go_num,HBx.out,Gk⟩
     case measure=>have:=Wb.out;simp [intOf];omega
  ·obtain rfl:i=N:=by omega
   have hsx:=salt_x (coin:=coin) (salt:=salt) (pu:=pu) (seed:=seed) (vars:=vars) (rows:=rows) (ws:=ws) HL.out HJ.out (by rw [<- po.out];exact YZ fun a b h1 h2=>(HI.out a b h1 (by rw [<- WA.out.1.trans HN.out.symm];exact h2)).1) (by rw [<- HSB.out];exact YZ fun a b h1 h2=>(HI.out a b h1 (by rw [<- WA.out.2.trans HN.out.symm];exact h2)).2)
   have HSX:=zH hsx;clear hsx HI hi ra tp HW2 po HSB WA Yl Tg sQ HS2N gN HN Vg Xm;obtain ⟨O,hO⟩:=zEX (ar false seed);rw [<- hO] at HSX Vf;obtain ⟨P,hP⟩:=zEX ((mh L j pu vars rows ws (uw L coin)).pr O);obtain ⟨P2,Bv⟩:=zEX ((mh L j pu vars rows ws (GI L coin salt)).pr O);have Ed:=fun (u:vw) (g:Nat) (F:Nat -> Prop) (ho:OrcAt u g O F) (hb:vA w8.1.size w8 u) (hk:∀ b,F b -> w8.1.size <= b)=>gU (K:=fun b=>b<w8.1.size) ho L j pu (uw L coin) S1 vars A B n c m d rows ws bl bw qs HL.out HJ.out HF.out H40.out HT.out (uM HL.out coin) (Kz (sY HQ.out hb) fun x q=>⟨q.1,q.2.1,q.2.2.1⟩) (fun b aj=>⟨Sd aj hb.size,fun e=>by have:=hk b e;omega⟩) (Ue Vf.out.le (by omega))
   have uc:=fun (u:vw) (g:Nat) (F:Nat -> Prop) (ho:OrcAt u g O F) (hb:vA w8.1.size w8 u) (hk:∀ b,F b -> w8.1.size <= b)=>gU (K:=fun b=>b<w8.1.size) ho L j pu (GI L coin salt) ⟨S1.A0,S1.n0,S1.c0,S1.A1,S1.n1,S1.c1,S1.A2,S1.n2,S1.c2,S1.A3,S1.n3,S1.c3,S2.A4,S2.n4,S2.c4⟩ vars A B n c m d rows ws bl bw qs HL.out HJ.out HF.out H40.out HT.out (zFw HL.out coin salt) (Kz (sY HQ.out hb) fun x q=>⟨q.1,q.2.1,q.2.2.2⟩) (fun b aj=>⟨Sd aj hb.size,fun e=>by have:=hk b e;omega⟩) (Ue Vf.out.le (by omega))
   have hnl:=zDh (mh L j pu vars rows ws (uw L coin)) O HL.out HJ.out (pP HJ.out HL.out.n2) (by show (tj L rows ws pu).length <= 1000;rw [MO];have:=H40.out;omega)
   rw [<- hP] at Ed hnl HSX;rw [<- Bv] at uc HSX;have sC:P2.root=P.root:=by have:=congrArg ProofR.root HSX.out;exact this
   unfold sc Ld eJ at Ed uc;dsimp only at uc
   rw [sC] at uc;have Qr:=zH Ed;have Uw:=zH uc;have HNL:=zH hnl;have HOE:=zH hO;have Pt:=zH (HKC.out.below Ab HKC.out.lt);have Jy:=zH (H8.out.below Ab H8.out.lt);have Ky:=zH (H9.out.below Ab H9.out.lt);have lc8:=zH (show W.1.size<w8.1.size /\ g8<w8.1.size /\ g9<w8.1.size from ⟨HKC.out.lt,H8.out.lt,H9.out.lt⟩)
   have cc:=Pt.out.cell;have lc:=Pt.out.lt;clear Ed uc hnl hP Bv sC hO HKC H8 H9 HQ HL HJ HF HT H40 Vf HCN HSL VA HN64;go_upto_region 17 with fail
   refine Cd (Tb) [2,5] [0,1,3,4,2,5,6,7] (by kernel_rfl) (by kernel_rfl) ?_
   refine De (pa) ?_;intro Wc Ha ea;have Ja:vA w8.1.size w8 Wc:=by rw [Ha.out];exact Ab.drew
   replace Pt:=zH (show Blk Wc _ _ _ by rw [Ha.out];exact Pt.out.drew)
   replace Jy:=zH (show Blk Wc _ _ _ by rw [Ha.out];exact Jy.out.drew)
   replace Ky:=zH (show Blk Wc _ _ _ by rw [Ha.out];exact Ky.out.drew)
   clear Ha Ab;refine Ob ?_;refine Gc (pa) rfl rfl rfl (fun _=>by go_simp <;> rfl) ((HId.out _).mono ?_)
   rintro e wA ⟨ga,F1,rfl,h1,hF1,ta⟩;refine ⟨_,rfl,ta,?_⟩;replace ea:=(pa).trans _ _ _ ea (ta);refine zPU ?_;have xe:=zH (show OrcAt wA ga O F1 by rw [HOE.out];exact h1)
   have HFa:=zH (show ∀ b,F1 b -> w8.1.size <= b from fun b hb=>jb Ja.size (hF1 b hb))
   replace Pt:=zH (Pt.out.below ta Pt.out.lt);replace Jy:=zH (Jy.out.below ta Jy.out.lt);replace Ky:=zH (Ky.out.below ta Ky.out.lt);replace Ja:=ma Ja ta;clear h1 hF1 ta;refine Ob ?_;refine Gc (pa) rfl rfl rfl (fun _=>by go_simp <;> rfl) ((HId.out _).mono ?_)
   rintro e wB ⟨gb,F2,rfl,h2,hF2,ta⟩;refine ⟨_,rfl,ta,?_⟩;replace ea:=(pa).trans _ _ _ ea (ta);refine zPU ?_;have Ty:=zH (xe.out.below ta);have HF12:=zH (show ∀ b,F2 b -> ¬F1 b from fun b hb h=>by have:=hF2 b hb;have:=xe.out.lt b h;omega)
   have HFb:=zH (show ∀ b,F2 b -> w8.1.size <= b from fun b hb=>jb Ja.size (hF2 b hb))
   have Rt:=zH (show OrcAt wB gb O F2 by rw [HOE.out];exact h2)
   replace Pt:=zH (Pt.out.below ta Pt.out.lt);replace Jy:=zH (Jy.out.below ta Jy.out.lt);replace Ky:=zH (Ky.out.below ta Ky.out.lt);replace Ja:=ma Ja ta;clear h2 hF2 ta xe HId;refine Ob ?_;refine Qc ?_;clear ea cc lc;have Ik:=zH (Qr.out wB ga F1 Ty.out Ja HFa.out);have Kt:=zH Ja;have hF2l:=zH (show ∀ b,F2 b -> b<wB.1.size from Rt.out.lt)
   have cc:=Pt.out.cell;have c8:=Jy.out.cell;clear Qr Ty Ja;go_wp2_with fail
   refine Ik.out.mono ?_;rintro e wC ⟨Sa,G1,rfl,Ed,mp1,Of⟩;have nn:∀ {b},b<w8.1.size -> ¬F1 b /\ ¬F2 b:=fun h=>⟨fun e=>by have:=HFa.out _ e;omega,fun e=>by have:=HFb.out _ e;omega⟩
   have FK:=zH (Rt.out.moved mp1 fun b h2 h1=>HF12.out b h2 h1)
   have TI:=zH (Pt.out.moved mp1 (nn lc8.out.1).1);have H9':=zH (Ky.out.moved mp1 (nn lc8.out.2.2).1);have HBC:=zH (dJ Kt.out mp1 HFa.out);have Di:=zH Of;have sBC:=mp1.size;have sB:=Kt.out.size;have ja:=(za wC.1.size wC).alloc zR (.cells #[vd vn P.root,ve Sa.A1 Sa.n1 Sa.c1,ve Sa.A2 Sa.n2 Sa.c2,ve Sa.A3 Sa.n3 Sa.c3,ve Sa.A4 Sa.n4 Sa.c4,ve Sa.A5 Sa.n5 Sa.c5,ve Sa.A6 Sa.n6 Sa.c6] 46);have Zz:=Blk.new wC 46 #[vd vn P.root,ve Sa.A1 Sa.n1 Sa.c1,ve Sa.A2 Sa.n2 Sa.c2,ve Sa.A3 Sa.n3 Sa.c3,ve Sa.A4 Sa.n4 Sa.c4,ve Sa.A5 Sa.n5 Sa.c5,ve Sa.A6 Sa.n6 Sa.c6];replace TI:=zH (TI.out.below ja TI.out.lt);replace H9':=zH (H9'.out.below ja H9'.out.lt);replace HBC:=zH (ma HBC.out ja);replace FK:=zH (FK.out.below ja);replace Di:=zH (Td Di.out (ng ja));have sCD:=ja.size;clear Ed mp1 Of cc c8 Pt Jy Ky Ik Rt Kt ja;go_upto_region 21 with fail
   generalize wC.alloc _=wD at Zz TI H9' HBC FK Di sCD |-;generalize wC.1.size=g14 at Zz Di sBC sCD |-;have n14:¬F2 g14:=fun e=>by have:=hF2l.out _ e;omega
   have Ym:=zH (Uw.out wD gb F2 FK.out HBC.out HFb.out);have cc:=TI.out.cell;have c9:=H9'.out.cell;clear Uw FK;go_wp2_with fail
   refine Ym.out.mono ?_;rintro e wE ⟨Sb,G2,rfl,uc,mp2,Ll⟩;have Uq:=Zz.moved mp2 n14;have Lw:=zH (dJ HBC.out mp2 HFb.out);replace Di:=zH (Td Di.out (ik mp2 fun b hb e=>by have:=hF2l.out b e;omega))
   have Tt:=zH Ll;have l14:=Zz.lt;have sDE:=mp2.size;have ja:=(za wE.1.size wE).alloc zR (.cells #[vd vn P.root,ve Sb.A1 Sb.n1 Sb.c1,ve Sb.A2 Sb.n2 Sb.c2,ve Sb.A3 Sb.n3 Sb.c3,ve Sb.A4 Sb.n4 Sb.c4,ve Sb.A5 Sb.n5 Sb.c5,ve Sb.A6 Sb.n6 Sb.c6] 46);have Bu:=Blk.new wE 46 #[vd vn P.root,ve Sb.A1 Sb.n1 Sb.c1,ve Sb.A2 Sb.n2 Sb.c2,ve Sb.A3 Sb.n3 Sb.c3,ve Sb.A4 Sb.n4 Sb.c4,ve Sb.A5 Sb.n5 Sb.c5,ve Sb.A6 Sb.n6 Sb.c6];replace Uq:=Uq.below ja Uq.lt;replace Lw:=zH (ma Lw.out ja);replace Di:=zH (Td Di.out (ng ja));replace Tt:=zH (Td Tt.out (ng ja));clear uc mp2 Ll cc c9 TI H9' Ym ja Zz HBC n14;go_upto_region 22 with fail
   generalize wE.alloc _=wF at Uq Bu Lw Di Tt |-;obtain ⟨g16,yL⟩:=zEX (wE.1.size);rw [<- yL] at Bu Tt |-;have l16:g14<g16:=by omega
   have HG:=zH (show w8.1.size <= g16 by have:=lc8.out;omega)
   clear yL;have c14:=Uq.cell;have QG:=Bu.cell;have f16:=Bu.frozen;go_upto_region 23 with fail
   have rO:=Bu.set_ 5 (ve Sa.A5 Sa.n5 Sa.c5);simp only [Ba,Da,Fa] at rO;have sg:=Z6 (w:=wF) g16 5 (ve Sa.A5 Sa.n5 Sa.c5);replace Uq:=sg.blk Uq (by omega)
   replace Lw:=zH (sg.below Lw.out HG.out);replace Di:=zH (sg.hd Di.out (by omega))
   replace Tt:=zH (sg.hd Tt.out (by omega))
   clear sg c14 QG f16 Bu;generalize wF.setCell _ _=wG at Uq rO Lw Di Tt |-;have h1:=yg Di.out;have h2:=yg Tt.out;have h3:Gj wG P ⟨Sb.A1,Sb.n1,Sb.c1,Sb.A2,Sb.n2,Sb.c2,Sb.A3,Sb.n3,Sb.c3,Sb.A4,Sb.n4,Sb.c4,Sa.A5,Sa.n5,Sa.c5,Sb.A6,Sb.n6,Sb.c6⟩:=by
    rw [<- HSX.out];exact ⟨h2.root,h2.code,h2.linear,h2.quad,h2.cols,h1.salts,h2.paths⟩
   have jt:=zFy P Sa ⟨Sb.A1,Sb.n1,Sb.c1,Sb.A2,Sb.n2,Sb.c2,Sb.A3,Sb.n3,Sb.c3,Sb.A4,Sb.n4,Sb.c4,Sa.A5,Sa.n5,Sa.c5,Sb.A6,Sb.n6,Sb.c6⟩ wG h1 h3 HNL.out;unfold Ld at jt;dsimp only at jt
   have Zw:=zH jt;have c14:=Uq.cell;have QG:=rO.cell;clear h1 h2 h3 jt Di Tt HSX Uq rO;go_wp2_with fail
   refine Zw.out.mono ?_;rintro e wH ⟨rfl,QB⟩;have HEND:=zH (ma (ma HBL.out Lw.out) QB);clear QB c14 QG Zw;go_wp2;go_ret
   exact ⟨rfl,HEND.out⟩
end Go.Proofs.YteoghgbnielkpaaGreat
