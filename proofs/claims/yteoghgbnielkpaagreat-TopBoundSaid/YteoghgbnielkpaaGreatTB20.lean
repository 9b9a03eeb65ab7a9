/- A part of the proof. No condition. -/
import Derived.Test.YteoghgbnielkpaaGreatTB18
import Derived.Test.YteoghgbnielkpaaGreatTB19

set_option maxRecDepth 100000
set_option maxHeartbeats 8000000
set_option linter.unusedVariables false
set_option linter.unusedSimpArgs false
namespace Go.Proofs.YteoghgbnielkpaaGreat
open Go.RowKit Go.Maps
open Tryz
open Go renaming World->vw, Value->vx, Addr->vy, TypeId->vz, Calls->vB
open Go.Value renaming int->vd, slice->ve, agg->vf
open Go.IntKind renaming u64->vn, i64->vq, u8->vu
open Go.Ending renaming returned->vl
open Go.RowKit renaming Below->vA
open Go.World renaming setCell->vF
open Go.Act renaming put->vG
open Option renaming none->vD, some->vE
theorem zAe {f g:Nat -> Nat} (n:Nat):∀ k,(∀ i,i<k -> f i=g i) -> Vj f n k=Vj g n k
 | 0,_=>rfl
 | k+1,h=>by
  rw [Vj,Vj,zAe n k fun i hi=>h i zO,h k zO]
theorem xX {O:Da} {s j:Nat}:∀ q,j <= q -> Rc (dc O 19 (Pj s 0 j)) (dc O 19 (Pj s 0 q))
 | 0,h=>by
  obtain rfl:j=0:=by omega
  exact fun _ _ _ h=>h
 | q+1,h=>by
  by_cases e:j=q+1
  ·subst e
   exact fun _ _ _ h=>h
  ·rw [yT O s 0 q]
   exact fh (xX q zO) (rz _ _ _)
theorem zIi {O Z:Da} {s q i:Nat} (h:Rc (dc O 19 (Pj s 0 q)) Z) (hi:i<q):xp Z s 0 i=xp O s 0 i:=by
 unfold xp;rw [VW (Pj s 0 i) (fh (xX q zO) h)];exact (ZJ (O:=dc O 19 (Pj s 0 i)) (by rw [<- yT];exact fh (xX q zO) h)).1
theorem zIj {O Z:Da} {s n q:Nat} (h:Rc (dc O 19 (Pj s 0 q)) Z):ox Z s 0 n q=ox O s 0 n q:=by
 unfold ox;rw [zAe n q fun i hi=>zIi h hi]
theorem zIm {O Z:Da} {st ct n q:Nat} {all:List Nat} (h:Rc (Xi ⟨O,st,ct⟩ all q) Z):Rn ⟨Z,st,ct⟩ all n q=Rn ⟨O,st,ct⟩ all n q:=by
 have ha:Rc (Ki ⟨O,st,ct⟩ 3 all).O Z:=fh (JL _ _ _) h;unfold Rn;rw [ZN ha];exact zIj h
theorem zIh {Z:Da} {s:Tr} {all:List Nat} {n q:Nat} (hc:s.ct=3) (h:Rc (Xi s all q) Z):Rn ⟨Z,s.st,3⟩ all n q=Rn s all n q:=by
 cases s
 simp only at hc;subst hc;exact zIm h
theorem zIk {O Z:Da} {st root p:Nat} (h:Rc (xe ⟨O,st,0⟩ root).O Z):Bl ⟨Z,st,0⟩ p root=Bl ⟨O,st,0⟩ p root:=by
 obtain ⟨a,ha⟩:=zEX (Ki ⟨O,st,0⟩ 2 [root]);have hc:a.ct=0:=by rw [ha];rfl
 have e:xe ⟨O,st,0⟩ root=Jc (Jc (Jc a)):=by rw [ha];rfl
 rw [e] at h;have h2:Rc (Jc (Jc a)).O Z:=fh (rz _ _ _) h;have h1:Rc (Jc a).O Z:=fh (rz _ _ _) h2;have h0:Rc a.O Z:=fh (rz _ _ _) h1;have ez:Ki ⟨Z,st,0⟩ 2 [root]=⟨Z,a.st,0⟩:=by rw [ZN (by rw [<- ha];exact h0),<- ha]
 have r1:Jc ⟨Z,a.st,0⟩=⟨Z,a.st,1⟩:=aO (O:=a.O) (by rw [<- hc];exact h1)
 have e1:(⟨(Jc a).O,a.st,1⟩:Tr)=Jc a:=by simp [Jc,hc]
 have r2:Jc ⟨Z,a.st,1⟩=⟨Z,a.st,2⟩:=aO (O:=(Jc a).O) (by rw [e1];exact h2)
 have e2:(⟨(Jc (Jc a)).O,a.st,2⟩:Tr)=Jc (Jc a):=by simp [Jc,hc]
 have v0:Ju ⟨Z,a.st,0⟩=Ju a:=by
  have:=(ZJ (O:=a.O) (lab:=19) (el:=[a.st,a.ct]) h1).1;unfold Ju;rw [hc] at this |-;exact this
 have v1:Ju ⟨Z,a.st,1⟩=Ju (Jc a):=by
  have:=(ZJ (O:=(Jc a).O) (lab:=19) (el:=[(Jc a).st,(Jc a).ct]) h2).1;unfold Ju;simp only [Jc,hc] at this |-;exact this
 have v2:Ju ⟨Z,a.st,2⟩=Ju (Jc (Jc a)):=by
  have:=(ZJ (O:=(Jc (Jc a)).O) (lab:=19) (el:=[(Jc (Jc a)).st,(Jc (Jc a)).ct]) h).1;unfold Ju;simp only [Jc,hc] at this |-;exact this
 unfold Bl;rw [ez,r1,r2,v0,v1,v2,<- ha]
theorem K0 {l:List Nat} (h:∀ x∈l,x<Bb):Kc l=true:=fe.2 fun x hx=>xb (h x hx)
theorem tP {l:List Nat} (h:Kc l=true):∀ x∈l,x<Bb:=fun x hx=>of_decide_eq_true (fe.1 h x hx)
theorem zGs {O T:Da} {d:Nat} {ls:List (List Nat)} {sa:List Nat} (hd:d <= 10) (hn:ls.length=2^d) (hsl:sa.length=ls.length) (Np:Kc sa=true) (hle:∀ l∈ls,Kc l=true) (hO:yf O)
  (hT:Rc (xz d (dc O 16 (Eg ls sa)) (Oe O 16 (Eg ls sa))) T) {i:Nat} (hi:i<ls.length) :
  Ns T (Tp (Tg d (dc O 16 (Eg ls sa)) (Oe O 16 (Eg ls sa)))) ls.length i (sa.getD i 0) (ls.getD i []) (Vi (Tg d (dc O 16 (Eg ls sa)) (Oe O 16 (Eg ls sa))) i)=true /\
   Zl T (Tp (Tg d (dc O 16 (Eg ls sa)) (Oe O 16 (Eg ls sa)))) ls.length i (sa.getD i 0) (ls.getD i []) (Vi (Tg d (dc O 16 (Eg ls sa)) (Oe O 16 (Eg ls sa))) i)=T:=by
 have hql:(Eg ls sa).length=ls.length:=kL _ _;have hqe:∀ q∈Eg ls sa,Kc q=true:=fun q hq=>by
  simp only [Eg,Od,pj] at hq;obtain ⟨k,hk,rfl⟩:=hq;exact K0 fun x hx=>by
   rcases Ah.1 hx with e | e
   ·rw [e];exact NK (tP Np) k
   ·exact tP (hle _ (iw [] hk)) x e
 have ha:=gZ O 16 (Eg ls sa) hqe i zO;rw [K6 ls sa i hi] at ha;have hv:=yK hO 16 (Eg ls sa);have xl:(Oe O 16 (Eg ls sa)).length=2^d:=by rw [Wy,hql,hn]
 have hOa:=xK hO 16 (Eg ls sa);generalize Oe O 16 (Eg ls sa)=L at *;generalize dc O 16 (Eg ls sa)=O1 at *;have hA:=hT _ _ _ (pT d L ha);obtain ⟨w1,w2⟩:=zBU (T:=T) d O1 L 16 (sa.getD i 0 :: ls.getD i []) i xl hv hT hOa zO hA;have ht:=zBw O1 hd xl;have hta:=QX d O1 L hOa hv;have hp:mz (Tp (Tg d O1 L)) ls.length i (sa.getD i 0) (ls.getD i []) (Vi (Tg d O1 L) i)=true:=by
  unfold mz;rw [show dx ls.length=true by rw [hn];exact bW hd,xb hi,xb (show 2^(Vi (Tg d O1 L) i).length=ls.length by rw [PN,Zm,Yo,ht.len,hn];rfl),
   xb (show Tp (Tg d O1 L)<Bb by rw [zAI ht];exact eX hta d 0),xb (NK (tP Np) i),hle _ (iw [] hi),K0 (vW hta i)]
  rfl
 unfold Ns Zl;rw [hp,w1,w2];exact ⟨zS,rfl⟩
theorem YN {l:List Nat} {n p:Nat} (hl:l.length=n) (h:∀ y∈l,y<p):Xj l (n:Int) p=true:=by
 unfold Xj;rw [Vb,fe];exact ⟨fun y hy=>xb (h y hy),by rw [hl];simp⟩
theorem E7 {ls:List (List Nat)} {m n p:Nat} (hl:ls.length=m) (h:∀ l∈ls,l.length=n /\ ∀ y∈l,y<p):Xt ls (m:Int) (n:Int) p=true:=by
 unfold Xt;rw [Vb,fe];exact ⟨fun l hx=>YN (h l hx).1 (h l hx).2,by rw [hl];simp⟩
section
section
variable {x:PvIn} (O:Da)
theorem PvIn.pos_len (h:x.Good):(x.pos O).length=x.L.queries:=T6 _ _ _ _ (by have:=h.L.nk;have:=h.L.k;omega)
theorem PvIn.pos_lt (h:x.Good):∀ y∈x.pos O,y<x.L.n:=zAg _ _ _ _ _ (by have:=h.L.nk;have:=h.L.k;omega)
theorem PvIn.cols_get {i:Nat} (hi:i<x.L.n):x.cols.getD i []=(List.range (x.m.length+3)).map (Ct x.L (Wj x.L x.m x.crs x.l1 x.l2 x.l3) i):=by
 unfold PvIn.cols;rw [Fb,ot,Pz hi]
 rfl
theorem PvIn.cols_lt (h:x.Good):∀ l∈x.cols,∀ y∈l,y<x.L.p:=fun l hl y hy=>by
 obtain ⟨i,-,rfl⟩:=Od.1 hl;obtain ⟨j,-,rfl⟩:=Od.1 hy;exact xP (p:=x.L.p) (zQ (Rb h.L.p)) x.L.n x.L.n.log2 _ (Mb x.L.p).1 i
theorem PvIn.valid (h:x.Good) (ha:yf (x.t1 O).O):Oh x.L x.dd (x.pr O)=true:=by
 have Mf:0<x.L.p:=by have:=Rb h.L.p;omega
 have Py:=x.tree_lt O ha;have hr:x.root O<Bb:=zAK Py;have hs:(x.tree O).length=x.dd+1:=(lS _ _ _ (by rw [Wy,kL,x.cols_len,h.n])).1
 have af:=pos_len O h;have FA:=pos_lt O h;unfold Oh;rw [Vb,Vb,Vb,Vb,Vb,Vb];refine ⟨?_,YN (by simp [PvIn.pr,PvIn.code]) (x.code_lt Mf h.c1.2 _),YN (by simp [PvIn.pr,PvIn.lin]) (x.lin_lt Mf h.c2.2 _),YN (by simp [PvIn.pr,PvIn.quad]) (x.quad_lt Mf _),E7 (by simp [PvIn.pr,af]) fun l hl=>?_,YN (by simp [PvIn.pr,af]) fun y hy=>?_,E7 (by simp [PvIn.pr,af]) fun l hl=>?_⟩
 ·rw [Gl,Nu]
  have:Pe=Bb:=rfl;show ¬Pe <= x.root O
  omega
 ·obtain ⟨i,hi,rfl⟩:=Od.1 hl
  have hm:x.cols.getD i []∈x.cols:=iw [] (by rw [x.cols_len];exact FA i hi)
  exact ⟨by rw [x.cols_row _ hm,h.ms.ml],cols_lt h _ hm⟩
 ·obtain ⟨i,hi,rfl⟩:=Od.1 hy
  exact NK (tP h.c4.2) i
 ·obtain ⟨i,hi,rfl⟩:=Od.1 hl
  exact ⟨by rw [PN,Zm,Yo,hs];rfl,vW Py i⟩
theorem PvIn.again_ch {Z:Da} (hZ:Rc (x.oF O) Z):Bl (Zd Z x.L x.dg x.pu) x.L.p (x.root O)=x.ch O:=by
 rw [WW (O:=O) (fh (x.sub1 O) (fh (x.sub2 O) (fh (x.sub3 O) hZ)))];exact zIk (O:=x.o2 O) (fh (x.sub3 O) hZ)
theorem PvIn.again_t2 {Z:Da} (hZ:Rc (x.oF O) Z):xe (Zd Z x.L x.dg x.pu) (x.root O)=⟨Z,(x.t2 O).st,3⟩:=by
 rw [WW (O:=O) (fh (x.sub1 O) (fh (x.sub2 O) (fh (x.sub3 O) hZ)))];exact zAH (O:=x.o2 O) (fh (x.sub3 O) hZ)
theorem PvIn.t2_ct:(x.t2 O).ct=3:=zAX _ _ _
theorem PvIn.again_pos {Z:Da} (hZ:Rc (x.oF O) Z):Rn (xe (Zd Z x.L x.dg x.pu) (x.root O)) (x.all O) x.L.n x.L.queries=x.pos O:=by
 rw [again_t2 O hZ];exact zIh (t2_ct O) hZ
theorem PvIn.again_o {Z:Da} (hZ:Rc (x.oF O) Z):Xi (xe (Zd Z x.L x.dg x.pu) (x.root O)) (x.all O) x.L.queries=Z:=by
 rw [again_t2 O hZ];exact zAG (t2_ct O) hZ
theorem PvIn.opens (h:x.Good) (ha:yf (x.t1 O).O) {Z:Da} (hZ:Rc (x.oF O) Z) {i:Nat} (hi:i<x.L.n) :
  Ns Z (x.root O) x.L.n i (x.l4.getD i 0) (x.cols.getD i []) (Vi (x.tree O) i)=true /\ Zl Z (x.root O) x.L.n i (x.l4.getD i 0) (x.cols.getD i []) (Vi (x.tree O) i)=Z:=by
 have:=zGs (O:=(x.t1 O).O) (T:=Z) (ls:=x.cols) (sa:=x.l4) h.dd (by rw [x.cols_len,h.n]) (by rw [x.cols_len];exact h.c4.1) h.c4.2 (x.cols_els h.L.p) ha (fh (x.sub2 O) (fh (x.sub3 O) hZ)) (i:=i) (by rw [x.cols_len];exact hi)
 rw [x.cols_len] at this;exact this
theorem PvIn.fits (h:x.Good) (al rh be:Nat) {i:Nat} (hi:i<x.L.n):jC x.L (Mi x.L x.pub rh x.rows) al be (x.code al) (x.lin rh) (x.quad be) (i:Int) (x.cols.getD i [])=true:=by
 rw [cols_get hi,<- ref_code h,<- ref_lin h,<- ref_quad h];exact zDj h.L h.ms (fun _ hr=>XO _ hr) (coef_len h rh) h.c1 h.c2 h.c3.1 al be hi
theorem PvIn.tests (h:x.Good) (hm:∀ r∈x.m,∀ y∈r,y<x.L.p) (al rh be t:Nat):XG x.L t (x.code al) (x.lin rh) (x.quad be)=IG x.L t (Mi x.L x.pub rh x.rows) x.m be:=by
 rw [<- ref_code h,<- ref_lin h,<- ref_quad h];exact zJn h.L h.ms hm (fun _ hr=>XO _ hr) (coef_len h rh) h.c1 h.c2 h.c3.1 al be t
end
end
theorem wK {p:Nat} {vars:Int} {ws:List Nat} (h:yi p vars ws=true):(ws.length:Int)=vars /\ ws.getD 0 0=1 /\ (ws.all fun y=>decide (y<p))=true:=by
 unfold yi at h;simp only [Vb,Gl,Hr] at h;exact ⟨h.1.1.1,by have:=h.1.2;omega,h.2⟩
theorem oF_le (x:PvIn) (O:Da) {k:Nat} (hn:x.L.n=2^x.dd) (h:oc O k):oc (x.oF O) (k+1+2*x.L.n+4+1+x.L.queries):=by
 have h1:oc (x.t1 O).O (k+1):=Mq h 18 _;have h2:=x.o2_le O hn h1;have h3:oc (x.t2 O).O (k+1+2*x.L.n+4):=iR h2 _ _ _;have h4:oc (Ki (x.t2 O) 3 (x.all O)).O (k+1+2*x.L.n+4+1):=Mq h3 18 _;have h5:=MD (lab:=19) (Pj (Ki (x.t2 O) 3 (x.all O)).st 0 x.L.queries) h4;rw [JV] at h5;exact h5
theorem B5 {K:Nat -> Prop} {w:vw} {A:Option vy} {n c:Nat} {l:List Nat} (h:Hd K w fun u=>RWd u [ve A n c] l) {i:Nat} (hi:i<l.length):n=l.length /\ ∃ b q,A=vE ⟨b,q,vD⟩ /\ K b /\ b<w.1.size /\ w.cell? ⟨b,q+i,vD⟩=vE (vd vn ((l.getD i 0:Nat):Int)):=by
 obtain ⟨hn,-,-,-,hr⟩:=Ob (qh h);rw [hn] at hr;obtain ⟨b,q,rfl,hb,hc⟩:=Rg hr hi;refine ⟨hn,b,q,rfl,oK fun hK=>?_,hb,hc⟩
 obtain ⟨aD,-,-,-,Qt⟩:=Ob (h (QG w b) (iT hK));rw [aD] at Qt;obtain ⟨b',q',e,-,yq⟩:=Rg Qt hi
 injection e with e
 injection e with e1 e2
 subst e1 e2;rw [tX hb] at yq;cases yq
theorem zFW {L:Na} {rows:List Ua} {ws:List Nat} {pu:Nat} (hp:0<L.p) (hw:∀ x∈ws,x<L.p):∀ x∈Hk L rows ws pu,∀ y∈x,y<L.p:=fun x hx y hy=>by
 obtain ⟨j,hj,rfl⟩:=Ym hy;have:=zFX hp hw hx j
 rwa [Fb,Qb hj] at this
theorem zIJ {p:Nat} {rows:List Ua} {ws:List Nat} (h:tx p rows ws=true):∀ r∈rows,Dc p r.a ws*Dc p r.b ws%p=Dc p r.c ws:=fun r hr=>of_decide_eq_true (fe.1 h r hr)
section
variable {L:Na} {j pu coin:Nat} {vars:Int} {rows:List Ua} {ws:List Nat} {bl bw qs:Int} {O:Da} {k:Nat}
end
theorem RQ {V:Nat -> Prop} {w:vw} {x:Nat} (hx:V x) (i:Nat) (u:vx):Moved V V w (w.setCell ⟨x,i,vD⟩ u) :=
 ⟨rfl,rfl,rfl,by simp [vF],fun b _ hn=>wg w _ u b (fun e=>hn (by subst e;exact hx)),fun _ h=>.inl h⟩
theorem set_lt {l:List Nat} {p i y:Nat} (h:∀ x∈l,x<p) (hy:y<p):∀ x∈l.set i y,x<p:=fun x hx=>(List.mem_or_eq_of_mem_set hx).elim (h x) fun e=>e ▸ hy
theorem zCU {w:vw} {g i:Nat} {t:vz} {l:List Nat} (k:Blk w g t (Oa l).toArray) (y:Nat):Blk (w.setCell ⟨g,i,vD⟩ (vd vn y)) g t (Oa (l.set i y)).toArray:=by
 have h:=k.set_ i (vd vn y)
 rwa [Fa,show (Oa l).set i (vd vn y)=Oa (l.set i y) by simp [Oa,List.map_set]] at h
def Nx28 (gl gt p cF n:Nat) (w w':vw):Prop:=∃ (l':List Nat) (Ch:Nat),l'.length=n /\ (∀ x∈l',x<p) /\ Ch <= cF+n /\ Blk w' gl 22 (Oa l').toArray /\ Blk w' gt 3 #[vd vq Ch] /\ Moved (fun b=>b=gl \/ b=gt) (fun b=>b=gl \/ b=gt) w w'
theorem zF9 (gl ga gt:Nat) (l add:List Nat) (B:Option vy) (m d cF p:Nat) (w:vw) (kl:Blk w gl 22 (Oa l).toArray) (ka:Blk w ga 28 #[ve B m d]) (kt:Blk w gt 3 #[vd vq cF])
  (MP:Hd (fun b=>b≠gl /\ b≠gt) w fun u=>RWd u [ve B m d] add) (hl:∀ x∈l,x<p) (hp:0<p) (Kd:p<18446744073709551616) (hn:l.length <= 100000) (ht:cF <= 1000000) (h1:gl≠ga) (h2:gl≠gt) (h3:ga≠gt) :
  vB prog 104 #[ve (vE ⟨gl,0,vD⟩) l.length l.length,vd vn p, .pointer (vE ⟨ga,0,vD⟩), .pointer (vE ⟨gt,0,vD⟩)] w fun e w'=>e=vl (.tuple #[]) /\ Nx28 gl gt p cF l.length w w':=by
 have hm:m=add.length:=(Ob (qh MP)).1;have Ze:=(Ob (qh MP));have gmx:=Mm Ze.2.1 Ze.2.2.1;have HP:=zH hp;have ar:=zH Kd;obtain ⟨n,Ag⟩:=zEX (l.length);rw [<- Ag] at hn |-;have gn:(n:Int) <= 100000:=by omega
 have HADD:=zH MP;have HM:=zH hm;have HT:=zH ht;have HN:=zH hn;have EE:=zH (And.intro h1 (And.intro h2 h3));have Mf:((p:Int) == 0)=false:=by rw [Gd];omega
 have fj:=zH Ag;clear Ze hm MP hp Kd ht Ag;go_enter func104,ntmps104
 go_wp2_with fail
 go_loopw [9] (fun y wr=>∃ (i:Nat) (l':List Nat) (Ch:Nat),i <= n /\ y=vd vq i /\ l'.length=n /\ Hid (∀ x∈l',x<p) /\ Ch <= cF+i /\ Blk wr gl 22 (Oa l').toArray /\ Blk wr gt 3 #[vd vq Ch] /\ Moved (fun b=>b=gl \/ b=gt) (fun b=>b=gl \/ b=gt) w wr) (fun y _=>n-(intOf y).toNat)
 case atStart=>exact ⟨0,l,cF,Kb _,rfl,fj.out.symm,zH hl,zR,kl,kt,Moved.refl⟩
 case round =>
  clear kl kt hl;obtain ⟨i,l',Ch,hi,rfl,Bk,HL,zg,kl,kt,kd⟩:=hrel;have ka1:=ka.moved kd (by intro e;have:=EE.out;omega)
  by_cases ta:i<n
  ·have Xb:=zH ta
   have g1:(0:Int)<=i:=by omega
   have g2:(i:Int)<n:=by omega
   have cl:=WO kl (show i<l'.length by omega)
   have ca:=ka1.cell;have ct:=kt.cell;have ll:=kl.lt;have la:=ka1.lt;have lt:=kt.lt;have xg:=zH kd;have Xn:=zH Bk;have Hl:=zH zg;by_cases ZF:0<m
   ·have Ft:=te HADD.out (Ml kd fun b hb=>zO)
    obtain ⟨x,hx⟩:=zEX (l'.getD i 0);obtain ⟨z,hz⟩:=zEX (Ch%m);have hzm:z<m:=by rw [hz];exact mc _ ZF
    obtain ⟨-,bB,qB,eB,kbB,lbB,MC⟩:=B5 Ft (show z<add.length by rw [<- HM.out];exact hzm)
    obtain ⟨y,hy⟩:=zEX (add.getD z 0);have hx64:x<18446744073709551616:=by rw [hx];exact Uk (fw (p:=p) HP.out HL.out i) ar.out
    have hy64:y<18446744073709551616:=by rw [hy];exact (Ob (qh Ft)).2.2.2.1 _ (iw 0 (by rw [<- HM.out];exact hzm))
    rw [<- hx] at cl;rw [<- hy] at MC;obtain ⟨x2,Ej⟩:=zEX (x / 2);obtain ⟨y2,sD⟩:=zEX (y / 2);obtain ⟨s,hs⟩:=zEX (x2+y2);obtain ⟨r,hr⟩:=zEX (s%p);have dG:r<p:=by rw [hr];exact mc _ HP.out
    have e1:(x:Int).tdiv 2=(x2:Int):=by rw [sK zO];omega
    have e2:vn.wrap (x2:Int)=x2:=by rw [Kj];omega
    have e3:(y:Int).tdiv 2=(y2:Int):=by rw [sK zO];omega
    have e4:vn.wrap (y2:Int)=y2:=by rw [Kj];omega
    have e5:(x2:Int)+y2=(s:Int):=by omega
    have e6:vn.wrap (s:Int)=s:=by rw [Kj];omega
    have e7:(s:Int).tmod (p:Int)=r:=by rw [hr];rfl
    have e8:vn.wrap (r:Int)=r:=by rw [Kj];have:=ar.out;omega
    have e9:(Ch:Int).tmod (m:Int)=z:=by rw [hz];rfl
    have eA:=Qc z;obtain ⟨rp,Ht⟩:=zEX (Ch+1);have eB1:(Ch:Int)+1=(rp:Int):=by omega
    have eB2:vq.wrap (rp:Int)=rp:=El _ zO (zQ HT.out);obtain ⟨r1,-,-,-,Eo,cJ,yn⟩:=UW Ch m ZF;rw [<- hz] at r1;obtain ⟨r4,-,-,-,zf,hp3,hp4⟩:=UW s p HP.out;rw [<- hr] at r4;have r6:(x:Int) / 2=(x2:Int):=by omega
    have r7:(y:Int) / 2=(y2:Int):=by omega
    have d1:(0:Int)<m:=by omega
    have g3:(0:Int)<=z:=by omega
    have g4:(z:Int)<m:=by omega
    have HR:=zH dG;have HA2:=zH Ht;subst eB;have nB:=zH kbB;clear hx hz hy Ej sD hs hr dG hx64 hy64 Ft hzm ZF Ht kbB Bk zg hi ta kd;go_upto_region 4 with fail
    refine kh (Wb) (oa) [19] [19] [0,1,2,3,4,5,6,7,8,9,10,11,12,13,14,15,16,17,18,19] zK zK ?_;refine lh (oa) ?_;intro Wc ea;refine Xe ?_;refine Oo rfl rfl rfl rfl ?_;intro wh Qd;replace ea:=zM oa ea Qd;have Sb:=ma (tb wr.1.size wr).drew ea;replace kl:=ia kl Sb;replace kt:=ia kt Sb;have HXD:=zH Sb;clear Sb ea Qd cl ca ct ll la lt MC lbB;have f2:=kl.frozen;have c2:=WO kl (show i<l'.length by rw [Xn.out];exact Xb.out)
    go_simp;refine ⟨fun h=>Bool.noConfusion h,?_⟩
    have Lb:=RQ (V:=fun b=>b=gl \/ b=gt) (w:=wh) (x:=gl) (.inl rfl) i (vd vn r)
    replace kl:=zCU (i:=i) kl r;replace kt:=kt.moved (RQ (V:=fun b=>b=gl) (w:=wh) rfl i (vd vn r)) (fun e=>by have:=EE.out;omega)
    have jm:=zH (set_lt (i:=i) HL.out HR.out);have HMZ:=zH (xg.out.trans ((Zc HXD.out).trans Lb));clear Lb f2 c2;generalize wh.setCell _ _=we at kl kt HMZ |-;refine Up rfl ?_;have ct:=kt.cell;have ft:=kt.frozen;go_wp2;have HMY:=zH (HMZ.out.trans (RQ (V:=fun b=>b=gl \/ b=gt) (w:=we) (x:=gt) (.inr rfl) 0 (vd vq rp)))
    have Vl:=zH (kl.moved (RQ (V:=fun b=>b=gt) (w:=we) rfl 0 (vd vq rp)) (fun e=>by have:=EE.out;omega))
    have kt':=zH (kt.set_ 0 (vd vq rp));clear ct ft kl kt;generalize we.setCell _ _=wy at HMY Vl kt' |-
    go_roundw
    case rel=>exact ⟨i+1,l'.set i r,rp,Xb.out,by go_num,by rw [List.length_set];exact Xn.out,jm,by have:=HA2.out;have:=Hl.out;omega,Vl.out,kt'.out,HMY.out⟩
    case measure=>have:=Xb.out;simp [intOf];omega
   ·have d1:¬((0:Int)<m):=by omega
    clear ZF cl Bk zg hi ta kd;go_wp2
    go_roundw
    case rel=>exact ⟨i+1,l',Ch,Xb.out,by go_num,Xn.out,HL,by have:=Hl.out;omega,kl,kt,xg.out⟩
    case measure=>have:=Xb.out;simp [intOf];omega
  ·obtain rfl:i=n:=by omega
   have HF:=zH (show Nx28 gl gt p cF i w wr from ⟨l',Ch,Bk,HL.out,zg,kl,kt,kd⟩)
   clear ta hi Bk zg kl kt kd;go_wp2;exact bodyPost_end (v:=.tuple #[]) (by simp [results,results104,go_sem]) rfl ⟨rfl,HF.out⟩
structure NxS (M:Nat) (bk nn pp:Nat -> Nat) (gt:Nat) (wS:vw) (V:Nat -> Prop) (wr:vw) (ll:Nat -> List Nat) (Ch:Nat):Prop where
 l:∀ k,k<M -> Blk wr (bk k) 22 (Oa (ll k)).toArray /\ (ll k).length=nn k /\ ∀ x∈ll k,x<pp k
 a:Blk wr gt 3 #[vd vq Ch]
 m:Moved V V wS wr
structure NxF (M:Nat) (bk nn pp:Nat -> Nat) (ga gt:Nat) (wS:vw) (V:Nat -> Prop) (B:Option vy) (m d:Nat) (add:List Nat):Prop where
 inj:∀ i k,i<M -> k<M -> bk i=bk k -> i=k
 ne:∀ k,k<M -> bk k≠gt
 vb:∀ k,k<M -> V (bk k)
 vt:V gt
 va:¬V ga
 ka:Blk wS ga 28 #[ve B m d]
 rd:Hd (fun b=>¬V b) wS fun u=>RWd u [ve B m d] add
 p0:∀ k,k<M -> 0<pp k /\ pp k<18446744073709551616
 n0:∀ k,k<M -> nn k <= 100000
theorem FN {M:Nat} {bk nn pp:Nat -> Nat} {ga gt:Nat} {wS wr:vw} {V:Nat -> Prop} {B:Option vy} {m d:Nat} {add:List Nat} {ll:Nat -> List Nat} {Ch:Nat} (h:NxS M bk nn pp gt wS V wr ll Ch) (hF:NxF M bk nn pp ga gt wS V B m d add) (zg:Ch <= 1000000) {k:Nat} (hk:k<M) :
  vB prog 104 #[ve (vE ⟨bk k,0,vD⟩) (nn k) (nn k),vd vn (pp k:Int), .pointer (vE ⟨ga,0,vD⟩), .pointer (vE ⟨gt,0,vD⟩)] wr fun e w'=>e=vl (.tuple #[]) /\
   ∃ (l':Nat -> List Nat) (rp:Nat),rp <= Ch+nn k /\ NxS M bk nn pp gt wS V w' l' rp:=by
 obtain ⟨h1,h2,h3⟩:=h.l k hk;have hga:bk k≠ga:=fun e=>hF.va (e ▸ hF.vb k hk)
 have hgg:ga≠gt:=fun e=>hF.va (e ▸ hF.vt)
 have jQ:∀ b,b=bk k \/ b=gt -> V b:=fun b hb=>hb.elim (fun e=>e ▸ hF.vb k hk) fun e=>e ▸ hF.vt
 have hc:=zF9 (bk k) ga gt (ll k) add B m d Ch (pp k) wr h1 (hF.ka.moved h.m hF.va) h.a (QP (te hF.rd (Ml h.m fun b hb=>hb)) fun b hb=>⟨fun e=>hb (e ▸ hF.vb k hk),fun e=>hb (e ▸ hF.vt)⟩) h3 (hF.p0 k hk).1 (hF.p0 k hk).2 (by rw [h2];exact hF.n0 k hk) zg hga (hF.ne k hk) hgg
 rw [h2] at hc;refine hc.mono ?_;rintro e w' ⟨rfl,l',rp,hl,ta,Ht,kb,kt,hm⟩;refine ⟨rfl,fun i=>if i=k then l' else ll i,rp,Ht,⟨fun i hi=>?_,kt,h.m.trans ⟨hm.os,hm.tape,hm.output,hm.size,fun b hb hn=>hm.block b hb fun e=>hn (jQ b e),fun b hb=>.inl hb⟩⟩⟩
 by_cases e:i=k
 ·subst e
  rw [Ka rfl];exact ⟨kb,hl,ta⟩
 ·rw [ya e]
  obtain ⟨k1,k2,k3⟩:=h.l i hi;exact ⟨k1.moved hm (fun hb=>hb.elim (fun e'=>e (hF.inj i k hi hk e')) fun e'=>hF.ne i hi e'),k2,k3⟩
def Mu (f:Nat -> Bool) (q:Nat):Nat -> Bool
 | 0=>true
 | r+1=>f (q-(r+1))&&Mu f q r
theorem GZ (f:Nat -> Bool) {q i:Nat} (h:i<q):Mu f q (q-i)=(f i&&Mu f q (q-(i+1))):=by
 rw [show q-i=(q-(i+1))+1 by omega,Mu,show q-(q-(i+1)+1)=i by omega]
theorem zDg (f:Nat -> Bool) (q:Nat):Mu f q (q-q)=true:=by rw [Nat.sub_self];rfl
theorem FZ (f:Nat -> Bool) (q:Nat) (h:∀ i,i<q -> f i=true):∀ r,r <= q -> Mu f q r=true
 | 0,_=>rfl
 | r+1,hr=>by
  rw [Mu,h _ zO,FZ f q h r zO]
  rfl
def Om (v:Da -> Nat -> Bool) (o:Da -> Nat -> Da) (q:Nat):Nat -> Da -> Bool × Da
 | 0,O=>(true,O)
 | r+1,O=>if v O (q-(r+1)) then Om v o q r (o O (q-(r+1))) else (false,o O (q-(r+1)))
theorem R8 (v:Da -> Nat -> Bool) (o:Da -> Nat -> Da) {q i:Nat} (h:i<q) (O:Da):Om v o q (q-i) O=if v O i then Om v o q (q-(i+1)) (o O i) else (false,o O i):=by
 rw [show q-i=(q-(i+1))+1 by omega,Om,show q-(q-(i+1)+1)=i by omega]
theorem zGq (v:Da -> Nat -> Bool) (o:Da -> Nat -> Da) (q:Nat) (O:Da):Om v o q (q-q) O=(true,O):=by rw [Nat.sub_self];rfl
theorem Q8 {v:Da -> Nat -> Bool} {o:Da -> Nat -> Da} {q:Nat} {Z:Da} (h:∀ i,i<q -> v Z i=true /\ o Z i=Z):∀ r,r <= q -> Om v o q r Z=(true,Z)
 | 0,_=>rfl
 | r+1,hr=>by
  have h1:=h (q-(r+1)) zO;rw [Om,Ka h1.1,h1.2];exact Q8 h r zO
def Wk (O:Da) (L:Na) (j pu dg:Nat) (rows:List Ua) (pb:List Nat) (P:ie):Bool × Da :=
 if Oh L j P then
  if XG L (iu L.p rows.length (Bl (Zd O L dg pb) L.p P.root).rh (1 :: pb) rows 3) P.code P.linear P.quad then
   if Mu (fun i=>jC L (Mi L pu (Bl (Zd O L dg pb) L.p P.root).rh rows) (Bl (Zd O L dg pb) L.p P.root).al (Bl (Zd O L dg pb) L.p P.root).be P.code P.linear P.quad (((Rn (xe (Zd O L dg pb) P.root) (P.code++P.linear++P.quad) L.n L.queries).getD i 0:Nat):Int) (P.cols.getD i [])) L.queries L.queries then
    Om (fun Z i=>Ns Z P.root L.n ((Rn (xe (Zd O L dg pb) P.root) (P.code++P.linear++P.quad) L.n L.queries).getD i 0) (P.salts.getD i 0) (P.cols.getD i []) (P.paths.getD i []))
     (fun Z i=>Zl Z P.root L.n ((Rn (xe (Zd O L dg pb) P.root) (P.code++P.linear++P.quad) L.n L.queries).getD i 0) (P.salts.getD i 0) (P.cols.getD i []) (P.paths.getD i [])) L.queries L.queries
     (Xi (xe (Zd O L dg pb) P.root) (P.code++P.linear++P.quad) L.queries)
   else (false,Xi (xe (Zd O L dg pb) P.root) (P.code++P.linear++P.quad) L.queries)
  else (false,Xi (xe (Zd O L dg pb) P.root) (P.code++P.linear++P.quad) L.queries)
 else (false,O)
section
variable {x:PvIn} {O Z:Da}
theorem PvIn.get_pr (h:x.Good) {i:Nat} (hi:i<x.L.queries):(x.pr O).cols.getD i []=x.cols.getD ((x.pos O).getD i 0) [] /\ (x.pr O).salts.getD i 0=x.l4.getD ((x.pos O).getD i 0) 0 /\ (x.pr O).paths.getD i []=Vi (x.tree O) ((x.pos O).getD i 0) /\ (x.pos O).getD i 0<x.L.n:=by
 have hl:=PvIn.pos_len O h;have hh:i<(x.pos O).length:=by rw [hl];exact hi
 exact ⟨by simp [PvIn.pr,Fb,hh],by simp [PvIn.pr,Fb,hh],by simp [PvIn.pr,Fb,hh],PvIn.pos_lt O h _ (iw 0 hh)⟩
theorem PvIn.acc (h:x.Good) (ha:yf (x.t1 O).O) (hm:∀ r∈x.m,∀ y∈r,y<x.L.p) (hZ:Rc (x.oF O) Z) :
  Wk Z x.L x.dd x.pub x.dg x.rows x.pu (x.pr O)=(IG x.L (iu x.L.p x.rows.length (x.ch O).rh (1 :: x.pu) x.rows 3) (Mi x.L x.pub (x.ch O).rh x.rows) x.m (x.ch O).be,Z):=by
 unfold Wk;have e1:Bl (Zd Z x.L x.dg x.pu) x.L.p (x.pr O).root=x.ch O:=PvIn.again_ch O hZ;have e2:Xi (xe (Zd Z x.L x.dg x.pu) (x.pr O).root) ((x.pr O).code++(x.pr O).linear++(x.pr O).quad) x.L.queries=Z:=PvIn.again_o O hZ;have e3:Rn (xe (Zd Z x.L x.dg x.pu) (x.pr O).root) ((x.pr O).code++(x.pr O).linear++(x.pr O).quad) x.L.n x.L.queries=x.pos O:=PvIn.again_pos O hZ;rw [PvIn.valid O h ha,Ka rfl,e1,e2,e3,show XG x.L (iu x.L.p x.rows.length (x.ch O).rh (1 :: x.pu) x.rows 3) (x.pr O).code (x.pr O).linear (x.pr O).quad=_ from PvIn.tests h hm _ _ _ _]
 cases IG x.L (iu x.L.p x.rows.length (x.ch O).rh (1 :: x.pu) x.rows 3) (Mi x.L x.pub (x.ch O).rh x.rows) x.m (x.ch O).be
 ·rfl
 ·rw [Ka rfl,Ka (FZ _ _ (fun i hi=>?_) _ zR)]
  ·refine Q8 (fun i hi=>?_) _ zR
   obtain ⟨g1,g2,g3,g4⟩:=PvIn.get_pr (O:=O) h hi;rw [g1,g2,g3];exact PvIn.opens O h ha hZ g4
  ·obtain ⟨g1,-,-,g4⟩:=PvIn.get_pr (O:=O) h hi
   rw [g1];exact PvIn.fits h _ _ _ g4
end
structure RealF (O:Da):Prop where
 fair:qO O
 real:O.ideal=false
structure CoR where
 r:List (List Nat)
 l1:List Nat
 l2:List Nat
 l3:List Nat
 l4:List Nat
def CoR.ok (C:CoR) (L:Na):Bool:=ey L C.r C.l1 C.l2 C.l3 C.l4
structure CoS where
 A0:Option vy
 n0:Nat
 c0:Nat
 A1:Option vy
 n1:Nat
 c1:Nat
 A2:Option vy
 n2:Nat
 c2:Nat
 A3:Option vy
 n3:Nat
 c3:Nat
 A4:Option vy
 n4:Nat
 c4:Nat
def coCs (S:CoS):Array vx:=#[ve S.A0 S.n0 S.c0,ve S.A1 S.n1 S.c1,ve S.A2 S.n2 S.c2,ve S.A3 S.n3 S.c3,ve S.A4 S.n4 S.c4]
structure pO (w:vw) (C:CoR) (S:CoS):Prop where
 r:Xg w [ve S.A0 S.n0 S.c0] C.r
 l1:RWd w [ve S.A1 S.n1 S.c1] C.l1
 l2:RWd w [ve S.A2 S.n2 S.c2] C.l2
 l3:RWd w [ve S.A3 S.n3 S.c3] C.l3
 l4:RWd w [ve S.A4 S.n4 S.c4] C.l4
def xf (L:Na) (j pu:Nat) (vars:Int) (rows:List Ua) (ws:List Nat) (C:CoR):PvIn :=
 ⟨L,j,pu,Jf L.p (pu:Int) vars rows,rows,ws,Hk L rows ws pu,C.r,C.l1,C.l2,C.l3,C.l4⟩
theorem JW (L:Na) (j pu:Nat) (vars:Int) (rows:List Ua) (ws:List Nat) (C:CoR) (hL:Nb L) (hn:L.n=2^j) (hC:C.ok L=true):(xf L j pu vars rows ws C).Good:=by
 obtain ⟨Fy,Gp,Ad,Xf,Bj⟩:=YO hC;exact ⟨hL,hn,UJ hn hL.n2,⟨TV _ _ _ _,Fy.trans (TV _ _ _ _).symm,fun _ h=>V7 h,fun r h=>(Gp r h).1⟩,Ad,Xf,Bj,EZ hC⟩
theorem zG3 {w:vw} {g:Nat} {O:Da} {F K:Nat -> Prop} (h:OrcAt w g O F) (L:Na) (j pu:Nat) (C:CoR) (S:CoS) (vars:Int) (A B:Option vy) (n c m d:Nat) (rows:List Ua) (ws:List Nat) (bl bw qs:Int)
  (hL:Nb L) (hn:L.n=2^j) (ff:Lj L ⟨L.p,(pu:Int),vars,rows.length,bl,bw,qs⟩) (ht:L.a+3*L.b <= 40) (hT:Vz L.p (pu:Int) vars rows ws true) (hC:C.ok L=true)
  (hA:Hd K w fun u=>RSl 3 je u [ve A n c] rows /\ RWd u [ve B m d] ws /\ pO u C S) (hK:∀ b,K b -> b<w.1.size /\ ¬F b) (hO:oc O 1000) :
  vB prog 17 #[.pointer (vE ⟨g,0,vD⟩),Zb L.p (pu:Int) vars (ve A n c),vf #[vd vq bl,vd vq bw,vd vq qs],ve B m d,vf (coCs S)] w fun e w' =>
   ∃ (S':PS) (F':Nat -> Prop),e=vl (.tuple #[vf (Wd ((xf L j pu vars rows ws C).pr O) S'),vd vq 0]) /\ OrcAt w' g ((xf L j pu vars rows ws C).oF O) F' /\ Moved F F' w w' /\ Hd (fun b=>w.1.size <= b /\ b<w'.1.size /\ ¬F' b) w' (fun u=>Ji u ((xf L j pu vars rows ws C).pr O) S'):=by
 obtain ⟨xl,Fo,Jm⟩:=wK hT.asg;exact zG2 h (xf L j pu vars rows ws C) vars A B S.A0 S.A1 S.A2 S.A3 S.A4 n c m d S.n0 S.c0 S.n1 S.c1 S.n2 S.c2 S.n3 S.c3 S.n4 S.c4 bl bw qs hL ff hn (UJ hn hL.n2) hT.tab (gS hT.tab ff) (WX hT.tab) (RZ hT.tab hT.small) rfl rfl _ hA hK (fun u a=>a.1) (fun u a=>a.2.1) (fun u a=>a.2.2.r) (fun u a=>a.2.2.l1) (fun u a=>a.2.2.l2) (fun u a=>a.2.2.l3) (fun u a=>a.2.2.l4) xl Fo Jm hT.sat hC hO (by show L.a+L.b+L.b+L.b <= 1000;omega)
section
variable {L:Na} {j pu:Nat} {C:CoR} {vars:Int} {rows:List Ua} {ws:List Nat} {bl bw qs:Int} {O Z:Da} {k:Nat}
theorem pass_x (hL:Nb L) (ff:Lj L ⟨L.p,(pu:Int),vars,rows.length,bl,bw,qs⟩) (hT:Vz L.p (pu:Int) vars rows ws true) (rh be:Nat) :
  IG L (iu L.p rows.length rh (1 :: (ws.drop 1).take pu) rows 3) (Mi L pu rh rows) (Hk L rows ws pu) be=true:=by
 obtain ⟨xl,Fo,Jm⟩:=wK hT.asg;have hv:(pu:Int)<vars:=ff.vars;have GA:ws.take (1+pu)=1 :: (ws.drop 1).take pu:=by
  cases ws with
  | nil=>simp at xl;omega
  | cons a r =>
   have e:a=1:=Fo;subst e;rw [Nat.add_comm,List.take_succ_cons]
   rfl
 exact zIH hL (gS hT.tab ff) (WX hT.tab) xl GA (zIJ hT.sat) be
theorem msgs_x (hL:Nb L) (hT:Vz L.p (pu:Int) vars rows ws true):∀ r∈Hk L rows ws pu,∀ y∈r,y<L.p:=by
 obtain ⟨-,-,Jm⟩:=wK hT.asg;exact zFW (zQ (Rb hL.p)) fun y hy=>of_decide_eq_true (fe.1 Jm y hy)
theorem acc_x (hL:Nb L) (hn:L.n=2^j) (ff:Lj L ⟨L.p,(pu:Int),vars,rows.length,bl,bw,qs⟩) (hT:Vz L.p (pu:Int) vars rows ws true) (hC:C.ok L=true) (hO:Nv O k) (hZ:Rc ((xf L j pu vars rows ws C).oF O) Z) :
  Wk Z L j pu (Jf L.p (pu:Int) vars rows) rows ((ws.drop 1).take pu) ((xf L j pu vars rows ws C).pr O)=(true,Z):=by
 have h:=PvIn.acc (x:=xf L j pu vars rows ws C) (O:=O) (Z:=Z) (JW L j pu vars rows ws C hL hn hC) (PX hO _ _ _).o.ans (msgs_x hL hT) hZ;exact h.trans (congrArg (fun b=>(b,Z)) (pass_x hL ff hT _ _))
theorem zBK (hL:Nb L) (hn:L.n=2^j) (hC:C.ok L=true) (hO:Nv O k):Oh L j ((xf L j pu vars rows ws C).pr O)=true :=
 PvIn.valid O (JW L j pu vars rows ws C hL hn hC) (PX hO _ _ _).o.ans
end
def sp (T:Nat) (f:Nat -> Nat) (g1 g2 g3 g4 k:Nat):Nat:=if k<T then f k else if k=T then g1 else if k=T+1 then g2 else if k=T+2 then g3 else g4
def Gs (L:Na) (T k:Nat):Nat:=if k<T then L.queries else if k=T then L.k else if k=T+1 then L.k+L.block-2 else if k=T+2 then L.block+2*L.queries-1 else L.n
def RD (L:Na) (T k:Nat):Nat:=if k<T+3 then L.p else Bb
theorem dF {T k:Nat} {f:Nat -> Nat} {g1 g2 g3 g4:Nat} (h:k<T):sp T f g1 g2 g3 g4 k=f k:=Ka h
theorem SH {T:Nat} {f:Nat -> Nat} {g1 g2 g3 g4:Nat}:sp T f g1 g2 g3 g4 T=g1:=by unfold sp;rw [ya zO,Ka rfl]
theorem TH {T:Nat} {f:Nat -> Nat} {g1 g2 g3 g4:Nat}:sp T f g1 g2 g3 g4 (T+1)=g2:=by unfold sp;rw [ya zO,ya zO,Ka rfl]
theorem UH {T:Nat} {f:Nat -> Nat} {g1 g2 g3 g4:Nat}:sp T f g1 g2 g3 g4 (T+2)=g3:=by unfold sp;rw [ya zO,ya zO,ya zO,Ka rfl]
theorem VH {T:Nat} {f:Nat -> Nat} {g1 g2 g3 g4:Nat}:sp T f g1 g2 g3 g4 (T+3)=g4:=by unfold sp;rw [ya zO,ya zO,ya zO,ya zO]
theorem EN {L:Na} {T k:Nat} (h:k<T):Gs L T k=L.queries:=Ka h
theorem WQ {L:Na} {T:Nat}:Gs L T T=L.k:=by unfold Gs;rw [ya zO,Ka rfl]
theorem XQ {L:Na} {T:Nat}:Gs L T (T+1)=L.k+L.block-2:=by unfold Gs;rw [ya zO,ya zO,Ka rfl]
theorem YQ {L:Na} {T:Nat}:Gs L T (T+2)=L.block+2*L.queries-1:=by unfold Gs;rw [ya zO,ya zO,ya zO,Ka rfl]
theorem ZQ {L:Na} {T:Nat}:Gs L T (T+3)=L.n:=by unfold Gs;rw [ya zO,ya zO,ya zO,ya zO]
theorem Nq {L:Na} {T k:Nat} (h:k<T+3):RD L T k=L.p:=Ka h
theorem sR {L:Na} {T:Nat}:RD L T (T+3)=Bb:=ya zO
theorem DM {l:List Nat} {n p:Nat} (hl:l.length=n) (h:∀ x∈l,x<p):Rj l n p=true:=by
 unfold Rj;rw [Vb];exact ⟨by simp [hl],fe.2 fun x hx=>xb (h x hx)⟩
theorem NL {T k:Nat} (h:k<T+4):k<T \/ k=T \/ k=T+1 \/ k=T+2 \/ k=T+3:=by omega
def eI (T:Nat) (ll:Nat -> List Nat):CoR:=⟨(List.range T).map ll,ll T,ll (T+1),ll (T+2),ll (T+3)⟩
theorem coX_ok {L:Na} {ll:Nat -> List Nat} (h:∀ k,k<L.a+L.b+L.b+L.b+4 -> (ll k).length=Gs L (L.a+L.b+L.b+L.b) k /\ ∀ x∈ll k,x<RD L (L.a+L.b+L.b+L.b) k):(eI (L.a+L.b+L.b+L.b) ll).ok L=true:=by
 generalize hT:L.a+L.b+L.b+L.b=T at h;have h1:=h T zO;have h2:=h (T+1) zO;have h3:=h (T+2) zO;have h4:=h (T+3) zO;rw [WQ,Nq zO] at h1;rw [XQ,Nq zO] at h2;rw [YQ,Nq zO] at h3;rw [ZQ,sR] at h4;unfold CoR.ok ey eI;simp only [Vb];refine ⟨by simp [hT],fe.2 fun r hr=>?_,DM h1.1 h1.2,DM h2.1 h2.2,DM h3.1 h3.2,DM h4.1 h4.2⟩
 obtain ⟨k,hk,rfl⟩:=Od.1 hr;have XF:=pj.1 hk;have h0:=h k zO;rw [EN XF,Nq zO] at h0;exact DM h0.1 h0.2
theorem coX_in {L:Na} {u:vw} {cs:Array vx} {g0 g1 g2 g3 g4:Nat} {f:Nat -> Nat} {ll:Nat -> List Nat} (hL:Nb L) (ht:L.a+3*L.b <= 40) (k0:Blk u g0 28 cs)
  (hc:∀ k,k<L.a+L.b+L.b+L.b -> cs[k]?=vE (ve (vE ⟨f k,0,vD⟩) L.queries L.queries))
  (h:∀ k,k<L.a+L.b+L.b+L.b+4 -> Blk u (sp (L.a+L.b+L.b+L.b) f g1 g2 g3 g4 k) 22 (Oa (ll k)).toArray /\ (ll k).length=Gs L (L.a+L.b+L.b+L.b) k /\ ∀ x∈ll k,x<RD L (L.a+L.b+L.b+L.b) k) :
  pO u (eI (L.a+L.b+L.b+L.b) ll) ⟨vE ⟨g0,0,vD⟩,L.a+L.b+L.b+L.b,L.a+L.b+L.b+L.b,vE ⟨g1,0,vD⟩,L.k,L.k,vE ⟨g2,0,vD⟩,L.k+L.block-2,L.k+L.block-2,vE ⟨g3,0,vD⟩,L.block+2*L.queries-1,L.block+2*L.queries-1,vE ⟨g4,0,vD⟩,L.n,L.n⟩:=by
 have jf:=Rb hL.p;have Yu:=hL.q2;have b2:=hL.b2;have b5:=hL.k;have b6:=hL.n2;have hm:∀ m,m <= 65536 -> m <= maxLen:=fun m h=>by simp [maxLen];omega
 have hbg:Bb<18446744073709551616:=by decide
 generalize hT:L.a+L.b+L.b+L.b=T at h hc |-;have h1:=h T zO;have h2:=h (T+1) zO;have h3:=h (T+2) zO;have h4:=h (T+3) zO;rw [SH,WQ,Nq zO] at h1;rw [TH,XQ,Nq zO] at h2;rw [UH,YQ,Nq zO] at h3;rw [VH,ZQ,sR] at h4;have h64:∀ {l:List Nat},(∀ x∈l,x<L.p) -> ∀ x∈l,x<18446744073709551616:=fun h x hx=>Uk (h x hx) jf.2
 have m0:T <= maxLen:=hm _ zO;have m1:L.k <= maxLen:=hm _ zO;have m2:L.k+L.block-2 <= maxLen:=hm _ zO;have m3:L.block+2*L.queries-1 <= maxLen:=hm _ zO;have m4:L.n <= maxLen:=hm _ zO;have m5:L.queries <= maxLen:=hm _ zO;refine ⟨xU (N:=0) (gb:=vD) (fun k (hk:k<T)=>?_) k0 m0,IJ h1.1 h1.2.1 (h64 h1.2.2) m1,IJ h2.1 h2.2.1 (h64 h2.2.2) m2,IJ h3.1 h3.2.1 (h64 h3.2.2) m3,IJ h4.1 h4.2.1 (fun x hx=>Uk (h4.2.2 x hx) hbg) m4⟩
 have h0:=h k zO;rw [dF hk,EN hk,Nq zO] at h0;exact ⟨_,hc k hk,iX h0.1 h0.2.1 (h64 h0.2.2) m5 (Kb _) (fun e=>by cases e)⟩
theorem CoB.below {N:Nat} {w u:vw} {q:Nat} {cs:Array vx} {n:Nat} {r:Nat -> List Nat} {l1 l2 l3 l4:List Nat} {g0 g1 g2 g3 g4 NF:Nat} {f:Nat -> Nat} (h:CoB N w q cs n r l1 l2 l3 l4 g0 g1 g2 g3 g4 NF f) (hb:vA w.1.size w u):CoB N u q cs n r l1 l2 l3 l4 g0 g1 g2 g3 g4 NF f :=
 ⟨h.k0.below hb h.k0.lt,h.k1.below hb h.k1.lt,h.k2.below hb h.k2.lt,h.k3.below hb h.k3.lt,h.k4.below hb h.k4.lt,h.kr.keep fun b _ hl=>hb.block b hl,h.ge,h.lt,h.nd⟩
def llX (T:Nat) (r:Nat -> List Nat) (l1 l2 l3 l4:List Nat) (k:Nat):List Nat:=if k<T then r k else if k=T then l1 else if k=T+1 then l2 else if k=T+2 then l3 else l4
theorem zDe {L:Na} {N coin:Nat} {w:vw} {cs:Array vx} {g0 g1 g2 g3 g4 NF gt:Nat} {f:Nat -> Nat} {V:Nat -> Prop} (hL:Nb L)
  (h:CoB N w L.queries cs (L.a+L.b+L.b+L.b) (fun k=>re L.p coin [0,k] L.queries) (re L.p coin [1] L.k) (re L.p coin [2] (L.k+L.block-2)) (re L.p coin [3] (L.block+2*L.queries-1)) (re Bb coin [4] L.n) g0 g1 g2 g3 g4 NF f) (kt:Blk w gt 3 #[vd vq ((0:Nat):Int)]) :
  ∃ ll,NxS (L.a+L.b+L.b+L.b+4) (sp (L.a+L.b+L.b+L.b) f g1 g2 g3 g4) (Gs L (L.a+L.b+L.b+L.b)) (RD L (L.a+L.b+L.b+L.b)) gt w V w ll 0:=by
 have Mf:0<L.p:=by have:=Rb hL.p;omega
 have hv:∀ p r m,0<p -> (re p coin r m).length=m /\ ∀ x∈re p coin r m,x<p:=fun p r m hp=>⟨by simp [re],fun x hx=>by
  obtain ⟨k,_,rfl⟩:=Od.1 hx;exact mc _ hp⟩
 generalize L.a+L.b+L.b+L.b=T at h |-;refine ⟨llX T (fun k=>re L.p coin [0,k] L.queries) (re L.p coin [1] L.k) (re L.p coin [2] (L.k+L.block-2)) (re L.p coin [3] (L.block+2*L.queries-1)) (re Bb coin [4] L.n),⟨fun k hk=>?_,kt,Moved.refl⟩⟩
 rcases NL hk with e | rfl | rfl | rfl | rfl
 ·rw [dF e,EN e,Nq zO,show llX T _ _ _ _ _ k=_ from Ka e]
  exact ⟨(h.kr.at_ k e).2.1,hv _ _ _ Mf⟩
 ·rw [SH,WQ,Nq zO,show llX k _ _ _ _ _ k=_ from (ya zO).trans (Ka rfl)]
  exact ⟨h.k1,hv _ _ _ Mf⟩
 ·rw [TH,XQ,Nq zO,show llX T _ _ _ _ _ (T+1)=_ from (ya zO).trans ((ya zO).trans (Ka rfl))]
  exact ⟨h.k2,hv _ _ _ Mf⟩
 ·rw [UH,YQ,Nq zO,show llX T _ _ _ _ _ (T+2)=_ from (ya zO).trans ((ya zO).trans ((ya zO).trans (Ka rfl)))]
  exact ⟨h.k3,hv _ _ _ Mf⟩
 ·rw [VH,ZQ,sR,show llX T _ _ _ _ _ (T+3)=_ from (ya zO).trans ((ya zO).trans ((ya zO).trans (ya zO)))]
  exact ⟨h.k4,hv _ _ _ zD⟩
theorem cob_lt {N:Nat} {w:vw} {q:Nat} {cs:Array vx} {T:Nat} {r:Nat -> List Nat} {l1 l2 l3 l4:List Nat} {g0 g1 g2 g3 g4 NF:Nat} {f:Nat -> Nat} (h:CoB N w q cs T r l1 l2 l3 l4 g0 g1 g2 g3 g4 NF f) {k:Nat} (hk:k<T+4) :
  N <= sp T f g1 g2 g3 g4 k /\ sp T f g1 g2 g3 g4 k<w.1.size /\ sp T f g1 g2 g3 g4 k≠g0:=by
 have a:=h.ge;have b:=h.lt;have c1:=h.k1.lt;have c2:=h.k2.lt;have c3:=h.k3.lt;have c4:=h.k4.lt;have nd:=h.nd;simp only [List.nodup_cons,Ah,List.not_mem_nil,or_false,not_or,not_false_eq_true,List.nodup_nil,and_true] at nd;rcases NL hk with e | rfl | rfl | rfl | rfl
 ·rw [dF e]
  have:=h.kr.at_ k e;have:=this.2.1.lt;omega
 ·rw [SH];omega
 ·rw [TH];omega
 ·rw [UH];omega
 ·rw [VH];omega
theorem zDd {N:Nat} {w:vw} {q:Nat} {cs:Array vx} {T:Nat} {r:Nat -> List Nat} {l1 l2 l3 l4:List Nat} {g0 g1 g2 g3 g4 NF:Nat} {f:Nat -> Nat} (h:CoB N w q cs T r l1 l2 l3 l4 g0 g1 g2 g3 g4 NF f):∀ i k,i<T+4 -> k<T+4 -> sp T f g1 g2 g3 g4 i=sp T f g1 g2 g3 g4 k -> i=k:=by
 have b:=h.lt;have nd:=h.nd;simp only [List.nodup_cons,Ah,List.not_mem_nil,or_false,not_or,not_false_eq_true,List.nodup_nil,and_true] at nd;have hf:∀ k,k<T -> NF <= f k:=fun k hk=>(h.kr.at_ k hk).2.2
 intro i k hi hk e;by_cases h1:i<T <;> by_cases h2:k<T
 ·rw [dF h1,dF h2] at e
  rcases Nat.lt_trichotomy i k with x | x | x
  ·have:=h.kr.lt i k x h2;omega
  ·exact x
  ·have:=h.kr.lt k i x h1;omega
 ·rw [dF h1] at e
  have:=hf i h1;rcases NL hk with x | rfl | rfl | rfl | rfl
  ·exact absurd x h2
  ·rw [SH] at e;omega
  ·rw [TH] at e;omega
  ·rw [UH] at e;omega
  ·rw [VH] at e;omega
 ·rw [dF h2] at e
  have:=hf k h2;rcases NL hi with x | rfl | rfl | rfl | rfl
  ·exact absurd x h1
  ·rw [SH] at e;omega
  ·rw [TH] at e;omega
  ·rw [UH] at e;omega
  ·rw [VH] at e;omega
 ·rcases NL hi with x | rfl | rfl | rfl | rfl
  ·exact absurd x h1
  all_goals
   rcases NL hk with x | x | x | x | x
   ·exact absurd x h2
   all_goals
    first
    | (subst x;rfl)
    | (exfalso;rw [x] at e;simp only [SH,TH,UH,VH] at e;omega)
theorem nnX_le {L:Na} (hL:Nb L) {T k:Nat}:Gs L T k <= 2000:=by
 have:=hL.q2;have:=hL.b2;have:=hL.k;have:=hL.n2;unfold Gs;split
 ·omega
 ·split
  ·omega
  ·split
   ·omega
   ·split <;> omega
theorem ppX_lt {L:Na} (hL:Nb L) {T k:Nat}:0<RD L T k /\ RD L T k<18446744073709551616:=by
 have:=Rb hL.p;unfold RD;split
 ·omega
 ·decide
theorem zBb {w:vw} {g:Nat} {t:vz} {y0 y1 y2 y3 y4 y5 y6 y7 y8 y9 se:vx} (k:Blk w g t #[y0,y1,y2,y3,y4,y5,y6,y7,y8,y9,se]) (x0 x1 x2 x3 x4 x5 x6 x7 x8 x9 Qo:vx):∃ wf,(((((((((((w).setCell ⟨g,0,vD⟩ x0).setCell ⟨g,1,vD⟩ x1).setCell ⟨g,2,vD⟩ x2).setCell ⟨g,3,vD⟩ x3).setCell ⟨g,4,vD⟩ x4).setCell ⟨g,5,vD⟩ x5).setCell ⟨g,6,vD⟩ x6).setCell ⟨g,7,vD⟩ x7).setCell ⟨g,8,vD⟩ x8).setCell ⟨g,9,vD⟩ x9).setCell ⟨g,10,vD⟩ Qo=wf /\ Blk wf g t #[x0,x1,x2,x3,x4,x5,x6,x7,x8,x9,Qo] /\ StB g w wf :=
 ⟨_,rfl,ZD [x0,x1,x2,x3,x4,x5,x6,x7,x8,x9,Qo] k rfl,uX g [x0,x1,x2,x3,x4,x5,x6,x7,x8,x9,Qo] w⟩
theorem StB.fromF {g N:Nat} {V:Nat -> Prop} {w wf:vw} (h:StB g w wf) (hg:V g):Zi V N w wf:=⟨h.os,h.tape,h.output,Nat.le_of_eq h.size.symm,fun b _ hn=>h.far b fun e=>hn (e ▸ hg)⟩
theorem Moved.st {g:Nat} {F F':Nat -> Prop} {w0 w wf:vw} (m:Moved F F' w0 w) (h:StB g w wf) (hg:w0.1.size <= g):Moved F F' w0 wf :=
 ⟨h.os.trans m.os,h.tape.trans m.tape,h.output.trans m.output,zb m.size (Nat.le_of_eq h.size.symm),fun b hb hn=>(h.far b zO).trans (m.block b hb hn),m.foot⟩
theorem StB.orc {g gb:Nat} {F:Nat -> Prop} {O:Da} {w wf:vw} (h:StB g w wf) (k:OrcAt w gb O F) (hg:¬F g):OrcAt wf gb O F:=k.keep (Nat.le_of_eq h.size.symm) fun b hb=>h.far b fun e=>hg (e ▸ hb)
theorem zAl {w:vw} {g:Nat} {O:Da} {F K:Nat -> Prop} (h:OrcAt w g O F) (L:Na) (j pu coin:Nat) (vars bl bw qs:Int) (A B D:Option vy) (n c m d mD dD:Nat) (rows:List Ua) (ws add:List Nat) (real:Bool) (Gg:Nat)
  (hL:Nb L) (hn:L.n=2^j) (ff:Lj L ⟨L.p,(pu:Int),vars,rows.length,bl,bw,qs⟩) (ht:L.a+3*L.b <= 40) (hT:Vz L.p (pu:Int) vars rows ws true) (XM:coin<18446744073709551616)
  (hA:Hd K w fun u=>RSl 3 je u [ve A n c] rows /\ RWd u [ve B m d] ws /\ RWd u [ve D mD dD] add) (hK:∀ b,K b -> b<w.1.size /\ ¬F b) (hO:oc O 1000) :
  vB prog 45 #[.pointer (vE ⟨g,0,vD⟩),vf (uT L.p (pu:Int) vars A B n c m d bl bw qs (coin:Int) real Gg),ve D mD dD] w fun e w' =>
   ∃ (C:CoR) (S:PS) (F':Nat -> Prop),C.ok L=true /\ e=vl (.tuple #[vf (ib L),vf (Wd ((xf L j pu vars rows ws C).pr O) S), .bool true]) /\ OrcAt w' g ((xf L j pu vars rows ws C).oF O) F' /\ Moved F F' w w' /\
    Hd (fun b=>w.1.size <= b /\ b<w'.1.size /\ ¬F' b) w' (fun u=>Ji u ((xf L j pu vars rows ws C).pr O) S):=by
 obtain ⟨kc,ka,kr,kz,da,-⟩:=sM w 32 28 101 46 (uT L.p (pu:Int) vars A B n c m d bl bw qs (coin:Int) real Gg) #[ve D mD dD] #[vd vn 0,vd vq 0,vd vq 0,vd vq 0,vd vq 0,vd vq 0,vd vq 0,vd vq 0,vd vq 0,vd vq 0,vd vq 0] #[vd vn 0,ve vD 0 0,ve vD 0 0,ve vD 0 0,ve vD 0 0,ve vD 0 0,ve vD 0 0];have hz:=UQ hT.tab ff;have HN:=zH (fun w' (hb:vA w.1.size w w')=>(oW L.p (pu:Int) vars A n c rows bl bw qs w' (Ri hA (yg hb)).1).mono (R':=fun e Nk=>e=vl (.tuple #[vf (ib L),vd vq 0]) /\ vA w'.1.size w' Nk) (by
  rintro e Nk ⟨⟨lcs,rfl,hp⟩,Ba⟩;rw [hz] at hp;rcases hp with ⟨Sa,-⟩ | ⟨-,-,L',-,hf',rfl⟩
  ·exact absurd rfl Sa
  ·rw [hz,show L'=L from hf'.eq.trans ff.eq.symm]
   exact ⟨rfl,Ba⟩))
 have HFS:=zH (fun u=>zFD L coin u hL XM)
 have Wm:=zH (fun (N:Nat) (u:vw) (cs:Array vx) (g0 g1 g2 g3 g4 NF gt:Nat) (f:Nat -> Nat) (V:Nat -> Prop)=>zDe (L:=L) (coin:=coin) (N:=N) (w:=u) (cs:=cs) (g0:=g0) (g1:=g1) (g2:=g2) (g3:=g3) (g4:=g4) (NF:=NF) (gt:=gt) (f:=f) (V:=V) hL)
 have om:=zH (fun (C:CoR) (S:CoS) (hC:C.ok L=true) (u:vw) (hb:vA w.1.size w u) (Sj:Hd (fun b=>w.1.size <= b /\ b<u.1.size) u fun u=>pO u C S)=>zG3 (K:=fun b=>K b \/ (w.1.size <= b /\ b<u.1.size)) (h.below hb) L j pu C S vars A B n c m d rows ws bl bw qs hL hn ff ht hT hC
  (fun x a=>by
   have h1:=Ri hA (XB (yg hb) (wt a fun b hb=>.inl hb))
   exact ⟨h1.1,h1.2.1,Sj x (wt a fun b hb=>.inr hb)⟩)
  (fun b hk=>hk.elim (fun hk=>⟨pd (hK b hk).1 hb.size,(hK b hk).2⟩) fun hk=>⟨hk.2,fun e=>by have:=h.lt b e;omega⟩) hO)
 have HCi:=zH (fun (u:vw) (cs:Array vx) (g0 g1 g2 g3 g4:Nat) (f:Nat -> Nat) (ll:Nat -> List Nat)=>coX_in (L:=L) (u:=u) (cs:=cs) (g0:=g0) (g1:=g1) (g2:=g2) (g3:=g3) (g4:=g4) (f:=f) (ll:=ll) hL ht)
 have su:=zH (fun (ll:Nat -> List Nat)=>coX_ok (L:=L) (ll:=ll))
 have HNn:=zH (fun (T k:Nat)=>nnX_le (L:=L) (T:=T) (k:=k) hL)
 have LB:=zH (fun (T k:Nat)=>ppX_lt (L:=L) (T:=T) (k:=k) hL)
 have OE:=zH (GF hA fun u h=>h.2.2)
 have HK:=zH hK;have H:=zH h;have HF:=zH h.lt;have HTT:=zH (show L.a+L.b+L.b+L.b <= 40 by omega)
 clear hz hA hK h hL hn ff ht hT XM hO;obtain ⟨T,hTe⟩:=zEX (L.a+L.b+L.b+L.b);rw [<- hTe] at HFS Wm HCi su HTT;have PB:=zH (show (T:Int) <= 40 by have:=HTT.out;omega)
 obtain ⟨m2,cJ⟩:=zEX (L.k+L.block-2);obtain ⟨m3,yn⟩:=zEX (L.block+2*L.queries-1);rw [<- cJ,<- yn] at HFS Wm HCi;have Ii:=zH cJ;have BE:=zH yn;clear hTe cJ yn;unfold Zb Iq at *;unfold ib at HN HFS;go_enter func45,ntmps45
 go_upto_region 1 with fail
 generalize (((w.alloc _).alloc _).alloc _).alloc _=w1 at kc ka kr kz da |-;have cc:=kc.cell;go_wp2_with fail
 refine (HN.out _ da).mono ?_;rintro e w2 ⟨rfl,Ba⟩;replace kc:=ia kc Ba;replace ka:=ia ka Ba;replace kr:=ia kr Ba;replace kz:=ia kz Ba;replace da:=ma da Ba;have HGL:=zH kz.lt;obtain ⟨kl,ja⟩:=zN w2 101 #[vd vn L.p,vd vq L.block,vd vq L.queries,vd vq L.k,vd vq L.n,vd vq L.secret,vd vq L.rows,vd vq L.a,vd vq L.b,vd vq L.b,vd vq L.b];replace kc:=ia kc ja;replace ka:=ia ka ja;replace kr:=ia kr ja;replace kz:=ia kz ja;replace da:=ma da ja;clear Ba ja cc HN;go_upto_region 4 with fail
 generalize w2.alloc _=w3 at kc ka kr kz da kl |-;generalize w2.1.size=gl at kl HGL |-;have cc:=kc.cell;have cl:=kl.cell;go_wp2_with fail
 refine (HFS.out _).mono ?_;rintro e w4 ⟨cs,g0,g1,g2,g3,g4,NF,f,rfl,Sj,Db⟩;have l3:=kz.lt;have la3:=ka.lt;have ll3:=kl.lt;replace kc:=ia kc Db;replace ka:=ia ka Db;replace kr:=ia kr Db;replace kz:=ia kz Db;replace kl:=ia kl Db;replace da:=ma da Db;clear cc cl HFS;obtain ⟨ko,kt,Za,jb⟩:=Yg w4 41 3 #[ve (vE ⟨g0,0,vD⟩) T T,ve (vE ⟨g1,0,vD⟩) L.k L.k,ve (vE ⟨g2,0,vD⟩) m2 m2,ve (vE ⟨g3,0,vD⟩) m3 m3,ve (vE ⟨g4,0,vD⟩) L.n L.n] #[vd vq 0];go_upto_region 6 with fail
 generalize (w4.alloc _).alloc _=w5 at ko kt Za jb |-;have l45:=Db.size;have HCB:=zH Sj;have zq:=Sj.k0.lt;have hgN:=Sj.ge;have k0:=Sj.k0.below Za Sj.k0.lt;have Yf:=zH (fun k hk=>(Sj.kr.at_ k hk).1)
 obtain ⟨bk,CF⟩:=zEX (sp T f g1 g2 g3 g4);obtain ⟨nn,Ag⟩:=zEX (Gs L T);obtain ⟨pp,jf⟩:=zEX (RD L T);obtain ⟨gt,hgt⟩:=zEX (w4.1.size+1);obtain ⟨go,hgo⟩:=zEX (w4.1.size);rw [<- hgt] at kt |-;rw [<- hgo] at ko |-;obtain ⟨V,hV⟩:∃ V:Nat -> Prop,V=fun b=>b=gt \/ ∃ k,k<T+4 /\ b=bk k:=⟨_,rfl⟩
 obtain ⟨ll0,Mp⟩:=Wm.out _ _ _ _ _ _ _ _ _ _ _ V (Sj.below Za) kt;rw [<- CF,<- Ag,<- jf] at Mp;have Gb:∀ k,k<T+4 -> w3.1.size <= bk k /\ bk k<w4.1.size /\ bk k≠g0:=fun k hk=>by rw [CF];exact cob_lt Sj hk
 have DH:=zH (show ∀ b,V b -> w3.1.size <= b /\ b≠g0 /\ b≠go by
  rw [hV];rintro b (rfl | ⟨k,hk,rfl⟩)
  ·omega
  ·have:=Gb k hk;omega)
 have GU:=ma (ma da (tb _ _)) Za;have HFx:=zH (show NxF (T+4) bk nn pp (w.1.size+1) gt w5 V D mD dD add from {
  inj:=by rw [CF];exact zDd Sj
  ne:=fun k hk=>by have:=Gb k hk;omega
  vb:=fun k hk=>by rw [hV];exact .inr ⟨k,hk,rfl⟩
  vt:=by rw [hV];exact .inl rfl
  va:=fun e=>by have:=(DH.out _ e).1;omega
  ka:=ia ka Za
  rd:=QP (te (C5 OE.out) (yg GU)) fun b hb e=>by have:=(DH.out _ e).1;have:=hb.2;have:=da.size;omega
  p0:=fun k _=>by rw [jf];exact LB.out _ _
  n0:=fun k _=>by rw [Ag];have:=HNn.out T k;omega })
 have hNb:∀ k,k<T+4 -> nn k <= 2000:=fun k _=>by rw [Ag];exact HNn.out _ _
 have Ox:=zH hNb;obtain ⟨KB,uy⟩:∃ KB:Nat -> Prop,KB=fun b=>¬V b /\ b<w5.1.size:=⟨_,rfl⟩
 have jA:∀ b,¬V b -> b<w5.1.size -> KB b:=fun b h1 h2=>by rw [uy];exact ⟨h1,h2⟩
 have im:=zH (show ∀ b,KB b -> ¬V b by rw [uy];exact fun b h=>h.1)
 replace kc:=ia kc Za;replace kr:=ia kr Za;replace kz:=ia kz Za;replace kl:=ia kl Za;have nV:∀ b,b<w3.1.size -> ¬V b:=fun b hb e=>by have:=(DH.out _ e).1;omega
 have Qk:=zH (show Hd KB w5 (fun u=>Blk u w.1.size _ _ /\ Blk u (w.1.size+1+1) _ _ /\ Blk u (w.1.size+1+1+1) _ _ /\ Blk u gl _ _ /\ Blk u go _ _ /\ Blk u g0 _ _) from fun u a =>
  have bx:∀ {g:Nat} {t:vz} {cs:Array vx},Blk w5 g t cs -> ¬V g -> Blk u g t cs:=fun k hg=>(a.block _ (jA _ hg k.lt) k.lt).trans k
  ⟨bx kc (nV _ zO),bx kr (nV _ zO),bx kz (nV _ zO),bx kl (nV _ zO),bx ko (fun e=>(DH.out _ e).2.2 rfl),bx k0 (fun e=>(DH.out _ e).2.1 rfl)⟩)
 have HB5:=zH GU;have dt:=zH (show ∀ b,V b -> w.1.size <= b from fun b hb=>by have:=(DH.out _ hb).1;have:=da.size;omega)
 have lH:=zH CF;have JB:=zH Ag;have JE:=zH jf;have xr:=zH Mp;have HI:=zH (show w.1.size <= g0 /\ g0<w5.1.size /\ ∀ k,k<T+4 -> w.1.size <= bk k /\ bk k<w5.1.size from ⟨by have:=da.size;omega,zO,fun k hk=>by have:=Gb k hk;have:=da.size;omega⟩)
 clear Mp jf Ag CF GU kc kr kz kl ko k0 kt uy jA nV hNb Gb hV hgt hgo Sj Db Za da jb zq hgN Wm OE HNn LB l3 la3 ll3 l45 ka DH;have DC:=PB.out;obtain ⟨-,-,-,-,ko5,-⟩:=qh Qk.out;have co5:=ko5.cell;go_upto_region 8 with fail
 clear co5 ko5;go_loopw [39] (fun y wr=>∃ (i:Nat) (ll:Nat -> List Nat) (Ch:Nat),i <= T /\ y=vd vq i /\ Hid (Ch <= 2000*i) /\ Hid (NxS (T+4) bk nn pp gt w5 V wr ll Ch)) (fun y _=>T-(intOf y).toNat)
 case atStart=>exact ⟨0,ll0,0,Kb _,rfl,zH zR,xr⟩
 case round =>
  obtain ⟨i,ll,Ch,hi,rfl,Hl,HS⟩:=hrel;clear xr;by_cases ta:i<T
  ·have Xb:=zH ta
   obtain ⟨kc,kr,kz,kl,ko,k0⟩:=qh (te Qk.out (Ml HS.out.m im.out));have kd:=FN HS.out HFx.out (by have:=Hl.out;have:=HTT.out;omega) (k:=i) zO
   rw [show bk i=f i by rw [lH.out];exact dF ta,show nn i=L.queries by rw [JB.out];exact EN ta,show pp i=L.p by rw [JE.out];exact Nq zO] at kd
   have Wm:=zH kd;have Jl:=zH (show L.queries <= 2000 by have:=Ox.out i zO;rwa [show nn i=L.queries by rw [JB.out];exact EN ta] at this)
   have c0i:=(k0.cell i).trans (Yf.out i ta);have cl:=kl.cell;have g1:(0:Int)<=i:=by omega
   have g2:(i:Int)<T:=by omega
   clear kc kr kz kl ko k0 kd ta hi;go_wp2_with fail
   refine Wm.out.mono ?_;rintro e w6 ⟨rfl,l',rp,Ht,Dd⟩;have yr:=zH Dd;have HA2:=zH (show rp <= 2000*(i+1) by have:=Hl.out;have:=Jl.out;omega)
   clear Ht Dd c0i cl Wm;go_wp2
   go_roundw
   case rel=>exact ⟨i+1,l',rp,Xb.out,by go_num,HA2,yr⟩
   case measure=>have:=Xb.out;simp [intOf];omega
  ·obtain rfl:i=T:=by omega
   clear ta hi;replace Hl:=zH (show Ch <= 80000 by have:=Hl.out;have:=HTT.out;omega)
   obtain ⟨kc,kr,kz,kl,ko,k0⟩:=qh (te Qk.out (Ml HS.out.m im.out));have kd:=FN HS.out HFx.out (zQ Hl.out) (k:=i) zO;have Mg:nn (i)=L.k:=by rw [JB.out];exact WQ
   rw [show bk (i)=g1 by rw [lH.out];exact SH,Mg,show pp (i)=L.p by rw [JE.out];exact Nq zO] at kd
   have Wm:=zH kd;have Jl:=zH (show L.k <= 2000 by have:=Ox.out (i) zO;rwa [Mg] at this)
   clear Mg;have co:=ko.cell;have cl:=kl.cell;clear kc kr kz kl ko k0 kd;go_wp2_with fail
   refine Wm.out.mono ?_;rintro e v1 ⟨rfl,l1,rp,Ht,Dd⟩;replace HS:=zH Dd;replace Hl:=zH (show rp <= 82000 by have:=Hl.out;have:=Jl.out;omega)
   clear Ht Dd co cl Wm Jl;obtain ⟨kc,kr,kz,kl,ko,k0⟩:=qh (te Qk.out (Ml HS.out.m im.out));have kd:=FN HS.out HFx.out (zQ Hl.out) (k:=i+1) zO;have Mg:nn (i+1)=m2:=by rw [JB.out];exact XQ.trans Ii.out.symm
   rw [show bk (i+1)=g2 by rw [lH.out];exact TH,Mg,show pp (i+1)=L.p by rw [JE.out];exact Nq zO] at kd
   have Wm:=zH kd;have Jl:=zH (show m2 <= 2000 by have:=Ox.out (i+1) zO;rwa [Mg] at this)
   clear Mg;have co:=ko.cell;have cl:=kl.cell;clear kc kr kz kl ko k0 kd;go_wp2_with fail
   refine Wm.out.mono ?_;rintro e v2 ⟨rfl,l2,at3,Ht,Dd⟩;replace HS:=zH Dd;replace Hl:=zH (show at3 <= 84000 by have:=Hl.out;have:=Jl.out;omega)
   clear Ht Dd co cl Wm Jl;obtain ⟨kc,kr,kz,kl,ko,k0⟩:=qh (te Qk.out (Ml HS.out.m im.out));have kd:=FN HS.out HFx.out (zQ Hl.out) (k:=i+2) zO;have Mg:nn (i+2)=m3:=by rw [JB.out];exact YQ.trans BE.out.symm
   rw [show bk (i+2)=g3 by rw [lH.out];exact UH,Mg,show pp (i+2)=L.p by rw [JE.out];exact Nq zO] at kd
   have Wm:=zH kd;have Jl:=zH (show m3 <= 2000 by have:=Ox.out (i+2) zO;rwa [Mg] at this)
   clear Mg;have co:=ko.cell;have cl:=kl.cell;clear kc kr kz kl ko k0 kd;go_wp2_with fail
   refine Wm.out.mono ?_;rintro e v3 ⟨rfl,l3,at4,Ht,Dd⟩;replace HS:=zH Dd;replace Hl:=zH (show at4 <= 86000 by have:=Hl.out;have:=Jl.out;omega)
   clear Ht Dd co cl Wm Jl;obtain ⟨kc,kr,kz,kl,ko,k0⟩:=qh (te Qk.out (Ml HS.out.m im.out));have kd:=FN HS.out HFx.out (zQ Hl.out) (k:=i+3) zO;have Mg:nn (i+3)=L.n:=by rw [JB.out];exact ZQ
   rw [show bk (i+3)=g4 by rw [lH.out];exact VH,Mg,show pp (i+3)=18446744069414584321 by rw [JE.out];exact sR] at kd
   rw [show ((18446744069414584321:Nat):Int)=18446744069414584321 from rfl] at kd
   have Wm:=zH kd;have Jl:=zH (show L.n <= 2000 by have:=Ox.out (i+3) zO;rwa [Mg] at this)
   clear Mg;have co:=ko.cell;have cl:=kl.cell;clear kc kr kz kl ko k0 kd;go_wp2_with fail
   refine Wm.out.mono ?_;rintro e v4 ⟨rfl,l4,at5,Ht,Dd⟩;replace HS:=zH Dd;replace Hl:=zH (show at5 <= 88000 by have:=Hl.out;have:=Jl.out;omega)
   clear Ht Dd co cl Wm Jl;obtain ⟨kc,kr,kz,kl,ko,k0⟩:=qh (te Qk.out (Ml HS.out.m im.out));have Ib:=BK HB5.out HS.out.m dt.out;have hCo:Hd (fun b=>w.1.size <= b /\ b<v4.1.size) v4 fun u=>pO u (eI i l4) ⟨vE ⟨g0,0,vD⟩,i,i,vE ⟨g1,0,vD⟩,L.k,L.k,vE ⟨g2,0,vD⟩,m2,m2,vE ⟨g3,0,vD⟩,m3,m3,vE ⟨g4,0,vD⟩,L.n,L.n⟩:=fun u a=>by
    have jb:=HS.out.m.size;exact HCi.out _ _ _ _ _ _ _ _ _ ((a.block _ ⟨HI.out.1,pd HI.out.2.1 jb⟩ k0.lt).trans k0) Yf.out fun k hk=>by
     obtain ⟨h1,h2,h3⟩:=HS.out.l k hk;have hb:=HI.out.2.2 k hk;refine ⟨?_,by rw [h2,JB.out],by rw [<- JE.out];exact h3⟩
     rw [<- lH.out];exact (a.block _ ⟨hb.1,pd hb.2 jb⟩ h1.lt).trans h1
   have hCk:=su.out _ fun k hk=>by
    obtain ⟨-,h2,h3⟩:=HS.out.l k hk;exact ⟨by rw [h2,JB.out],by rw [<- JE.out];exact h3⟩
   have HP:=zH (om.out _ _ hCk v4 Ib hCo);obtain ⟨P,hP⟩:=zEX ((xf L j pu vars rows ws (eI i l4)).pr O);obtain ⟨OF,FI⟩:=zEX ((xf L j pu vars rows ws (eI i l4)).oF O);rw [<- hP,<- FI] at HP;have HCK:=zH hCk;have IE:=zH hP;have HOE:=zH FI;unfold coCs at HP;dsimp only at HP
   have GB:=zH Ib;clear hP FI hCk hCo Ib om HCi su HI HS Hl Yf HFx Qk HB5 lH JB JE Ox Ii BE;have cc:=kc.cell;have co:=ko.cell;go_wp2_with fail
   refine HP.out.mono ?_;rintro e v5 ⟨S,F',rfl,ho,hm,hp⟩;have nF:∀ {b},w.1.size <= b -> ¬F b:=fun hb e=>by have:=HF.out _ e;omega
   have nr:=Td hm kr.lt (nF zO);have nz:=Td hm kz.lt (nF zO);have lr4:=kr.lt;have lz4:=kz.lt;replace kr:=kr.moved hm (nF zO);replace kz:=kz.moved hm (nF zO);replace kl:=kl.moved hm (nF (zQ HGL.out));have Vm:=zH ((Zc (F:=F) GB.out).trans hm);have kJ:=GB.out.size;unfold Wd;obtain ⟨kp,ja⟩:=zN v5 46 #[vd vn P.root,ve S.A1 S.n1 S.c1,ve S.A2 S.n2 S.c2,ve S.A3 S.n3 S.c3,ve S.A4 S.n4 S.c4,ve S.A5 S.n5 S.c5,ve S.A6 S.n6 S.c6];have lr5:=kr.lt;have lz5:=kz.lt;have ll5:=kl.lt;replace kr:=ia kr ja;replace kz:=ia kz ja;replace kl:=ia kl ja;have HO:=zH (ho.below ja);replace Vm:=zH (Vm.out.trans (Zc ja));have ir:=zH (te (QP hp (K':=fun b=>v4.1.size <= b /\ b<v5.1.size /\ ¬F' b) fun b h=>h) (yg ja))
   have s56:=ja.size;clear hm ho hp ja cc co HP kc ko k0;go_upto_region 17 with fail
   generalize v5.alloc _=v6 at kp kr kz kl HO Vm ir s56 |-;generalize v5.1.size=gp at kp lr5 lz5 ll5 ir s56 |-;obtain ⟨VR,hVR⟩:∃ VR:Nat -> Prop,VR=fun b=>b=w.1.size+1+1 \/ b=w.1.size+1+1+1:=⟨_,rfl⟩
   have v1:VR (w.1.size+1+1):=by rw [hVR];exact .inl rfl
   have v2:VR (w.1.size+1+1+1):=by rw [hVR];exact .inr rfl
   have fr0:¬VR gl:=by rw [hVR];intro e;have:=HGL.out;omega
   have fr1:¬VR gp:=by rw [hVR];intro e;omega
   have r0:gl<v6.1.size:=kl.lt;have r1:gp<v6.1.size:=kp.lt;have cl:=kl.cell;have cp:=kp.cell;obtain ⟨NR,BC⟩:=zEX (v6.1.size);rw [<- BC] at r0 r1;have HR:=zH kr;have HZ:=zH kz;clear hVR BC kr kz kl kp;refine zd (Zi VR NR) [4,5] [0,1,2,3,4,5,6] zK zK ?_;refine Ue (Bc VR NR) ?_;intro Wc Ja ea;replace HR:=zH (show Blk Wc _ _ _ by rw [Ja.out];exact HR.out.drew)
   replace HZ:=zH (show Blk Wc _ _ _ by rw [Ja.out];exact HZ.out.drew)
   replace HO:=zH (show OrcAt Wc g OF F' by rw [Ja.out];exact HO.out.drew)
   replace Vm:=zH (show Moved F F' w Wc by rw [Ja.out];exact Yw Vm.out)
   replace ir:=zH (show Hd _ Wc _ from te ir.out (by rw [Ja.out];exact FY))
   have sW:gp <= Wc.1.size:=by rw [Ja.out];exact s56
   clear Ja;refine Rs ?_;have cr:=HR.out.cell;have fr:=HR.out.frozen;refine Te (Bc VR NR) rfl rfl rfl ?_;go_simp;obtain ⟨wy,hwy,kr,sr⟩:=zBb HR.out (vd vn L.p) (vd vq L.block) (vd vq L.queries) (vd vq L.k) (vd vq L.n) (vd vq L.secret) (vd vq L.rows) (vd vq L.a) (vd vq L.b) (vd vq L.b) (vd vq L.b);rw [hwy];refine ⟨sr.fromF v1,?_⟩
   refine zPU ?_
   replace HZ:=zH (sr.blk HZ.out zO);replace HO:=zH (sr.orc HO.out nr);replace Vm:=zH (Vm.out.st sr zO);replace ir:=zH (sr.hd ir.out fun e=>zO)
   have KR:=zH kr;replace sW:gp <= wy.1.size:=by rw [sr.size];exact sW
   clear hwy cr fr ea sr kr HR;have ea:=(Bc VR NR).refl wy;refine Rs ?_;have cz:=HZ.out.cell;have fz:=HZ.out.frozen;refine Te (Bc VR NR) rfl rfl rfl ?_;go_simp;obtain ⟨wz,hwz,kz,sz⟩:=zI5 HZ.out (vd vn P.root) (ve S.A1 S.n1 S.c1) (ve S.A2 S.n2 S.c2) (ve S.A3 S.n3 S.c3) (ve S.A4 S.n4 S.c4) (ve S.A5 S.n5 S.c5) (ve S.A6 S.n6 S.c6);rw [hwz];refine ⟨sz.fromF v2,?_⟩
   refine zPU ?_
   replace HO:=zH (sz.orc HO.out nz);replace Vm:=zH (Vm.out.st sz zO);replace ir:=zH (sz.hd ir.out fun e=>zO)
   have cr:=(sz.blk KR.out zO).cell;have cz':=kz.cell;have lgp:gp <= wz.1.size:=by rw [sz.size];exact sW
   clear hwz cz fz ea sz kz HZ KR cl cp;have ea:=(Bc VR NR).refl wz;refine Rs ?_;refine Hc ?_;go_wp2;refine Sc (v:=.tuple #[vf #[vd vn L.p,vd vq L.block,vd vq L.queries,vd vq L.k,vd vq L.n,vd vq L.secret,vd vq L.rows,vd vq L.a,vd vq L.b,vd vq L.b,vd vq L.b],vf #[vd vn P.root,ve S.A1 S.n1 S.c1,ve S.A2 S.n2 S.c2,ve S.A3 S.n3 S.c3,ve S.A4 S.n4 S.c4,ve S.A5 S.n5 S.c5,ve S.A6 S.n6 S.c6], .bool true]) (by simp [results,results45,go_sem,cr,cz']) rfl ?_
   refine ⟨eI i l4,S,F',HCK.out,?_,?_,Vm.out,?_⟩
   ·rw [<- IE.out];rfl
   ·rw [<- HOE.out];exact HO.out
   ·rw [<- IE.out]
    exact QP ir.out fun b hb=>⟨zb kJ hb.1,pd hb.2.1 lgp,hb.2.2⟩
theorem XW {w:vw} {b i:Nat} {t:vz} (k:Blk w b t #[vd vq i,vd vn 1]) (hi:i<100):RLin w [ve (vE ⟨b,0,vD⟩) 1 1] [((i:Int),1)]:=by
 refine ⟨_,1,1,rfl,rfl,zR,by simp [maxLen],fun j hj=>⟨_,[vd vq i,vd vn 1],rfl,rfl,fun q hq=>?_,?_⟩⟩
 ·obtain rfl:j=0:=by simpa using hj
  rw [zm,show 0+(0*2+q)=q by omega,k.cell]
  simp
 ·obtain rfl:j=0:=by simpa using hj
  exact ⟨rfl,by simp;omega,zS⟩
def Ks (i j k:Nat):Ua:=⟨[((i:Int),1)],[((j:Int),1)],[((k:Int),1)]⟩
theorem rrow_N {w:vw} {b1 b2 b3 b4 i j k:Nat} {t u:vz} (hi:i<100) (hj:j<100) (hk:k<100) (k1:Blk w b1 t #[vd vq i,vd vn 1]) (k2:Blk w b2 t #[vd vq j,vd vn 1]) (k3:Blk w b3 t #[vd vq k,vd vn 1]) (k4:Blk w b4 u #[ve (vE ⟨b1,0,vD⟩) 1 1,ve (vE ⟨b2,0,vD⟩) 1 1,ve (vE ⟨b3,0,vD⟩) 1 1]) :
  RSl 3 je w [ve (vE ⟨b4,0,vD⟩) 1 1] [Ks i j k]:=by
 refine ⟨_,1,1,rfl,rfl,zR,by simp [maxLen],fun x hx=>⟨_,[ve (vE ⟨b1,0,vD⟩) 1 1,ve (vE ⟨b2,0,vD⟩) 1 1,ve (vE ⟨b3,0,vD⟩) 1 1],rfl,rfl,fun q hq=>?_,?_⟩⟩
 ·obtain rfl:x=0:=by simpa using hx
  rw [zm,show 0+(0*3+q)=q by omega,k4.cell]
  simp
 ·obtain rfl:x=0:=by simpa using hx
  exact ⟨_,_,_,rfl,XW k1 hi,XW k2 hj,XW k3 hk⟩
theorem zJj (i:Int) (w:vw) :
  vB prog 113 #[vd vq i] w fun e w'=>∃ g,e=vl (ve (vE ⟨g,0,vD⟩) 1 1) /\ w.1.size <= g /\ Blk w' g 208 #[vd vq i,vd vn 1] /\ vA w.1.size w w':=by
 go_enter func113,ntmps113
 go_wp2_with fail
 go_ret
 exact ⟨_,rfl,zR,Blk.new _ _ _,(tb _ _).alloc zR _⟩
theorem zD5 (w:vw) :
  vB prog 52 #[] w fun e w'=>∃ gr gw,e=vl (vf #[vd vn 97,vd vq 1,vd vq 4,ve (vE ⟨gr,0,vD⟩) 1 1,vd vq 2,vd vq 1,vd vq 2,ve (vE ⟨gw,0,vD⟩) 4 4,vd vn 3, .bool true,vd vn 0]) /\ RSl 3 je w' [ve (vE ⟨gr,0,vD⟩) 1 1] [Ks 2 3 1] /\ RWd w' [ve (vE ⟨gw,0,vD⟩) 4 4] [1,35,5,7] /\ vA w.1.size w w':=by
 have HT:=zH (fun i w=>zJj i w)
 obtain ⟨k0,da⟩:=zN w 32 #[vd vn 0,vd vq 0,vd vq 0,ve vD 0 0,vd vq 0,vd vq 0,vd vq 0,ve vD 0 0,vd vn 0, .bool false,vd vn 0];go_enter func52,ntmps52
 go_upto_region 2 with fail
 generalize w.alloc _=w1 at k0 da |-;go_wp2_with fail
 refine (HT.out _ _).mono ?_;rintro e w2 ⟨a1,rfl,h1,k1,xa⟩;have Ky:=k0.lt;have nA:w.1.size<a1:=by omega
 replace k0:=ia k0 xa;replace da:=ma da xa;clear xa h1 Ky;go_wp2_with fail
 refine (HT.out _ _).mono ?_;rintro e w3 ⟨a2,rfl,h2,k2,xa⟩;have Ky:=k0.lt;have ha2:w.1.size<a2:=by omega
 replace k0:=ia k0 xa;replace k1:=ia k1 xa;replace da:=ma da xa;clear xa h2 Ky;go_wp2_with fail
 refine (HT.out _ _).mono ?_;rintro e w4 ⟨a3,rfl,h3,k3,xa⟩;have Ky:=k0.lt;have ha3:w.1.size<a3:=by omega
 replace k0:=ia k0 xa;replace k1:=ia k1 xa;replace k2:=ia k2 xa;replace da:=ma da xa;clear xa h3 Ky;go_upto_region 3 with fail
 obtain ⟨kr,kt,xa,-⟩:=Yg w4 211 25 #[ve (vE ⟨a1,0,vD⟩) 1 1,ve (vE ⟨a2,0,vD⟩) 1 1,ve (vE ⟨a3,0,vD⟩) 1 1] #[vd vn 97,vd vq 1,vd vq 4,ve (vE ⟨w4.1.size,0,vD⟩) 1 1];have hr0:w.1.size<w4.1.size:=k0.lt;replace k0:=ia k0 xa;replace k1:=ia k1 xa;replace k2:=ia k2 xa;replace k3:=ia k3 xa;replace da:=ma da xa;clear xa;generalize (w4.alloc _).alloc _=w5 at kr kt k0 k1 k2 k3 da |-;generalize w4.1.size+1=gt at kt |-;generalize w4.1.size=gr at kr kt hr0 |-;have ct:=kt.cell;have lt:=kt.lt;have Fo:w.1.size<w5.1.size:=k0.lt;have c0:=k0.cell;have f0:=k0.frozen;go_wp2_with fail
 obtain ⟨wy,hwy,kf,sf⟩:=zBb k0 (vd vn 97) (vd vq 1) (vd vq 4) (ve (vE ⟨gr,0,vD⟩) 1 1) (vd vq 2) (vd vq 1) (vd vq 2) (ve (vE ⟨w5.1.size,0,vD⟩) 4 4) (vd vn 3) (.bool true) (vd vn 0);rw [hwy];have kw:=Blk.new wy 22 #[vd vn 1,vd vn 35,vd vn 5,vd vn 7];rw [sf.size] at kw;replace k1:=sf.blk k1 zO;replace k2:=sf.blk k2 zO;replace k3:=sf.blk k3 zO;replace kr:=sf.blk kr zO;replace da:=sf.below da zR;have ja:=zA wy (.cells #[vd vn 1,vd vn 35,vd vn 5,vd vn 7] 22);replace kf:=ia kf ja;replace k1:=ia k1 ja;replace k2:=ia k2 ja;replace k3:=ia k3 ja;replace kr:=ia kr ja;replace da:=ma da ja;clear hwy sf ct lt c0 f0 k0 ja;generalize wy.alloc _=wf at kw kf k1 k2 k3 kr da |-;generalize w5.1.size=gw at kw kf |-;have cf:=kf.cell;have y1:=rrow_N (i:=2) (j:=3) (k:=1) zO zO zO k1 k2 k3 kr;have y2:=IJ (l:=[1,35,5,7]) kw rfl zD (by simp [maxLen])
 refine Sc (v:=vf #[vd vn 97,vd vq 1,vd vq 4,ve (vE ⟨gr,0,vD⟩) 1 1,vd vq 2,vd vq 1,vd vq 2,ve (vE ⟨gw,0,vD⟩) 4 4,vd vn 3, .bool true,vd vn 0]) ?_ rfl ?_
 ·simp [results,results52,go_sem,cf]
 ·exact ⟨gr,gw,rfl,y1,y2,da⟩
def layE:Na:=⟨97,2,2,4,8,2,1,1,1⟩
theorem BQ:Nb layE:=⟨zD,zD,zD,zD,zD,zD,⟨3,rfl⟩,zD,zD,zD,zD,zD,zD,zD,zD,zD,zD,zD,zD⟩
theorem AQ:Lj layE ⟨layE.p,((1:Nat):Int),4,[Ks 2 3 1].length,2,1,2⟩:=⟨rfl,zK,by decide +kernel,zD,zD⟩
theorem dS:Vz layE.p ((1:Nat):Int) 4 [Ks 2 3 1] [1,35,5,7] true:=⟨by decide +kernel,by decide +kernel,fun _=>zD,zD,by decide +kernel⟩
theorem X8:∀ (p:List Nat) {O:Da} {k:Nat} (lab:Nat) (el:List Nat) (i:Nat),oc O k -> oc (Hj p O lab el i) (k+p.length+1)
 | [],O,k,lab,el,_,h=>Le (QJ h lab el) zS
 | a :: ps,O,k,lab,el,i,h=>by
  unfold Hj;cases tj O lab el with
  | none=>exact Le (QJ h lab el) (by simp only [Jg];omega)
  | some b=>exact Le (X8 ps _ _ _ (QJ h lab el)) (by simp only [Jg];omega)
theorem V8 {O:Da} {k:Nat} (h:oc O k) (root n i jc:Nat) (leaf path:List Nat):oc (Zl O root n i jc leaf path) (k+11):=by
 unfold Zl;split
 ·next hv =>
  have:=(zAh hv).1;exact Le (X8 path 16 _ i h) zO
 ·exact Le h zO
theorem zHH {L:Na} {j:Nat} {P:ie} (h:Oh L j P=true):P.cols.length=L.queries /\ (∀ c∈P.cols,c.length=L.a+L.b+L.b+L.b+3) /\ P.salts.length=L.queries /\ P.paths.length=L.queries /\ ∀ c∈P.paths,c.length=j:=by
 unfold Oh Xt Xj at h;simp only [Vb,Dh,fe] at h;obtain ⟨-,-,-,-,⟨hc,Kg⟩,⟨-,hs⟩,hp,af⟩:=h;exact ⟨zO,fun c k=>by have:=(hc c k).2;omega,zO,zO,fun c k=>by have:=(hp c k).2;omega⟩
theorem zGL {w:vw} {g:Nat} {O:Da} {F K:Nat -> Prop} (h:OrcAt w g O F) (L:Na) (j pu:Nat) (vars bl bw qs:Int) (A B:Option vy) (n c m d:Nat) (rows:List Ua) (pb:List Nat) (P:ie) (S:PS)
  (hX:Bz L.p (pu:Int) vars rows bl bw qs pb L) (hn:L.n=2^j) (hD:iH L.p (pu:Int) vars rows) (ht:L.a+3*L.b <= 40)
  (hA:Hd K w fun u=>RSl 3 je u [ve A n c] rows /\ RWd u [ve B m d] pb /\ Ji u P S) (hK:∀ b,K b -> b<w.1.size /\ ¬F b) (hO:oc O 100000) :
  vB prog 83 #[.pointer (vE ⟨g,0,vD⟩),vf (ib L),Zb L.p (pu:Int) vars (ve A n c),ve B m d,vf (Wd P S)] w fun e w' =>
   ∃ F',e=vl (.bool (Wk O L j pu (Jf L.p (pu:Int) vars rows) rows pb P).1) /\ OrcAt w' g (Wk O L j pu (Jf L.p (pu:Int) vars rows) rows pb P).2 F' /\ Moved F F' w w':=by
 obtain ⟨kl,kt,kp,da,-⟩:=oq w 101 25 46 (ib L) #[vd vn L.p,vd vq pu,vd vq vars,ve A n c] (Wd P S);have hj:=UJ hn hX.ok.n2;have a0:=qh hA;have Au:=zH (fun u (hb:vA w.1.size w u)=>pW L j P S u hX.ok hn hj (Ri hA (yg hb)).2.2)
 have H:=zH h;have nF:=zH (show ∀ b,w.1.size <= b -> ¬F b from fun b hb e=>by have:=h.lt b e;omega)
 have HK:=zH hK;obtain ⟨r,hr⟩:=zEX (Wk O L j pu (Jf L.p (pu:Int) vars rows) rows pb P);rw [<- hr];cases hv:Oh L j P
 ·rw [hv] at Au
  have HR:=zH (show r=(false,O) by rw [hr];unfold Wk;rw [hv];rfl)
  clear hr hv a0 hj hA hX hD ht hK hO hn h;unfold ib Wd Zb at *;go_enter func83,ntmps83
  go_upto_region 1 with fail
  generalize ((w.alloc _).alloc _).alloc _=w1 at kl kt kp da |-;have cl:=kl.cell;have cp:=kp.cell;go_wp2_with fail
  refine (Au.out _ da).mono ?_;rintro e w2 ⟨rfl,Ba⟩;have hb:=ma da Ba;go_wp2;go_ret
  exact ⟨F,by rw [HR.out];rfl,by rw [HR.out];exact H.out.below hb,Zc hb⟩
 rw [hv] at Au;obtain ⟨ch,Kt⟩:=zEX (Bl (Zd O L (Jf L.p (pu:Int) vars rows) pb) L.p P.root);obtain ⟨pos,ql⟩:=zEX (Rn (xe (Zd O L (Jf L.p (pu:Int) vars rows) pb) P.root) (P.code++P.linear++P.quad) L.n L.queries);obtain ⟨O1,zo⟩:=zEX (Xi (xe (Zd O L (Jf L.p (pu:Int) vars rows) pb) P.root) (P.code++P.linear++P.quad) L.queries);obtain ⟨sb,hsb⟩:=zEX (XG L (iu L.p rows.length ch.rh (1 :: pb) rows 3) P.code P.linear P.quad);obtain ⟨f,hf⟩:∃ f:Nat -> Bool,f=fun i=>jC L (Mi L pu ch.rh rows) ch.al ch.be P.code P.linear P.quad ((pos.getD i 0:Nat):Int) (P.cols.getD i []):=⟨_,rfl⟩
 obtain ⟨v,Pw⟩:∃ v:Da -> Nat -> Bool,v=fun Z i=>Ns Z P.root L.n (pos.getD i 0) (P.salts.getD i 0) (P.cols.getD i []) (P.paths.getD i []):=⟨_,rfl⟩
 obtain ⟨o,ho⟩:∃ o:Da -> Nat -> Da,o=fun Z i=>Zl Z P.root L.n (pos.getD i 0) (P.salts.getD i 0) (P.cols.getD i []) (P.paths.getD i []):=⟨_,rfl⟩
 obtain ⟨q,hq⟩:=zEX (L.queries);have HR:=zH (show r=if sb then (if Mu f q q then Om v o q q O1 else (false,O1)) else (false,O1) by
  rw [hr,hsb,hf,Pw,ho,zo,ql,Kt,hq];unfold Wk;rw [hv,Ka rfl])
 have hm:m=pu:=by have h1:=(Ob a0.2.1).1;have h2:=hX.len;omega
 subst hm;have hpu:m<65536:=by have:=(fK hX.tab);omega
 have hc:=fun (u:vw) (ho:OrcAt u g O F) (a:Ij K w u)=>zGO ho L j hX.ok hn hj (Rb hX.ok.p).2 L.p m vars A B n c m d rows pb P S (Ri hA a).1 hD hX.tab (Ri hA a).2.1 (GF (te hA a) fun u h=>h.2.2) (fun b hb=>(hK b hb).2) (Le hO zO) hv rfl zO hX.lt (zHG hX.ok hv) a0.2.2.root
 rw [<- Kt,<- zo,<- ql] at hc;have hs:=fun (u:vw) (a:Ij K w u)=>zG8 L m ch.rh ch.al ch.be vars A B S.A1 S.A2 S.A3 n c d S.n1 S.c1 S.n2 S.c2 S.n3 S.c3 rows pb P.code P.linear P.quad u hX.ok (gS hX.tab hX.lfor) (Ri hA a).1 (Ri hA a).2.1 (Ri hA a).2.2.code (Ri hA a).2.2.linear (Ri hA a).2.2.quad
 rw [<- hsb] at hs;have hcol:∀ (i:Nat) (u:vw),Ij K w u -> ∀ (B1:Option vy) (nn cn:Nat),RWd u [ve B1 nn cn] (P.cols.getD i []) -> vB prog 177 #[vf (ib L),Zb L.p (m:Int) vars (ve A n c),vf #[vd vn ch.al,vd vn ch.rh,vd vn ch.be],ve S.A1 S.n1 S.c1,ve S.A2 S.n2 S.c2,ve S.A3 S.n3 S.c3,vd vq ((pos.getD i 0:Nat):Int),ve B1 nn cn] u fun e w'=>e=vl (.bool (f i)) /\ vA u.1.size u w':=fun i u a B1 nn cn Kg=>by
  rw [hf];exact zGP L m ch.rh ch.al ch.be vars _ A S.A1 S.A2 S.A3 B1 n c S.n1 S.c1 S.n2 S.c2 S.n3 S.c3 nn cn rows P.code P.linear P.quad _ u hX.ok (gS hX.tab hX.lfor) (Ri hA a).1 (WX hX.tab) (Ri hA a).2.2.code (Ri hA a).2.2.linear (Ri hA a).2.2.quad Kg
 obtain ⟨hl4,It,hl5,hl6,DF⟩:=zHH hv;have hver:∀ (i:Nat) (u:vw) (Z:Da) (Fz KB:Nat -> Prop),i<q -> OrcAt u g Z Fz -> oc Z 300000 -> ∀ (B1 B2:Option vy) (Kq qq JD iC:Nat),Ye KB u (ve B1 Kq qq) (P.cols.getD i []) -> Ye KB u (ve B2 JD iC) (P.paths.getD i []) -> (∀ b,KB b -> b<u.1.size /\ ¬Fz b) ->
   vB prog 178 #[.pointer (vE ⟨g,0,vD⟩),vd vn P.root,vd vq L.n,vd vq ((pos.getD i 0:Nat):Int),vf #[ve B1 Kq qq,vd vn ((P.salts.getD i 0:Nat):Int),ve B2 JD iC]] u fun e w'=>∃ F',e=vl (.bool (v Z i)) /\ OrcAt w' g (o Z i) F' /\ Moved Fz F' u w':=fun i u Z Fz KB hi hz hzl B1 B2 Kq qq JD iC h1 h2 hk=>by
  rw [Pw,ho];exact zJL hz P.root L.n _ _ B1 B2 Kq qq JD iC _ _ h1 h2 hk (by rw [It _ (iw [] (by rw [hl4,<- hq];exact hi))];omega) (by rw [DF _ (iw [] (by rw [hl6,<- hq];exact hi))];omega) hzl
 have hole:∀ Z k i,oc Z k -> oc (o Z i) (k+11):=fun Z k i hz=>by rw [ho];exact V8 hz _ _ _ _ _ _
 have Q4:oc O1 101000:=by
  rw [zo];have h1:oc (Zd O L (Jf L.p (m:Int) vars rows) pb).O (100000+1):=Mq hO 18 _;have h3:=iR h1 (Zd O L (Jf L.p (m:Int) vars rows) pb).st (Zd O L (Jf L.p (m:Int) vars rows) pb).ct P.root;have h4:=Mq h3 18 ((xe (Zd O L (Jf L.p (m:Int) vars rows) pb) P.root).st :: 3 :: (P.code++P.linear++P.quad));have h5:=MD (lab:=19) (Pj (Ki (xe (Zd O L (Jf L.p (m:Int) vars rows) pb) P.root) 3 (P.code++P.linear++P.quad)).st 0 L.queries) h4;rw [JV] at h5;have:=hX.ok.q2;exact Le h5 zO
 have af:pos.length=q:=by rw [ql,hq];exact T6 _ _ _ _ (by have:=hX.ok.nk;have:=hX.ok.k;omega)
 have hq64:q <= 64:=by rw [hq];exact hX.ok.q2
 have HC:=zH hc;have HS:=zH hs;have HCol:=zH hcol;have HVer:=zH hver;have HOL:=zH hole;have Zp:=zH Q4;have Zn:=zH af;have HQ:=zH hq64;have HL:=zH (show P.cols.length=q /\ P.salts.length=q /\ P.paths.length=q by rw [hq];exact ⟨hl4,hl5,hl6⟩)
 have HA:=zH hA;rw [<- hq] at HC;clear hr hv a0 hj hA hX hD ht hK hO hn h hc hs hcol hver hole Q4 af hq64 hl4 hl5 hl6 It DF zo ql Kt hsb hf Pw ho hq hpu;unfold ib Wd Zb at *;go_enter func83,ntmps83
 go_upto_region 1 with fail
 generalize ((w.alloc _).alloc _).alloc _=w1 at kl kt kp da |-;have cl:=kl.cell;have cp:=kp.cell;go_wp2_with fail
 refine (Au.out _ da).mono ?_;rintro e w2 ⟨rfl,Ba⟩;replace kl:=ia kl Ba;replace kt:=ia kt Ba;replace kp:=ia kp Ba;replace da:=ma da Ba;clear Ba cl cp Au;have cl:=kl.cell;have ct:=kt.cell;have cp:=kp.cell;go_wp2_with fail
 refine (HC.out _ (H.out.below da) (yg da)).mono ?_;rintro _ w3 ⟨gr,dr,F1,rfl,ho1,m1,ow1,nr1⟩;have nl:=Td m1 kl.lt (nF.out _ zR);have nt:=Td m1 kt.lt (nF.out _ zO);have np:=Td m1 kp.lt (nF.out _ zO);replace kl:=kl.moved m1 (nF.out _ zR);replace kt:=kt.moved m1 (nF.out _ zO);replace kp:=kp.moved m1 (nF.out _ zO);have AG:=XB (yg da) (Ml m1 fun b hb=>(HK.out b hb).2)
 have MV:=(Zc (F:=F) da).trans m1;have lgr:gr<w3.1.size:=(ow1.lt gr rfl).2;have KF:∀ b,K b -> ¬F1 b /\ b<w3.1.size:=fun b hb=>⟨Td m1 (pd (HK.out b hb).1 da.size) (HK.out b hb).2,pd (HK.out b hb).1 MV.size⟩
 have OWR:=hd_own ow1;have nc:¬F1 w3.1.size:=fun e=>by have:=ho1.lt _ e;omega
 obtain ⟨kc,ja⟩:=zN w3 136 #[vd vn ch.al,vd vn ch.rh,vd vn ch.be];have jb:=ja.size;clear m1 ow1 da cl ct cp HC;go_upto_region 4 with fail
 generalize w3.alloc _=w4 at kc ja jb |-;replace ho1:=ho1.below ja;replace MV:=MV.trans (Zc ja);replace AG:=XB AG (yg ja);replace OWR:=te OWR (yg ja);replace kl:=ia kl ja;replace kt:=ia kt ja;replace kp:=ia kp ja;obtain ⟨gc,hgc⟩:=zEX (w3.1.size);rw [<- hgc] at kc nc |-;obtain ⟨KB,uy⟩:∃ KB:Nat -> Prop,KB=fun b=>¬F1 b /\ b<w4.1.size:=⟨_,rfl⟩
 have jA:∀ b,¬F1 b -> b<w4.1.size -> KB b:=fun b h1 h2=>by rw [uy];exact ⟨h1,h2⟩
 have im:=zH (show ∀ b,KB b -> ¬F1 b /\ b<w4.1.size by rw [uy];exact fun b h=>h)
 have KKB:=zH (show ∀ b,K b -> KB b from fun b hb=>jA b (KF b hb).1 (pd (KF b hb).2 jb))
 have HKM:=zH (show KB w.1.size /\ KB (w.1.size+1+1) /\ KB gc /\ KB gr from ⟨jA _ nl kl.lt,jA _ np kp.lt,jA _ nc kc.lt,jA _ nr1 (pd lgr jb)⟩)
 have Qk:=zH (show Hd KB w4 (fun u=>Blk u w.1.size _ _ /\ Blk u (w.1.size+1) _ _ /\ Blk u (w.1.size+1+1) _ _ /\ Blk u gc _ _ /\ Ij K w u /\ Rd u 1 (vE ⟨gr,0,vD⟩) q (Kl (Ho pos))) from fun u a =>
  have bk:∀ {g:Nat} {t:vz} {cs:Array vx},Blk w4 g t cs -> ¬F1 g -> Blk u g t cs:=fun k hg=>(a.block _ (jA _ hg k.lt) k.lt).trans k
  ⟨bk kl nl,bk kt nt,bk kp np,bk kc nc,XB AG (wt a KKB.out),C9 (Ri OWR (wt a fun b h=>by have e:gr=b:=Ya h;rw [<- e];exact HKM.out.2.2.2))⟩)
 have HSu:=zH (HS.out _ AG);have sH:=zH ho1;have Vm:=zH MV;clear ja jb hgc uy jA lgr KF OWR nl nt np nr1 ho1 MV AG HS;have cl:=kl.cell;have ct:=kt.cell;have cp:=kp.cell;have cc:=kc.cell;go_wp2_with fail
 refine HSu.out.mono ?_;rintro e w5 ⟨rfl,Za⟩;replace sH:=zH (sH.out.below Za);replace Vm:=zH (Vm.out.trans (Zc Za));have s45:=zH Za.size;replace Qk:=zH (te Qk.out (yg Za));clear kl kt kp kc cl ct cp cc Za HSu nc;cases sb
 ·go_wp2
  go_ret
  exact ⟨F1,by rw [HR.out];rfl,by rw [HR.out];exact sH.out,Vm.out⟩
 replace HR:=zH (HR.out.trans (Ka rfl));have Kw:(q:Int) <= 64:=by have:=HQ.out;omega
 go_upto_region 7 with fail
 go_loopw [45] (fun y wr=>∃ i:Nat,i <= q /\ y=vd vq i /\ vA w5.1.size w5 wr /\ Hid (Mu f q q=Mu f q (q-i))) (fun y _=>q-(intOf y).toNat)
 case atStart=>exact ⟨0,Kb _,rfl,tb _ _,zH rfl⟩
 case round =>
  obtain ⟨i,hi,rfl,yb,HI⟩:=hrel;have HW:=zH (te Qk.out (yg yb));by_cases ta:i<q
  ·have Xb:=zH ta
   obtain ⟨kl,kt,kp,kc,ag,Ra⟩:=qh HW.out;obtain ⟨b0,q0,e0,lb0,Zg⟩:=pz Ra zO;have VM:gr=b0:=by injection e0 with e0;injection e0 with e1
   have iV:0=q0:=by injection e0 with e0;injection e0 with e1 e2
   subst VM iV;obtain ⟨z,hz⟩:∃ z:Nat,z=pos.getD i 0:=⟨_,rfl⟩;have XH:=(Zg i ta).trans (by rw [XV (by rw [Zn.out];exact ta),<- hz]:_=vE (vd vq z))
   rw [Nj] at XH;have Ft:=te HA.out ag;obtain ⟨bC,qC,B1,Kq,qq,eC,kbC,lbC,hcC,hrC⟩:=rN (wQ (GF Ft fun u h=>h.2.2.cols)) (show i<P.cols.length by rw [HL.out.1];exact ta)
   have Ly:S.n4=q:=(Yj (qh Ft).2.2.cols).1.symm.trans HL.out.1;obtain ⟨fi,UI⟩:=zEX (f i);have Ih:=fun (u:vw) (hb:vA wr.1.size wr u)=>HCol.out i u (XB ag (yg hb)) B1 Kq qq (Ab hb (Gk hrC))
   rw [<- UI,<- hz] at Ih;have HCx:=zH Ih;have HFI:=zH UI;have g1:(0:Int)<=i:=by omega
   have g2:(i:Int)<q:=by omega
   have g4:(i:Int)<S.n4:=by omega
   have cl:=kl.cell;have ct:=kt.cell;have cp:=kp.cell;have cc:=kc.cell;have l0:=kl.lt;have l1:=kt.lt;have l2:=kp.lt;have l3:=kc.lt;have HBr:=zH yb;clear kl kt kp kc Ra Zg e0 hz Ft Ly Ih UI hrC kbC ta hi ag yb;generalize S.A4=S4 at eC cp |-;subst eC;go_upto_region 9 with fail
   refine zd (Wb) [15] [0,1,2,3,4,5,6,7,8,9,10,11,12,13,14,15,16] zK zK ?_;refine Ue (oa) ?_;intro Wc Ja ea;have Ma:=jg Ja;refine Pb ?_;refine Ic oa rfl rfl rfl ((HCx.out _ Ma).mono ?_);rintro e w6 ⟨rfl,tc⟩;refine ⟨_,rfl,tc,?_⟩;replace ea:=zM oa ea (tc);refine zPU ?_;have HB6:=zH (ma (ma HBr.out Ma) tc);clear tc Ma;refine Pb ?_;refine Hc ?_;clear ea Ja cl ct cp cc l0 l1 l2 l3 hcC XH lb0 lbC HCx;cases fi
   ·have yu:=zH (show r=(false,O1) by rw [HR.out,HI.out,GZ f Xb.out,<- HFI.out];rfl)
    go_wp2;go_ret
    exact ⟨F1,by rw [yu.out];rfl,by rw [yu.out];exact sH.out.below HB6.out,Vm.out.trans (Zc HB6.out)⟩
   ·have Xq:=zH (show Mu f q q=Mu f q (q-(i+1)) by rw [HI.out,GZ f Xb.out,<- HFI.out];rfl)
    go_wp2
    go_roundw
    case rel=>exact ⟨i+1,Xb.out,by go_num,HB6.out,Xq⟩
    case measure=>have:=Xb.out;simp [intOf];omega
  ·obtain rfl:i=q:=by omega
   replace HR:=zH (HR.out.trans (Ka (HI.out.trans (zDg f i))));replace sH:=zH (sH.out.below yb);replace Vm:=zH (Vm.out.trans (Zc yb));have KW:=zH (show ∀ b,KB b -> b<wr.1.size from fun b hb=>pd (im.out b hb).2 (zb s45.out yb.size))
   clear yb HI hi ta Qk HCol s45;obtain ⟨wo,rfl⟩:=zEX (wr);go_upto_region 13 with fail
   go_loopw [70] (fun y wx=>∃ (k:Nat) (Fr:Nat -> Prop) (Oc:Da),k <= i /\ y=vd vq k /\ OrcAt wx g Oc Fr /\ Moved F1 Fr wo wx /\ Hid (oc Oc (101000+11*k)) /\ Hid (Om v o i i O1=Om v o i (i-k) Oc)) (fun y _=>i-(intOf y).toNat)
   case atStart=>exact ⟨0,F1,O1,Kb _,rfl,sH.out,Moved.refl,zH Zp.out,zH rfl⟩
   case round =>
    obtain ⟨k,Fr,Oc,hk,rfl,dV,hmv,Gz,HI⟩:=hrel;have HOr:=zH dV;have HMx:=zH hmv;by_cases ta:k<i
    ·have Xb:=zH ta
     have HWx:=zH (te HW.out (Ml hmv fun b hb=>(im.out b hb).1))
     have HKr:=zH (show ∀ b,KB b -> b<wr.1.size /\ ¬Fr b from fun b hb=>⟨pd (KW.out b hb) hmv.size,Td hmv (KW.out b hb) (im.out b hb).1⟩)
     obtain ⟨kl,kt,kp,kc,ag,Ra⟩:=qh HWx.out;obtain ⟨b0,q0,e0,lb0,Zg⟩:=pz Ra zO;have VM:gr=b0:=by injection e0 with e0;injection e0 with e1
     have iV:0=q0:=by injection e0 with e0;injection e0 with e1 e2
     subst VM iV;have Ft:=te HA.out ag;obtain ⟨bC,qC,B1,Kq,qq,eC,kbC,lbC,hcC,hrC⟩:=rN (wQ (GF Ft fun u h=>h.2.2.cols)) (show k<P.cols.length by rw [HL.out.1];exact ta)
     obtain ⟨bP,qP,B2,JD,iC,eP,kbP,lbP,hcP,hrP⟩:=rN (wQ (GF Ft fun u h=>h.2.2.paths)) (show k<P.paths.length by rw [HL.out.2.2];exact ta)
     obtain ⟨hl5,bS,qS,eS,kbS,lbS,hcS⟩:=B5 (GF Ft fun u h=>h.2.2.salts) (show k<P.salts.length by rw [HL.out.2.1];exact ta)
     have Ly:S.n4=i:=(Yj (qh Ft).2.2.cols).1.symm.trans HL.out.1;have hn6:S.n6=i:=(Yj (qh Ft).2.2.paths).1.symm.trans HL.out.2.2;have hn5:S.n5=i:=hl5.trans HL.out.2.1;have oG:=fun (u:vw) (ho:OrcAt u g Oc Fr) (h1:Ye K u (ve B1 Kq qq) (P.cols.getD k [])) (h2:Ye K u (ve B2 JD iC) (P.paths.getD k [])) (hk:∀ b,K b -> b<u.1.size /\ ¬Fr b)=>HVer.out k u Oc Fr K ta ho (Le Gz.out (zQ HQ.out)) B1 B2 Kq qq JD iC h1 h2 hk
     obtain ⟨z,hz⟩:∃ z:Nat,z=pos.getD k 0:=⟨_,rfl⟩;obtain ⟨sz,jb⟩:∃ sz:Nat,sz=P.salts.getD k 0:=⟨_,rfl⟩;obtain ⟨vk,hvk⟩:=zEX (v Oc k);have XH:=(Zg k ta).trans (by rw [XV (by rw [Zn.out];exact ta),<- hz]:_=vE (vd vq z))
     rw [Nj] at XH;rw [<- hvk,<- hz,<- jb] at oG;rw [<- jb] at hcS;have HVx:=zH oG;have HVK:=zH hvk;have HRC:=zH hrC;have HRP:=zH hrP;have g1:(0:Int)<=k:=by omega
     have g2:(k:Int)<i:=by omega
     have g4:(k:Int)<S.n4:=by omega
     have g5:(k:Int)<S.n5:=by omega
     have g6:(k:Int)<S.n6:=by omega
     obtain ⟨NR,BC⟩:=zEX (wr.1.size);have HNR:=zH BC;have fr0:=(HKr.out _ HKM.out.2.1).2;have fr1:=(HKr.out _ (KKB.out _ kbC)).2;have fr2:=(HKr.out _ (KKB.out _ kbP)).2;have fr3:=(HKr.out _ (KKB.out _ kbS)).2;have r0:w.1.size+1+1<NR:=by rw [BC];exact kp.lt
     have r1:bC<NR:=by rw [BC];exact lbC
     have r2:bP<NR:=by rw [BC];exact lbP
     have r3:bS<NR:=by rw [BC];exact lbS
     have cp:=kp.cell;clear kl kt kp kc Ra Zg e0 hz jb Ft Ly hn5 hn6 hl5 oG hvk hrC hrP kbC kbP kbS lbC lbP lbS ta hk ag hmv dV BC;have eC':=zH eC;have eP':=zH eP;have eS':=zH eS;rw [eC,eP,eS] at cp;clear eC eP eS;go_upto_region 15 with fail
     refine SL (Fr) (Fr) (NR) [17] [0,1,2,3,4,5,6,7,8,9,10,11,12,13,14,15] [(16,274,#[ve vD 0 0,vd vn 0,ve vD 0 0])] [17] zK (Rf.2 ⟨⟨_,rfl,rfl,fun a w=>by go_simp <;> rfl⟩,RB _⟩) zK ?_
     refine VL ?_;intro Wc Ja ea;have ic:Hid (Un Fr NR Fr Wc):=zH (by rw [Ja.out,HNR.out];exact ⟨zR,HOr.out.lt,fun _ _ h=>h⟩)
     have HOq:=zH (show OrcAt Wc g Oc Fr by rw [Ja.out];exact HOr.out.drew)
     have HBq:=zH (show vA wr.1.size wr Wc by rw [Ja.out];exact (tb _ _).drew)
     clear Ja;refine Cx ?_;refine UL [(vE 17,16)] rfl ic (fun iA wE rf Hp=>?_)
     have kU:=Hp.blk _ (.head _) rfl;clear Hp;unfold ki Jo;simp only [List.foldl];dsimp only at kU
     generalize iA 16=g16 at kU  |-;obtain ⟨LA,hg16,hv16⟩:=kU;replace HOq:=zH (HOq.out.below rf);replace HBq:=zH (ma HBq.out rf);replace ea:=zM (Bc Fr NR) ea (uk rf ic.out.size);replace ic:=zH (Ru ic.out rf)
     refine zPU ?_
     clear rf;have c16:=LA.cell;have f16:=LA.frozen;refine Rs ?_;refine Te (Bc Fr NR) rfl rfl rfl ?_;go_simp;refine ⟨uk (QR hg16 [ve B1 Kq qq,vd vn sz,ve B2 JD iC] 0 _) zR,?_⟩
     refine zPU ?_
     obtain ⟨wG,hwG,kP,sP⟩:=jO LA (ve B1 Kq qq) (vd vn sz) (ve B2 JD iC);rw [hwG];have HOz:=zH (HOq.out.keep (Nat.le_of_eq sP.size.symm) fun b hb=>sP.far b fun e=>by have h1:=HOr.out.lt b hb;have h2:=HNR.out;omega)
     have HBz:=zH (sP.below HBq.out (zQ HNR.out));clear hwG c16 f16 ea ic LA sP HOq HBq hg16 hv16;have ea:=(Bc Fr NR).refl wG;refine Rs ?_;refine Hc ?_;clear ea cp hcC hcP hcS XH r0 r1 r2 r3 fr0 fr1 fr2 fr3 lb0;have HWz:=te HWx.out (yg HBz.out);obtain ⟨kl,kt,kp,kc,ag,Ra⟩:=qh HWz;have HVz:=zH (HVx.out wG HOz.out (Jn HRC.out HBz.out) (Jn HRP.out HBz.out) fun b hb=>⟨pd (HKr.out b (KKB.out b hb)).1 HBz.out.size,(HKr.out b (KKB.out b hb)).2⟩)
     have cl:=kl.cell;have cp:=kp.cell;have c16:=kP.cell;clear kl kt kp kc ag Ra HWz kP HVx;go_wp2_with fail
     refine HVz.out.mono ?_;rintro e w6 ⟨F2,rfl,ho2,mo2⟩;have mg:=zH ho2;have HM2:=zH (HMx.out.trans ((Zc HBz.out).trans mo2));clear ho2 mo2 cl cp c16 HVz;cases vk
     ·have yu:=zH (show r=(false,o Oc k) by rw [HR.out,HI.out,R8 v o Xb.out,<- HVK.out];rfl)
      go_wp2;go_ret
      exact ⟨F2,by rw [yu.out];rfl,by rw [yu.out];exact mg.out,Vm.out.trans HM2.out⟩
     ·have Xq:=zH (show Om v o i i O1=Om v o i (i-(k+1)) (o Oc k) by rw [HI.out,R8 v o Xb.out,<- HVK.out];rfl)
      have HLE2:=zH (show oc (o Oc k) (101000+11*(k+1)) from Le (HOL.out _ _ _ Gz.out) zO)
      go_wp2
      go_roundw
      case rel=>exact ⟨k+1,F2,o Oc k,Xb.out,by go_num,mg.out,HM2.out,HLE2,Xq⟩
      case measure=>have:=Xb.out;simp [intOf];omega
    ·obtain rfl:k=i:=by omega
     have yu:=zH (show r=(true,Oc) from HR.out.trans (HI.out.trans (zGq v o k Oc)))
     clear ta hk hmv dV HI;go_wp2;go_ret
     exact ⟨Fr,by rw [yu.out];rfl,by rw [yu.out];exact HOr.out,Vm.out.trans HMx.out⟩
def QA (p:Nat) (pub vars:Int) (rows:List Ua) (bl bw qs:Int):Na:=VQ ⟨p,pub,vars,rows.length,bl,bw,qs⟩
def dH (O:Da) (p:Nat) (pub vars:Int) (rows:List Ua) (bl bw qs:Int) (l:List Nat) (P:ie):Int × Da :=
 if Cm p pub vars rows bl bw qs l≠0 then (Cm p pub vars rows bl bw qs l,O)
 else (if (Wk O (QA p pub vars rows bl bw qs) (QA p pub vars rows bl bw qs).n.log2 pub.toNat (Jf p pub vars rows) rows l P).1 then 0 else 10,(Wk O (QA p pub vars rows bl bw qs) (QA p pub vars rows bl bw qs).n.log2 pub.toNat (Jf p pub vars rows) rows l P).2)
theorem G1 {p:Nat} {pub vars:Int} {rows:List Ua} {bl bw qs:Int} {l:List Nat} {L:Na} (h:Bz p pub vars rows bl bw qs l L):Cm p pub vars rows bl bw qs l=0:=I1 (UQ h.tab h.lfor) ⟨h.len,h.lt⟩
theorem YX {O:Da} {p j pu:Nat} {vars:Int} {rows:List Ua} {bl bw qs:Int} {l:List Nat} {P:ie} {L:Na} (h:Bz p (pu:Int) vars rows bl bw qs l L) (hn:L.n=2^j) :
  dH O p (pu:Int) vars rows bl bw qs l P=(if (Wk O L j pu (Jf p (pu:Int) vars rows) rows l P).1 then 0 else 10,(Wk O L j pu (Jf p (pu:Int) vars rows) rows l P).2):=by
 have e:QA p (pu:Int) vars rows bl bw qs=L:=h.lfor.eq.symm;unfold dH;rw [ya (fun k=>k (G1 h)),e,hn,Sz,Rk]
theorem zBP {O:Da} {p:Nat} {pub vars:Int} {rows:List Ua} {bl bw qs:Int} {l:List Nat} {P:ie} (h:Cm p pub vars rows bl bw qs l≠0):dH O p pub vars rows bl bw qs l P=(Cm p pub vars rows bl bw qs l,O):=Ka h
theorem E9 {w:vw} {g:Nat} {O:Da} {F K:Nat -> Prop} (h:OrcAt w g O F) (L:Na) (j pu:Nat) (vars bl bw qs:Int) (A B:Option vy) (n c m d:Nat) (rows:List Ua) (pb:List Nat) (P:ie) (S:PS)
  (hX:Bz L.p (pu:Int) vars rows bl bw qs pb L) (hn:L.n=2^j) (hS:PH rows) (ht:L.a+3*L.b <= 40)
  (hA:Hd K w fun u=>RSl 3 je u [ve A n c] rows /\ RWd u [ve B m d] pb /\ Ji u P S) (hK:∀ b,K b -> b<w.1.size /\ ¬F b) (hO:oc O 100000) (r:Int × Da)
  (hr:r=(if (Wk O L j pu (Jf L.p (pu:Int) vars rows) rows pb P).1 then 0 else 10,(Wk O L j pu (Jf L.p (pu:Int) vars rows) rows pb P).2)) :
  vB prog 83 #[.pointer (vE ⟨g,0,vD⟩),vf (ib L),Zb L.p (pu:Int) vars (ve A n c),ve B m d,vf (Wd P S)] w fun e w' =>
   ∃ rb F',e=vl (.bool rb) /\ r.1=(if rb then 0 else 10) /\ OrcAt w' g r.2 F' /\ Moved F F' w w':=by
 refine (zGL h L j pu vars bl bw qs A B n c m d rows pb P S hX hn (RZ hX.tab hS) ht hA hK hO).mono ?_;rintro e w' ⟨F',rfl,h1,h2⟩;subst hr;exact ⟨_,F',rfl,rfl,h1,h2⟩
theorem V9 {w:vw} {g:Nat} {O:Da} {F K:Nat -> Prop} (h:OrcAt w g O F) (p:Nat) (pub vars bl bw qs:Int) (A B:Option vy) (n c m d:Nat) (rows:List Ua) (l:List Nat) (P:ie) (S:PS)
  (hS:PH rows) (hR:∀ L,Nb L -> Lj L ⟨p,pub,vars,rows.length,bl,bw,qs⟩ -> L.a+3*L.b <= 40)
  (hA:Hd K w fun u=>RSl 3 je u [ve A n c] rows /\ RWd u [ve B m d] l /\ Ji u P S) (hK:∀ b,K b -> b<w.1.size /\ ¬F b) (hO:oc O 100000) :
  vB prog 23 #[.pointer (vE ⟨g,0,vD⟩),Zb p pub vars (ve A n c),vf #[vd vq bl,vd vq bw,vd vq qs],ve B m d,vf (Wd P S)] w fun e w' =>
   ∃ F',e=vl (vd vq (dH O p pub vars rows bl bw qs l P).1) /\ OrcAt w' g (dH O p pub vars rows bl bw qs l P).2 F' /\ Moved F F' w w':=by
 obtain ⟨kt,kx,kp,da,-⟩:=oq w 25 27 46 #[vd vn p,vd vq pub,vd vq vars,ve A n c] #[vd vq bl,vd vq bw,vd vq qs] (Wd P S);have CE:=zH (fun u (hb:vA w.1.size w u)=>R9 p pub vars A B n c m d rows l bl bw qs u (Ri hA (yg hb)).1 (Ri hA (yg hb)).2.1)
 obtain ⟨r,hr⟩:=zEX (dH O p pub vars rows bl bw qs l P);rw [<- hr];have H:=zH h;have IB:=zH (fun k=>(hr.trans (zBP k)))
 have ea:∀ (L:Na) (j pu:Nat),pub=(pu:Int) -> p=L.p -> Bz p pub vars rows bl bw qs l L -> L.n=2^j -> ∀ (u:vw),vA w.1.size w u -> vB prog 83 #[.pointer (vE ⟨g,0,vD⟩),vf (ib L),Zb p pub vars (ve A n c),ve B m d,vf (Wd P S)] u fun e w' =>
   ∃ rb F',e=vl (.bool rb) /\ r.1=(if rb then 0 else 10) /\ OrcAt w' g r.2 F' /\ Moved F F' u w':=by
  intro L j pu epu ep hX hn u hb;subst epu ep;exact E9 (h.below hb) L j pu vars bl bw qs A B n c m d rows l P S hX hn hS (hR L hX.ok hX.lfor) (te hA (yg hb)) (fun b hk=>⟨pd (hK b hk).1 hb.size,(hK b hk).2⟩) hO r (hr.trans (YX hX hn))
 have Hv:=zH ea;clear hr hA hK hO hS hR h ea;unfold Wd Zb at *;go_enter func23,ntmps23
 go_upto_region 1 with fail
 generalize ((w.alloc _).alloc _).alloc _=w1 at kt kx kp da |-;have ct:=kt.cell;have cx:=kx.cell;go_wp2_with fail
 refine (CE.out _ da).mono ?_;rintro e w2 ⟨⟨y0,y1,y2,y3,y4,y5,y6,y7,y8,y9,se,rfl,hy⟩,Ba⟩;obtain ⟨ee,hee⟩:=zEX (Cm p pub vars rows bl bw qs l);rw [<- hee] at hy IB |-;replace kt:=ia kt Ba;replace kp:=ia kp Ba;replace da:=ma da Ba;clear Ba ct cx CE kx hee;obtain ⟨kl,ja⟩:=zN w2 101 #[vd vn y0,vd vq y1,vd vq y2,vd vq y3,vd vq y4,vd vq y5,vd vq y6,vd vq y7,vd vq y8,vd vq y9,vd vq se];replace kt:=ia kt ja;replace kp:=ia kp ja;replace da:=ma da ja;clear ja;by_cases hz:ee=0
 rotate_left
 ·have HR:=zH (IB.out hz)
  have d1:(ee != (0:Int))=true:=ef.2 hz;clear hz hy Hv IB kt kp kl;go_wp2_with fail
  generalize w2.alloc _=w3 at da |-;go_ret
  exact ⟨F,by rw [HR.out];rfl,by rw [HR.out];exact H.out.below da,Zc da⟩
 obtain ⟨L,hX,xy⟩:=hy hz;obtain ⟨rfl,rfl,rfl,rfl,rfl,rfl,rfl,rfl,rfl,rfl,rfl⟩:=yQ xy;obtain ⟨j,hj⟩:=hX.ok.n;have zI:=Hv.out L j pub.toNat (zQ hX.len) hX.lfor.p.symm hX hj;unfold ib at zI;have HAc:=zH zI;clear hX xy hy hj zI Hv IB;subst hz;go_upto_region 2 with fail
 generalize w2.alloc _=w3 at da kl kt kp |-;generalize w2.1.size=gl at kl |-;have cl:=kl.cell;have ct:=kt.cell;have cp:=kp.cell;go_wp2_with fail
 refine (HAc.out _ da).mono ?_;rintro e w4 ⟨rb,F',rfl,Im,ho,hm⟩;have HM:=zH ((Zc (F:=F) da).trans hm);have HO:=zH ho;have Jz:=zH Im;clear ho hm Im cl ct cp kl kt kp HAc;cases rb
 ·go_wp2
  go_ret
  exact ⟨F',by rw [show r.1=_ from Jz.out];rfl,HO.out,HM.out⟩
 ·go_wp2
  go_ret
  exact ⟨F',by rw [show r.1=_ from Jz.out];rfl,HO.out,HM.out⟩
def tB (O:Da) (p:Nat) (pub vars:Int) (rows:List Ua) (bl bw qs:Int) (l b:List Nat):Int × Da :=
 if Cm p pub vars rows bl bw qs l≠0 then (Cm p pub vars rows bl bw qs l,O)
 else if (Wl (QA p pub vars rows bl bw qs) (QA p pub vars rows bl bw qs).n.log2 b).2≠0 then (10,O)
 else dH O p pub vars rows bl bw qs l (Wl (QA p pub vars rows bl bw qs) (QA p pub vars rows bl bw qs).n.log2 b).1
theorem zJI {O:Da} {p:Nat} {pub vars:Int} {rows:List Ua} {bl bw qs:Int} {l b:List Nat} (h:Cm p pub vars rows bl bw qs l≠0):tB O p pub vars rows bl bw qs l b=(Cm p pub vars rows bl bw qs l,O):=Ka h
theorem XX {O:Da} {p j pu:Nat} {vars:Int} {rows:List Ua} {bl bw qs:Int} {l b:List Nat} {L:Na} (h:Bz p (pu:Int) vars rows bl bw qs l L) (hn:L.n=2^j) :
  tB O p (pu:Int) vars rows bl bw qs l b=if (Wl L j b).2≠0 then (10,O) else (if (Wk O L j pu (Jf p (pu:Int) vars rows) rows l (Wl L j b).1).1 then 0 else 10,(Wk O L j pu (Jf p (pu:Int) vars rows) rows l (Wl L j b).1).2):=by
 have e:QA p (pu:Int) vars rows bl bw qs=L:=h.lfor.eq.symm;unfold tB;rw [ya (fun k=>k (G1 h)),e,hn,Sz,YX h hn]
theorem zHc {w:vw} {g:Nat} {O:Da} {F K:Nat -> Prop} (h:OrcAt w g O F) (p:Nat) (pub vars bl bw qs:Int) (A B C:Option vy) (n c m d nb cb:Nat) (rows:List Ua) (l b:List Nat)
  (hS:PH rows) (hR:∀ L,Nb L -> Lj L ⟨p,pub,vars,rows.length,bl,bw,qs⟩ -> L.a+3*L.b <= 40)
  (hA:Hd K w fun u=>RSl 3 je u [ve A n c] rows /\ RWd u [ve B m d] l /\ Rd u 1 C nb (U8 b)) (Sd:nb <= cb) (Ao:cb <= maxLen) (Ly:nb <= 1000000) (Fp:∀ x∈b,x<256) (hK:∀ b,K b -> b<w.1.size /\ ¬F b) (hO:oc O 100000) :
  vB prog 36 #[.pointer (vE ⟨g,0,vD⟩),Zb p pub vars (ve A n c),vf #[vd vq bl,vd vq bw,vd vq qs],ve B m d,ve C nb cb] w fun e w' =>
   ∃ F',e=vl (vd vq (tB O p pub vars rows bl bw qs l b).1) /\ OrcAt w' g (tB O p pub vars rows bl bw qs l b).2 F' /\ Moved F F' w w':=by
 obtain ⟨kt,kx,da,-⟩:=Yg w 25 27 #[vd vn p,vd vq pub,vd vq vars,ve A n c] #[vd vq bl,vd vq bw,vd vq qs];have CE:=zH (fun u (hb:vA w.1.size w u)=>R9 p pub vars A B n c m d rows l bl bw qs u (Ri hA (yg hb)).1 (Ri hA (yg hb)).2.1)
 obtain ⟨r,hr⟩:=zEX (tB O p pub vars rows bl bw qs l b);rw [<- hr];have H:=zH h;have IB:=zH (fun k=>(hr.trans (zJI k)))
 have yS:=zH (fun (L:Na) (j:Nat) (hL:Nb L) (hn:L.n=2^j) (u:vw) (hb:vA w.1.size w u)=>zGT L j C nb cb b u hL hn (UJ hn hL.n2) (Ri hA (yg hb)).2.2 Sd Ao Ly Fp)
 have HNo:=zH (fun (L:Na) (j pu:Nat) (epu:pub=(pu:Int)) (hX:Bz p pub vars rows bl bw qs l L) (hn:L.n=2^j) (D:ie × Int) (hD:D=Wl L j b) (h2:D.2≠0)=>show r=(10,O) by
  subst epu hD;rw [hr,XX hX hn,Ka h2])
 have ea:∀ (L:Na) (j pu:Nat),pub=(pu:Int) -> p=L.p -> Bz p pub vars rows bl bw qs l L -> L.n=2^j -> ∀ (D:ie × Int),D=Wl L j b -> D.2=0 -> ∀ (S:PS) (v u:vw),vA w.1.size w v -> Hd (fun b=>v.1.size <= b) u (fun u=>Ji u D.1 S) -> vA v.1.size v u ->
   vB prog 83 #[.pointer (vE ⟨g,0,vD⟩),vf (ib L),Zb p pub vars (ve A n c),ve B m d,vf (Wd D.1 S)] u fun e w'=>∃ rb F',e=vl (.bool rb) /\ r.1=(if rb then 0 else 10) /\ OrcAt w' g r.2 F' /\ Moved F F' u w':=by
  intro L j pu epu ep hX hn D hD h2 S v u hv hp hb;subst epu ep;have hbu:=ma hv hb;refine E9 (K:=fun b=>K b \/ (v.1.size <= b /\ b<u.1.size)) (h.below hbu) L j pu vars bl bw qs A B n c m d rows l D.1 S hX hn hS (hR L hX.ok hX.lfor) (fun x a=>?_) (fun b hk=>?_) hO r ?_
  ·have h1:=Ri hA (XB (yg hbu) (wt a fun b hb=>.inl hb))
   exact ⟨h1.1,h1.2.1,C5 hp x (wt a fun b hb=>.inr hb)⟩
  ·rcases hk with hk | hk
   ·exact ⟨pd (hK b hk).1 hbu.size,(hK b hk).2⟩
   ·exact ⟨hk.2,fun e=>by have:=h.lt b e;have:=hv.size;omega⟩
  ·have hq:=hr.trans (XX hX hn)
   rw [<- hD,ya (fun k=>k h2)] at hq
   exact hq
 have Hv:=zH ea;clear ea hr hA hK hO hS hR h Sd Ao Ly Fp;unfold Zb at *;go_enter func36,ntmps36
 go_upto_region 1 with fail
 generalize (w.alloc _).alloc _=w1 at kt kx da |-;have ct:=kt.cell;have cx:=kx.cell;go_wp2_with fail
 refine (CE.out _ da).mono ?_;rintro e w2 ⟨⟨y0,y1,y2,y3,y4,y5,y6,y7,y8,y9,se,rfl,hy⟩,Ba⟩;obtain ⟨ee,hee⟩:=zEX (Cm p pub vars rows bl bw qs l);rw [<- hee] at hy IB |-;replace kt:=ia kt Ba;replace da:=ma da Ba;clear Ba ct cx CE kx hee;obtain ⟨kl,ja⟩:=zN w2 101 #[vd vn y0,vd vq y1,vd vq y2,vd vq y3,vd vq y4,vd vq y5,vd vq y6,vd vq y7,vd vq y8,vd vq y9,vd vq se];replace kt:=ia kt ja;replace da:=ma da ja;clear ja;by_cases hz:ee=0
 rotate_left
 ·have HR:=zH (IB.out hz)
  have d1:(ee != (0:Int))=true:=ef.2 hz;clear hz hy Hv IB kt kl HNo yS;go_wp2_with fail
  generalize w2.alloc _=w3 at da |-;go_ret
  exact ⟨F,by rw [HR.out];rfl,by rw [HR.out];exact H.out.below da,Zc da⟩
 obtain ⟨L,hX,xy⟩:=hy hz;obtain ⟨rfl,rfl,rfl,rfl,rfl,rfl,rfl,rfl,rfl,rfl,rfl⟩:=yQ xy;obtain ⟨j,hj⟩:=hX.ok.n;obtain ⟨D,hD⟩:=zEX (Wl L j b);have zI:=Hv.out L j pub.toNat (zQ hX.len) hX.lfor.p.symm hX hj D hD;have hDe:=yS.out L j hX.ok hj;rw [<- hD] at hDe;have HNO:=zH (HNo.out L j pub.toNat (zQ hX.len) hX hj D hD);unfold ib at zI hDe;have HAc:=zH zI;have HDe:=zH hDe;clear hX xy hy hj zI Hv IB hDe yS HNo hD;subst hz;go_upto_region 2 with fail
 generalize w2.alloc _=w3 at da kl kt |-;generalize w2.1.size=gl at kl |-;have cl:=kl.cell;go_wp2_with fail
 refine (HDe.out _ da).mono ?_;rintro e w4 ⟨S,rfl,hp,Db⟩;have HP:=zH (show Hd (fun b=>w3.1.size <= b) w4 fun u=>Ji u D.1 S from fun u a=>hp u a.size fun b h1 h2=>a.block b h1 h2)
 have kH:=zH da;have HB4:=zH Db;obtain ⟨P,D2⟩:=D;unfold Wd at *;obtain ⟨kp,ja⟩:=zN w4 46 #[vd vn P.root,ve S.A1 S.n1 S.c1,ve S.A2 S.n2 S.c2,ve S.A3 S.n3 S.c3,ve S.A4 S.n4 S.c4,ve S.A5 S.n5 S.c5,ve S.A6 S.n6 S.c6];have HZ:=zH (ma Db ja);replace kl:=ia kl Db;replace kt:=ia kt Db;replace kl:=ia kl ja;replace kt:=ia kt ja;have HPz:=zH (te HP.out (yg ja));clear hp Db ja cl da HDe HP HB4;go_upto_region 5 with fail
 generalize w4.alloc _=w5 at kp HZ HPz kl kt |-;generalize w4.1.size=gp at kp |-;have HBZ:=zH (ma kH.out HZ.out);by_cases hz:D2=0
 ·have hac:=fun rfl=>HAc.out rfl S w3 w5 kH.out HPz.out HZ.out
  have HAz:=zH (hac hz);subst hz;clear hac HAc HNO HPz;have cl:=kl.cell;have ct:=kt.cell;have cp:=kp.cell;go_wp2_with fail
  refine HAz.out.mono ?_;rintro e w6 ⟨rb,F',rfl,Im,ho,hm⟩;have HM:=zH ((Zc (F:=F) HBZ.out).trans hm);have HO:=zH ho;have Jz:=zH Im;clear ho hm Im cl ct cp kl kt kp HAz;cases rb
  ·go_wp2
   go_ret
   exact ⟨F',by rw [show r.1=_ from Jz.out];rfl,HO.out,HM.out⟩
  ·go_wp2
   go_ret
   exact ⟨F',by rw [show r.1=_ from Jz.out];rfl,HO.out,HM.out⟩
 ·have HR:=zH (HNO.out hz)
  have d1:(D2 != (0:Int))=true:=ef.2 hz;clear hz HAc HNO kl kt kp HPz;go_wp2;go_ret
  exact ⟨F,by rw [HR.out];rfl,by rw [HR.out];exact H.out.below HBZ.out,Zc HBZ.out⟩
section
variable {L:Na} {j pu:Nat} {C:CoR} {vars:Int} {rows:List Ua} {ws:List Nat} {bl bw qs:Int} {O Z:Da} {k:Nat}
theorem W1 (hL:Nb L) (ff:Lj L ⟨L.p,(pu:Int),vars,rows.length,bl,bw,qs⟩) (hT:Vz L.p (pu:Int) vars rows ws true):Bz L.p (pu:Int) vars rows bl bw qs ((ws.drop 1).take pu) L where
 tab:=hT.tab
 len:=by
  obtain ⟨xl,-,-⟩:=wK hT.asg;have:=ff.vars;simp only at this;rw [Br,ti];omega
 lt:=by
  obtain ⟨-,-,Jm⟩:=wK hT.asg;rw [fe];exact fun y hy=>fe.1 Jm y (List.mem_of_mem_drop (List.mem_of_mem_take hy))
 ok:=hL
 lfor:=ff
theorem W2 (ff:Lj L ⟨L.p,(pu:Int),vars,rows.length,bl,bw,qs⟩) (ht:L.a+3*L.b <= 40):∀ L',Nb L' -> Lj L' ⟨L.p,(pu:Int),vars,rows.length,bl,bw,qs⟩ -> L'.a+3*L'.b <= 40:=fun L' _ h=>by rw [h.eq,<- ff.eq];exact ht
theorem eW (hL:Nb L) (hn:L.n=2^j) (hO:Nv O k) (hk:k <= 1000):oc ((xf L j pu vars rows ws C).oF O) 100000:=by
 have Xd:=hL.n2;have Yu:=hL.q2;refine Le (oF_le (xf L j pu vars rows ws C) O hn hO.le) ?_;show k+1+2*L.n+4+1+L.queries <= 100000
 omega
end
theorem zJM {w:vw} {g:Nat} {O Z:Da} {F K:Nat -> Prop} {k:Nat} (h:OrcAt w g Z F) (L:Na) (j pu:Nat) (C:CoR) (vars bl bw qs:Int) (A B:Option vy) (n c m d:Nat) (rows:List Ua) (ws:List Nat) (S:PS)
  (hL:Nb L) (hn:L.n=2^j) (ff:Lj L ⟨L.p,(pu:Int),vars,rows.length,bl,bw,qs⟩) (ht:L.a+3*L.b <= 40) (hT:Vz L.p (pu:Int) vars rows ws true) (hC:C.ok L=true) (hO:Nv O k) (hZ:Rc ((xf L j pu vars rows ws C).oF O) Z)
  (hA:Hd K w fun u=>RSl 3 je u [ve A n c] rows /\ RWd u [ve B m d] ((ws.drop 1).take pu) /\ Ji u ((xf L j pu vars rows ws C).pr O) S) (hK:∀ b,K b -> b<w.1.size /\ ¬F b) (hZl:oc Z 100000) :
  vB prog 23 #[.pointer (vE ⟨g,0,vD⟩),Zb L.p (pu:Int) vars (ve A n c),vf #[vd vq bl,vd vq bw,vd vq qs],ve B m d,vf (Wd ((xf L j pu vars rows ws C).pr O) S)] w fun e w' =>
   ∃ F',e=vl (vd vq 0) /\ OrcAt w' g Z F' /\ Moved F F' w w':=by
 have hv:=V9 h L.p (pu:Int) vars bl bw qs A B n c m d rows ((ws.drop 1).take pu) _ S hT.small (W2 ff ht) hA hK hZl;rw [YX (W1 hL ff hT) hn,acc_x hL hn ff hT hC hO hZ] at hv;exact hv
theorem zD4:∀ L,Nb L -> Lj L ⟨layE.p,((1:Nat):Int),4,[Ks 2 3 1].length,2,1,2⟩ -> L.a+3*L.b <= 40:=fun L _ h=>by
 rw [h.eq,<- AQ.eq];decide
theorem exm0:Cm layE.p ((1:Nat):Int) 4 [Ks 2 3 1] 2 1 2 []=1:=J1 (UQ dS.tab AQ) (fun h=>by have:=h.1;simp at this)
def SD (C:CoR):ie:=(xf layE 3 1 4 [Ks 2 3 1] [1,35,5,7] C).pr ⟨false,0,0,[]⟩
def EG (C:CoR):Da:=(xf layE 3 1 4 [Ks 2 3 1] [1,35,5,7] C).oF ⟨false,0,0,[]⟩
theorem DR:Nv ⟨false,0,0,[]⟩ 0:=zAF true 0 zD
theorem zCM (w:vw):vB prog 14 #[] w fun e w'=>e=vl (.bool true) /\ vA w.1.size w w':=by
 have CE:=zH (fun w=>zD5 w)
 have HRe:=zH (fun w=>zAC w)
 go_enter func14,ntmps14
 go_wp2_with fail
 refine (CE.out _).mono ?_;rintro e w1 ⟨gr,gw,rfl,hr,hw,hb⟩;obtain ⟨kc,ja⟩:=zN w1 32 #[vd vn 97,vd vq 1,vd vq 4,ve (vE ⟨gr,0,vD⟩) 1 1,vd vq 2,vd vq 1,vd vq 2,ve (vE ⟨gw,0,vD⟩) 4 4,vd vn 3, .bool true,vd vn 0];replace hr:=Pg Og _ _ _ _ ja hr;replace hw:=Ab ja hw;replace hb:=ma hb ja;clear ja;go_upto_region 2 with fail
 generalize w1.alloc _=w2 at kc hr hw hb |-;generalize w1.1.size=gc at kc |-;have lc:=kc.lt;go_wp2_with fail
 refine (HRe.out _).mono ?_;rintro e w3 ⟨g,F,rfl,ho,hF,Ta⟩;have hR:Hd (fun b=>b<w2.1.size) w3 fun u=>RSl 3 je u [ve (vE ⟨gr,0,vD⟩) 1 1] [Ks 2 3 1] /\ RWd u [ve (vE ⟨gw,0,vD⟩) 4 4] [1,35,5,7] /\ RWd u [ve vD 0 0] []:=fun u a=>⟨WK (Pg Og) hr Ta u a,WK tD hw Ta u a,aK u⟩
 have hK:∀ b,b<w2.1.size -> b<w3.1.size /\ ¬F b:=fun b hb=>⟨pd hb Ta.size,fun e=>by have:=hF b e;omega⟩
 have HP:Hid (vB prog 45 #[.pointer (vE ⟨g,0,vD⟩),vf #[vd vn 97,vd vq 1,vd vq 4,ve (vE ⟨gr,0,vD⟩) 1 1,vd vq 2,vd vq 1,vd vq 2,ve (vE ⟨gw,0,vD⟩) 4 4,vd vn 3, .bool true,vd vn 0],ve vD 0 0] w3 fun e w' =>
   ∃ (C:CoR) (S:PS) (F':Nat -> Prop),C.ok layE=true /\ e=vl (.tuple #[vf #[vd vn 97,vd vq 2,vd vq 2,vd vq 4,vd vq 8,vd vq 2,vd vq 1,vd vq 1,vd vq 1,vd vq 1,vd vq 1],vf (Wd (SD C) S), .bool true]) /\ OrcAt w' g (EG C) F' /\ Moved F F' w3 w' /\ Hd (fun b=>w3.1.size <= b /\ b<w'.1.size /\ ¬F' b) w' (fun u=>Ji u (SD C) S)) :=
  zH (zAl (K:=fun b=>b<w2.1.size) ho layE 3 1 3 4 2 1 2 (vE ⟨gr,0,vD⟩) (vE ⟨gw,0,vD⟩) vD 1 1 4 4 0 0 [Ks 2 3 1] [1,35,5,7] [] true 0 BQ rfl AQ zD dS zD hR hK (Le DR.le zO))
 have ao:Hid (∀ (C:CoR) (S:PS) (u:vw) (F1 K:Nat -> Prop) (gb:Nat),C.ok layE=true -> OrcAt u g (EG C) F1 -> (∀ b,K b -> b<u.1.size /\ ¬F1 b) -> Hd K u (fun u=>RSl 3 je u [ve (vE ⟨gr,0,vD⟩) 1 1] [Ks 2 3 1] /\ RWd u [ve (vE ⟨gb,0,vD⟩) 1 1] [35] /\ Ji u (SD C) S) -> vB prog 23 #[.pointer (vE ⟨g,0,vD⟩),vf #[vd vn 97,vd vq 1,vd vq 4,ve (vE ⟨gr,0,vD⟩) 1 1],vf #[vd vq 2,vd vq 1,vd vq 2],ve (vE ⟨gb,0,vD⟩) 1 1,vf (Wd (SD C) S)] u fun e w'=>∃ F',e=vl (vd vq 0) /\ OrcAt w' g (EG C) F' /\ Moved F1 F' u w') :=
  zH (fun C S u F1 K gb hC ho hK hA=>zJM ho layE 3 1 C 4 2 1 2 (vE ⟨gr,0,vD⟩) (vE ⟨gb,0,vD⟩) 1 1 1 1 [Ks 2 3 1] [1,35,5,7] S BQ rfl AQ zD dS hC DR (fun _ _ _ h=>h) hA hK (eW BQ rfl DR zD))
 have Wo:Hid (∀ (C:CoR) (S:PS) (u:vw) (F1 K:Nat -> Prop),C.ok layE=true -> OrcAt u g (EG C) F1 -> (∀ b,K b -> b<u.1.size /\ ¬F1 b) -> Hd K u (fun u=>RSl 3 je u [ve (vE ⟨gr,0,vD⟩) 1 1] [Ks 2 3 1] /\ RWd u [ve vD 0 0] [] /\ Ji u (SD C) S) -> vB prog 23 #[.pointer (vE ⟨g,0,vD⟩),vf #[vd vn 97,vd vq 1,vd vq 4,ve (vE ⟨gr,0,vD⟩) 1 1],vf #[vd vq 2,vd vq 1,vd vq 2],ve vD 0 0,vf (Wd (SD C) S)] u fun e w'=>∃ F',e=vl (vd vq 1) /\ OrcAt w' g (EG C) F' /\ Moved F1 F' u w') :=
  zH (fun C S u F1 K hC ho hK hA=>by
   have hq:dH (EG C) layE.p ((1:Nat):Int) 4 [Ks 2 3 1] 2 1 2 [] (SD C)=(1,EG C):=by rw [zBP (by rw [exm0];decide),exm0]
   refine Calls.mono (V9 ho layE.p ((1:Nat):Int) 4 2 1 2 (vE ⟨gr,0,vD⟩) vD 1 1 0 0 [Ks 2 3 1] [] (SD C) S dS.small zD4 hA hK (eW BQ rfl DR zD)) fun e w' h=>?_
   obtain ⟨F',he,h1,h2⟩:=h;rw [hq] at he h1;dsimp only at he h1
   exact ⟨F',he,h1,h2⟩)
 have HR:=zH hR;have HW3:=zH (ma hb Ta);have HF:=zH hF;have nFc:¬F gc:=fun e=>by have:=hF _ e;omega
 have s23:=Ta.size;have sw:=hb.size;replace kc:=ia kc Ta;clear hr hw hR hK ho hF hb CE HRe Ta;have cc:=kc.cell;go_wp2_with fail
 refine HP.out.mono ?_;rintro e w4 ⟨C,S,F',hC,rfl,ho,hm,hp⟩;have HC:=zH hC;have nFc':=Td hm kc.lt nFc;replace kc:=kc.moved hm nFc;have QE:=zH (BK HW3.out hm fun b hb=>by have:=HF.out b hb;omega)
 have HF4:=zH (show ∀ b,F' b -> w2.1.size <= b from fun b hb=>(hm.foot b hb).elim (HF.out b) fun h=>zO)
 have ur:=zH (te HR.out (Ml hm fun b hb e=>by have:=HF.out b e;omega))
 have s34:=hm.size;have om:=zH hp;have HO:=zH ho;replace ao:=zH (fun u F1 K gb=>ao.out C S u F1 K gb hC)
 replace Wo:=zH (fun u F1 K=>Wo.out C S u F1 K hC)
 generalize SD C=P at *;generalize EG C=OF at *;unfold Wd at *;obtain ⟨kl,kp,Za,hs5⟩:=Yg w4 101 46 #[vd vn 97,vd vq 2,vd vq 2,vd vq 4,vd vq 8,vd vq 2,vd vq 1,vd vq 1,vd vq 1,vd vq 1,vd vq 1] #[vd vn P.root,ve S.A1 S.n1 S.c1,ve S.A2 S.n2 S.c2,ve S.A3 S.n3 S.c3,ve S.A4 S.n4 S.c4,ve S.A5 S.n5 S.c5,ve S.A6 S.n6 S.c6];have nl:¬F' w4.1.size:=fun e=>by have:=HO.out.lt _ e;omega
 have np:¬F' (w4.1.size+1):=fun e=>by have:=HO.out.lt _ e;omega
 have sF:=zH (show ∀ b,F' b -> b<w4.1.size from HO.out.lt)
 obtain ⟨KP,CI⟩:∃ KP:Nat -> Prop,KP=fun b=>w3.1.size <= b /\ b<w4.1.size /\ ¬F' b:=⟨_,rfl⟩
 rw [<- CI] at om;have nH:=zH (show ∀ b,KP b -> b<w4.1.size /\ ¬F' b by rw [CI];exact fun b h=>h.2)
 clear hm hp ho hC cc HP HW3 HR CI;go_upto_region 6 with fail
 generalize (w4.alloc _).alloc _=w5 at kl kp Za hs5 |-;have s45:=Za.size;clear hs5;replace kc:=ia kc Za;replace HO:=zH (HO.out.below Za);replace ur:=zH (te ur.out (yg Za));replace om:=zH (te om.out (yg Za));replace QE:=zH (ma QE.out Za);obtain ⟨kb,ja⟩:=zN w5 22 #[vd vn 35];have cc5:=kc.cell;have cl5:=kl.cell;have cp5:=kp.cell;have nb:¬F' w5.1.size:=fun e=>by have:=sF.out _ e;omega
 have s56:=ja.size;have h35:=IJ (l:=[35]) kb rfl zD (by simp [maxLen])
 replace kc:=ia kc ja;replace kp:=ia kp ja;have cc:=kc.cell;have cp:=kp.cell;replace HO:=zH (HO.out.below ja);replace ur:=zH (te ur.out (yg ja));replace om:=zH (te om.out (yg ja));replace QE:=zH (ma QE.out ja);clear Za ja kl;go_wp2_with fail
 generalize w5.alloc _=w6 at kc kp kb HO ur om QE h35 cc cp s56 |-;have lb:=kb.lt;generalize w5.1.size=gb at kb nb h35 s45 s56 lb |-;have Au:=zH (ao.out w6 F' (fun b=>b<w2.1.size \/ KP b \/ b=gb) gb HO.out
  (fun b hb=>hb.elim (fun h=>⟨zO,fun e=>by have:=HF4.out b e;omega⟩) fun hb=>hb.elim (fun h=>⟨by have:=(nH.out b h).1;omega,(nH.out b h).2⟩) fun h=>by subst h;exact ⟨lb,nb⟩)
  (fun u a=>⟨(ur.out u (wt a fun b hb=>.inl hb)).1,IJ (l:=[35]) ((a.block gb (.inr (.inr rfl)) lb).trans kb) rfl zD (by simp [maxLen]),om.out u (wt a fun b hb=>.inr (.inl hb))⟩))
 clear cc5 cl5 cp5 cc cp h35 ao;refine Au.out.mono ?_;rintro e w7 ⟨F2,rfl,ho7,YC⟩;have HO7:=zH ho7;have di:∀ {b},b<w6.1.size -> ¬F' b -> ¬F2 b:=fun h1 h2=>Td YC h1 h2
 have lc6:=kc.lt;have lp6:=kp.lt;have s67:=YC.size;replace kc:=kc.moved YC nFc';replace kp:=kp.moved YC np;replace ur:=zH (te ur.out (Ml YC fun b hb e=>by have:=HF4.out b e;omega))
 replace om:=zH (te om.out (Ml YC fun b hb=>(nH.out b hb).2))
 replace QE:=zH (BK QE.out YC fun b hb=>by have:=HF4.out b hb;omega)
 have HF7:=zH (show ∀ b,F2 b -> w2.1.size <= b from fun b hb=>(YC.foot b hb).elim (HF4.out b) fun h=>zO)
 have HVb:=zH (Wo.out w7 F2 (fun b=>b<w2.1.size \/ KP b) ho7
  (fun b hb=>hb.elim (fun h=>⟨zO,fun e=>by have:=HF7.out b e;omega⟩) fun h=>⟨by have:=(nH.out b h).1;omega,di (zQ ((nH.out b h).1)) (nH.out b h).2⟩)
  (fun u a=>⟨(ur.out u (wt a fun b hb=>.inl hb)).1,aK u,om.out u (wt a fun b hb=>.inr hb)⟩))
 have cc:=kc.cell;have cp:=kp.cell;clear YC ho7 kc kp Au Wo ur om di;go_wp2_with fail
 refine HVb.out.mono ?_;rintro e w8 ⟨F3,rfl,ho8,hm8⟩;have HW8:=zH (BK QE.out hm8 fun b hb=>by have:=HF7.out b hb;omega)
 clear cc cp hm8 ho8 HVb;go_wp2;go_ret
 exact ⟨rfl,HW8.out⟩
theorem E4 {F F':Nat -> Prop} {N:Nat} {w w':vw} (m:Moved F F' w w') (hF:∀ b,F b -> N <= b) (hN:N <= w.1.size):vA N w w' :=
 ⟨m.os,m.tape,m.output,m.size,fun b hb=>m.block b zO fun e=>by have:=hF b e;omega⟩
theorem zGC {w u:vw} {N g nb cE:Nat} {xs ys:List Nat} (h:w.ownsRow N 5 1 (ve (vE ⟨g,0,vD⟩) (nb+4) cE) (nb+4) (U8 (xs++ys))) (hx:xs.length=4) (hp:0<nb) (hg:u.1[g]?=w.1[g]?):Rd u 1 (vE ⟨g,4,vD⟩) nb (U8 ys):=by
 have h1:=ji (u:=u) h fun b hb=>by injection hb with hb;rw [<- hb];exact hg
 obtain ⟨A',c',he,h2,-,hr,-⟩:=Ud h1
 injection he with e1 _ e3
 subst e1 e3;have sA:=hr.cut (k:=4) zO h2;rw [ya zO,RH,List.drop_append_of_le_length (by simp [DJ,hx]),List.drop_of_length_le (by simp [DJ,hx]),List.nil_append,Nat.add_sub_cancel] at sA
 exact sA
def nK (T:Da):Prop:=∃ lab el qv el' a,Bh T lab el a /\ Bh T qv el' a /\ ¬(lab=qv /\ el=el')
def mM (T:Da):List Nat -> Nat -> List Nat -> Nat -> Nat -> Prop
 | [],lab,el,_,r=>Bh T lab el r
 | p :: ps,lab,el,i,r=>∃ a,Bh T lab el a /\ mM T ps 17 (if i%2=1 then [p,a] else [a,p]) (i / 2) r
theorem zBS {T:Da} {r:Nat}:∀ (p q:List Nat) (lab:Nat) (el el':List Nat) (i:Nat),p.length=q.length -> mM T p lab el i r -> mM T q lab el' i r -> (el=el' /\ p=q) \/ nK T
 | [],[],lab,el,el',_,_,h,k=>by
  by_cases e:el=el'
  ·exact .inl ⟨e,rfl⟩
  ·exact .inr ⟨lab,el,lab,el',r,h,k,fun c=>e c.2⟩
 | [],_ :: _,_,_,_,_,hl,_,_=>by simp at hl
 | _ :: _,[],_,_,_,_,hl,_,_=>by simp at hl
 | p :: ps,q :: qs,lab,el,el',i,hl,h,k=>by
  obtain ⟨a,h1,h2⟩:=h;obtain ⟨b,k1,k2⟩:=k;rcases zBS ps qs 17 _ _ (i / 2) (by simpa using hl) h2 k2 with ⟨e1,e2⟩ | c
  ·have e3:p=q /\ a=b:=by
    by_cases hi:i%2=1
    ·rw [Ka hi,Ka hi] at e1
     simpa using e1
    ·rw [ya hi,ya hi] at e1
     have:=And.intro e1 e1;simp only [List.cons.injEq,and_true] at e1;exact ⟨e1.2,e1.1⟩
   obtain ⟨rfl,rfl⟩:=e3;by_cases e:el=el'
   ·exact .inl ⟨e,by rw [e2]⟩
   ·exact .inr ⟨lab,el,lab,el',a,h1,k1,fun c=>e c.2⟩
  ·exact .inr c
theorem jZ {O:Da} {lab:Nat} {el:List Nat} {a:Nat} (he:Kc el=true) (h:tj O lab el=vE a):Bh (Hf O lab el) lab el a:=by
 unfold tj Hf at *;cases hi:O.ideal
 ·rw [hi] at h
  simp only [Bool.false_eq_true,if_false,Option.some.injEq] at h |-;rw [<- h];exact EU O lab he
 ·rw [hi] at h
  simp only [if_true] at h |-;refine ⟨he,?_⟩;unfold Xl at h;rw [Ka he] at h;revert h
  cases ze O.qs lab el with
  | none=>rw [hi];simp
  | some b=>exact fun h=>h
theorem vX (O:Da) (lab:Nat) (el:List Nat):Rc O (Hf O lab el):=by
 unfold Hf;split
 ·exact fun _ _ _ h=>h
 ·exact rz O lab el
theorem BX:∀ (p:List Nat) (O:Da) (lab:Nat) (el:List Nat) (i:Nat),Rc O (Hj p O lab el i)
 | [],O,lab,el,_=>vX O lab el
 | p :: ps,O,lab,el,i=>by
  unfold Hj;cases tj O lab el with
  | none=>exact vX O lab el
  | some a=>exact fh (vX O lab el) (BX ps _ 17 _ _)
theorem zCL {O:Da} {lab:Nat} {el:List Nat} {a:Nat} (hO:yf O) (h:tj O lab el=vE a):a<Bb:=by
 unfold tj at h;cases hi:O.ideal
 ·rw [hi] at h
  simp only [Bool.false_eq_true,if_false,Option.some.injEq] at h;rw [<- h];exact mw hO lab el
 ·rw [hi] at h
  simp only [if_true] at h;unfold Xl at h;split at h
  ·revert h
   cases hf:ze O.qs lab el with
   | none=>simp
   | some b =>
    intro h;have e:De O lab el=b:=by unfold De;rw [Ka (by assumption),hf]
    rw [<- Ya h,<- e];exact mw hO lab el
  ·cases h
theorem RO {O:Da} (hO:yf O) (lab:Nat) (el:List Nat):yf (Hf O lab el):=by
 unfold Hf;split
 ·exact hO
 ·exact TM hO lab el
theorem zBR {T:Da} {r:Nat}:∀ (p:List Nat) {O:Da} (lab:Nat) (el:List Nat) (i:Nat),yf O -> Kc el=true -> Kc p=true -> Pm p O lab el i=vE r -> Rc (Hj p O lab el i) T -> mM T p lab el i r
 | [],O,lab,el,i,_,he,_,h,hT=>hT _ _ _ (jZ he h)
 | p :: ps,O,lab,el,i,hO,he,hp,h,hT=>by
  unfold Pm at h;unfold Hj at hT;cases ha:tj O lab el with
  | none=>rw [ha] at h;cases h
  | some a =>
   rw [ha] at h hT;have Kd:p<Bb /\ Kc ps=true:=by
    unfold Kc at hp |-
    simpa using hp
   have ja:=zCL hO ha;have Bi:Kc (if i%2=1 then [p,a] else [a,p])=true:=by
    unfold Kc;split <;> simp [Kd.1,ja]
   exact ⟨a,hT _ _ _ (BX ps (Hf O lab el) 17 _ _ _ _ _ (jZ he ha)),zBR ps 17 _ _ (RO hO lab el) Bi Kd.2 h hT⟩
theorem zBO {O T:Da} {root n i jc:Nat} {leaf path:List Nat} (hO:yf O) (h:Ns O root n i jc leaf path=true) (hT:Rc (Zl O root n i jc leaf path) T):mM T path 16 (jc :: leaf) i root /\ 2^path.length=n:=by
 unfold Ns at h;unfold Zl at hT;rw [Vb] at h;rw [Ka h.1] at hT;have hp:=h.1;unfold mz at hp;simp only [Vb,yo] at hp;obtain ⟨⟨⟨⟨⟨⟨h1,h2⟩,h3⟩,h4⟩,h5⟩,h6⟩,h7⟩:=hp;have hw:Pm path O 16 (jc :: leaf) i=vE root:=by simpa using h.2
 refine ⟨zBR path 16 _ i hO ?_ h7 hw hT,h3⟩;unfold Kc at h6 |-;simp [h5]
 simpa using h6
theorem zJK {O Z T:Da} {root n i jc mX:Nat} {leaf IV path ON:List Nat} (hO:yf O) (hZ:yf Z) (h:Ns O root n i jc leaf path=true) (k:Ns Z root n i mX IV ON=true)
  (h1:Rc (Zl O root n i jc leaf path) T) (k1:Rc (Zl Z root n i mX IV ON) T):(jc=mX /\ leaf=IV /\ path=ON) \/ nK T:=by
 obtain ⟨a,e1⟩:=zBO hO h h1;obtain ⟨b,e2⟩:=zBO hZ k k1;have hl:path.length=ON.length:=(Nat.pow_right_inj (by decide:1<2)).1 (e1.trans e2.symm)
 rcases zBS path ON 16 _ _ i hl a b with ⟨e,e'⟩ | c
 ·simp only [List.cons.injEq] at e
  exact .inl ⟨e.1,e.2,e'⟩
 ·exact .inr c
theorem S8 {v:Da -> Nat -> Bool} {o:Da -> Nat -> Da} {q:Nat} (hs:∀ Z i,Rc Z (o Z i)) (hA:∀ Z i,yf Z -> yf (o Z i)):∀ (r:Nat) (Z:Da),r <= q -> yf Z -> (Om v o q r Z).1=true ->
  Rc Z (Om v o q r Z).2 /\ ∀ i,q-r <= i -> i<q -> ∃ Y,yf Y /\ v Y i=true /\ Rc (o Y i) (Om v o q r Z).2
 | 0,Z,_,_,_=>⟨fun _ _ _ h=>h,fun i h1 h2=>absurd h2 zO⟩
 | r+1,Z,hr,hZ,h=>by
  unfold Om at h |-;split at h
  ·rename_i hv
   rw [Ka hv];obtain ⟨h1,h2⟩:=S8 hs hA r _ zO (hA Z _ hZ) h;refine ⟨fh (hs Z _) h1,fun i k1 k2=>?_⟩
   by_cases e:i=q-(r+1)
   ·rw [e]
    exact ⟨Z,hZ,hv,h1⟩
   ·exact h2 i zO k2
  ·cases h
theorem zJb (O:Da) (root n i jc:Nat) (leaf path:List Nat):Rc O (Zl O root n i jc leaf path):=by
 unfold Zl;split
 ·exact BX _ _ _ _ _
 ·exact fun _ _ _ h=>h
theorem zBQ:∀ (p:List Nat) (O:Da) (lab:Nat) (el:List Nat) (i:Nat),yf O -> yf (Hj p O lab el i)
 | [],O,lab,el,_,h=>RO h lab el
 | p :: ps,O,lab,el,i,h=>by
  unfold Hj;cases tj O lab el with
  | none=>exact RO h lab el
  | some a=>exact zBQ ps _ 17 _ _ (RO h lab el)
theorem zJJ {O:Da} (h:yf O) (root n i jc:Nat) (leaf path:List Nat):yf (Zl O root n i jc leaf path):=by
 unfold Zl;split
 ·exact zBQ _ _ _ _ _ h
 ·exact h
theorem zAE {l:List Nat} {n p:Nat} (h:Xj l (n:Int) p=true):l.length=n:=by
 unfold Xj at h;simp only [Vb,Dh] at h;omega
theorem JQ {ls:List (List Nat)} {m n p:Nat} (h:Xt ls (m:Int) (n:Int) p=true):ls.length=m:=by
 unfold Xt at h;simp only [Vb,Dh] at h;omega
theorem iU {α:Type} {a b:List α} (d:α) {n:Nat} (ha:a.length=n) (hb:b.length=n) (h:∀ i,i<n -> a.getD i d=b.getD i d):a=b:=by
 refine Kv zO fun i h1 h2=>?_
 have:=h i zO
 rwa [Fb,Fb,Qb h1,Qb h2] at this
theorem PvIn.bound {x:PvIn} {O Z:Da} (h:x.Good) (ha:yf (x.t1 O).O) (hZ:Rc (x.oF O) Z) (hZa:yf Z) (P:ie) (h0:P.root=(x.pr O).root) (h1:P.code=(x.pr O).code) (h2:P.linear=(x.pr O).linear) (h3:P.quad=(x.pr O).quad)
  (ea:(Wk Z x.L x.dd x.pub x.dg x.rows x.pu P).1=true):P=x.pr O \/ nK (Wk Z x.L x.dd x.pub x.dg x.rows x.pu P).2:=by
 have e2:Xi (xe (Zd Z x.L x.dg x.pu) (x.pr O).root) ((x.pr O).code++(x.pr O).linear++(x.pr O).quad) x.L.queries=Z:=PvIn.again_o O hZ;have e3:Rn (xe (Zd Z x.L x.dg x.pu) (x.pr O).root) ((x.pr O).code++(x.pr O).linear++(x.pr O).quad) x.L.n x.L.queries=x.pos O:=PvIn.again_pos O hZ;have hv:=PvIn.valid O h ha;unfold Wk at ea |-;rw [h0,h1,h2,h3,e2,e3] at ea |-;split at ea
 ·rename_i Xa
  rw [Ka Xa];split at ea
  ·rename_i Zu
   rw [Ka Zu];split at ea
   ·rename_i Kg
    rw [Ka Kg];obtain ⟨jQ,Gh⟩:=S8 (fun Z i=>zJb Z _ _ _ _ _ _) (fun Z i hz=>zJJ hz _ _ _ _ _ _) x.L.queries Z zR hZa ea
    generalize Om _ _ _ _ _=R at jQ Gh |-;by_cases hc:nK R.2
    ·exact .inr hc
    ·refine .inl ?_
     have gQ:∀ i,i<x.L.queries -> P.salts.getD i 0=(x.pr O).salts.getD i 0 /\ P.cols.getD i []=(x.pr O).cols.getD i [] /\ P.paths.getD i []=(x.pr O).paths.getD i []:=fun i hi=>by
      obtain ⟨Y,hY,hvY,hsY⟩:=Gh i zO hi;obtain ⟨g1,g2,g3,g4⟩:=PvIn.get_pr (O:=O) h hi;obtain ⟨o1,o2⟩:=PvIn.opens O h ha hZ g4;rcases zJK hY hZa hvY (show Ns Z (x.pr O).root x.L.n ((x.pos O).getD i 0) _ _ _=true from o1) hsY (by rw [show Zl Z (x.pr O).root x.L.n ((x.pos O).getD i 0) _ _ _=Z from o2];exact jQ) with e | c
      ·exact ⟨by rw [g2];exact e.1,by rw [g1];exact e.2.1,by rw [g3];exact e.2.2⟩
      ·exact absurd c hc
     have l1:=Xa;have l2:=hv;unfold Oh at l1 l2;simp only [Vb] at l1 l2;obtain ⟨-,-,-,-,a1,a2,a3⟩:=l1;obtain ⟨-,-,-,-,b1,b2,b3⟩:=l2;cases P
     simp only at h0 h1 h2 h3 gQ a1 a2 a3;subst h0 h1 h2 h3;have k1:=iU [] (JQ a1) (JQ b1) fun i hi=>(gQ i hi).2.1
     have k2:=iU 0 (zAE a2) (zAE b2) fun i hi=>(gQ i hi).1
     have k3:=iU [] (JQ a3) (JQ b3) fun i hi=>(gQ i hi).2.2
     rw [k1,k2,k3]
   ·cases ea
  ·cases ea
 ·cases ea
theorem PZ {L:Na} {j n:Nat} {b:List Nat} (hp:0<L.p) (hn:8*n=gh L j) (h:(Wl L j b).2=0):(Wl L j b).1=Nf L j (Gc n b) /\ b.length=gh L j:=by
 unfold Wl at h |-;by_cases hc:b.length=gh L j /\ WD L j b=([],false)
 ·rw [Ka hc]
  obtain ⟨h1,h2⟩:=QZ L j b n hp hc.1 hn;cases hk:Oh L j (Nf L j (Gc n b)) with
  | true=>exact ⟨(h1 hk).1,hc.1⟩
  | false =>
   have:=h2 hk;rw [hc.2] at this;cases this
 ·rw [ya hc] at h
  exact absurd h zD
theorem P8 {v:Da -> Nat -> Bool} {o:Da -> Nat -> Da} {q:Nat} (ho:∀ Z i k,oc Z k -> oc (o Z i) (k+11)):∀ (r:Nat) (Z:Da) (k:Nat),oc Z k -> oc (Om v o q r Z).2 (k+11*r)
 | 0,_,_,h=>h
 | r+1,Z,k,h=>by
  unfold Om;split
  ·exact Le (P8 ho r _ _ (ho Z _ k h)) zO
  ·exact Le (ho Z _ k h) zO
theorem PvIn.bound_le {x:PvIn} {O Z:Da} (hZ:Rc (x.oF O) Z) (P:ie) (h0:P.root=(x.pr O).root) (h1:P.code=(x.pr O).code) (h2:P.linear=(x.pr O).linear) (h3:P.quad=(x.pr O).quad) {k:Nat} (hk:oc Z k) :
  oc (Wk Z x.L x.dd x.pub x.dg x.rows x.pu P).2 (k+11*x.L.queries):=by
 have e2:Xi (xe (Zd Z x.L x.dg x.pu) (x.pr O).root) ((x.pr O).code++(x.pr O).linear++(x.pr O).quad) x.L.queries=Z:=PvIn.again_o O hZ;unfold Wk;rw [h0,h1,h2,h3,e2];split
 ·split
  ·split
   ·exact P8 (fun Z i k h=>V8 h _ _ _ _ _ _) _ _ _ hk
   ·exact Le hk zO
  ·exact Le hk zO
 ·exact Le hk zO
section
variable {L:Na} {j pu:Nat} {C:CoR} {vars:Int} {rows:List Ua} {ws:List Nat} {bl bw qs:Int} {O:Da} {k:Nat}
theorem zCV (hL:Nb L) (hn:L.n=2^j) (ff:Lj L ⟨L.p,(pu:Int),vars,rows.length,bl,bw,qs⟩) (hT:Vz L.p (pu:Int) vars rows ws true) (hC:C.ok L=true) (hO:Nv O k) (hle:oc ((xf L j pu vars rows ws C).oF O) 100000) (hZ:yf ((xf L j pu vars rows ws C).oF O))
  (iN:∀ x∈dh ((xf L j pu vars rows ws C).pr O),x<18446744073709551616) {c:List Nat} (lc:c.length=(xo (dh ((xf L j pu vars rows ws C).pr O))).length) (vc:∀ x∈c,x<256)
  (ht:c.take (8*(1+(L.k+(L.k+L.block-1)+(2*L.k-1))))=(xo (dh ((xf L j pu vars rows ws C).pr O))).take (8*(1+(L.k+(L.k+L.block-1)+(2*L.k-1))))) (Sa:c≠xo (dh ((xf L j pu vars rows ws C).pr O))) :
  (tB ((xf L j pu vars rows ws C).oF O) L.p (pu:Int) vars rows bl bw qs ((ws.drop 1).take pu) c).1=10 \/ (nK (tB ((xf L j pu vars rows ws C).oF O) L.p (pu:Int) vars rows bl bw qs ((ws.drop 1).take pu) c).2 /\ (tB ((xf L j pu vars rows ws C).oF O) L.p (pu:Int) vars rows bl bw qs ((ws.drop 1).take pu) c).2.qs.length <= 1000000):=by
 rw [XX (W1 hL ff hT) hn];by_cases hd:(Wl L j c).2=0
 ·rw [ya (fun h=>h hd)]
  have Mf:0<L.p:=by have:=Rb hL.p;omega
  have hv:=zBK (vars:=vars) (rows:=rows) (ws:=ws) (pu:=pu) hL hn hC hO;have hde:=OZ L j _ Mf iN hv;have h8:8*(dh ((xf L j pu vars rows ws C).pr O)).length=gh L j:=by rw [<- hde.2,CK]
  have e1:=(PZ Mf h8 hd).1;have e2:=(PZ Mf h8 (show (Wl L j (xo (dh ((xf L j pu vars rows ws C).pr O)))).2=0 by rw [hde.1])).1
  rw [hde.1] at e2;dsimp only at e2
  have hk:0<L.k:=by have:=hL.b1;have:=hL.q1;have:=hL.k;omega
  obtain ⟨g0,g1,g2,g3,g4⟩:=zGz hk h8 (by rw [CK]) (by rw [lc,CK]) (qZ _) vc ht.symm (Ne.symm Sa)
  rw [<- e2,<- e1] at g0 g1 g2 g3 g4;by_cases ha:(Wk ((xf L j pu vars rows ws C).oF O) L j pu (Jf L.p (pu:Int) vars rows) rows ((ws.drop 1).take pu) (Wl L j c).1).1=true
  ·have hb:=PvIn.bound (x:=xf L j pu vars rows ws C) (O:=O) (Z:=(xf L j pu vars rows ws C).oF O) (JW L j pu vars rows ws C hL hn hC) (PX hO _ _ _).o.ans (fun _ _ _ h=>h) hZ (Wl L j c).1 g1.symm g2.symm g3.symm g4.symm ha
   rcases hb with hb | hb
   ·exact absurd hb.symm g0
   ·have hq:=hL.q2
    have hl:=PvIn.bound_le (x:=xf L j pu vars rows ws C) (O:=O) (Z:=(xf L j pu vars rows ws C).oF O) (fun _ _ _ h=>h) (Wl L j c).1 g1.symm g2.symm g3.symm g4.symm hle
    exact .inr ⟨hb,zb hl.1 (show 100000+11*L.queries <= 1000000 by omega)⟩
  ·left
   dsimp only
   rw [ya ha]
 ·left
  rw [Ka hd]
end
theorem JZ (q:Qn) (A:Option vy) (n c:Nat) (w:vw) (hl:RWd w [ve A n c] q.el) (hlen:q.el.length <= 10000000) :
  vB prog 98 #[vf #[vd vn q.lab,ve A n c,vd vn q.ans]] w fun e w'=>∃ A' c',e=vl (vf #[vd vn q.lab,ve A' n c',vd vn q.ans]) /\ w'.ownsRow w.1.size 22 1 (ve A' n c') n (Oa q.el) /\ vA w.1.size w w':=by
 obtain ⟨kx,kr,da,jb⟩:=Yg w 95 95 #[vd vn q.lab,ve A n c,vd vn q.ans] #[vd vn 0,ve vD 0 0,vd vn 0];have HC:=zH (fun w1 (hb:vA w.1.size w w1)=>KZ A n c q.el w1 (Ab hb hl) hlen)
 clear hl hlen jb;go_enter func98,ntmps98
 go_upto_region 1 with fail
 generalize (w.alloc _).alloc _=w1 at kx kr da |-;have cx:=kx.cell;have lx:=kx.lt;have ne:w.1.size≠w.1.size+1:=by omega
 have KR:=zH kr;have HB:=zH da;clear kx kr da;refine zd (Vk (w.1.size+1)) [4,8] [0,1,2,3,5,6,4,7,8] zK zK ?_;refine Ue (oe (w.1.size+1)) ?_;intro Wc Ja ea;have zh:=zH (show Blk Wc _ _ _ by rw [Ja.out];exact KR.out.drew)
 have xd:=zH (show vA w.1.size w Wc by rw [Ja.out];exact HB.out.drew)
 clear Ja KR HB;refine Sm ?_;refine tE (oe (w.1.size+1)) rfl rfl rfl (fun _=>by go_simp <;> rfl) ((HC.out Wc xd.out).mono ?_)
 rintro e w2 ⟨v,rfl,Ca,Ba⟩;refine ⟨_,rfl,du Ba,?_⟩;replace ea:=(oe (w.1.size+1)).trans _ _ _ ea (du Ba);refine zPU ?_;have hv:∃ A' c',v=ve A' n c':=by obtain ⟨A',c',e,-⟩:=Ud Ca;exact ⟨A',c',e⟩
 obtain ⟨A',c',rfl⟩:=hv;have uf:=zh.out.below Ba zh.out.lt;have OW:=zH (yv Ca xd.out.size);have OWE:=zH (jW Ca uf zD);have kH:=zH (ma xd.out Ba);have cr:=uf.cell;have fr:=uf.frozen;clear Ca Ba zh;refine Sm ?_;refine Te (oe (w.1.size+1)) rfl rfl rfl ?_;go_simp;refine ⟨zA3 [vd vn q.lab,ve A' n c',vd vn q.ans] 0 _,?_⟩
 refine zPU ?_
 refine Hc ?_;have kf:=ZD [vd vn q.lab,ve A' n c',vd vn q.ans] uf rfl;have zk:=zIR (xs:=[vd vn q.lab,ve A' n c',vd vn q.ans]) (g:=w.1.size+1) kH.out (Nat.le_succ _);have owf:=ji OW.out (u:=Cl w2 (w.1.size+1) [vd vn q.lab,ve A' n c',vd vn q.ans] 0) fun b hb=>iB (fun e=>OWE.out b hb (by rw [e])) _ 0 w2
 simp only [Cl,Nj,Nat.reduceAdd] at kf zk owf;generalize vF (vF (vF w2 _ _) _ _) _ _=wf at kf zk owf |-;have cf:=kf.cell;clear cr fr ea cx;go_wp2;exact Sc (by simp [results,results98,go_sem,cf]) rfl ⟨A',c',rfl,owf,zk⟩
theorem zGv {w:vw} {g:Nat} {O:Da} {F:Nat -> Prop} {v:vx} {cs:List vx} {km sm pm:Nat} {E:Nat -> Prop} (h:OrcIn w g O F v cs km sm pm E) (hE:∀ q∈O.qs,q.lab<18446744073709551616 /\ q.ans<18446744073709551616):RQs w [v] O.qs :=
 zIu h.own rfl fun i hi=>by
  have hq:O.qs[i]?=vE O.qs[i]:=Qb hi;obtain ⟨h1,h2,s,h3,h4⟩:=h.rows.2 i _ hq;have hl:=h.rows.1;have hb:=hE _ (He hi);refine ⟨s,?_,h4 w (fun _ _ _=>rfl),hb.1,hb.2⟩
  refine List.ext_getElem? fun j=>?_
  rw [List.getElem?_take];by_cases hj:j<3
  ·rw [Ka hj,List.getElem?_drop]
   rcases (show j=0 \/ j=1 \/ j=2 by omega) with e | e | e <;> subst e
   ·exact h1
   ·exact h3
   ·exact h2
  ·rw [ya hj,oo zT]
def Kf (qs:List Qn) (i:Nat):Qn:=qs.getD i ⟨0,[],0⟩
def MH (qs:List Qn) (j:Nat):Prop:=∀ i k,i<k -> k<j -> (Kf qs i).ans≠(Kf qs k).ans
theorem zGb (qs:List Qn):MH qs 0:=fun _ _ _ h=>absurd h (Nat.not_lt_zero _)
theorem zGa {qs:List Qn} {j:Nat} (h:MH qs j) (hj:∀ i,i<j -> (Kf qs i).ans≠(Kf qs j).ans):MH qs (j+1):=fun i k RF hk=>by
 by_cases e:k=j
 ·subst e
  exact hj i RF
 ·exact h i k RF zO
theorem tF {qs:List Qn} {i:Nat} (h:i<qs.length):Kf qs i=qs[i]:=by
 unfold Kf;rw [Fb,Qb h]
 rfl
theorem Q7 {qs:List Qn} {q:Qn} (h:q∈qs):∃ i,i<qs.length /\ Kf qs i=q:=by
 obtain ⟨i,hi,e⟩:=List.mem_iff_getElem.1 h;exact ⟨i,hi,by rw [tF hi,e]⟩
theorem zDa {T:Da} (h:nK T):¬MH T.qs T.qs.length:=fun hA=>by
 obtain ⟨lab,el,qv,el',a,⟨-,h1⟩,⟨-,h2⟩,hd⟩:=h;obtain ⟨q,hq,rfl,rfl,e1⟩:=E3 h1;obtain ⟨r,hr,rfl,rfl,e2⟩:=E3 h2;obtain ⟨i,hi,ei⟩:=Q7 hq;obtain ⟨k,hk,ek⟩:=Q7 hr;have Sa:i≠k:=fun e=>by
  rw [e,ek] at ei;rw [ei] at hd;exact hd ⟨rfl,rfl⟩
 rcases Nat.lt_or_gt_of_ne Sa with c | c
 ·exact hA i k c hk (by rw [ei,ek,e1,e2])
 ·exact hA k i c hi (by rw [ei,ek,e1,e2])
def uS (qs:List Qn):Prop:=qs.Pairwise fun a b=>¬(a.lab=b.lab /\ a.el=b.el)
theorem zDw {qs:List Qn} (h:uS qs) {i k:Nat} (RF:i<k) (hk:k<qs.length):¬((Kf qs i).lab=(Kf qs k).lab /\ (Kf qs i).el=(Kf qs k).el):=by
 rw [tF (Uk RF hk),tF hk];exact List.pairwise_iff_getElem.1 h i k _ _ RF
theorem mP:∀ {qs:List Qn},uS qs -> ∀ {q:Qn},q∈qs -> ze qs q.lab q.el=vE q.ans
 | [],_,_,h=>nomatch h
 | r :: rs,hd,q,h=>by
  have hp:=List.pairwise_cons.1 hd;unfold ze;rw [List.find?_cons];rcases Ah.1 h with rfl | hm
  ·have:Nn q.lab q.el q=true:=by simp [Nn]
   rw [this]
   rfl
  ·have:Nn q.lab q.el r=false:=by
    have:=hp.1 q hm;cases e:Nn q.lab q.el r with
    | false=>rfl
    | true =>
     simp only [Nn,Vb,Dh] at e;exact absurd e this
   rw [this];exact mP hp.2 hm
theorem zAb {T:Da} (hd:uS T.qs) {i:Nat} (hi:i<T.qs.length) (he:Kc (Kf T.qs i).el=true):Xl T (Kf T.qs i).lab (Kf T.qs i).el=vE (Kf T.qs i).ans:=by
 unfold Xl;rw [Ka he,mP hd (q:=Kf T.qs i) (by rw [tF hi];exact He hi)]
theorem G6:Keyed prog 22:=int_keyed underlying22
theorem zJQ {a:Nat} (h:a<18446744073709551616):(Lit.int vn a).wf=true:=by
 simp [Lit.wf,IntKind.min,IntKind.max,IntKind.signed,IntKind.bits]
 omega
theorem zJP {a:Nat} (h:a<9223372036854775808):(Lit.int vq a).wf=true:=by
 simp [Lit.wf,IntKind.min,IntKind.max,IntKind.signed,IntKind.bits]
 omega
theorem zKb (w:vw):(zeroValue 3).run prog w= .ok (vd vq 0) w:=by kernel_rfl
theorem zFP (n:Nat) (w:vw):(Instr.makeMap 184 (vE (vd vq n))).run prog w= .ok (.map (vE w.1.size)) (w.alloc (.map #[] 0)):=by
 simp [Instr.makeMap,run_underlying underlying184,asInt,asIntOf]
def Zv (qs:List Qn):Nat -> DataW Unit
 | 0=>.map []
 | j+1=>(Zv qs j).put (.int vn ((Kf qs j).ans:Int)) (.lit (.int vq j))
theorem qU (qs:List Qn):∀ j,IsMap (Zv qs j)
 | 0=>isMap_empty
 | j+1=>(qU qs j).put _ _
theorem J3 (qs:List Qn) (x:Nat):∀ j,Maps.has (Zv qs j) (.int vn x)=true -> ∃ i,i<j /\ (Kf qs i).ans=x /\ ∀ z,(Zv qs j).atKey (.int vn x) z= .lit (.int vq i)
 | 0,h=>by simp [Zv,has_eq] at h
 | j+1,h=>by
  unfold Zv at h |-;by_cases e:(Kf qs j).ans=x
  ·exact ⟨j,Nat.lt_succ_self j,e,fun z=>by rw [e];exact atKey_put_same (qU qs j) (by simp [WideAt.IsKeyLit]) _ _⟩
  ·have Sa:(Lit.int vn x)≠Lit.int vn ((Kf qs j).ans:Int):=by
    intro h;injection h with _ h;omega
   rw [has_put_other Sa] at h;obtain ⟨i,h1,h2,h3⟩:=J3 qs x j h;exact ⟨i,zO,h2,fun z=>by rw [atKey_put_other Sa];exact h3 z⟩
theorem K3 (qs:List Qn) (x:Nat):∀ j,Maps.has (Zv qs j) (.int vn x)=false -> ∀ i,i<j -> (Kf qs i).ans≠x
 | 0,_,i,hi=>absurd hi (Nat.not_lt_zero i)
 | j+1,h,i,hi=>by
  unfold Zv at h;by_cases e:(Kf qs j).ans=x
  ·rw [e,has_put_same (qU qs j) (by simp [WideAt.IsKeyLit])] at h
   cases h
  ·have Sa:(Lit.int vn x)≠Lit.int vn ((Kf qs j).ans:Int):=by
    intro h;injection h with _ h;omega
   rw [has_put_other Sa] at h;by_cases e2:i=j
   ·subst e2;exact e
   ·exact K3 qs x j h i zO
theorem StB.ex3 {g g1 g2:Nat} {w wf:vw} (h:StB g w wf) (e:g=g1 \/ g=g2):Uq g1 g2 g2 w wf :=
 ⟨⟨h.os,h.tape,h.output,Nat.le_of_eq h.size.symm,fun b hb=>absurd hb (Nat.not_lt_zero b)⟩,fun b _ h1 h2 _=>h.far b fun e'=>by
  rcases e with e | e
  ·exact h1 (e'.trans e)
  ·exact h2 (e'.trans e)⟩
def zCi (w:vw) (O:Da) (e:Ending) (w':vw):Prop :=
 ∃ (a b:Qn) (A B:Option vy) (n c m d:Nat) (ok:Bool),e=vl (.tuple #[vf #[vd vn a.lab,ve A n c,vd vn a.ans],vf #[vd vn b.lab,ve B m d,vd vn b.ans], .bool ok]) /\ vA w.1.size w w' /\
  (ok=true -> (∃ i k,i<k /\ k<O.qs.length /\ Kf O.qs i=a /\ Kf O.qs k=b /\ a.ans=b.ans) /\ RWd w' [ve A n c] a.el /\ RWd w' [ve B m d] b.el) /\ (ok=false -> MH O.qs O.qs.length)
theorem zDi {w:vw} {g:Nat} {O:Da} {F:Nat -> Prop} (h:OrcAt w g O F) (hl:O.qs.length <= 1000000) :
  vB prog 41 #[.pointer (vE ⟨g,0,vD⟩)] w (zCi w O):=by
 have IA:=h.ok.qs;obtain ⟨v,cs,km,sm,pm,E,Pc⟩:=h;have kg:=Pc.blk;obtain ⟨A,n,c,hv,hlen,Sd,Ze,ra⟩:=zGv Pc fun q hq=>⟨(IA q hq).lab,Gr (IA q hq).ans⟩
 simp at hv
 subst hv;have HQN:=zH IA;have hnl:n <= 1000000:=by omega
 have Ff:=zH hlen;have gm:=Mm Sd Ze;have mk:=zFP n;have hg:=kg.lt;clear IA Pc hl hlen Ze;obtain ⟨k1,k2,da,jb⟩:=Yg w 95 95 #[vd vn 0,ve vD 0 0,vd vn 0] #[vd vn 0,ve vD 0 0,vd vn 0];have qG:=ia kg da;clear jb;go_enter func41,ntmps41
 go_upto_region 1 with fail
 generalize (w.alloc _).alloc _=w1 at k1 k2 da qG |-;obtain ⟨r1,Bg⟩:=zEX (w.1.size);have cq:=zH Bg;rw [<- Bg] at k1 k2 |-;have og:g<r1:=by omega
 clear Bg;have cg1:=qG.cell;go_upto_region 2 with fail
 have ZC:=World.ownsMap_made (H:=Unit) w1 prog 22 (plainElem prog 3);have ja:=zA w1 (.map #[] 0);have zq:r1+1<w1.1.size:=k2.lt;replace k1:=ia k1 ja;replace k2:=ia k2 ja;replace da:=ma da ja;clear ja mk qG cg1;generalize w1.alloc _=w2 at k1 k2 da ZC |-;generalize w1.1.size=gq at ZC zq |-;have aI:=(ia kg da).cell;go_wp2_with fail
 go_loopw [21] (fun y wr=>∃ (j:Nat),j <= n /\ y=vd vq j /\ Blk wr r1 95 #[vd vn 0,ve vD 0 0,vd vn 0] /\ Blk wr (r1+1) 95 #[vd vn 0,ve vD 0 0,vd vn 0] /\ wr.ownsMap prog 22 (plainElem prog 3) gq j (Zv O.qs j) /\ Hid (MH O.qs j) /\ vA w.1.size w wr) (fun y _=>n-(intOf y).toNat)
 case atStart=>exact ⟨0,Kb _,rfl,k1,k2,ZC,zH (zGb _),da⟩
 case round =>
  clear k1 k2 ZC da aI;obtain ⟨j,hj,rfl,k1,k2,ZC,HNT,yb⟩:=hrel;have cg:=(ia kg yb).cell;by_cases ta:j<n
  ·have q0:(0:Int)<=j:=by omega
   have q1:(j:Int)<n:=by omega
   obtain ⟨b1,Oq,A1,n1,c1,l1,a1,qe,hqe,rfl,x0,x1,x2,Xc,OI,xu⟩:=fX (ra.below X5 yb) (show j<O.qs.length by rw [Ff.out];exact ta)
   obtain ⟨rfl,rfl,Dw,FC⟩:=xu;have VU:keyOf prog 22 (vd vn qe.ans)=vE (.int vn qe.ans):=keyOf_int_mk underlying22 (zJQ FC);have HGE:=zH (show Kf O.qs j=qe by unfold Kf;rw [Fb,hqe];rfl)
   have HC:=zH (fun w1 (hb:vA wr.1.size wr w1)=>JZ qe A1 n1 c1 w1 (Ab hb Xc) (zQ ((HQN.out qe (List.mem_of_getElem? hqe)).len)))
   have HEL:=zH (Ob Xc).2.2.2.1;have Xb:=zH ta;clear Xc hqe Dw FC ta;obtain ⟨kx,ja⟩:=zN wr 95 #[vd vn qe.lab,ve A1 n1 c1,vd vn qe.ans];have zw:gq<wr.1.size:=ZC.lt;have aL:=ZC.alloc (.cells #[vd vn qe.lab,ve A1 n1 c1,vd vn qe.ans] 95);replace k1:=ia k1 ja;replace k2:=ia k2 ja;replace yb:=ma yb ja;clear cg ZC;go_upto_region 5 with fail
   generalize wr.alloc _=w3 at kx k1 k2 yb ja aL |-;have cx:=kx.cell;go_upto_region 6 with (at_lookup;refine wpList_lookup_own_ok_int _ rfl _ _ 184 rfl 22 3 vq G6 underlying184 Hu (zKb _) gq j _ rfl aL _ _ rfl VU ?_;intro cc zg sJ)
   obtain ⟨hb,hhb⟩:=zEX (Maps.has (Zv O.qs j) (.int vn qe.ans));rw [<- hhb];have hrg:w.1.size<gq /\ r1<gq /\ r1+1<gq:=by have:=cq.out;omega
   cases hb
   ·have Fq:=K3 O.qs qe.ans j hhb.symm
    have HNT2:=zH (zGa HNT.out (fun i hi=>by rw [HGE.out];exact Fq i hi))
    clear Fq hhb zg sJ ja HNT HC;go_wp2_with (at_mapUpdate;refine wpList_mapUpdate_own _ rfl _ _ _ 184 rfl 22 3 G6 underlying184 _ gq j _ rfl aL (by unfold maxLen;omega) _ _ _ rfl rfl VU _ [] (plainElem_int Hu (zJP zO)) ?_;intro w5 E5 Va)
    replace k1:=k1.grown Va (fun e=>by have:=Ya e;omega)
    replace k2:=k2.grown Va (fun e=>by have:=Ya e;omega)
    replace yb:=Ef yb Va;have HM:=zH (show w5.ownsMap prog 22 (plainElem prog 3) gq (j+1) (Zv O.qs (j+1)) by unfold Zv;rw [HGE.out];exact E5)
    clear Va aL E5 cx kx;go_wp2
    go_roundw
    case rel=>exact ⟨j+1,Xb.out,by go_num,k1,k2,HM.out,HNT2,yb⟩
    case measure=>have:=Xb.out;simp [intOf];omega
   ·obtain ⟨i,hij,hie,hia⟩:=J3 O.qs qe.ans j hhb.symm
    rw [hia] at zg
    injection zg with zg
    injection zg with _ zg
    subst zg;obtain ⟨b2,q2,A2,n2,c2,l2,a2,qf,hqf,heq,y0,y1,y2,Dd,nw,HQ2⟩:=fX (ra.below X5 yb) (show i<O.qs.length by have:=Ff.out;omega)
    obtain ⟨rfl,rfl,hlb2,han2⟩:=HQ2;cases heq
    have XI:Kf O.qs i=qf:=by unfold Kf;rw [Fb,hqf];rfl
    have HFI:=zH (show ∃ i k,i<k /\ k<O.qs.length /\ Kf O.qs i=qf /\ Kf O.qs k=qe /\ qf.ans=qe.ans from ⟨i,j,hij,by have:=Ff.out;omega,XI,HGE.out,by rw [<- XI];exact hie⟩)
    have Wn:=zH (fun w1 (hb:vA w3.1.size w3 w1)=>JZ qf A2 n2 c2 w1 (Ab hb Dd) (zQ ((HQN.out qf (List.mem_of_getElem? hqf)).len)))
    have HEL2:=zH (Ob Dd).2.2.2.1;have g0:(0:Int)<=i:=by omega
    have g1:(i:Int)<n:=by omega
    have hw3:gq<w3.1.size:=aL.lt;clear Dd hqf hlb2 han2 XI hie hia hhb sJ HNT aL VU x0 x1 x2;have cg:=(ia kg yb).cell;have lg:=(ia kg yb).lt;have lx:=kx.lt;have lb:=nw;go_upto_region 7 with fail
    have Ib:b1<r1:=by
     obtain ⟨b',q',_,_,_,_,_,_,_,e,_,_,_,_,Sl,_⟩:=fX ra (show i<O.qs.length by have:=Ff.out;omega)
     cases e
     have:=cq.out;omega
    have z1:g≠r1:=by omega
    have z2:g≠r1+1:=by omega
    have z3:b1≠r1:=by omega
    have z4:b1≠r1+1:=by omega
    have z5:wr.1.size≠r1:=by omega
    have z6:wr.1.size≠r1+1:=by omega
    refine zd (Uq r1 (r1+1) (r1+1)) [7,9,10,11] [0,1,2,3,4,5,6,8,7,9,10,11,12] zK zK ?_;refine Ue (Xv r1 (r1+1) (r1+1)) ?_;intro Wc Ja ea;have Ma:=jg Ja;replace k1:=ia k1 Ma;replace k2:=ia k2 Ma;replace yb:=ma yb Ma;replace ja:=ma ja Ma;have hWs:gq<Wc.1.size:=pd hw3 Ma.size;clear Ja;refine mO ?_;refine tE (Xv r1 (r1+1) (r1+1)) rfl rfl rfl (fun _=>by go_simp <;> rfl) ((Wn.out _ Ma).mono ?_)
    rintro e w4 ⟨A4,c4,rfl,o1,xa⟩;refine ⟨_,rfl,ly xa,?_⟩;replace ea:=(Xv r1 (r1+1) (r1+1)).trans _ _ _ ea (ly xa);refine zPU ?_;have Zp:=zH (yv o1 (Nat.le_of_lt hWs));have kJ:=xa.size;replace k1:=ia k1 xa;replace k2:=ia k2 xa;replace yb:=ma yb xa;replace ja:=ma ja xa;clear xa o1;refine mO ?_;refine tE (Xv r1 (r1+1) (r1+1)) rfl rfl rfl (fun _=>by go_simp <;> rfl) ((HC.out _ ja).mono ?_)
    rintro e w5 ⟨A5,c5,rfl,o2,xa⟩;refine ⟨_,rfl,ly xa,?_⟩;replace ea:=(Xv r1 (r1+1) (r1+1)).trans _ _ _ ea (ly xa);refine zPU ?_;have mg:=zH (yv o2 (show gq <= w4.1.size by omega))
    replace k1:=ia k1 xa;replace k2:=ia k2 xa;replace yb:=ma yb xa;replace Zp:=zH (Mc Zp.out xa zR);have hs5:=xa.size;clear xa o2 ja;have ca:=k1.cell;have fa:=k1.frozen;refine mO ?_;refine Te (Xv r1 (r1+1) (r1+1)) rfl rfl rfl ?_;go_simp;obtain ⟨wY,hwY,Gi,s1⟩:=jO k1 (vd vn qf.lab) (ve A4 n2 c4) (vd vn qf.ans);rw [hwY];refine ⟨s1.ex3 (.inl rfl),?_⟩;have ea:=(Xv r1 (r1+1) (r1+1)).refl wY
    refine zPU ?_
    have Zh:=s1.blk k2 zO;have hbr':=s1.below yb (zQ cq.out);have Jv:=zH (s1.own Zp.out fun b hb=>by have:=(Zp.out.lt b hb).1;omega)
    have ar:=zH (s1.own mg.out fun b hb=>by have:=(mg.out.lt b hb).1;omega)
    clear ca fa k1 k2 yb Zp mg s1 hwY;have ca:=Zh.cell;have fa:=Zh.frozen;refine mO ?_;refine Te (Xv r1 (r1+1) (r1+1)) rfl rfl rfl ?_;go_simp;obtain ⟨wZ,hwZ,kz,s2⟩:=jO Zh (vd vn qe.lab) (ve A5 n1 c5) (vd vn qe.ans);rw [hwZ];refine ⟨s2.ex3 (.inr rfl),?_⟩;have ea:=(Xv r1 (r1+1) (r1+1)).refl wZ
    refine zPU ?_
    have k1z:=s2.blk Gi zO;have xq:=s2.below hbr' (zQ cq.out);have FH:=zH (Hq (s2.own Jv.out fun b hb=>by have:=(Jv.out.lt b hb).1;omega) HEL2.out)
    have HZ2:=zH (Hq (s2.own ar.out fun b hb=>by have:=(ar.out.lt b hb).1;omega) HEL.out)
    clear ca fa Gi Zh hbr' Jv ar s2 hwZ;have c1z:=k1z.cell;have c2z:=kz.cell;refine mO ?_;refine Hc ?_;clear ea cg cx;go_wp2_with fail
    exact Sc (by simp [results,results41,go_sem,c1z,c2z]) rfl ⟨qf,qe,A4,A5,n2,c4,n1,c5,true,rfl,xq,fun _=>⟨HFI.out,FH.out,HZ2.out⟩,fun h=>Bool.noConfusion h⟩
  ·obtain rfl:j=n:=by omega
   have q1:¬((j:Int)<j):=by omega
   have c1:=k1.cell;have c2:=k2.cell;have f1:=k1.frozen;have f2:=k2.frozen;clear ZC;go_wp2_with fail
   obtain ⟨wY,hwY,Gi,s1⟩:=jO k1 (vd vn 0) (ve vD 0 0) (vd vn 0);rw [hwY];obtain ⟨wZ,hwZ,Zh,s2⟩:=jO (s1.blk k2 zO) (vd vn 0) (ve vD 0 0) (vd vn 0);rw [hwZ];have pq:=(s2.blk Gi zO).cell;have Tv:=Zh.cell;have Zf:=cq.out;exact Sc (by simp [results,results41,go_sem,pq,Tv]) rfl ⟨⟨0,[],0⟩,⟨0,[],0⟩,vD,vD,0,0,0,0,false,rfl,s2.below (s1.below yb zO) zO,⟨fun h=>Bool.noConfusion h,fun _=>by rw [Ff.out];exact HNT.out⟩⟩
theorem zC9 {w:vw} {g:Nat} {O:Da} {F:Nat -> Prop} (h:OrcAt w g O F) (hl:O.qs.length <= 1000000) :
  vB prog 49 #[.pointer (vE ⟨g,0,vD⟩)] w fun e w'=>∃ b,e=vl (.bool b) /\ (¬MH O.qs O.qs.length -> b=true) /\ vA w.1.size w w':=by
 have HC:=zH (zDi h hl);have HO:=zH h;have HLN:=zH hl;have Zq:=zH h.ok;clear h hl;go_enter func49,ntmps49
 go_wp2_with fail
 refine HC.out.mono ?_;rintro e w1 ⟨a,b,A,B,n,c,m,d,ok,rfl,Ia,hT,hF⟩;cases ok
 ·have HN:=zH (hF rfl)
  obtain ⟨k3,k4,Ba,-⟩:=Yg w1 95 95 #[vd vn a.lab,ve A n c,vd vn a.ans] #[vd vn b.lab,ve B m d,vd vn b.ans];have Fp:=ma Ia Ba;clear hT hF Ia Ba k3 k4;go_upto_region 2 with fail
  generalize (w1.alloc _).alloc _=w2 at Fp |-;go_wp2_with fail
  go_ret
  exact ⟨false,rfl,fun h=>absurd HN.out h,Fp⟩
 ·obtain ⟨⟨i,k,RF,hk,rfl,rfl,Ep⟩,ra,rb⟩:=hT rfl
  have qa:=Zq.out.qs (Kf O.qs i) (by rw [tF zO];exact He _)
  have qb:=Zq.out.qs (Kf O.qs k) (by rw [tF hk];exact He _)
  have pa:=zAb (T:=O) Zq.out.apart (i:=i) zO qa.el;have pb:=zAb (T:=O) Zq.out.apart hk qb.el;have fa:=mP Zq.out.apart (q:=Kf O.qs i) (by rw [tF zO];exact He _)
  have fb:=mP Zq.out.apart (q:=Kf O.qs k) (by rw [tF hk];exact He _)
  have hd:=zDw Zq.out.apart RF hk;generalize Kf O.qs i=a at qa pa fa hd ra Ep |-;generalize Kf O.qs k=b at qb pb fb hd rb Ep |-;have HPA:=zH (fun (u:vw) (hb:vA w1.1.size w1 u)=>by
   have:=xW (HO.out.below (ma Ia hb)) a.lab a.el A n c (Ab hb ra) qa.lab qa.len (.inr (.inr (by rw [fa];rfl))) HLN.out
   rw [pa] at this;exact this)
  have uH:=zH (fun (u:vw) (hb:vA w1.1.size w1 u)=>by
   have:=xW (HO.out.below (ma Ia hb)) b.lab b.el B m d (Ab hb rb) qb.lab qb.len (.inr (.inr (by rw [fb];rfl))) HLN.out
   rw [pb] at this;exact this)
  have HS:=zH (fun (u:vw) (hb:vA w1.1.size w1 u)=>zIC A B n c m d a.el b.el u (Ab hb ra) (Ab hb rb))
  have HD:=zH hd;have HA:=zH Ep;have la:=qa.lab;have lb:=qb.lab;obtain ⟨k3,k4,Ba,-⟩:=Yg w1 95 95 #[vd vn a.lab,ve A n c,vd vn a.ans] #[vd vn b.lab,ve B m d,vd vn b.ans];clear hT hF qa qb pa pb fa fb hd ra rb hk RF Ep;go_upto_region 2 with fail
  generalize (w1.alloc _).alloc _=w2 at k3 k4 Ba |-;have c3:=k3.cell;have c4:=k4.cell;go_wp2_with fail
  refine (HPA.out w2 Ba).mono ?_;rintro e w3 ⟨rfl,xa⟩;replace k3:=ia k3 xa;replace k4:=ia k4 xa;replace Ba:=ma Ba xa;clear xa c3 c4;have c3:=k3.cell;have c4:=k4.cell;go_wp2_with fail
  refine (uH.out w3 Ba).mono ?_;rintro e w4 ⟨rfl,xa⟩;replace k3:=ia k3 xa;replace k4:=ia k4 xa;replace Ba:=ma Ba xa;clear xa c3 c4;have c3:=k3.cell;have c4:=k4.cell;go_upto_region 6 with fail
  rw [HA.out];by_cases Lg:a.lab=b.lab
  ·have Bi:a.el≠b.el:=fun e=>HD.out ⟨Lg,e⟩
   have HE:=zH Bi;clear Bi;have hw:=HS.out w4 Ba;rw [db HE.out] at hw;have HW:=zH hw;clear hw;go_wp2_with fail
   refine HW.out.mono ?_;rintro e w5 ⟨rfl,kk,rfl⟩;have Za:=ma Ia (AK Ba kk);go_wp2_with fail
   go_ret
   exact ⟨true,rfl,fun _=>rfl,Za⟩
  ·go_wp2_with fail
   go_ret
   exact ⟨true,rfl,fun _=>rfl,ma Ia Ba⟩
theorem zJR {n:Int} (h:(Lit.int .u32 n).wf=true):∃ m:Nat,n=(m:Int) /\ m<4294967296:=by
 have hx:0 <= n /\ n <= 4294967295:=by simpa [Lit.wf,IntKind.min,IntKind.max,IntKind.signed,IntKind.bits] using h
 obtain ⟨m,rfl⟩:=dk hx.1;exact ⟨m,rfl,zO⟩
theorem zJS {n:Int} (h:(Lit.int vu n).wf=true):∃ m:Nat,n=(m:Int) /\ m<256:=by
 have hx:0 <= n /\ n <= 255:=by simpa [Lit.wf,IntKind.min,IntKind.max,IntKind.signed,IntKind.bits] using h
 obtain ⟨m,rfl⟩:=dk hx.1;exact ⟨m,rfl,zO⟩
theorem zCe (n:Nat) (h:n<4294967296):IntKind.u32.wrap (n:Int)=n:=by
 have e:IntKind.u32.wrap (n:Int)=n%4294967296:=by simp [IntKind.wrap,IntKind.bits,IntKind.signed]
 rw [e];omega
theorem zCS (a b:Nat) (ha:a<256) (hb:b<256):bits .xor vu (a:Int) (b:Int)=((a ^^^ b:Nat):Int):=by
 have hx:a ^^^ b<2^8:=Nat.xor_lt_two_pow zO zO;have h1:(BitVec.ofInt 8 (a:Int)).toNat=a:=by
  rw [BitVec.ofInt_natCast,BitVec.toNat_ofNat];exact qj zO
 have h2:(BitVec.ofInt 8 (b:Int)).toNat=b:=by
  rw [BitVec.ofInt_natCast,BitVec.toNat_ofNat];exact qj zO
 show vu.wrap ((BitVec.ofInt 8 (a:Int) ^^^ BitVec.ofInt 8 (b:Int)).toNat:Int)=_
 have e:∀ n:Int,vu.wrap n=n%256:=fun n=>by simp [IntKind.wrap,IntKind.bits,IntKind.signed]
 rw [BitVec.toNat_xor,h1,h2,e];omega
theorem zIT {bs:List Nat} {i ch:Nat} (hi:i<bs.length) (h0:ch≠0) (hc:ch<256) (hb:∀ x∈bs,x<256) :
  bs.getD i 0<256 /\ bs.set i (bs.getD i 0 ^^^ ch)≠bs /\ (bs.set i (bs.getD i 0 ^^^ ch)).length=bs.length /\ (∀ x∈bs.set i (bs.getD i 0 ^^^ ch),x<256) /\ (∀ k,k <= i -> (bs.set i (bs.getD i 0 ^^^ ch)).take k=bs.take k):=by
 have hg:bs.getD i 0=bs[i]:=by rw [Fb,Qb hi];rfl
 have h1:bs.getD i 0<256:=by rw [hg];exact hb _ (He hi)
 refine ⟨h1,fun e=>?_,List.length_set,fun x hx=>?_,fun k hk=>List.take_set_of_le hk⟩
 ·have e2:(bs.set i (bs.getD i 0 ^^^ ch))[i]?=bs[i]?:=by rw [e]
  rw [List.getElem?_set_self hi,Qb hi,hg] at e2;have e3:bs[i] ^^^ ch=bs[i]:=Ya e2;have:bs[i] ^^^ (bs[i] ^^^ ch)=bs[i] ^^^ bs[i]:=by rw [e3]
  rw [<- Nat.xor_assoc,Nat.xor_self,Nat.zero_xor] at this;exact h0 this
 ·rcases List.mem_or_eq_of_mem_set hx with e | e
  ·exact hb x e
  ·rw [e]
   exact Nat.xor_lt_two_pow (n:=8) zO zO
theorem zCX {pre bs:List Nat} {i x:Nat} (hp:pre.length=4) (h:bs[i]?=vE x):(U8 (pre++bs))[4+i]?=vE (vd vu x):=by
 unfold U8;rw [ot,jt zO,hp,TB,h]
 rfl
theorem zIS {pre bs:List Nat} {i z:Nat} (hp:pre.length=4):(U8 (pre++bs)).set (4+i) (vd vu z)=U8 (pre++bs.set i z):=by
 unfold U8;rw [<- List.map_set (f:=fun n:Nat=>vd vu n),List.set_append,ya zO,hp,TB]
theorem zJp (W:vw) (Eh:Array vx) (f0:Fits prog W 32 (vf Eh).cells.toList) (n1:Int) (f1:(Lit.int .u32 n1).wf=true) (n2:Int) (f2:(Lit.int vu n2).wf=true) :
  vB prog 12 #[vf Eh,vd .u32 n1,vd vu n2] W fun e W'=>e=vl (.bool true) /\ vA W.1.size W W':=by
 obtain ⟨p,pub,vars,A,B,n,c,m,d,rows,ws,bl,bw,qs,coin,Gg,real,rfl,Pc,XM,hseed⟩:=zGr f0;obtain ⟨Ch,rfl,zg⟩:=zJR f1;obtain ⟨ch,rfl,Kt⟩:=zJS f2;clear f0 f1 f2 hseed;have da:vA W.1.size W (W.alloc (.cells #[vd vn p,vd vq pub,vd vq vars,ve A n c,vd vq bl,vd vq bw,vd vq qs,ve B m d,vd vn coin, .bool real,vd vn Gg] 32)):=(tb _ W).alloc zR _;have kc0:=Blk.new W 32 #[vd vn p,vd vq pub,vd vq vars,ve A n c,vd vq bl,vd vq bw,vd vq qs,ve B m d,vd vn coin, .bool real,vd vn Gg];have HR:=zH (fun w' (hb:vA W.1.size W w')=>zH5 p pub vars A B n c m d rows ws bl bw qs coin Gg real w' (Pg Og _ _ _ _ hb Pc.rows) (Ab hb Pc.ws) Pc.p)
 have HAw:=zH (fun w=>zCM w)
 have HRl:=zH (fun w=>zAC w)
 have Pf:=zH (show Nv ⟨false,0,0,[]⟩ 0 from zAF true 0 zD)
 have Yq:=zH Pc;have HCN:=zH XM;have Hl:=zH zg;have AE:=zH Kt;have gm:=Mm (Ob Pc.ws).2.1 (Ob Pc.ws).2.2.1;clear Pc XM zg Kt;go_enter func12,ntmps12
 go_upto_region 1 with fail
 generalize W.alloc _=w0 at da kc0 |-;have c0:=kc0.cell;go_wp2_with fail
 refine (HR.out _ da).mono ?_;rintro e w1 ⟨⟨cL,eL⟩,hb⟩;obtain ⟨y0,y1,y2,y3,y4,y5,y6,y7,y8,y9,se,b,s,rfl,hL⟩:=cL;have Ib:=ma da hb;have kc:=ia kc0 hb;clear hb da kc0 c0 HR;have Gb:=Ib.alloc Ib.size (.cells #[vd vn y0,vd vq y1,vd vq y2,vd vq y3,vd vq y4,vd vq y5,vd vq y6,vd vq y7,vd vq y8,vd vq y9,vd vq se] 35);by_cases zj:(b=true /\ s=true) /\ ch≠0
 rotate_left
 ·have hh:b=false \/ (b=true /\ s=false) \/ (b=true /\ s=true /\ ch=0):=by
   cases b <;> cases s <;> simp at zj |-
   exact zj
  clear hL eL zj kc;rcases hh with rfl | ⟨rfl,rfl⟩ | ⟨rfl,rfl,rfl⟩
  all_goals
   go_wp2_with fail
   refine (HAw.out _).mono ?_;rintro e w2 ⟨rfl,Ba⟩;replace Gb:=ma Gb Ba;go_wp2_with fail
   refine (HAw.out _).mono ?_;rintro e w3 ⟨rfl,Ta⟩;go_wp2;go_ret
   exact ⟨rfl,ma Gb Ta⟩
 obtain ⟨⟨rfl,rfl⟩,hch0⟩:=zj;obtain ⟨L,Xa,ff,hn64,h40,xy⟩:=hL rfl;have hT:=eL _ _ rfl;obtain ⟨rfl,rfl,rfl,rfl,rfl,rfl,rfl,rfl,rfl,rfl,rfl⟩:=yQ xy;obtain ⟨j,hj⟩:=Xa.n;obtain ⟨pu,rfl⟩:=dk ff.pub;obtain rfl:L.p=p:=ff.p;have Uy:=kc.alloc (.cells #[vd vn L.p,vd vq L.block,vd vq L.queries,vd vq L.k,vd vq L.n,vd vq L.secret,vd vq L.rows,vd vq L.a,vd vq L.b,vd vq L.b,vd vq L.b] 35);have HL:=zH Xa;have HF:=zH ff;have HT:=zH hT;have H40:=zH h40;have HJ:=zH hj;have Fk:=Blk.new w1 35 #[vd vn L.p,vd vq L.block,vd vq L.queries,vd vq L.k,vd vq L.n,vd vq L.secret,vd vq L.rows,vd vq L.a,vd vq L.b,vd vq L.b,vd vq L.b];have hgy:=kc.lt;have g1:¬((ch:Int)=0):=by omega
 have HC0:=zH hch0;clear xy hL eL Xa ff hn64 h40 hT hj Ib kc hch0;go_wp2_with fail
 generalize w1.alloc _=w2 at Gb Uy Fk |-;generalize w1.1.size=gy at Fk hgy |-;refine (HAw.out _).mono ?_;rintro e w3 ⟨rfl,Ta⟩;replace Uy:=ia Uy Ta;replace Fk:=ia Fk Ta;replace Gb:=ma Gb Ta;clear Ta HAw;have cc:=Uy.cell;have lc:=Uy.lt;go_wp2_with fail
 refine (HRl.out _).mono ?_;rintro e wB ⟨ga,F1,rfl,h1,hF1,xa⟩;have Zp:=zH h1;have HFa:=zH (show ∀ b,F1 b -> gy<b from fun b hb=>by have h:=hF1 b hb;have:=Fk.lt;omega)
 replace Uy:=ia Uy xa;replace Fk:=ia Fk xa;replace Gb:=ma Gb xa;clear cc lc HRl h1 hF1 xa;obtain ⟨O,hO⟩:∃ O:Da,O=⟨false,0,0,[]⟩:=⟨_,rfl⟩;rw [<- hO] at Zp Pf;clear hO;have nF0:¬F1 W.1.size:=fun e=>by have:=HFa.out _ e;omega
 have nFy:¬F1 gy:=fun e=>by have:=HFa.out _ e;omega
 have hp:=zAl (K:=fun b=>b<W.1.size) Zp.out L j pu coin vars bl bw qs A B vD n c m d 0 0 rows ws [] real Gg HL.out HJ.out HF.out H40.out HT.out HCN.out (fun x a=>⟨WK (Pg Og) Yq.out.rows Gb x a,WK tD Yq.out.ws Gb x a,aK x⟩) (fun b hb=>⟨pd hb Gb.size,fun e=>by have:=HFa.out b e;omega⟩) (Le Pf.out.le zO)
 unfold uT ib at hp;have HP:=zH hp;have cc:=Uy.cell;clear hp;go_wp2_with fail
 refine HP.out.mono ?_;rintro e wV ⟨C,S,F2,hC,rfl,h2,m2,Kd⟩;have HC:=zH hC;obtain ⟨P,hP⟩:=zEX ((xf L j pu vars rows ws C).pr O);obtain ⟨OF,FI⟩:=zEX ((xf L j pu vars rows ws C).oF O);rw [<- hP] at Kd |-;rw [<- FI] at h2;have nG:=zBK (vars:=vars) (rows:=rows) (ws:=ws) (pu:=pu) HL.out HJ.out hC Pf.out;rw [<- hP] at nG;have JS:=zH nG;have xd:=zH (BK Gb m2 fun b hb=>by have:=HFa.out b hb;omega)
 have n20:=Td m2 Uy.lt nF0;have ny:=Td m2 Fk.lt nFy;replace Fk:=Fk.moved m2 nFy;have kc:=Uy.moved m2 nF0;have Wq:=zH (show ∀ b,F2 b -> W.1.size <= b from fun b hb=>(m2.foot b hb).elim (fun h=>by have:=HFa.out b h;omega) fun h=>by have:=Gb.size;omega)
 obtain ⟨KP,CI⟩:∃ KP:Nat -> Prop,KP=fun b=>wB.1.size <= b /\ b<wV.1.size /\ ¬F2 b:=⟨_,rfl⟩
 rw [<- CI] at Kd;have nH:=zH (show ∀ b,KP b -> b<wV.1.size /\ ¬F2 b by rw [CI];exact fun b h=>h.2)
 have om:=zH Kd;have mg:=zH h2;have IE:=zH hP;have HOE:=zH FI;clear hC Kd h2 m2 CI hP FI nG cc HP Uy Gb nF0 nFy;unfold Wd;obtain ⟨kl,kp,Db,kJ⟩:=Yg wV 101 46 #[vd vn L.p,vd vq L.block,vd vq L.queries,vd vq L.k,vd vq L.n,vd vq L.secret,vd vq L.rows,vd vq L.a,vd vq L.b,vd vq L.b,vd vq L.b] #[vd vn P.root,ve S.A1 S.n1 S.c1,ve S.A2 S.n2 S.c2,ve S.A3 S.n3 S.c3,ve S.A4 S.n4 S.c4,ve S.A5 S.n5 S.c5,ve S.A6 S.n6 S.c6];have nFl:¬F2 wV.1.size:=fun e=>by have:=mg.out.lt _ e;omega
 have FD:¬F2 (wV.1.size+1):=fun e=>by have:=mg.out.lt _ e;omega
 replace kc:=ia kc Db;replace Fk:=ia Fk Db;have s4:=Db.size;go_upto_region 8 with fail
 generalize (wV.alloc _).alloc _=w4 at kl kp kc Fk Db kJ s4 |-;replace mg:=zH (mg.out.below Db);replace xd:=zH (ma xd.out Db);replace om:=zH (te om.out (yg Db));generalize xA:wV.1.size=gl at kl kp nFl FD kJ |-;obtain ⟨gp,yw⟩:=zEX (gl+1);rw [<- yw] at kp FD |-;clear Db xA yw kJ s4;obtain ⟨hwv,-,Jm⟩:=wK HT.out.asg;have hmw:=(Ob Yq.out.ws).1;have Nt:=(Ob Yq.out.ws).2.1;have hpv0:(pu:Int)<vars:=HF.out.vars;have ss:pu<m:=by omega
 have hv6:pu<65536:=by have:=fK HT.out.tab;omega
 obtain ⟨e0,he0⟩:=zEX (1+pu);have e1:(1:Int)+pu=(e0:Int):=by omega
 have e2:=Qc e0;have e3:(1:Int)<=e0:=by omega
 have e4:(e0:Int)<=d:=by omega
 have e5:e0-1=pu:=by omega
 have uH:=zH (fun u (h:RWd u [ve B m d] ws)=>dO (k:=pu) (BL h (t:=1) zO) zO)
 obtain ⟨BP,AI⟩:∃ BP,(if d=1 then B else Option.map (fun y:vy=>y.add 1) B)=BP:=⟨_,rfl⟩
 rw [AI] at uH;have hBP2:(if d=1 then B else Option.map (fun x=>(⟨x.block,x.off+1,vD⟩:vy)) B)=BP:=AI
 have HBP:=zH hBP2;clear hpv0 hmw hwv Jm he0 AI hBP2 Nt;have hold:=fun (u:vw) (hb:vA W.1.size W u)=>show Hd (fun b=>b<W.1.size) u (fun u=>RSl 3 je u [ve A n c] rows /\ RWd u [ve BP pu (d-1)] ((ws.drop 1).take pu)) from fun x a=>⟨WK (Pg Og) Yq.out.rows hb x a,uH.out x (WK tD Yq.out.ws hb x a)⟩
 have cV:oc OF 100000:=by rw [HOE.out];exact eW HL.out HJ.out Pf.out zD
 have Ei:yf OF:=fun q hq=>(mg.out.ok.qs q hq).ans
 have iN:=B8 (qh om.out);have NU:=OZ L j P (zQ (Rb HL.out.p)) iN JS.out;have oN:=zBj L j HL.out (UJ HJ.out HL.out.n2) H40.out;have pA:=fun (cc:List Nat)=>zCV (bl:=bl) (bw:=bw) (qs:=qs) HL.out HJ.out HF.out HT.out HC.out Pf.out (by rw [<- HOE.out];exact cV) (by rw [<- HOE.out];exact Ei) (by rw [<- IE.out];exact iN) (c:=cc)
 rw [<- IE.out,<- HOE.out] at pA;obtain ⟨bs,zj⟩:=zEX (xo (dh P));obtain ⟨nb,Gw⟩:=zEX (8*(dh P).length);have aQ:nb=bs.length:=by rw [Gw,zj,CK]
 have hnb0:0<nb:=by rw [Gw];unfold dh;simp only [jj,Jg,List.length_nil];omega
 rw [<- zj] at NU pA;have aV:gh L j=nb:=by rw [aQ];exact NU.2.symm
 have Y4:∀ x∈bs,x<256:=by rw [zj];exact qZ _
 have hE:=fun (u:vw) (h:Ji u P S)=>zGV L j P S u HL.out HJ.out (UJ HJ.out HL.out.n2) H40.out h JS.out
 unfold EncF at hE;rw [<- Gw,<- zj] at hE;unfold ib Wd at hE;have hSz:=fun (u:vw)=>zIU L j u HL.out HJ.out (UJ HJ.out HL.out.n2)
 rw [aV] at hSz;unfold ib at hSz;have hLg:=fun (u:vw)=>U6 L u HL.out
 unfold ib at hLg;have QU:8*(1+(L.k+(L.k+L.block-1)+(2*L.k-1)))<nb:=by
  rw [<- aV];unfold gh;have:=Nat.mul_pos (show 0<L.queries from HL.out.q1) (show 0<L.a+L.b+L.b+L.b+3+1+j by omega)
  omega
 obtain ⟨l1,Bk⟩:=zEX (L.k+L.block-1);obtain ⟨l2,Yr⟩:=zEX (2*L.k-1);rw [<- Bk,<- Yr] at hLg pA QU;obtain ⟨fr,Ip⟩:=zEX (8*(1+(L.k+l1+l2)));rw [<- Ip] at pA QU;have hnb8:nb <= 48000:=by omega
 obtain ⟨s1,Xc⟩:=zEX (1+L.k);obtain ⟨s2,Dd⟩:=zEX (s1+l1);obtain ⟨s3,JA⟩:=zEX (s2+l2);obtain ⟨dn,hdn⟩:=zEX (nb-fr);have k1:(1:Int)+L.k=(s1:Int):=by omega
 have k2:(s1:Int)+l1=(s2:Int):=by omega
 have k3:(s2:Int)+l2=(s3:Int):=by omega
 have k4:(8:Int)*s3=(fr:Int):=by omega
 have k5:(nb:Int)-fr=(dn:Int):=by omega
 have u1:=Qc s1;have u2:=Qc s2;have u3:=Qc s3;have u4:=Qc fr;have u5:=Qc dn;have u6:IntKind.u32.wrap (dn:Int)=dn:=zCe _ zO;obtain ⟨r1,r2,-,-,r3,r4,r5⟩:=UW Ch dn zO;have Nw:Ch%dn<dn:=mc _ zO;obtain ⟨r,hr⟩:=zEX (Ch%dn);rw [<- hr] at r1 r2 Nw;obtain ⟨ix,hix⟩:=zEX (fr+r);have k6:(fr:Int)+r=(ix:Int):=by omega
 have u7:=Qc r;have u8:IntKind.u32.wrap (r:Int)=r:=zCe _ zO;have u9:=Qc ix;have hixn:ix<nb:=by omega
 have k7:(0:Int)<=ix:=by omega
 have k8:(ix:Int)<nb:=by omega
 obtain ⟨x1,x2,x3,x4,x5⟩:=zIT (bs:=bs) (i:=ix) (ch:=ch) zO HC0.out AE.out Y4;have hxx:=zCS (bs.getD ix 0) ch x1 AE.out;obtain ⟨z,hz⟩:=zEX (bs.getD ix 0 ^^^ ch);rw [<- hz] at x2 x3 x4 x5 hxx;have HB10:=zH (pA (bs.set ix z) x3 x4 (x5 fr zO) x2);have HX4:=zH x4;have HX3:=zH (x3.trans aQ.symm);obtain ⟨xv,hxv⟩:=zEX (bs.getD ix 0);rw [<- hxv] at hxx;have HXV:=zH (show bs[ix]?=vE xv by rw [hxv,Fb,Qb zO];rfl)
 have HOLD:=zH hold;have HOFL:=zH cV;have HE:=zH hE;have HSz:=zH hSz;have HLg:=zH hLg;have HNBL:=zH aQ;have HN0:=zH hnb0;clear hold cV Ei iN NU oN pA aV Y4 hE hSz hLg QU Bk Yr Ip Xc Dd JA hdn hr hix x1 x2 x3 x4 x5 hz hxv zj Gw aQ hnb0 HCN Pf JS;have cl:=kl.cell;have cp:=kp.cell;go_wp2_with fail
 refine (HE.out _ (qh om.out)).mono ?_;rintro e w5 ⟨gE,cE,rfl,Hw,hE1,hE2,Za⟩;have lgE1:=(Hw.lt gE rfl).1;have nFE:¬F2 gE:=fun e=>by have:=mg.out.lt _ e;omega
 have Il:=zH (show nb <= cE-4 /\ cE-4 <= maxLen by omega)
 have hEW:W.1.size+1 <= gE:=by have:=kc.lt;omega
 have hyE:gy<gE:=by have:=Fk.lt;omega
 replace kc:=ia kc Za;replace Fk:=ia Fk Za;replace mg:=zH (mg.out.below Za);replace xd:=zH (ma xd.out Za);clear hE1 hE2 Za cl cp kl kp nFl FD HE lgE1 om;have cy:=Fk.cell;go_wp2_with fail
 refine (HSz.out _).mono ?_;rintro e w6 ⟨rfl,xa⟩;replace kc:=ia kc xa;replace Fk:=ia Fk xa;replace Hw:=Mc Hw xa zR;replace mg:=zH (mg.out.below xa);replace xd:=zH (ma xd.out xa);clear xa cy HSz;have cy:=Fk.cell;go_wp2_with fail
 refine (HLg.out _).mono ?_;rintro e w7 ⟨rfl,xa⟩;replace kc:=ia kc xa;replace Fk:=ia Fk xa;replace Hw:=Mc Hw xa zR;replace mg:=zH (mg.out.below xa);replace xd:=zH (ma xd.out xa);clear xa cy HLg;obtain ⟨LA,ja⟩:=zN w7 108 #[vd vq L.k,vd vq l1,vd vq l2];replace kc:=ia kc ja;replace Hw:=Mc Hw ja zR;replace mg:=zH (mg.out.below ja);replace xd:=zH (ma xd.out ja);clear ja Fk;go_upto_region 12 with fail
 generalize w7.alloc _=w8 at kc Hw mg xd LA |-;have c16:=LA.cell;have cE4:w8.cell? ⟨gE,4+ix,vD⟩=vE (vd vu xv):=by
  rw [Hw.cellAt (4+ix) zO];exact zCX (yG _ _) HXV.out
 have fE4:=Hw.frozenAt (4+ix);go_upto_region 13 with fail
 go_upto_region 14 with fail
 have sg:=zI4 (w:=w8) gE (4+ix) (vd vu z);have ho9:=(Hw.stored (4+ix) (vd vu z)).1;rw [zIS (yG _ _)] at ho9;replace kc:=sg.blk kc zO;replace mg:=zH (sg.orc mg.out nFE);replace xd:=zH (sg.below xd.out zO);clear sg c16 cE4 fE4 Hw LA;generalize w8.setCell _ _=w9 at kc mg xd ho9 |-;have lgE:=(ho9.lt gE rfl).2;have HBY:=zH (show Hd (fun b=>b=gE) w9 (fun u=>Rd u 1 (vE ⟨gE,4,vD⟩) nb (U8 (bs.set ix z))) from fun u a=>zGC ho9 (yG _ _) HN0.out (a.block gE rfl lgE))
 obtain ⟨V,hV⟩:=zEX (tB OF L.p (pu:Int) vars rows bl bw qs ((ws.drop 1).take pu) (bs.set ix z));have HX:=HB10.out;rw [<- hV] at HX;have hOWN:∀ b,F2 b -> W.1.size+1 <= b:=fun b hb=>by
  have h1:=Wq.out b hb;have h2:b≠W.1.size:=fun e=>n20 (e ▸ hb)
  omega
 have HF3:=zH hOWN;have HVE:=zH hV;obtain ⟨N1,Ql⟩:=zEX (W.1.size+1);have Jl:=zH Ql;have l0:W.1.size<N1:=by omega
 have lN1:N1 <= w9.1.size:=by have:=kc.lt;omega
 have cc:=kc.cell;clear hV Ql hOWN HB10 ho9;refine zd (Fx N1) [17,21] [0,1,2,3,4,5,6,7,8,9,10,11,12,13,14,15,16,17,18,19,20,21,22,23] zK zK ?_;refine Ue (Be N1) ?_;intro Wc Ja ea;have Ma:=jg Ja;replace mg:=zH (mg.out.below Ma);replace xd:=zH (ma xd.out Ma);replace HBY:=zH (te HBY.out (yg Ma));replace lgE:=pd lgE Ma.size;replace lN1:=zb lN1 Ma.size;have Uc:=zHc (K:=fun b=>b<W.1.size \/ b=gE) mg.out L.p (pu:Int) vars bl bw qs A BP (vE ⟨gE,4,vD⟩) n c pu (d-1) nb (cE-4) rows ((ws.drop 1).take pu) (bs.set ix z) HT.out.small (W2 HF.out H40.out)
  (fun x a=>⟨(HOLD.out Wc xd.out x (wt a fun b hb=>.inl hb)).1,(HOLD.out Wc xd.out x (wt a fun b hb=>.inl hb)).2,HBY.out x (wt a fun b hb=>.inr hb)⟩) Il.out.1 Il.out.2 zO HX4.out
  (fun b hb=>hb.elim (fun h=>⟨pd h xd.out.size,fun e=>by have:=Wq.out b e;omega⟩) (fun h=>h ▸ ⟨lgE,nFE⟩)) HOFL.out
 rw [<- HVE.out] at Uc;have HVz:=zH Uc;clear Uc Ja Ma;refine ou ?_;rw [HBP.out];refine Ic (Be N1) rfl rfl rfl ((HVz.out).mono ?_);rintro e wX ⟨F3,rfl,ho3,yn⟩;refine ⟨_,rfl,E4 yn (fun b hb=>by rw [Jl.out];exact HF3.out b hb) lN1,?_⟩
 replace ea:=zM (Be N1) ea (E4 yn (fun b hb=>by rw [Jl.out];exact HF3.out b hb) lN1)
 refine zPU ?_;have HBX:=zH (BK xd.out yn Wq.out);have lX:N1 <= wX.1.size:=zb lN1 yn.size;clear yn HVz HBY xd;clear HVE;obtain ⟨v,Z⟩:=V;dsimp only at HX ho3 |-
 by_cases hv:v=10
 ·subst hv
  refine ou ?_;refine Hc ?_;clear ea;go_wp2;go_ret
  exact ⟨rfl,HBX.out⟩
 ·have Kg:=HX.resolve_left hv
  have HCl:=zH (zC9 ho3 Kg.2);have HNT:=zH (zDa Kg.1);clear Kg ho3 HX;have Uc:(v == (10:Int))=false:=Gd.2 hv;refine ou ?_;refine Ic (Be N1) rfl rfl rfl ((HCl.out).mono ?_);rintro e wY ⟨bb,rfl,hbT,xa⟩;refine ⟨_,rfl,dw xa lX,?_⟩;replace ea:=zM (Be N1) ea (dw xa lX);refine zPU ?_;obtain rfl:bb=true:=hbT HNT.out;have HBZ:=zH (ma HBX.out xa);clear hbT xa HCl;refine ou ?_;refine Hc ?_;clear ea;go_wp2;go_ret
  exact ⟨rfl,HBZ.out⟩
end Go.Proofs.YteoghgbnielkpaaGreat
