/- A part of the proof. No condition. -/
import Derived.Test.YtakjnmojigechaaGreatProg
import Derived.Test.YtakjnmojigechaaGreatJB34
import Derived.Test.YtakjnmojigechaaGreatJB42
import Derived.Test.YtakjnmojigechaaGreatJB23

namespace Go.Proofs.YtakjnmojigechaaGreat
open Go.RowKit
theorem xZ:Tryz.prog.cellsOf 35=14:=by kernel_rfl
theorem yZ:Tryz.prog.cellsOf 32=3:=by kernel_rfl
theorem Kt:Tryz.prog.cellsOf 50=1:=by kernel_rfl
theorem kS:Tryz.prog.cellsOf 33=1:=by kernel_rfl
theorem VU {w w':World} {L:ZO} {p pu:Nat} {vars:Int} {rows:List Ya} {ws:List Nat} {seed:Nat} {vm c0 c1 c2 c3 c4:Value} {M:List (List Nat)} (h:Below w.heap.size w w') (k:zEk w L p pu vars rows ws seed vm c0 c1 c2 c3 c4 M):zEk w' L p pu vars rows ws seed vm c0 c1 c2 c3 c4 M :=
 ⟨k.ok,k.p,k.tf,k.vo,k.len,k.ws,k.ml,k.mr,k.mlt,Zx _ _ _ _ h k.m,Zx _ _ _ _ h k.r,Zc _ _ _ _ h k.co,Zc _ _ _ _ h k.li,Zc _ _ _ _ h k.qu,Zc _ _ _ _ h k.sa⟩
structure zH9 (w:World) (p:Nat) (pub vars:Int) (A B A1 B1:Option Addr) (n c m d na ca nb cb:Nat) (rows:List Ya) (ws lat lby:List Nat) (seed:Nat):Prop where
 p:p<18446744073709551616
 rows:RSl 3 Xb w [.slice A n c] rows
 ws:RWd w [.slice B m d] ws
 seed:seed<18446744073709551616
 lat:RSl 1 R16 w [.slice A1 na ca] lat
 lby:RWd w [.slice B1 nb cb] lby
theorem V7 {w:World} {cs0:Array Value} (f0:Fits Tryz.prog w 35 (Value.agg cs0).cells.toList) :
  ∃ (p:Nat) (pub vars:Int) (A B A1 B1:Option Addr) (n c m d na ca nb cb:Nat) (rows:List Ya) (ws lat lby:List Nat) (bl bw qs:Int) (seed al rho be:Nat),cs0=J9 p pub vars (.slice A n c) bl bw qs (.slice B m d) seed al rho be (.slice A1 na ca) (.slice B1 nb cb)∧zH9 w p pub vars A B A1 B1 n c m d na ca nb cb rows ws lat lby seed:=by
 have e1:(Value.agg cs0).cells=cs0:=rfl
 rw [e1] at f0
 clear e1
 have hl:=(KD Tryz.underlying35 f0).1
 rw [xZ] at hl
 obtain ⟨cs,hcs⟩:∃ cs:List Value,cs0.toList=cs:=⟨_,rfl⟩
 rw [hcs] at hl f0
 obtain rfl:cs0=cs.toArray:=by rw [←hcs]
 clear hcs
 match cs,hl with
 | [x0,x1,x2,x3,x4,x5,x6,x7,x8,x9,x10,x11,x12,x13],_ =>
  obtain ⟨p,pub,vars,A,B,n,c,m,d,rows,ws,bl,bw,qs,hc,hin⟩:=zA7 rfl (Z5 (i:=0) Tryz.underlying35 rfl rfl xR f0)
  obtain ⟨seed,hs,hs1⟩:=UE Tryz.underlying22 (Z5 (i:=1) Tryz.underlying35 rfl rfl Xf f0)
  have hx:=Z5 (i:=2) Tryz.underlying35 rfl rfl yZ f0
  obtain ⟨al,ha,-⟩:=UE Tryz.underlying22 (Z5 (i:=0) Tryz.underlying32 rfl rfl Xf hx)
  obtain ⟨rho,hb,-⟩:=UE Tryz.underlying22 (Z5 (i:=1) Tryz.underlying32 rfl rfl Xf hx)
  obtain ⟨be,he,-⟩:=UE Tryz.underlying22 (Z5 (i:=2) Tryz.underlying32 rfl rfl Xf hx)
  obtain ⟨lat,hat⟩:=yG (R:=R16) 1 Tryz.underlying33 Kt (fun cs' _ hf=>by
   obtain ⟨x,rfl,hw⟩:=JM Tryz.underlying50 hf
   have hx:0≤x∧x≤65535:=by simpa [Lit.wf,IntKind.min,IntKind.max,IntKind.signed,IntKind.bits] using hw
   obtain ⟨y,rfl⟩:=Int.eq_ofNat_of_zero_le hx.1
   exact ⟨y,rfl,by omega⟩) (Z5 (i:=3) Tryz.underlying35 rfl rfl kS f0)
  obtain ⟨lby,hby⟩:=yK Tryz.underlying28 Tryz.underlying22 Xf (Z5 (i:=4) Tryz.underlying35 rfl rfl Gg f0)
  simp [xM] at hc hs ha hb he hat hby
  obtain ⟨A1,na,ca,e1,-⟩:=id hat
  obtain ⟨B1,nb,cb,e2,-⟩:=id hby
  simp only [List.cons.injEq,and_true] at e1 e2
  subst hs ha hb he e1 e2
  obtain ⟨rfl,rfl,rfl,rfl,rfl,rfl,rfl,rfl⟩:=hc
  exact ⟨p,pub,vars,A,B,A1,B1,n,c,m,d,na,ca,nb,cb,rows,ws,lat,lby,bl,bw,qs,seed,al,rho,be,rfl,hin.p,hin.rows,hin.ws,hs1,hat,hby⟩
theorem Jj {L:ZO} {a b c:List Nat} (hp:L.p<18446744073709551616) (h:Vc L a b c=true):(∀ x∈a,x<18446744073709551616)∧(∀ x∈b,x<18446744073709551616)∧(∀ x∈c,x<18446744073709551616):=by
 unfold Vc at h
 simp only [Bool.and_eq_true,List.all_eq_true,decide_eq_true_eq] at h
 exact ⟨fun x hx=>Nat.lt_trans (h.1.1.2 x hx) hp,fun x hx=>Nat.lt_trans (h.1.2 x hx) hp,fun x hx=>Nat.lt_trans (h.2 x hx) hp⟩
end Go.Proofs.YtakjnmojigechaaGreat
