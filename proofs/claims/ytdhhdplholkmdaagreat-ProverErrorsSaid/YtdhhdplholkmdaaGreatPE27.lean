/- A part of the proof. No condition. -/
import Derived.Test.YtdhhdplholkmdaaGreatProg
import Derived.Test.YtdhhdplholkmdaaGreatPE21
import Derived.Test.YtdhhdplholkmdaaGreatPE24

namespace Go.Proofs.YtdhhdplholkmdaaGreat
open Go.RowKit
theorem X6:Tryz.prog.cellsOf 30=8:=by kernel_rfl
theorem XP:Tryz.prog.cellsOf 27=3:=by kernel_rfl
theorem Ve:Tryz.prog.cellsOf 33=1:=by kernel_rfl
structure UB (w:World) (p:Nat) (pub vars:Int) (A B:Option Addr) (n c m d:Nat) (rows:List Zv) (ws:List Nat):Prop where
 p:p<18446744073709551616
 rows:RSl 3 Z9 w [.slice A n c] rows
 ws:RWd w [.slice B m d] ws
theorem V8 {w:World} {cs:List Value} (hl:cs.length=8) (h:Fits Tryz.prog w 30 cs):∃ (p:Nat) (pub vars:Int) (A B:Option Addr) (n c m d:Nat) (rows:List Zv) (ws:List Nat) (bl bw qs:Int),cs=(JO p pub vars (.slice A n c) bl bw qs (.slice B m d)).toList∧UB w p pub vars A B n c m d rows ws:=by
 match cs,hl with
 | [x0,x1,x2,x3,x4,x5,x6,x7],_ =>
  obtain ⟨t,y,ht,h1,h2,h3,h4⟩:=U0 rfl (Zl (i:=0) Tryz.underlying30 rfl rfl VK h)
  have hx:=Zl (i:=1) Tryz.underlying30 rfl rfl XP h
  obtain ⟨a,ha,-⟩:=YF Tryz.underlying3 (Zl (i:=0) Tryz.underlying27 rfl rfl Yf hx)
  obtain ⟨b,hb,-⟩:=YF Tryz.underlying3 (Zl (i:=1) Tryz.underlying27 rfl rfl Yf hx)
  obtain ⟨e,he,-⟩:=YF Tryz.underlying3 (Zl (i:=2) Tryz.underlying27 rfl rfl Yf hx)
  obtain ⟨ws,hw⟩:=Yw Tryz.underlying28 Tryz.underlying22 Zz (Zl (i:=2) Tryz.underlying30 rfl rfl ZX h)
  simp at ht ha hb he hw
  obtain ⟨rfl,rfl,rfl,rfl⟩:=ht
  subst ha hb he
  obtain ⟨A,n,c,rfl⟩:=RSl.slc h4
  have hw2:=hw
  obtain ⟨B,m,d,he,-⟩:=hw
  simp at he
  subst he
  exact ⟨t.p,t.pub,t.vars,A,B,n,c,m,d,t.rows,ws,a,b,e,rfl,h1,h4,hw2⟩
end Go.Proofs.YtdhhdplholkmdaaGreat
namespace Go.Proofs.YtdhhdplholkmdaaGreat
open Go.RowKit Go.Maps
def Kt (O:Orc):Prop:=∀ q∈O.qs,q.ans<Xq
theorem OrcOk.ans {O:Orc} (h:OrcOk O):Kt O:=fun q hq=>(h.qs q hq).ans
end Go.Proofs.YtdhhdplholkmdaaGreat
