import Derived.Test.YtjpmdkgonlmddaaGreatDoorTy
import Derived.Test.YtjpmdkgonlmddaaGreatDoorAbK
import Derived.Test.YtjpmdkgonlmddaaGreatDoorProg
set_option linter.unusedVariables false
set_option maxRecDepth 20000
namespace Go.T
open Go Go.Ab Go.Proofs
theorem Zob{B n:Nat}{cells:List AV}(h:WT Tryz.prog B n 41 cells):∃x:Zdx,cells=Zdx.c x∧Zdx.ok B x:=by
 obtain⟨n',h⟩:=ZjT Tryz.underlying41 h
 obtain⟨a0,b0,e0,h0,a1,b1,e1,h1,a2,b2,e2,h2,a3,b3,e3,h3,a4,b4,e4,h4,a5,b5,e5,h5,a6,b6,e6,h6,a7,b7,e7,h7,ez⟩:=h
 obtain⟨x0,f0,o0⟩:=ZeH Tryz.underlying3 h0
 obtain⟨x1,f1,o1⟩:=ZeH Tryz.underlying3 h1
 obtain⟨x2,f2,o2⟩:=ZeH Tryz.underlying2 h2
 obtain⟨x3,f3,o3⟩:=ZkN Tryz.underlying9 h3
 obtain⟨x4,f4,o4⟩:=ZkN Tryz.underlying9 h4
 obtain⟨x5,f5,o5⟩:=ZkN Tryz.underlying9 h5
 obtain⟨x6,f6,o6⟩:=ZkN Tryz.underlying9 h6
 obtain⟨x7,f7,o7⟩:=ZeH Tryz.underlying2 h7
 refine⟨⟨x0,x1,x2,x3,x4,x5,x6,x7⟩,?_,o0,o1,o2,o3,o4,o5,o6,o7,trivial⟩
 subst ez;subst f7;subst e7;subst f6;subst e6;subst f5;subst e5;subst f4;subst e4;subst f3;subst e3;subst f2;subst e2;subst f1;subst e1;subst f0;subst e0;rfl
theorem ZmP{B n:Nat}{cells:List AV}(h:WT Tryz.prog B n 43 cells):∃x:Zcw,cells=Zcw.c x∧Zcw.ok B x:=by
 obtain⟨n',h⟩:=ZjT Tryz.underlying43 h
 obtain⟨a0,b0,e0,h0,a1,b1,e1,h1,a2,b2,e2,h2,a3,b3,e3,h3,a4,b4,e4,h4,a5,b5,e5,h5,a6,b6,e6,h6,a7,b7,e7,h7,ez⟩:=h
 obtain⟨x0,f0,o0⟩:=ZeH Tryz.underlying3 h0
 obtain⟨x1,f1,o1⟩:=ZeH Tryz.underlying3 h1
 obtain⟨x2,f2,o2⟩:=ZeH Tryz.underlying3 h2
 obtain⟨x3,f3,o3⟩:=ZeH Tryz.underlying3 h3
 obtain⟨x4,f4,o4⟩:=ZeH Tryz.underlying3 h4
 obtain⟨x5,f5,o5⟩:=ZeH Tryz.underlying3 h5
 obtain⟨x6,f6,o6⟩:=ZeH Tryz.underlying2 h6
 obtain⟨x7,f7,o7⟩:=ZkN Tryz.underlying9 h7
 refine⟨⟨x0,x1,x2,x3,x4,x5,x6,x7⟩,?_,o0,o1,o2,o3,o4,o5,o6,o7,trivial⟩
 subst ez;subst f7;subst e7;subst f6;subst e6;subst f5;subst e5;subst f4;subst e4;subst f3;subst e3;subst f2;subst e2;subst f1;subst e1;subst f0;subst e0;rfl
theorem Zoc{B n:Nat}{cells:List AV}(h:WT Tryz.prog B n 45 cells):∃x:Zau,cells=Zau.c x∧Zau.ok B x:=by
 obtain⟨n',h⟩:=ZjT Tryz.underlying45 h
 obtain⟨a0,b0,e0,h0,a1,b1,e1,h1,a2,b2,e2,h2,a3,b3,e3,h3,a4,b4,e4,h4,a5,b5,e5,h5,a6,b6,e6,h6,a7,b7,e7,h7,a8,b8,e8,h8,a9,b9,e9,h9,a10,b10,e10,h10,a11,b11,e11,h11,a12,b12,e12,h12,ez⟩:=h
 obtain⟨x0,f0,o0⟩:=ZeH Tryz.underlying3 h0
 obtain⟨x1,f1,o1⟩:=ZeH Tryz.underlying3 h1
 obtain⟨x2,f2,o2⟩:=ZeH Tryz.underlying3 h2
 obtain⟨x3,f3,o3⟩:=ZeH Tryz.underlying3 h3
 obtain⟨x4,f4,o4⟩:=ZeH Tryz.underlying3 h4
 obtain⟨x5,f5,o5⟩:=ZeH Tryz.underlying3 h5
 obtain⟨x6,f6,o6⟩:=ZeH Tryz.underlying3 h6
 obtain⟨x7,f7,o7⟩:=ZeH Tryz.underlying3 h7
 obtain⟨x8,f8,o8⟩:=Zsf Tryz.underlying4 h8
 obtain⟨x9,f9,o9⟩:=ZkN Tryz.underlying9 h9
 obtain⟨x10,f10,o10⟩:=ZeH Tryz.underlying2 h10
 obtain⟨x11,f11,o11⟩:=Zob h11
 obtain⟨x12,f12,o12⟩:=ZmP h12
 refine⟨⟨x0,x1,x2,x3,x4,x5,x6,x7,x8,x9,x10,x11,x12⟩,?_,o0,o1,o2,o3,o4,o5,o6,o7,o8,o9,o10,o11,o12,trivial⟩
 subst ez;subst f12;subst e12;subst f11;subst e11;subst f10;subst e10;subst f9;subst e9;subst f8;subst e8;subst f7;subst e7;subst f6;subst e6;subst f5;subst e5;subst f4;subst e4;subst f3;subst e3;subst f2;subst e2;subst f1;subst e1;subst f0;subst e0;rfl
end Go.T
