import Derived.Test.YtjpmdkgonlmddaaGreatDoorTy
import Derived.Test.YtjpmdkgonlmddaaGreatDoorAbK
import Derived.Test.YtjpmdkgonlmddaaGreatDoorProg
set_option linter.unusedVariables false
set_option maxRecDepth 20000
namespace Go.T
open Go Go.Ab Go.Proofs
theorem Zoj{B n:Nat}{cells:List AV}(h:WT Tryz.prog B n 41 cells):∃x:Ze2,cells=Ze2.c x∧Ze2.ok B x:=by
 obtain⟨n',h⟩:=ZjV Tryz.underlying41 h
 obtain⟨a0,b0,e0,h0,a1,b1,e1,h1,a2,b2,e2,h2,a3,b3,e3,h3,a4,b4,e4,h4,a5,b5,e5,h5,a6,b6,e6,h6,a7,b7,e7,h7,ez⟩:=h
 obtain⟨x0,f0,o0⟩:=ZeR Tryz.underlying3 h0
 obtain⟨x1,f1,o1⟩:=ZeR Tryz.underlying3 h1
 obtain⟨x2,f2,o2⟩:=ZeR Tryz.underlying2 h2
 obtain⟨x3,f3,o3⟩:=ZkS Tryz.underlying9 h3
 obtain⟨x4,f4,o4⟩:=ZkS Tryz.underlying9 h4
 obtain⟨x5,f5,o5⟩:=ZkS Tryz.underlying9 h5
 obtain⟨x6,f6,o6⟩:=ZkS Tryz.underlying9 h6
 obtain⟨x7,f7,o7⟩:=ZeR Tryz.underlying2 h7
 refine⟨⟨x0,x1,x2,x3,x4,x5,x6,x7⟩,?_,o0,o1,o2,o3,o4,o5,o6,o7,trivial⟩
 subst ez;subst f7;subst e7;subst f6;subst e6;subst f5;subst e5;subst f4;subst e4;subst f3;subst e3;subst f2;subst e2;subst f1;subst e1;subst f0;subst e0;rfl
theorem ZmW{B n:Nat}{cells:List AV}(h:WT Tryz.prog B n 43 cells):∃x:ZdO,cells=ZdO.c x∧ZdO.ok B x:=by
 obtain⟨n',h⟩:=ZjV Tryz.underlying43 h
 obtain⟨a0,b0,e0,h0,a1,b1,e1,h1,a2,b2,e2,h2,a3,b3,e3,h3,a4,b4,e4,h4,a5,b5,e5,h5,a6,b6,e6,h6,a7,b7,e7,h7,ez⟩:=h
 obtain⟨x0,f0,o0⟩:=ZeR Tryz.underlying3 h0
 obtain⟨x1,f1,o1⟩:=ZeR Tryz.underlying3 h1
 obtain⟨x2,f2,o2⟩:=ZeR Tryz.underlying3 h2
 obtain⟨x3,f3,o3⟩:=ZeR Tryz.underlying3 h3
 obtain⟨x4,f4,o4⟩:=ZeR Tryz.underlying3 h4
 obtain⟨x5,f5,o5⟩:=ZeR Tryz.underlying3 h5
 obtain⟨x6,f6,o6⟩:=ZeR Tryz.underlying2 h6
 obtain⟨x7,f7,o7⟩:=ZkS Tryz.underlying9 h7
 refine⟨⟨x0,x1,x2,x3,x4,x5,x6,x7⟩,?_,o0,o1,o2,o3,o4,o5,o6,o7,trivial⟩
 subst ez;subst f7;subst e7;subst f6;subst e6;subst f5;subst e5;subst f4;subst e4;subst f3;subst e3;subst f2;subst e2;subst f1;subst e1;subst f0;subst e0;rfl
theorem Zok{B n:Nat}{cells:List AV}(h:WT Tryz.prog B n 45 cells):∃x:Zau,cells=Zau.c x∧Zau.ok B x:=by
 obtain⟨n',h⟩:=ZjV Tryz.underlying45 h
 obtain⟨a0,b0,e0,h0,a1,b1,e1,h1,a2,b2,e2,h2,a3,b3,e3,h3,a4,b4,e4,h4,a5,b5,e5,h5,a6,b6,e6,h6,a7,b7,e7,h7,a8,b8,e8,h8,a9,b9,e9,h9,a10,b10,e10,h10,a11,b11,e11,h11,a12,b12,e12,h12,ez⟩:=h
 obtain⟨x0,f0,o0⟩:=ZeR Tryz.underlying3 h0
 obtain⟨x1,f1,o1⟩:=ZeR Tryz.underlying3 h1
 obtain⟨x2,f2,o2⟩:=ZeR Tryz.underlying3 h2
 obtain⟨x3,f3,o3⟩:=ZeR Tryz.underlying3 h3
 obtain⟨x4,f4,o4⟩:=ZeR Tryz.underlying3 h4
 obtain⟨x5,f5,o5⟩:=ZeR Tryz.underlying3 h5
 obtain⟨x6,f6,o6⟩:=ZeR Tryz.underlying3 h6
 obtain⟨x7,f7,o7⟩:=ZeR Tryz.underlying3 h7
 obtain⟨x8,f8,o8⟩:=Zsh Tryz.underlying4 h8
 obtain⟨x9,f9,o9⟩:=ZkS Tryz.underlying9 h9
 obtain⟨x10,f10,o10⟩:=ZeR Tryz.underlying2 h10
 obtain⟨x11,f11,o11⟩:=Zoj h11
 obtain⟨x12,f12,o12⟩:=ZmW h12
 refine⟨⟨x0,x1,x2,x3,x4,x5,x6,x7,x8,x9,x10,x11,x12⟩,?_,o0,o1,o2,o3,o4,o5,o6,o7,o8,o9,o10,o11,o12,trivial⟩
 subst ez;subst f12;subst e12;subst f11;subst e11;subst f10;subst e10;subst f9;subst e9;subst f8;subst e8;subst f7;subst e7;subst f6;subst e6;subst f5;subst e5;subst f4;subst e4;subst f3;subst e3;subst f2;subst e2;subst f1;subst e1;subst f0;subst e0;rfl
end Go.T
