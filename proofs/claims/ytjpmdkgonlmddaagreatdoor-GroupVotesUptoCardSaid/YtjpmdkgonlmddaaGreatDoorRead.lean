import Derived.Test.YtjpmdkgonlmddaaGreatDoorTy
import Derived.Test.YtjpmdkgonlmddaaGreatDoorAbK
import Derived.Test.YtjpmdkgonlmddaaGreatDoorProg
set_option linter.unusedVariables false
set_option maxRecDepth 20000
namespace Go.T
open Go Go.Ab Go.Proofs
theorem Tx{B n:Nat}{cells:List AV}(h:WT Tryz.prog B n 41 cells):∃x:nh,cells=nh.c x∧nh.ok B x:=by
 obtain⟨n',h⟩:=HJ Tryz.underlying41 h
 obtain⟨a0,b0,e0,h0,a1,b1,e1,h1,a2,b2,e2,h2,a3,b3,e3,h3,a4,b4,e4,h4,a5,b5,e5,h5,a6,b6,e6,h6,a7,b7,e7,h7,ez⟩:=h
 obtain⟨x0,f0,o0⟩:=kH Tryz.underlying3 h0
 obtain⟨x1,f1,o1⟩:=kH Tryz.underlying3 h1
 obtain⟨x2,f2,o2⟩:=kH Tryz.underlying2 h2
 obtain⟨x3,f3,o3⟩:=xA Tryz.underlying9 h3
 obtain⟨x4,f4,o4⟩:=xA Tryz.underlying9 h4
 obtain⟨x5,f5,o5⟩:=xA Tryz.underlying9 h5
 obtain⟨x6,f6,o6⟩:=xA Tryz.underlying9 h6
 obtain⟨x7,f7,o7⟩:=kH Tryz.underlying2 h7
 refine⟨⟨x0,x1,x2,x3,x4,x5,x6,x7⟩,?_,o0,o1,o2,o3,o4,o5,o6,o7,trivial⟩
 subst ez;subst f7;subst e7;subst f6;subst e6;subst f5;subst e5;subst f4;subst e4;subst f3;subst e3;subst f2;subst e2;subst f1;subst e1;subst f0;subst e0;rfl
theorem Uv{B n:Nat}{cells:List AV}(h:WT Tryz.prog B n 43 cells):∃x:ni,cells=ni.c x∧ni.ok B x:=by
 obtain⟨n',h⟩:=HJ Tryz.underlying43 h
 obtain⟨a0,b0,e0,h0,a1,b1,e1,h1,a2,b2,e2,h2,a3,b3,e3,h3,a4,b4,e4,h4,a5,b5,e5,h5,a6,b6,e6,h6,a7,b7,e7,h7,ez⟩:=h
 obtain⟨x0,f0,o0⟩:=kH Tryz.underlying3 h0
 obtain⟨x1,f1,o1⟩:=kH Tryz.underlying3 h1
 obtain⟨x2,f2,o2⟩:=kH Tryz.underlying3 h2
 obtain⟨x3,f3,o3⟩:=kH Tryz.underlying3 h3
 obtain⟨x4,f4,o4⟩:=kH Tryz.underlying3 h4
 obtain⟨x5,f5,o5⟩:=kH Tryz.underlying3 h5
 obtain⟨x6,f6,o6⟩:=kH Tryz.underlying2 h6
 obtain⟨x7,f7,o7⟩:=xA Tryz.underlying9 h7
 refine⟨⟨x0,x1,x2,x3,x4,x5,x6,x7⟩,?_,o0,o1,o2,o3,o4,o5,o6,o7,trivial⟩
 subst ez;subst f7;subst e7;subst f6;subst e6;subst f5;subst e5;subst f4;subst e4;subst f3;subst e3;subst f2;subst e2;subst f1;subst e1;subst f0;subst e0;rfl
theorem Tw{B n:Nat}{cells:List AV}(h:WT Tryz.prog B n 45 cells):∃x:dP,cells=dP.c x∧dP.ok B x:=by
 obtain⟨n',h⟩:=HJ Tryz.underlying45 h
 obtain⟨a0,b0,e0,h0,a1,b1,e1,h1,a2,b2,e2,h2,a3,b3,e3,h3,a4,b4,e4,h4,a5,b5,e5,h5,a6,b6,e6,h6,a7,b7,e7,h7,a8,b8,e8,h8,a9,b9,e9,h9,Jy,Zw,Pj,rA,Zy,Zv,Ph,Pc,a12,Zu,Pg,Pb,ez⟩:=h
 obtain⟨x0,f0,o0⟩:=kH Tryz.underlying3 h0
 obtain⟨x1,f1,o1⟩:=kH Tryz.underlying3 h1
 obtain⟨x2,f2,o2⟩:=kH Tryz.underlying3 h2
 obtain⟨x3,f3,o3⟩:=kH Tryz.underlying3 h3
 obtain⟨x4,f4,o4⟩:=kH Tryz.underlying3 h4
 obtain⟨x5,f5,o5⟩:=kH Tryz.underlying3 h5
 obtain⟨x6,f6,o6⟩:=kH Tryz.underlying3 h6
 obtain⟨x7,f7,o7⟩:=kH Tryz.underlying3 h7
 obtain⟨x8,f8,o8⟩:=P8 Tryz.underlying4 h8
 obtain⟨x9,f9,o9⟩:=xA Tryz.underlying9 h9
 obtain⟨Ny,f10,NJ⟩:=kH Tryz.underlying2 rA
 obtain⟨Nx,f11,NI⟩:=Tx Pc
 obtain⟨Nw,f12,Cp⟩:=Uv Pb
 refine⟨⟨x0,x1,x2,x3,x4,x5,x6,x7,x8,x9,Ny,Nx,Nw⟩,?_,o0,o1,o2,o3,o4,o5,o6,o7,o8,o9,NJ,NI,Cp,trivial⟩
 subst ez;subst f12;subst Pg;subst f11;subst Ph;subst f10;subst Pj;subst f9;subst e9;subst f8;subst e8;subst f7;subst e7;subst f6;subst e6;subst f5;subst e5;subst f4;subst e4;subst f3;subst e3;subst f2;subst e2;subst f1;subst e1;subst f0;subst e0;rfl
end Go.T
