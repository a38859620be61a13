import Derived.Test.YtjpmdkgonlmddaaGreatDoorSem
import Derived.Test.YtjpmdkgonlmddaaGreatDoorLib
set_option linter.unusedVariables false
set_option maxRecDepth 200000
set_option maxHeartbeats 4000000
namespace Go.T
open Go Go.Ab Go.Proofs
theorem mixed:Tryz.prog.follows .mixedOrders=true:=by kernel_rfl
abbrev FZ(ml:Gv):=FC Tryz.prog (GM ml)
def qq:List AV:=[aI 0,.dK,aI 0,aI 0,aI 0,aI 0,aI 0,aI 0,.dK,.str [],aI 0,aI 0,aI 0,.dK,.dK,.dK]
def Qu:List AV:=[aI 0,aI 0,aI 0,.str []]
abbrev eG(l:List (Int×ai)):=fI (λ k:Int=>AV.int .i64 k) ai.g l
abbrev gH(l:List (Int×ai))(k:Int)(n:Nat):AO:=.cF (eG l) (some ((mix k l).getD 0,n))
abbrev mP(m:List (ax×Int)):AO:=.bm true (fH (λ k:ax=>AV.agg k.c) (λ k:Int=>AV.int .i64 k) m)
abbrev fS(l:List (aj×aa)):AO:=.cw 1 (eD (λ k:aj=>AV.str k) (cn .u8) l) none
theorem gF{m:Nat}{rv v:AV}{os cr:Ab.Os}(o qo:Nat)(L:List (Int×ai))(q:Int)(x:ai)(V:bL)(k:jD m rv cr v (ia os ((o,some (.cF (eG (bW q x L)) none))::V.map λ q=>(q,none))))
 (hs:(az q L).isSome=true:=by assumption) (h1:lk os o=some (.cF (eG L) (some ((mix q L).getD 0,qo))):=by exact rfl) (h3:(decide (V.length=(ai.g x).length)&&decide V.Nodup&&decide (o∉V)&&decide (V.getD 0 0=qo))=true:=by exact rfl)
 (h4:vz os (λ n=>V.getD n 0) 0 (ai.g x):=by repeat' first|exact AS|refine AT _ rfl ?_ ?_|exact gO.eq rfl|exact gO.eq (YU (λ X=>AO.rows false [X]) rQ)|exact gO.eq (YU (AO.rows true) rQ))
 (h5:(kD (ai.g x)&&vU (ai.g x) 0 (ai.g x)&&nR (ai.g x).length (ai.g x))=true:=by exact rfl):jD m rv cr v os:=Iz (Xt L q x V _ h1 hs rfl h3 h4 h5 (.refl _)) k
abbrev cJ:=cn .i64
abbrev cB:=cn .u8
abbrev cU:=cn .u32
def T0(a:aa)(b:Bool)(c:List (Int×ai))(d:Int)(e:Bool)(f:List bx)(g h:aa)(i:List da)(j:List cD)(k:List (ax×Int)):Ab.Os:=[(0,rF [sM cJ a,.bm 1,pp 2,pp 3,.bf 4 2,.bf 5 1,.bf 6 1,.bf 7 2,.bool b]),(1,AO.cF (eG c) none),(2,rF [.bf 8 4,aI d,.bm 9]),(3,.rows true [(@eJ e)]),(4,rT bx.c f),(5,rT cJ g),(6,rT cU h),(7,rT da.c i),(8,rT cD.c j),(9,mP k)]
def T1(a:cP)(b c d:aa)(e:List cj):Ab.Os:=[(0,rF (cP.c a++[.bf 1 1,.bf 2 1,.bf 3 1,.bf 4 10])),(1,rT cJ b),(2,rT cJ c),(3,rT cJ d),(4,rT cj.c e)]
def T2(a:aa)(b:Bool)(c:List (Int×ai))(d e:Int)(f:Bool)(g:bD)(h:Bool)(i j:Int)(k:List (ax×Int))(l:Int)(m:bD)(n:List (aj×aa))(o:aj)(p q:Int):Ab.Os:=[(0,rF [sM cJ a,.bm 1,pp 2,pp 3,.bf 17 2,.bf 18 1,.bf 19 1,.bf 20 2,.bool b]),(1,gH c d 8),(2,rF [.bf 21 4,aI e,.bm 10]),(3,.rows true [(@eJ f)]),(8,rF ([pp 11,pp 12]++bD.c g++[.bool h,aI i,AV.int IntKind.u32 j])),(10,mP k),(11,rF [.bm 13,.bf 22 2,aI l]),(12,rF ([pp 15]++bD.c m)),(13,fS n),(15,rF [pp 11,.str o,aI p,aI q])]
def T3(a:aa)(b:Bool)(c:List (Int×ai))(d e:Int)(f:Bool)(g:bD)(h:Bool)(i j:Int)(k:List (ax×Int))(l:Int)(m:bD)(n:List (aj×aa))(o:aj)(p q:Int)(r:List bx)(s t:aa)(u:List da)(v:List cD)(w:List bP):Ab.Os:=[(0,rF [sM cJ a,.bm 1,pp 2,pp 3,.bf 16 2,.bf 17 1,.bf 18 1,.bf 19 2,.bool b]),(1,gH c d 8),(2,rF [.bf 20 4,aI e,.bm 10]),(3,.rows true [(@eJ f)]),(8,rF ([pp 11,pp 12]++bD.c g++[.bool h,aI i,AV.int IntKind.u32 j])),(10,mP k),(11,rF [.bm 13,.bf 21 2,aI l]),(12,rF ([pp 15]++bD.c m)),(13,fS n),(15,rF [pp 11,.str o,aI p,aI q]),(16,rT bx.c r),(17,rT cJ s),(18,rT cU t),(19,rT da.c u),(20,rT cD.c v),(21,rT bP.c w)]
def T4(a:aa)(b:Bool)(c:List (Int×ai))(d e:Int)(f:Bool)(g:List bx)(h i:aa)(j:List da)(k:bD)(l:Bool)(m n:Int)(o:List cD)(p:List (ax×Int))(q:Int)(r:bD)(s:List (aj×aa))(t:List bP)(u:aj)(v w:Int):Ab.Os:=[(0,rF [sM cJ a,.bm 1,pp 2,pp 3,.bf 4 2,.bf 5 1,.bf 6 1,.bf 7 2,.bool b]),(1,gH c d 8),(2,rF [.bf 9 4,aI e,.bm 10]),(3,.rows true [(@eJ f)]),(4,rT bx.c g),(5,rT cJ h),(6,rT cU i),(7,rT da.c j),(8,rF ([pp 11,pp 12]++bD.c k++[.bool l,aI m,AV.int IntKind.u32 n])),(9,rT cD.c o),(10,mP p),(11,rF [.bm 13,.bf 14 2,aI q]),(12,rF ([pp 15]++bD.c r)),(13,fS s),(14,rT bP.c t),(15,rF [pp 11,.str u,aI v,aI w])]
def T5(a:Int)(b:List (aj×aa))(c:List bP):Ab.Os:=[(0,rF [.bm 1,.bf 2 2,aI a]),(1,fS b),(2,rT bP.c c)]
def T6(a:Int)(b:List cD)(c:List (ax×Int)):Ab.Os:=[(0,rF [.bf 1 4,aI a,.bm 2]),(1,rT cD.c b),(2,mP c)]
def T7(a:Int)(b:List (aj×aa))(c d e f g h i:Int)(j:aj)(k l m n:Int)(o:aa)(p q r s t u:Int)(v:List bx)(w:aj)(x y z:Int)(A B C:aa)(D:aj)(E F:Int)(G:List bP):Ab.Os:=[(0,rF [.bm 1,.bf 6 2,aI a]),(1,fS b),(3,rF [aI c,.dK,aI d,aI e,aI f,aI g,aI h,aI i,.dK,.str j,aI k,aI l,aI m,.dK,.dK,.dK]),(4,rF [aI n,sM cJ o,aI p,aI q,aI r,aI s,aI t,aI u,sM bx.c v,.str w,aI x,aI y,aI z,sM cJ A,sM cJ B,sM cJ C]),(5,rF [pp 0,.str D,aI E,aI F]),(6,rT bP.c G)]
def T8(a:aa)(b:Bool)(c:bD)(d:Bool)(e f:Int)(g:List (Int×ai))(h i:Int)(j:Bool)(k:List bx)(l m:aa)(n:List da)(o:Int)(p:bD)(q:List cD)(r:List (ax×Int))(s:List (aj×aa))(t:List bP)(u:aj)(v w:Int):Ab.Os:=[(0,rF [sM cJ a,.bm 2,pp 3,pp 4,.bf 5 2,.bf 6 1,.bf 7 1,.bf 8 2,.bool b]),(1,rF ([pp 9,pp 10]++bD.c c++[.bool d,aI e,AV.int IntKind.u32 f])),(2,gH g h 1),(3,rF [.bf 11 4,aI i,.bm 12]),(4,.rows true [(@eJ j)]),(5,rT bx.c k),(6,rT cJ l),(7,rT cU m),(8,rT da.c n),(9,rF [.bm 13,.bf 14 2,aI o]),(10,rF ([pp 15]++bD.c p)),(11,rT cD.c q),(12,mP r),(13,fS s),(14,rT bP.c t),(15,rF [pp 9,.str u,aI v,aI w])]
def T9(a:cP)(b c d e f g:aa)(h:List cj):Ab.Os:=[(0,rF (cP.c a++[.bf 5 1,.bf 6 1,.bf 7 1,.bf 8 10])),(1,rT cJ b),(2,rT cJ c),(3,rT cJ d),(5,rT cJ e),(6,rT cJ f),(7,rT cJ g),(8,rT cj.c h)]
def Gk(a:aa)(b:Bool)(c:List (Int×ai))(d:Int)(e:Bool)(f:List (ax×Int))(g:List bx)(h i:aa)(j:List da)(k:List cD):Ab.Os:=[(0,rF [sM cJ a,.bm 1,pp 2,pp 3,.bf 10 2,.bf 11 1,.bf 12 1,.bf 13 2,.bool b]),(1,AO.cF (eG c) none),(2,rF [.bf 14 4,aI d,.bm 9]),(3,.rows true [(@eJ e)]),(9,mP f),(10,rT bx.c g),(11,rT cJ h),(12,rT cU i),(13,rT da.c j),(14,rT cD.c k)]
def Qj(a:aa)(b:Bool)(c:bD)(d:Bool)(e f:Int)(g:List (Int×ai))(h i:Int)(j:Bool)(k:Int)(l:bD)(m:List (ax×Int))(n:List (aj×aa))(o:aj)(p q:Int)(r:List bx)(s t:aa)(u:List da)(v:List cD)(w:List bP):Ab.Os:=[(0,rF [sM cJ a,.bm 2,pp 3,pp 4,.bf 16 2,.bf 17 1,.bf 18 1,.bf 19 2,.bool b]),(1,rF ([pp 9,pp 10]++bD.c c++[.bool d,aI e,AV.int IntKind.u32 f])),(2,gH g h 1),(3,rF [.bf 20 4,aI i,.bm 12]),(4,.rows true [(@eJ j)]),(9,rF [.bm 13,.bf 21 2,aI k]),(10,rF ([pp 15]++bD.c l)),(12,mP m),(13,fS n),(15,rF [pp 9,.str o,aI p,aI q]),(16,rT bx.c r),(17,rT cJ s),(18,rT cU t),(19,rT da.c u),(20,rT cD.c v),(21,rT bP.c w)]
def Ap(a:bD)(b:aj)(c d e:Int)(f:List (aj×aa))(g:List bP):Ab.Os:=[(0,rF ([pp 1]++bD.c a)),(1,rF [pp 2,.str b,aI c,aI d]),(2,rF [.bm 3,.bf 4 2,aI e]),(3,fS f),(4,rT bP.c g)]
def Qi(a:aa)(b:Bool)(c:bD)(d:Bool)(e f:Int)(g:List (Int×ai))(h i:Int)(j:Bool)(k:List bx)(l m:aa)(n:List da)(o:Int)(p:List cD)(q:List (ax×Int))(r:List (aj×aa))(s:List bP):Ab.Os:=[(0,rF [sM cJ a,.bm 2,pp 3,pp 4,.bf 5 2,.bf 6 1,.bf 7 1,.bf 8 2,.bool b]),(1,rF ([pp 9,AV.eT (Value.pointer none)]++bD.c c++[.bool d,aI e,AV.int IntKind.u32 f])),(2,gH g h 1),(3,rF [.bf 10 4,aI i,.bm 11]),(4,.rows true [(@eJ j)]),(5,rT bx.c k),(6,rT cJ l),(7,rT cU m),(8,rT da.c n),(9,rF [.bm 12,.bf 13 2,aI o]),(10,rT cD.c p),(11,mP q),(12,fS r),(13,rT bP.c s)]
def yK(a:Int)(b:List (aj×aa))(c:List bP):Ab.Os:=[(0,rF [.bm 1,.bf 3 2,aI a]),(1,fS b),(3,rT bP.c c)]
def Ao(a:aj)(b c d:Int)(e:List (aj×aa))(f:List bP):Ab.Os:=[(0,rF [pp 1,.str a,aI b,aI c]),(1,rF [.bm 2,.bf 4 2,aI d]),(2,fS e),(4,rT bP.c f)]
def An(a:Int)(b:List (ax×Int))(c:List cD):Ab.Os:=[(0,rF [.bf 3 4,aI a,.bm 2]),(2,mP b),(3,rT cD.c c)]
def yJ(a:cP)(b c d:aa)(e:List cj):Ab.Os:=[(0,rF (cP.c a++[.bf 5 1,.bf 6 1,.bf 7 1,.bf 8 10])),(5,rT cJ b),(6,rT cJ c),(7,rT cJ d),(8,rT cj.c e)]
def Gj(a:bD)(b:Bool)(c d e:Int)(f:bD)(g:List (aj×aa))(h:List bP)(i:aj)(j k:Int):Ab.Os:=[(0,rF ([pp 1,pp 2]++bD.c a++[.bool b,aI c,AV.int IntKind.u32 d])),(1,rF [.bm 3,.bf 4 2,aI e]),(2,rF ([pp 5]++bD.c f)),(3,fS g),(4,rT bP.c h),(5,rF [pp 1,.str i,aI j,aI k])]
def DB(a:aj)(b c d:Int)(e:List (aj×aa))(f:List bP):Ab.Os:=[(0,rF [pp 1,.str a,aI b,aI c]),(1,rF [.bm 2,.bf 3 2,aI d]),(2,fS e),(3,rT bP.c f)]
def KM(a:Int)(b:List (aj×aa))(c:Int)(d:aa)(e f g h i j:Int)(k:List bx)(l:aj)(m n o:Int)(p q r:aa)(s:List aa)(t:List bP):Ab.Os:=[(0,rF [.bm 1,.bf 6 2,aI a]),(1,fS b),(3,rF qq),(4,rF [aI c,sM cJ d,aI e,aI f,aI g,aI h,aI i,aI j,sM bx.c k,.str l,aI m,aI n,aI o,sM cJ p,sM cJ q,sM cJ r]),(5,rT (fJ cB) s),(6,rT bP.c t)]
def KL(a:Int)(b:List (aj×aa))(c:Int)(d:aa)(e f g h i j:Int)(k:List bx)(l:aj)(m n o:Int)(p q r:aa)(s:List bP):Ab.Os:=[(0,rF [.bm 1,.bf 5 2,aI a]),(1,fS b),(3,rF qq),(4,rF [aI c,sM cJ d,aI e,aI f,aI g,aI h,aI i,aI j,sM bx.c k,.str l,aI m,aI n,aI o,sM cJ p,sM cJ q,sM cJ r]),(5,rT bP.c s)]
def DA(a:cP)(b c d:aa)(e:List cj):Ab.Os:=[(0,rF qq),(1,rF (cP.c a++[.bf 2 1,.bf 3 1,.bf 4 1,.bf 5 10])),(2,rT cJ b),(3,rT cJ c),(4,rT cJ d),(5,rT cj.c e)]
def Qh(a:aa)(b:Bool)(c:List (Int×ai))(d:Int)(e:Bool)(f:List bx)(g h:aa)(i:List da)(j:List cD)(k:List (ax×Int)):Ab.Os:=[(0,rF [sM cJ a,.bm 2,pp 3,pp 4,.bf 5 2,.bf 6 1,.bf 7 1,.bf 8 2,.bool b]),(2,AO.cF (eG c) none),(3,rF [.bf 10 4,aI d,.bm 11]),(4,.rows true [(@eJ e)]),(5,rT bx.c f),(6,rT cJ g),(7,rT cU h),(8,rT da.c i),(10,rT cD.c j),(11,mP k)]
def Qg(a:aa)(b:Bool)(c:List (Int×ai))(d:Int)(e:Bool)(f:List bx)(g h:aa)(i:List da)(j:List (ax×Int))(k:List cD):Ab.Os:=[(0,rF [sM cJ a,.bm 1,pp 2,pp 3,.bf 4 2,.bf 5 1,.bf 6 1,.bf 7 2,.bool b]),(1,AO.cF (eG c) none),(2,rF [.bf 10 4,aI d,.bm 9]),(3,.rows true [(@eJ e)]),(4,rT bx.c f),(5,rT cJ g),(6,rT cU h),(7,rT da.c i),(9,mP j),(10,rT cD.c k)]
def j4(a:aa):Ab.Os:=[(0,rT cJ a)]
def Qf(a:aa)(b:Bool)(c:List (Int×ai))(d:Int)(e:Bool)(f:List (ax×Int)):Ab.Os:=[(0,rF [sM cJ a,.bm 1,pp 2,pp 3,.bf 16 2,.bf 17 1,.bf 18 1,.bf 19 2,.bool b]),(1,AO.cF (eG c) none),(2,rF [.bf 20 4,aI d,.bm 10]),(3,.rows true [(@eJ e)]),(10,mP f)]
def KJ(a:bD)(b:aj)(c d e:Int)(f:List (aj×aa))(g:List bP):Ab.Os:=[(0,rF ([pp 1]++bD.c a)),(1,rF [pp 2,.str b,aI c,aI d]),(2,rF [.bm 3,.bf 5 2,aI e]),(3,fS f),(5,rT bP.c g)]
def Gi(a:Int)(b:List (aj×aa)):Ab.Os:=[(0,rF [.bm 1,.bf 4 2,aI a]),(1,fS b)]
def Gg(a:cP)(b c d:aa):Ab.Os:=[(0,rF (cP.c a++[.bf 5 1,.bf 6 1,.bf 7 1,.bf 8 10])),(1,rT cJ b),(2,rT cJ c),(3,rT cJ d)]
def Am(a:bD)(b:List aa)(c d:Int)(e:List bx):Ab.Os:=[(0,rF (bD.c a)),(1,rT (fJ cB) b),(2,rF [aI c,aI d,sM bx.c e])]
def Qe(a:bD)(b:Bool)(c d e:Int)(f:bD)(g:List (aj×aa))(h:List bP)(i:aj)(j k:Int):Ab.Os:=[(0,rF ([pp 1,AV.eT (Value.pointer none)]++bD.c a++[.bool b,aI c,AV.int IntKind.u32 d])),(1,rF [.bm 3,.bf 6 2,aI e]),(2,rF ([pp 5]++bD.c f)),(3,fS g),(4,rT bP.c h),(5,rF [pp 1,.str i,aI j,aI k])]
def Qd(a:Int)(b:List (aj×aa))(c:List aa)(d:Bool)(e:List bP)(f:aj)(g h:Int):Ab.Os:=[(0,rF [.bm 1,.bf 7 2,aI a]),(1,fS b),(3,rF [pp 0]),(4,rF [pp 8]),(5,rF [sM (fJ cB) c]),(6,rF [.bool d]),(7,rT bP.c e),(8,rF [pp 0,.str f,aI g,aI h])]
def Qc(a:Int)(b:List (aj×aa))(c:List aa)(d:List bP)(e:aj)(f g:Int):Ab.Os:=[(0,rF [.bm 1,.bf 5 2,aI a]),(1,fS b),(3,rF [pp 6]),(4,rF [sM (fJ cB) c]),(5,rT bP.c d),(6,rF [pp 0,.str e,aI f,aI g])]
def Qb(a:bD)(b:aj)(c d e:Int)(f:List (aj×aa))(g:bD)(h:List bP):Ab.Os:=[(0,rF ([pp 1]++bD.c a)),(1,rF [pp 2,.str b,aI c,aI d]),(2,rF [.bm 3,.bf 6 2,aI e]),(3,fS f),(5,rF (bD.c g)),(6,rT bP.c h)]
def KI(a:cP)(b c d:aa)(e:List cj):Ab.Os:=[(0,rF (cP.c a++[.bf 1 1,.bf 2 1,.bf 3 1,.bf 5 10])),(1,rT cJ b),(2,rT cJ c),(3,rT cJ d),(5,rT cj.c e)]
def Qa(a:Int)(b:List (aj×aa))(c:List aa)(d:Bool):Ab.Os:=[(0,rF [.bm 1,.bf 8 2,aI a]),(1,fS b),(3,rF [pp 0]),(4,rF [pp 9]),(5,rF [sM (fJ cB) c]),(6,rF [.bool d])]
def me(a:bD):Ab.Os:=[(0,rF (bD.c a))]
def yI(a:ca)(b c:Int):Ab.Os:=[(0,rF (ca.c a)),(1,rF [aI b,aI c,.dK])]
def Dz(a b c:aa):Ab.Os:=[(0,rT cJ a),(1,rT cJ b),(2,rT cJ c)]
def P'(a:cj)(b:cP)(c d e:aa)(f:List cj):Ab.Os:=[(0,rF (cj.c a)),(1,rF qq),(2,rF (cP.c b++[.bf 3 1,.bf 4 1,.bf 5 1,.bf 6 10])),(3,rT cJ c),(4,rT cJ d),(5,rT cJ e),(6,rT cj.c f)]
def wT(a:List aa):Ab.Os:=[(0,rT (fJ cB) a)]
def tJ(a:aa):Ab.Os:=[(0,rT cB a)]
def KH(a:aa)(b:Bool):Ab.Os:=[(0,rF [sM cJ a,.bm 1,pp 2,pp 3,.bf 4 2,.bf 5 1,.bf 6 1,.bf 7 2,.bool b])]
variable {ml:Gv}{F:Nat}
theorem CX{a r}(h:py F a=some r):FZ ml 37 [] [sM cJ a] (.bool r) []:=by
 refine fA Tryz.func37 ?_;unfold py at h;refine(ae)<|jN h λ b=>jM [(0,sM cJ a),(18,.bool b)] [] 0 (λ h=>?_) λ h=>?_
 ·refine(ay)<|bS h (λ h=>qE []) λ h=>?_;refine(ae)<|bS h (λ h=>qE []) λ h=>?_;refine(ae)<|aX ?_;refine(ae)<|oB h λ f h=>?_;exact qE []
 refine(ay)<|bS h (λ h=>qR) λ h=>?_;refine(ae)<|aX ?_;refine(ae)<|aX ?_;refine(ae)<|gS h λ h=>?_;refine(ae)<|gS h λ h=>?_;refine(ae)<|jS h λ o1 vu=>jT [] [] 0 (λ h k1 e=>?_) λ h=>?_
 ·refine(ak)<|lI (λ n' x'=>yl F a n' x') (λ x'=>[(0,sM cJ a),(20,sM cJ (List.drop (Int.toNat 1) a)),(21,aI ((List.length (@cut (@List AV) (some (Operand.const (Value.int IntKind.i64 1))) none (List.map cJ a) (Int.toNat 1) (List.length (List.map cJ a))):Nat):Int)),(22,aI x')]) (λ x'=>[]) 0 0 [] h ?_;rintro c d h;rw[yl.eq_2]at h;refine(ay)<|bS h (λ h=>?_) λ h=>?_
  ·refine(ak)<|gX h λ h=>?_;refine(ae)<|oB h λ g h=>?_;refine(ae)<|gX h λ h=>?_;refine(ae)<|oB h λ i h=>?_;refine(ay)<|bS h (λ h=>?_) λ h=>?_
   ·cases h;cases k1;exact rfl
   exact rE (c,(IntKind.wrap IntKind.i64 (d+(1:Int)))) [] h
  exact qE []
 exact qR
theorem yD{s r}(h:sF F s=some r):FZ ml 38 [] [(.sl (List.map cJ s))] (.bf 0 1) [(0,.rows true (List.map cJ r))]:=by
 unfold sF at h;obtain⟨hg,h⟩:=dU h;cases h;refine mR 2000 Tryz.func38 rfl (by kernel_rfl) mixed (by show 1≤8;decide) (by decide) rfl ?_
 refine oL ?_;refine And.intro (λ hp=>?_) ?_
 ·conv=>whnf
  exact lH [(0,128)] rfl (by rw[hp];rfl) rfl
 refine oL ?_;refine And.intro (eF.map (λ _=>rfl)) ?_;refine And.intro eF.nil ?_
 refine And.intro (show 0+(List.map cJ s).length≤bI by simpa using hg) ?_
 conv=>whnf
 exact gI [(0,192)]
theorem Pq{r}(h:EX F=some r):FZ ml 39 [] [] (pp 0) (T6 r.1 r.2.1 r.2.2):=by
 refine fG Tryz.func39 ?_;unfold EX at h
 (conv=>whnf);left;(conv=>whnf);refine Or.inr (Cb 0 4 _ rfl rfl ?_);(conv=>whnf);left;cases h;exact gE [(0,128),(1,96),(2,64)]
theorem Pc{r}(h:EF F=some r):FZ ml 40 [] [] (AV.ptr 0 0 0) [(0,(AO.rows true [(@eJ r)]))]:=by
 unfold EF at h;cases h;exact Mj
theorem Po{r}(h:ET F=some r):FZ ml 41 [] [] (AV.ptr 0 0 0) [(0,(AO.rows false [[(AV.bm 1),(AV.bf 2 2),aI r.1]])),(1,(fS r.2)),(2,(AO.rows true []))]:=by
 refine Mw (os:=[(0,(AO.rows false [[(AV.bm 1),AV.dK,aI r.1]])),(1,(fS r.2))]) 0 0 1 2 ?_ (by show 0≤W;decide) rfl rfl rfl rfl (lH [(0,0),(1,1),(2,32)] rfl rfl rfl)
 refine mR 2000 Tryz.func41 rfl (by kernel_rfl) mixed (by show 0≤4;decide) (by show 0≤W;decide) rfl ?_
 unfold ET at h
 conv=>whnf
 refine Or.inr ?_
 conv=>whnf
 refine⟨Or.inl ⟨1,?_⟩⟩
 iterate 2 refine oL ?_
 conv=>whnf
 cases h;exact gI [(0,128),(1,64)]
theorem Kw{s v r}(h:yw F s v=some r):FZ ml 163 [] [sM cJ s,aI v] (aI r) []:=by
 refine fA Tryz.func163 ?_;unfold yw at h;refine(ae)<|jS h λ o0 vu=>jT [] [] 0 (λ h k0 e=>?_) λ h=>?_
 ·refine(ak)<|lI (λ n' x'=>Aa F s v n' x') (λ x'=>[(0,sM cJ s),(1,aI v),(7,aI ((List.length (List.map cJ s):Nat):Int)),(8,aI x')]) (λ x'=>[]) 0 0 [] h ?_;rintro a b h;rw[Aa.eq_2]at h;refine(ay)<|bS h (λ h=>?_) λ h=>?_
  ·refine(ak)<|gX h λ h=>?_;refine(ae)<|oB h λ c h=>?_;refine(ay)<|bS h (λ h=>?_) λ h=>?_
   ·cases h;cases k0;exact rfl
   exact rE (a,(IntKind.wrap IntKind.i64 (b+(1:Int)))) [] h
  exact qE []
 exact qR
theorem yE{s v r}(h:tF F s v=some r):FZ ml 130 [] [sM cJ s,aI v] (.bool r) []:=by
 refine fA Tryz.func130 ?_;unfold tF at h;exact(ak)<|cL h Kw λ a h=>qR
theorem Kp{n b r}(h:sv F n b=some r):FZ ml 129 (me b) [aI n,pp 0] (.bool r) (me b):=by
 refine fG Tryz.func129 ?_;unfold sv at h;refine(ay)<|bS h (λ h=>qG [(0,0)]) λ h=>?_;exact(ak)<|cL h yE λ a h=>qG [(0,0)]
theorem zR{t r}(h:sr F t=some r):FZ ml 172 [] [.agg (ca.c t)] (aI r) []:=by
 refine fA Tryz.func172 ?_;unfold sr at h;exact qR
theorem Kn{term a r}(h:wE F term a=some r):FZ ml 173 [] [aI term,sM bx.c a] (.bool r) []:=by
 refine fA Tryz.func173 ?_;unfold wE at h;refine(ae)<|jS h λ o4 vu=>jT [] [] 0 (λ h k4 e=>?_) λ h=>?_
 ·refine(ak)<|lI (λ n' x'=>zS F a n' x'.1 x'.2) (λ x'=>[(0,aI x'.1),(7,sM bx.c a),(8,aI ((List.length (List.map bx.c a):Nat):Int)),(9,aI x'.2)]) (λ x'=>[]) 0 (term,0) [] h ?_;rintro f ⟨i,b⟩ h;dsimp only at h;rw[zS.eq_2]at h;refine(ay)<|bS h (λ h=>?_) λ h=>?_
  ·refine(ak)<|gX h λ h=>?_;refine(ae)<|oB h λ d h=>?_;refine(ak)<|jN h λ g=>jM [(6,pp 0),(7,sM bx.c a),(8,aI ((List.length (List.map bx.c a):Nat):Int)),(9,aI b),(28,.bool g)] [(0,rF (bx.c d))] 1 (λ h=>qE [(0,96)]) λ h=>?_;refine(ay)<|bS h (λ h=>?_) λ h=>?_
   ·cases h;cases k4;exact rfl
   exact rE (f,d.Term,(IntKind.wrap IntKind.i64 (b+(1:Int)))) [] h
  exact qE []
 exact qR
theorem wG{t r}(h:ma F t=some r):FZ ml 131 [] [.agg (ca.c t)] (.bool r) []:=by
 refine fA Tryz.func131 ?_;unfold ma at h
 (conv=>whnf);left;refine(ay)<|bS h (λ h=>?_) λ h=>?_
 ·refine(ae)<|bS h (λ h=>?_) λ h=>?_
  ·refine(ae)<|bS h (λ h=>?_) λ h=>?_
   ·refine(ae)<|bS h (λ h=>?_) λ h=>?_
    ·refine(ae)<|bS h (λ h=>?_) λ h=>?_
     ·refine(ae)<|bS h (λ h=>?_) λ h=>?_
      ·refine(ak)<|cL h zR λ a h=>?_;refine(ae)<|bS h (λ h=>?_) λ h=>?_
       ·exact(ak)<|cL h Kn λ b h=>qR
       exact qR
      exact qR
     refine(ae)<|bS h (λ h=>?_) λ h=>?_
     ·refine(ae)<|bS h (λ h=>?_) λ h=>?_
      ·refine(ak)<|cL h zR λ d h=>?_;refine(ae)<|bS h (λ h=>?_) λ h=>?_
       ·exact(ak)<|cL h Kn λ e h=>qR
       exact qR
      exact qR
     exact qR
    exact qR
   exact qR
  exact qR
 exact qR
theorem PH{t n r}(h:wq F t n=some r):FZ ml 174 [] [.agg (ca.c t),aI n] (aI r) []:=by
 refine fA Tryz.func174 ?_;unfold wq at h
 (conv=>whnf);left;refine(ay)<|bS h (λ h=>qR) λ h=>?_;refine(ae)<|gX h λ h=>?_;refine(ae)<|oB h λ a h=>?_;exact qR
theorem yf{t r}(h:qP F t=some r):FZ ml 132 [] [.agg (ca.c t)] (.cx [aI r.1,aI r.2]) []:=by
 refine fA Tryz.func132 ?_;unfold qP at h
 (conv=>whnf);left;refine(ak)<|cL h wG λ a h=>?_;refine(ay)<|bS h (λ h=>qR) λ h=>?_;refine(ak)<|cL h zR λ b h=>?_;refine(ak)<|cL h zR λ d h=>?_;exact(ak)<|cL h PH λ e h=>qR
theorem zJ{a set r}(h:u9 F a set=some r):FZ ml 152 [] [sM cJ a,sM cJ set] (.bool r) []:=by
 refine fA Tryz.func152 ?_;unfold u9 at h;refine(ae)<|jN h λ d=>jM [(0,sM cJ a),(5,aI d)] [] 0 (λ h=>?_) λ h=>?_
 ·refine(ak)<|lI (λ n' x'=>vc F a set n' x'.1 x'.2) (λ x'=>[(0,sM cJ a),(1,sM cJ set),(5,aI x'.1),(8,sM cJ a),(9,aI ((List.length (List.map cJ a):Nat):Int)),(10,aI x'.2)]) (λ x'=>[]) 0 (0,0) [] h ?_;rintro e ⟨f,b⟩ h;dsimp only at h;rw[vc.eq_2]at h;refine(ay)<|bS h (λ h=>?_) λ h=>?_
  ·refine(ae)<|jN h λ c=>jM [(0,sM cJ a),(1,sM cJ set),(5,aI c),(8,sM cJ a),(9,aI ((List.length (List.map cJ a):Nat):Int)),(10,aI b)] [] 0 (λ h=>?_) λ h=>?_
   ·refine(ak)<|gX h λ h=>?_;refine(ae)<|oB h λ g h=>?_;exact(ak)<|cL h yE λ i h=>qE []
   exact rE (e,c,(IntKind.wrap IntKind.i64 (b+(1:Int)))) [] h
  exact qE []
 (conv=>whnf);left;exact(ak)<|cL h CX λ j h=>qR
theorem Zl2{r_ r}(h:CI F r_=some r):FZ ml 133 [] [.agg (bD.c r_)] (.bool r) []:=by
 refine fA Tryz.func133 ?_;unfold CI at h;refine(ak)<|jN h λ b=>jM [(1,pp 0),(31,.bool b)] (me r_) 1 (λ h=>?_) λ h=>?_
 ·refine(ay)<|bS h (λ h=>qE [(0,32)]) λ h=>?_;refine(ae)<|bS h (λ h=>qE [(0,32)]) λ h=>?_;refine(ae)<|aX ?_;refine(ae)<|oB h λ g h=>?_;refine(ae)<|bS h (λ h=>qE [(0,32)]) λ h=>?_;exact(ak)<|cL h zJ λ i h=>qE [(0,32)]
 refine(ay)<|bS h (λ h=>qR) λ h=>?_;refine(ae)<|jS h λ o5 vu=>jT [] [] 0 (λ h k5 e=>?_) λ h=>?_
 ·refine(ak)<|lI (λ n' x'=>zO F r_ n' x') (λ x'=>[(1,pp 0),(33,sM cJ r_.bO),(34,aI ((List.length (List.map cJ r_.bO):Nat):Int)),(35,aI x')]) (λ x'=>(me r_)) 1 0 [(0,0)] h ?_;rintro d a h;rw[zO.eq_2]at h;refine(ay)<|bS h (λ h=>?_) λ h=>?_
  ·refine(ak)<|gX h λ h=>?_;refine(ae)<|oB h λ j h=>?_;refine(ae)<|jN h λ f=>jM [(1,pp 0),(33,sM cJ r_.bO),(34,aI ((List.length (List.map cJ r_.bO):Nat):Int)),(35,aI a),(52,.bool f)] (me r_) 1 (λ h=>?_) λ h=>?_
   ·(conv=>whnf);left;refine(ak)<|cL h yE λ k h=>?_;refine(ae)<|bS h (λ h=>qE [(0,0)]) λ h=>?_;refine(ae)<|aX ?_;refine(ae)<|gX h λ h=>?_;refine(ae)<|gX h λ h=>?_;refine(ae)<|gS h λ h=>?_;exact(ak)<|cL h (λ h=>aE (yE h)) λ l h=>qE [(0,0)]
   refine(ay)<|bS h (λ h=>?_) λ h=>?_
   ·cases h;cases k5;exact rfl
   exact rE (d,(IntKind.wrap IntKind.i64 (a+(1:Int)))) [(0,0)] h
  exact qE []
 exact qR
theorem Zl3{r_ r}(h:CH F r_=some r):FZ ml 134 [] [.agg (bD.c r_)] (.bool r) []:=by
 refine fA Tryz.func134 ?_;unfold CH at h;refine(ak)<|jN h λ d=>jM [(1,pp 0),(36,.bool d)] (me r_) 1 (λ h=>qE [(0,32)]) λ h=>?_;refine(ay)<|bS h (λ h=>qR) λ h=>?_;refine(ak)<|cL h yf λ a h=>?_;refine(ae)<|jS h λ o5 vu=>jT [] [] 0 (λ h k5 e=>?_) λ h=>?_
 ·refine(ak)<|lI (λ n' x'=>zN F r_ a n' x') (λ x'=>[(1,pp 0),(3,aI a.1),(44,sM cJ r_.Match),(45,aI ((List.length (List.map cJ r_.Match):Nat):Int)),(46,aI x')]) (λ x'=>(me r_)) 1 0 [(0,0)] h ?_;rintro f b h;rw[zN.eq_2]at h;refine(ay)<|bS h (λ h=>?_) λ h=>?_
  ·refine(ak)<|gX h λ h=>?_;refine(ae)<|oB h λ i h=>?_;refine(ae)<|jN h λ g=>jM [(1,pp 0),(3,aI a.1),(44,sM cJ r_.Match),(45,aI ((List.length (List.map cJ r_.Match):Nat):Int)),(46,aI b),(76,.bool g)] (me r_) 1 (λ h=>?_) λ h=>?_
   ·refine(ay)<|bS h (λ h=>qE [(0,0)]) λ h=>?_;refine(ae)<|bS h (λ h=>qE [(0,0)]) λ h=>?_;refine(ae)<|gX h λ h=>?_;refine(ae)<|oB h λ j h=>?_;refine(ae)<|bS h (λ h=>qE [(0,0)]) λ h=>?_;refine(ae)<|gX h λ h=>?_;refine(ae)<|oB h λ k h=>?_;exact qE [(0,0)]
   refine(ay)<|bS h (λ h=>?_) λ h=>?_
   ·cases h;cases k5;exact rfl
   exact rE (f,(IntKind.wrap IntKind.i64 (b+(1:Int)))) [(0,0)] h
  exact qE []
 exact qR
theorem qS{r_ r}(h:k9 F r_=some r):FZ ml 87 [] [.agg (bD.c r_)] (.bool r) []:=by
 refine fA Tryz.func87 ?_;unfold k9 at h;refine(ak)<|jN h λ a=>jM [(1,pp 0),(52,.bool a)] (me r_) 1 (λ h=>?_) λ h=>?_
 ·(conv=>whnf);left;refine(ak)<|cL h CX λ e h=>?_;refine(ae)<|bS h (λ h=>qE [(0,32)]) λ h=>?_;refine(ae)<|bS h (λ h=>qE [(0,32)]) λ h=>?_;refine(ae)<|cH [32] h Kp λ f h=>?_;refine(ae)<|bS h (λ h=>qE [(0,32)]) λ h=>?_;refine(ae)<|bS h (λ h=>qE [(0,32)]) λ h=>?_;refine(ae)<|bS h (λ h=>qE [(0,32)]) λ h=>?_;refine(ae)<|cH [32] h Kp λ g h=>?_;refine(ae)<|bS h (λ h=>qE [(0,32)]) λ h=>?_;refine(ae)<|cH [32] h Kp λ i h=>?_;refine(ae)<|bS h (λ h=>qE [(0,32)]) λ h=>?_;exact(ak)<|cL h wG λ j h=>qE [(0,32)]
 refine(ay)<|bS h (λ h=>qR) λ h=>?_;refine(ak)<|cL h yf λ k h=>?_;refine(ae)<|jN h λ b=>jM [(1,pp 0),(102,.bool b)] (me r_) 1 (λ h=>qE [(0,0)]) λ h=>?_;refine(ay)<|bS h (λ h=>qR) λ h=>?_;refine(ae)<|jN h λ d=>jM [(1,pp 0),(126,.bool d)] (me r_) 1 (λ h=>qE [(0,0)]) λ h=>?_;refine(ay)<|bS h (λ h=>qR) λ h=>?_;(conv=>whnf);left;refine(ay)<|bS h (λ h=>qR) λ h=>?_;refine(ay)<|bS h (λ h=>?_) λ h=>?_
 ·exact(ak)<|cL h Zl2 λ l h=>qR
 refine(ay)<|bS h (λ h=>?_) λ h=>?_
 ·exact(ak)<|cL h Zl3 λ m h=>qR
 exact qR
theorem Kc{id a r}(h:xN F id a=some r):FZ ml 66 [] [aI id,sM cJ a] (.cx [.agg (bD.c r.1),aI r.2]) []:=by
 refine fK Tryz.func66 ?_;unfold xN at h
 (conv=>whnf);left;refine(ak)<|cR h (λ h=>fx (yD h) rfl) λ b h=>?_;(conv=>whnf);left;(conv=>whnf);left;exact(ak)<|cL h (λ h=>aW (qS h)) λ d h=>qK
theorem PX{c fs l r}(h:FI F c fs l=some r):FZ ml 88 [(0,(AO.rows false [[(AV.bm 1),(AV.bf 2 2),aI c]])),(1,(fS fs)),(2,(AO.rows true (List.map bP.c l)))] [(AV.ptr 0 0 0)] (AV.sl (List.map gy r)) [(0,(AO.rows false [[(AV.bm 1),(AV.bf 2 2),aI c]])),(1,(fS fs)),(2,(AO.rows true (List.map bP.c l)))]:=by
 unfold FI at h;obtain⟨hg,h⟩:=dU h;cases h;exact XO fs _ _ hg rfl (by show 3≤W;decide)
theorem Ko{a r}(h:zB F a=some r):FZ ml 89 [] [AV.str a] (aI r) []:=by
 unfold zB at h;obtain⟨hg,h⟩:=dU h;cases h;exact ZX a hg
theorem Zjg{x r}(h:Kl F x=some r):FZ ml 189 [] [AV.int IntKind.u64 x] (aI r) []:=by
 refine fA Tryz.func189 ?_;unfold Kl at h;refine(ae)<|jN h λ⟨a,b⟩=>jM [(0,AV.int IntKind.u64 a),(2,aI b)] [] 0 (λ h=>qE []) λ h=>?_;refine(ae)<|jN h λ⟨c,d⟩=>jM [(0,AV.int IntKind.u64 c),(2,aI d)] [] 0 (λ h=>qE []) λ h=>?_;refine(ae)<|jN h λ⟨e,f⟩=>jM [(0,AV.int IntKind.u64 e),(2,aI f)] [] 0 (λ h=>qE []) λ h=>?_;refine(ae)<|gX h λ h=>?_;obtain⟨g,hy,h⟩:=eB h;refine fX g hy ?_;exact qR
theorem Zj4{x r}(h:Ke F x=some r):FZ ml 139 [] [AV.int IntKind.u64 x] (aI r) []:=by
 refine fA Tryz.func139 ?_;unfold Ke at h
 (conv=>whnf);left;exact(ak)<|cL h Zjg λ a h=>qR
theorem P8{l r}(h:F4 F l=some r):FZ ml 90 [(0,(AO.rows true (List.map cJ l)))] [(AV.bf 0 1)] (AV.cx []) [(0,(AO.rows true (List.map cJ r)))]:=by
 unfold F4 at h;obtain⟨hg,h⟩:=dU h;cases h;exact Uv l hg
theorem P7{s r}(h:F5 F s=some r):FZ ml 91 [] [(AV.sl (List.map cJ s))] (AV.fn 140 [(AV.rp [(AV.sl (List.map cJ r))] 0)]) []:=by
 unfold F5 at h;cases h;exact Tg s
theorem Kq{i r}(h:strconv_Itoa F i=some r):FZ ml 92 [] [aI i] (AV.str r) []:=by
 unfold strconv_Itoa at h;obtain⟨hg,h⟩:=dU h;cases h;exact S6 (g:=2) (by kernel_rfl) rfl (by kernel_rfl) (λ n a b w c=>Tryz.strconv_Itoa n a b w c) i hg.1 hg.2
theorem F7{a c fs l r}(h:yA F a c fs l=some r):FZ ml 142 (T5 c fs l) [pp 0,.str a] (aI r) (T5 c fs l):=by
 refine fG Tryz.func142 ?_;unfold yA at h;refine(ak)<|aX ?_;(conv=>whnf);refine Zpt (ek:=(λ(b:(@List UInt8))=>(AV.str b))) (en:=cB) fs a rfl rfl (nJ Tryz.underlying9) ⟨80,.dK,by kernel_rfl,by kernel_rfl⟩ ?_;exact qG [(0,0),(1,1),(2,2)]
theorem KF{s r}(h:Dp F s=some r):FZ ml 143 [] [(.sl (List.map cB s))] (.bf 0 1) [(0,.rows true (List.map cB r))]:=by
 unfold Dp at h;obtain⟨hg,h⟩:=dU h;cases h;refine mR 2000 Tryz.func143 rfl (by kernel_rfl) mixed (by show 1≤8;decide) (by decide) rfl ?_
 refine oL ?_;refine And.intro (λ hp=>?_) ?_
 ·conv=>whnf
  exact lH [(0,128)] rfl (by rw[hp];rfl) rfl
 refine oL ?_;refine And.intro (eF.map (λ _=>rfl)) ?_;refine And.intro eF.nil ?_
 refine And.intro (show 0+(List.map cB s).length≤bI by simpa using hg) ?_
 conv=>whnf
 exact gI [(0,192)]
theorem P6{s r}(h:Dm F s=some r):FZ ml 143 [(0,.rows true (List.map cB s))] [.bf 0 1] (.bf 1 1) [(0,.rows true (List.map cB s)),(1,.rows true (List.map cB r))]:=by
 unfold Dm at h;obtain⟨hg,h⟩:=dU h;cases h;refine mR 2000 Tryz.func143 rfl (by kernel_rfl) mixed (by show 1≤8;decide) (by show 1≤W;decide) rfl ?_
 refine oL ?_;refine And.intro (λ hp=>?_) ?_
 ·conv=>whnf
  exact lH [(0,0),(1,128)] rfl (by rw[hp];rfl) rfl
 refine oL ?_;refine And.intro (eF.map (λ _=>rfl)) ?_;refine And.intro eF.nil ?_
 refine And.intro (show 0+(List.map cB s).length≤bI by simpa using hg) ?_
 conv=>whnf
 exact gI [(0,0),(1,192)]
theorem P3{a c fs l r}(h:yg F a c fs l=some (Sum.inl r)):FZ ml 93 (T5 c fs l) [pp 0,.str a] (.cx [.bf 3 1,aI r.1]) (T5 c fs l++[(3,rT cB r.2)]):=by
 refine fG Tryz.func93 ?_;unfold yg at h;refine(ae)<|cH [0,1,2] h F7 λ e h=>?_;refine(ay)<|bS h (λ h=>?_) λ h=>?_
 ·cases h;exact gE [(0,0),(1,1),(2,2),(3,320)]
 refine(ae)<|aX ?_;(conv=>whnf);refine both (b:=(Option.isSome (az a fs))) (λ hb=>?_) λ hb=>?_
 ·replace h:=si h hb;refine zx (ek:=(λ(d:(@List UInt8))=>(AV.str d))) (en:=cB) fs a rfl rfl (nJ Tryz.underlying9) hb ?_;refine(ae)<|cG [448] h P6 λ f h=>?_;cases h;obtain⟨kk,xi⟩:=(Ce (ek:=(λ(d:(@List UInt8))=>(AV.str d))) (en:=cB) (q:=a) (L:=fs) (by assumption)).2;refine Iz (.step _ 1 1 _ _ 448 kk _ _ rfl rfl xi (λ row hr=>by obtain⟨y,_,rfl⟩:=W0.1 hr;rfl) rfl (.refl _)) ?_;exact gI [(0,0),(1,1),(2,2),(3,481)]
 replace h:=sh h hb;refine zw (ek:=(λ(d:(@List UInt8))=>(AV.str d))) (en:=cB) fs a .dK rfl rfl (nJ Tryz.underlying9) hb ⟨80,.dK,by kernel_rfl,by kernel_rfl,.refl _⟩ ?_;refine(ak)<|cR h (λ h=>aW (fx (KF h) rfl)) λ g h=>?_;cases h
theorem P4{a c fs l r}(h:yg F a c fs l=some (Sum.inr r)):FZ ml 93 (T5 c fs l) [pp 0,.str a] (.cx [sM cB r.1,aI r.2]) (T5 c fs l):=by
 refine fG Tryz.func93 ?_;unfold yg at h;refine(ae)<|cH [0,1,2] h F7 λ e h=>?_;refine(ay)<|bS h (λ h=>?_) λ h=>?_
 ·cases h
 refine(ae)<|aX ?_;(conv=>whnf);refine both (b:=(Option.isSome (az a fs))) (λ hb=>?_) λ hb=>?_
 ·replace h:=si h hb;refine zx (ek:=(λ(d:(@List UInt8))=>(AV.str d))) (en:=cB) fs a rfl rfl (nJ Tryz.underlying9) hb ?_;refine(ae)<|cG [448] h P6 λ f h=>?_;cases h
 replace h:=sh h hb;refine zw (ek:=(λ(d:(@List UInt8))=>(AV.str d))) (en:=cB) fs a .dK rfl rfl (nJ Tryz.underlying9) hb ⟨80,.dK,by kernel_rfl,by kernel_rfl,.refl _⟩ ?_;exact(ak)<|cR h (λ h=>aW (fx (KF h) rfl)) λ g h=>qG [(0,0),(1,1),(2,2)]
theorem Pm{b r}(h:mG F b=some r):FZ ml 65 [] [sM cB b] (.cx [.int IntKind.u64 r.1,aI r.2.1,aI r.2.2]) []:=by
 refine fA Tryz.func65 ?_;unfold mG at h;refine(ae)<|jS h λ o2 vu=>jT [] [] 0 (λ h k2 e=>?_) λ h=>?_
 ·refine(ak)<|lI (λ n' x'=>nM F b n' x'.1 x'.2) (λ x'=>[(5,AV.int IntKind.u64 x'.1),(8,sM cB b),(9,aI ((List.length (List.map cB b):Nat):Int)),(10,aI x'.2)]) (λ x'=>[]) 0 (0,0) [] h ?_;rintro f ⟨c,a⟩ h;dsimp only at h;rw[nM.eq_2]at h;refine(ay)<|bS h (λ h=>?_) λ h=>?_
  ·refine(ak)<|gX h λ h=>?_;refine(ae)<|oB h λ d h=>?_;refine(ae)<|jN h λ g=>jM [(5,AV.int IntKind.u64 c),(6,aI a),(7,AV.int IntKind.u8 d),(8,sM cB b),(9,aI ((List.length (List.map cB b):Nat):Int)),(10,aI a),(28,.bool g)] [] 0 (λ h=>qE []) λ h=>?_;refine(ay)<|bS h (λ h=>?_) λ h=>?_
   ·cases h;cases k2;exact rfl
   refine(ae)<|gX h λ h=>?_;refine(ay)<|bS h (λ h=>?_) λ h=>?_
   ·cases h;cases k2;exact rfl
   exact rE (f,(@cC BinOp.or IntKind.u64 c (IntKind.wrap IntKind.u64 ((IntKind.wrap IntKind.u64 (@cC BinOp.and IntKind.u8 d 127))*(2^(min (Int.toNat (IntKind.wrap IntKind.i64 (7*a))) 64))))),(IntKind.wrap IntKind.i64 (a+(1:Int)))) [] h
  exact qE []
 exact qR
theorem PA{r}(h:CM F=some r):FZ ml 40 [] [] (AV.ptr 0 0 0) [(0,(AO.rows true [(@ej 0 0 0 iD)]))]:=by
 exact Mj
theorem ZiH{b r}(h:Fy F b=some r):FZ ml 191 [(0,(AO.rows true [(@ej 0 0 0 iD)]))] [(AV.ptr 0 0 0),(AV.sl (List.map cB b))] (AV.int IntKind.u32 r) []:=by
 unfold Fy at h;obtain⟨hg,h⟩:=dU h;cases h;exact SZ b hg
theorem Py{b r}(h:px F b=some r):FZ ml 144 [] [sM cB b] (.cx [sM cB r.1,aI r.2.1,aI r.2.2]) []:=by
 refine fA Tryz.func144 ?_;unfold px at h;refine(ak)<|cL h Pm λ a h=>?_;refine(ay)<|bS h (λ h=>qR) λ h=>?_;refine(ay)<|bS h (λ h=>qR) λ h=>?_;refine(ay)<|bS h (λ h=>qR) λ h=>?_;refine(ae)<|gX h λ h=>?_;refine(ae)<|oB h λ c h=>?_;refine(ae)<|gX h λ h=>?_;refine(ae)<|oB h λ d h=>?_;refine(ae)<|aX ?_;refine(ae)<|gX h λ h=>?_;refine(ae)<|oB h λ e h=>?_;refine(ae)<|aX ?_;refine(ae)<|gX h λ h=>?_;refine(ae)<|oB h λ f h=>?_;refine(ae)<|aX ?_;refine(ae)<|aX ?_;refine(ak)<|cR h PA λ g h=>?_;refine(ae)<|aX ?_;refine(ae)<|gX h λ h=>?_;refine(ae)<|gX h λ h=>?_;refine(ae)<|gS h λ h=>?_;obtain⟨i,hy,h⟩:=eB h;refine Or.inr (vW [1824] (ZiH hy) rfl rfl rfl (cT rfl (cT (YU AV.sl rQ) rfl)) ?_);refine(ae)<|aX ?_;refine(ay)<|bS h (λ h=>qR) λ h=>?_;(iterate 4 ((conv=>whnf);first|refine oL ?_|refine gX h λ h=>?_|refine aX ?_));refine(ae)<|gS h λ h=>?_;(conv=>whnf);left;(conv=>whnf);obtain⟨j,hy,h⟩:=eB h;refine⟨_,_,(lZ (cT (YU AV.sl rQ) rfl) (fx (KF hy) rfl)),Or.inr ⟨[],rfl,?_⟩⟩;exact qR
theorem Pj{kind b r}(h:pw F kind b=some r):FZ ml 49 [] [aI kind,sM cB b] (.cx [.agg (cA.c r.1),aI r.2.1,aI r.2.2]) []:=by
 refine fA Tryz.func49 ?_;unfold pw at h
 (conv=>whnf);left;(conv=>whnf);left;refine(ak)<|jN h λ a=>jM [(0,aI kind),(1,sM cB b),(4,pp 0),(7,pp 1),(22,.bool a)] [(0,rF [aI 0,aI 0,.str []]),(1,rF [aI kind,aI 0,.str []])] 2 (λ h=>qE [(0,32),(1,192)]) λ h=>?_;refine(ay)<|bS h (λ h=>qR) λ h=>?_;refine(ak)<|cL h Pm λ i h=>?_;refine(ay)<|bS h (λ h=>qR) λ h=>?_;refine(ae)<|jS h λ o1 ⟨d,f,g⟩=>jT [(4,pp 0),(7,pp 1),(9,aI (d))] [(0,rF [aI 0,aI 0,.str []]),(1,rF [aI kind,aI (f),.str g])] 2 (λ h k1 e=>?_) λ h=>?_
 ·(conv=>whnf);left;refine(ay)<|bS h (λ h=>?_) λ h=>?_
  ·refine(ae)<|aX ?_;refine(ay)<|bS h (λ h=>?_) λ h=>?_
   ·cases h;cases k1;exact rfl
   exact qE [(0,0),(1,1)]
  refine(ay)<|bS h (λ h=>qE [(0,0),(1,1)]) λ h=>?_;refine(ay)<|bS h (λ h=>?_) λ h=>?_
  ·cases h;cases k1;exact rfl
  refine(ay)<|bS h (λ h=>?_) λ h=>?_
  ·cases h;cases k1;exact rfl
  (iterate 4 ((conv=>whnf);first|refine oL ?_|refine gX h λ h=>?_|refine aX ?_));refine(ae)<|gS h λ h=>?_;(conv=>whnf);obtain⟨hg,h⟩:=Ja h;refine⟨_,JY rQ hg,?_⟩;exact qE [(0,0),(1,1)]
 exact qR
theorem FD{a b r}(h:lL F a b=some r):FZ ml 33 [] [sM cJ a,sM cB b] (.cx [.bf 0 3,aI r.1]) [(0,rT cA.c r.2)]:=by
 refine fG Tryz.func33 ?_;unfold lL at h;refine(ae)<|jS h λ o0 ⟨f,g⟩=>jT [(1,sM cB f),(6,.bf 0 3)] [(0,rT cA.c g)] 1 (λ h k0 e=>?_) λ h=>?_
 ·refine(ak)<|lI (λ n' x'=>nD F a n' x'.1 x'.2.1 x'.2.2) (λ x'=>[(1,sM cB x'.1),(6,.bf 0 3),(12,sM cJ a),(13,aI ((List.length (List.map cJ a):Nat):Int)),(14,aI x'.2.1)]) (λ x'=>[(0,rT cA.c x'.2.2)]) 1 (b,0,[]) [(0,96)] h ?_;rintro i ⟨j,k,l⟩ h;dsimp only at h;rw[nD.eq_2]at h;refine(ay)<|bS h (λ h=>?_) λ h=>?_
  ·refine(ak)<|gX h λ h=>?_;refine(ae)<|oB h λ m h=>?_;refine(ak)<|cL h Pj λ d h=>?_;(conv=>whnf);left;refine(ay)<|bS h (λ h=>?_) λ h=>?_
   ·cases h;cases k0;exact gE [(0,577)]
   refine(ak)<|aX ?_;refine(ae)<|aX ?_;refine(ae)<|gS h λ h=>?_;refine(ae)<|aX ?_;refine(ae)<|gX h λ h=>?_;refine(ae)<|gS h λ h=>?_;refine(ae)<|gS h λ h=>?_;exact rV (i,(List.drop (Int.toNat d.2.1) j),(IntKind.wrap IntKind.i64 (k+(1:Int))),(l++(d.1::[]))) [(0,641)] h
  exact qE [(0,0)]
 refine(ay)<|bS h (λ h=>?_) λ h=>?_
 ·cases h;exact gE [(0,97)]
 exact qG [(0,0)]
theorem Fw{b r}(h:nA F b=some r):FZ ml 94 [] [sM cB b] (.cx [.bf 0 1,aI r.1,.bool r.2.1]) (wT r.2.2):=by
 refine fG Tryz.func94 ?_;unfold nA at h;refine(ak)<|cR h Py λ e h=>?_;refine(ay)<|bS h (λ h=>?_) λ h=>?_
 ·cases h;exact gE [(0,480)]
 (conv=>whnf);left;(conv=>whnf);left;obtain⟨a,hy,h⟩:=eB h;refine⟨_,_,(lZ (cT (YU AV.sl rQ) rfl) (fx (FD hy) rfl)),Or.inr ⟨[480],rfl,?_⟩⟩;refine(ay)<|bS h (λ h=>?_) λ h=>?_
 ·cases h;exact gE [(0,800)]
 refine(ak)<|lI (λ n' x'=>xY F b a n' x'.1 x'.2) (λ x'=>[(0,sM cB b),(2,.bf 0 1),(3,aI x'.1),(7,sM cA.c a.2)]) (λ x'=>(wT x'.2)) 1 (e.2.1,[]) [(0,32)] h ?_;rintro f ⟨g,i⟩ h;dsimp only at h;rw[xY.eq_2]at h;refine(ak)<|aX ?_;refine(ae)<|gX h λ h=>?_;refine(ae)<|gS h λ h=>?_;refine(ae)<|gS h λ h=>?_;refine(ak)<|cR h (λ h=>aE (Py h)) λ d h=>?_;refine(ay)<|bS h (λ h=>?_) λ h=>?_
 ·refine(ae)<|aX ?_;refine(ae)<|oB h λ j h=>?_;exact qG [(0,0)]
 refine(ak)<|aX ?_;refine(ae)<|aX ?_;refine(ae)<|gS h λ h=>?_;exact rE (f,(IntKind.wrap IntKind.i64 (g+d.2.1)),(i++(d.1::[]))) [(0,513)] h
theorem Zhc{w a1 r}(h:FW F w a1=some r):FZ ml 193 [] [.agg (bP.c w),AV.rp (@gy a1) 0] (.bool r) []:=by
 refine fA Tryz.func193 ?_;unfold FW at h;exact qR
theorem ZdK{s f0 r}(h:Gd F s f0=some r):FZ ml 226 [] [sM bP.c s,AV.fn 193 ((AV.rp (@gy f0) 0)::[])] (aI r) []:=by
 refine fA Tryz.func226 ?_;unfold Gd at h;refine(ae)<|jS h λ o0 vu=>jT [] [] 0 (λ h k0 e=>?_) λ h=>?_
 ·refine(ak)<|lI (λ n' x'=>qU F s f0 n' x') (λ x'=>[(0,sM bP.c s),(1,AV.fn 193 ((AV.rp ((AV.str f0)::[]) 0)::[])),(7,aI ((List.length (List.map bP.c s):Nat):Int)),(8,aI x')]) (λ x'=>[]) 0 0 [] h ?_;rintro a b h;rw[qU.eq_2]at h;refine(ay)<|bS h (λ h=>?_) λ h=>?_
  ·refine(ak)<|gX h λ h=>?_;refine(ae)<|oB h λ d h=>?_;refine(ak)<|cL h Zhc λ f h=>?_;refine(ay)<|bS h (λ h=>?_) λ h=>?_
   ·cases h;cases k0;exact rfl
   exact rE (a,(IntKind.wrap IntKind.i64 (b+(1:Int)))) [] h
  exact qE []
 exact qR
theorem Zgc{w b r}(h:Dn F w b=some r):FZ ml 193 [(0,rF (@gy b))] [.agg (bP.c w),pp 0] (.bool r) [(0,rF (@gy b))]:=by
 refine fG Tryz.func193 ?_;unfold Dn at h;exact qG [(0,0)]
theorem Zdb{l b r}(h:Dv F l b=some r):FZ ml 192 [(0,rT bP.c l),(1,rF (@gy b))] [.bf 0 2,AV.fn 193 ((AV.ptr 1 0 0)::[])] (.bf 2 2) [(1,rF (@gy b)),(2,rT bP.c r)]:=by
 refine fG Tryz.func192 ?_;unfold Dv at h;refine(ak)<|cL h ZdK λ a h=>?_;refine(ay)<|bS h (λ h=>qG [(1,1),(2,0)]) λ h=>?_;refine(ae)<|jN h λ⟨g,i⟩=>jM [(0,.bf 0 2),(5,aI g)] [(0,rT bP.c i),(1,rF [.str b])] 2 (λ h=>?_) λ h=>?_
 ·refine(ak)<|lI (λ n' x'=>wP F b n' x'.1 x'.2.1 x'.2.2) (λ x'=>[(0,.bf 0 2),(1,AV.fn 193 ((AV.ptr 1 0 0)::[])),(5,aI x'.1),(6,aI x'.2.1)]) (λ x'=>[(0,rT bP.c x'.2.2),(1,rF [.str b])]) 2 (a,(IntKind.wrap IntKind.i64 (a+(1:Int))),l) [(0,0),(1,1)] h ?_;rintro j ⟨k,d,m⟩ h;dsimp only at h;rw[wP.eq_2]at h;refine(ay)<|bS h (λ h=>?_) λ h=>?_
  ·refine(ae)<|jN h λ⟨e,f⟩=>jM [(0,.bf 0 2),(1,AV.fn 193 ((AV.ptr 1 0 0)::[])),(5,aI e),(6,aI d)] [(0,rT bP.c f),(1,rF [.str b])] 2 (λ h=>?_) λ h=>?_
   ·refine(ak)<|gX h λ h=>?_;refine(ae)<|oB h λ n h=>?_;refine(ae)<|oB h λ o h=>?_;refine(ak)<|cH [1] h Zgc λ p h=>?_;refine(ay)<|bS h (λ h=>?_) λ h=>?_
    ·refine(ae)<|gX h λ h=>?_;refine(ae)<|oB h λ q h=>?_;refine(ae)<|oB h λ s h=>?_;cases h;exact eE [(0,0),(1,1)]
    exact qE [(0,0),(1,1)]
   exact rE (j,e,(IntKind.wrap IntKind.i64 (d+(1:Int))),f) [(0,0),(1,1)] h
  exact qE [(0,0),(1,1)]
 refine(ae)<|aX ?_;refine(ak)<|gX h λ h=>?_;refine(ae)<|gS h λ h=>?_;refine(ae)<|gS h λ h=>?_;refine(ae)<|aX ?_;refine(ae)<|gS h λ h=>?_;(conv=>whnf);refine And.intro (eF.append (eF.take (eF.map (λ _=>rfl))) (eF.append (eF.replicate rfl) (eF.drop (eF.map (λ _=>rfl))))) ?_;(conv=>whnf);refine Or.inr ?_;(conv=>whnf);refine⟨_,_,rfl,rfl,rfl,rfl,?_⟩;refine(ae)<|gX h λ h=>?_;refine(ae)<|gS h λ h=>?_;cases h;exact gE [(0,0),(1,1),(2,194)]
theorem KC{a c fs l r}(h:yy F a c fs l=some r):FZ ml 145 (T5 c fs l) [pp 0,.str a] (.cx []) (yK r.1 fs r.2):=by
 refine fG Tryz.func145 ?_;unfold yy at h;exact(ak)<|cG [2,32] h Zdb λ b h=>qG [(0,0),(1,1),(2,2),(3,258)]
theorem Dt{a c fs l r}(h:yx F a c fs l=some r):FZ ml 95 (T5 c fs l) [pp 0,.str a] (aI r.1) (yK r.2.1 r.2.2.1 r.2.2.2):=by
 refine fG Tryz.func95 ?_;unfold yx at h;refine(ae)<|cH [0,1,2] h F7 λ e h=>?_;refine(ae)<|jN h λ⟨f,g,i⟩=>jM [(5,aI e)] (yK f g i) 4 (λ h=>?_) λ h=>?_
 ·refine(ay)<|bS h (λ h=>?_) λ h=>?_
  ·refine(ae)<|aX ?_;(conv=>whnf);refine both (b:=(Option.isSome (az a fs))) (λ hb=>?_) λ hb=>?_
   ·replace h:=si h hb;refine zx (ek:=(λ(d:(@List UInt8))=>(AV.str d))) (en:=cB) fs a rfl rfl (nJ Tryz.underlying9) hb ?_;refine(ae)<|aX ?_;refine(ae)<|aX ?_;(conv=>whnf);refine Me (ek:=(λ(d:(@List UInt8))=>(AV.str d))) (en:=cB) fs a rfl rfl (nJ Tryz.underlying9) (.inr ⟨by assumption,rfl⟩) ?_;exact(ae)<|cG [0,1,2] h KC λ j h=>qE [(0,0),(1,1),(2,2),(3,995)]
   replace h:=sh h hb;refine zw (ek:=(λ(d:(@List UInt8))=>(AV.str d))) (en:=cB) fs a .dK rfl rfl (nJ Tryz.underlying9) hb ⟨80,.dK,by kernel_rfl,by kernel_rfl,.refl _⟩ ?_;refine(ae)<|aX ?_;refine(ae)<|aX ?_;(conv=>whnf);refine Me (ek:=(λ(d:(@List UInt8))=>(AV.str d))) (en:=cB) fs a rfl rfl (nJ Tryz.underlying9) (.inl rfl) ?_;exact(ae)<|cG [0,1,2] h KC λ k h=>qE [(0,0),(1,1),(2,2),(3,995)]
  exact qE [(0,0),(1,1),(3,2)]
 exact qG (ii 4 [])
theorem FG{n l r}(h:wA F n l=some r):FZ ml 48 (tJ l) [.bf 0 1,AV.int IntKind.u64 n] (.bf 1 1) [(1,rT cB r)]:=by
 refine fG Tryz.func48 ?_;unfold wA at h;refine(ae)<|jN h λ⟨b,c⟩=>jM [(0,.bf 1 1),(1,AV.int IntKind.u64 b)] [(1,rT cB c)] 2 (λ h=>?_) λ h=>?_
 ·refine(ak)<|lI (λ n' x'=>wF F n' x'.1 x'.2) (λ x'=>[(0,.bf 1 1),(1,AV.int IntKind.u64 x'.1)]) (λ x'=>[(1,rT cB x'.2)]) 2 (n,l) [(1,0)] h ?_;rintro d ⟨a,e⟩ h;dsimp only at h;rw[wF.eq_2]at h;refine(ay)<|bS h (λ h=>?_) λ h=>?_
  ·(conv=>whnf);left;refine(ak)<|aX ?_;refine(ae)<|aX ?_;refine(ae)<|gS h λ h=>?_;refine(ae)<|aX ?_;exact rE (d,(@Int.fdiv a (2^(min (Int.toNat 7) 64))),(e++((@cC BinOp.or IntKind.u8 (IntKind.wrap IntKind.u8 a) 128)::[]))) [(0,0),(1,226)] h
  exact qE [(0,0),(1,1)]
 refine(ak)<|aX ?_;refine(ae)<|aX ?_;refine(ae)<|gS h λ h=>?_;cases h;exact gE [(0,0),(1,130)]
theorem FE{a r}(h:sx F a=some r):FZ ml 31 [] [sM cA.c a] (.cx [.bf 0 1,aI r.1]) (tJ r.2):=by
 refine fG Tryz.func31 ?_;unfold sx at h;refine(ae)<|jS h λ o6 i=>jT [(4,.bf 0 1)] (tJ i) 1 (λ h k6 e=>?_) λ h=>?_
 ·refine(ak)<|lI (λ n' x'=>sB F a n' x'.1 x'.2) (λ x'=>[(4,.bf 0 1),(7,sM cA.c a),(8,aI ((List.length (List.map cA.c a):Nat):Int)),(9,aI x'.1)]) (λ x'=>(tJ x'.2)) 1 (0,[]) [(0,96)] h ?_;rintro j ⟨b,d⟩ h;dsimp only at h;rw[sB.eq_2]at h;refine(ay)<|bS h (λ h=>?_) λ h=>?_
  ·refine(ae)<|jS h λ DS f=>jT [(4,.bf 0 1),(7,sM cA.c a),(8,aI ((List.length (List.map cA.c a):Nat):Int)),(9,aI b)] (tJ f) 1 (λ h QS e=>?_) λ h=>?_
   ·refine(ak)<|gX h λ h=>?_;refine(ae)<|oB h λ g h=>?_;(conv=>whnf);left;refine(ak)<|jN h λ k=>jM [(4,.bf 0 1),(6,pp 1),(7,sM cA.c a),(8,aI ((List.length (List.map cA.c a):Nat):Int)),(9,aI b),(13,.bool k)] (tJ d++[(1,rF (cA.c g))]) 2 (λ h=>qE [(0,0),(1,97)]) λ h=>?_;refine(ay)<|bS h (λ h=>?_) λ h=>?_
    ·exact(ae)<|cG [0] h FG λ m h=>qE [(0,131)]
    refine(ay)<|bS h (λ h=>?_) λ h=>?_
    ·refine(ae)<|aX ?_;refine(ae)<|aX ?_;exact(ae)<|cG [0] h FG λ n h=>qE [(0,451)]
    refine(ae)<|jN h λ l=>jM [(4,.bf 0 1),(6,pp 1),(7,sM cA.c a),(8,aI ((List.length (List.map cA.c a):Nat):Int)),(9,aI b),(42,.bool l)] (tJ d++[(1,rF (cA.c g))]) 2 (λ h=>qE [(0,0),(1,1)]) λ h=>?_;refine(ay)<|bS h (λ h=>?_) λ h=>?_
    ·refine(ae)<|cG [0] h FG λ o h=>?_;refine(ae)<|aX ?_;refine(ae)<|aX ?_;refine(ae)<|gS h λ h=>?_;refine(ae)<|aX ?_;cases h;cases e;exact eE [(0,258)]
    cases h;cases QS;cases k6;exact gE [(0,2)]
   exact rE (j,(IntKind.wrap IntKind.i64 (b+(1:Int))),f) [(0,0)] h
  exact qE [(0,0)]
 exact qG [(0,0)]
theorem ZhE{l r}(h:F2 F l=some r):FZ ml 191 [(0,(AO.rows true [(@ej 0 0 0 iD)])),(1,(AO.rows true (List.map cB l)))] [(AV.ptr 0 0 0),(AV.bf 1 1)] (AV.int IntKind.u32 r) [(1,(AO.rows true (List.map cB l)))]:=by
 unfold F2 at h;obtain⟨hg,h⟩:=dU h;cases h;exact Ux l hg
theorem Zlg{b r}(h:zu F b=some r):FZ ml 200 [] [sM cB b] (.cx [.bf 0 1,aI r.1]) (tJ r.2):=by
 refine fG Tryz.func200 ?_;unfold zu at h;refine(ay)<|bS h (λ h=>?_) λ h=>?_
 ·cases h;exact gE [(0,192)]
 (conv=>whnf);left;(conv=>whnf);obtain⟨a,hy,h⟩:=eB h;refine⟨_,_,(TV 0 1 (FG hy) rfl),Or.inr ⟨[],rfl,?_⟩⟩;refine(ae)<|aX ?_;refine(ae)<|aX ?_;refine(ae)<|gS h λ h=>?_;refine(ak)<|cR h PA λ c h=>?_;refine(ae)<|cG [416,352] h ZhE λ d h=>?_;(iterate 4 ((conv=>whnf);first|refine oL ?_|refine aX ?_));(conv=>whnf);refine And.intro (eF.cons rfl (eF.cons rfl (eF.cons rfl (eF.cons rfl eF.nil)))) ?_;refine(ae)<|aX ?_;refine(ae)<|gS h λ h=>?_;cases h;exact gE [(0,960)]
theorem PI{rec r}(h:wu F rec=some r):FZ ml 171 [] [sM cB rec] (.cx [sM cB r.1,aI r.2]) []:=by
 refine fA Tryz.func171 ?_;unfold wu at h;exact(ak)<|cR h (λ h=>fx (Zlg h) rfl) λ a h=>qR
theorem Zk9{bZ r}(h:zA F bZ=some r):FZ ml 146 [] [sM (fJ cB) bZ] (.cx [.bf 0 1,aI r.1]) (wT r.2):=by
 refine fG Tryz.func146 ?_;unfold zA at h
 (conv=>whnf);left;(conv=>whnf);left;(conv=>whnf);left;obtain⟨a,hy,h⟩:=eB h;refine⟨_,_,(lZ (cT (YU AV.sl rQ) rfl) (fx (FE hy) rfl)),Or.inr ⟨[192],rfl,?_⟩⟩;refine(ak)<|aX ?_;refine(ae)<|aX ?_;refine(ae)<|gS h λ h=>?_;refine(ae)<|jS h λ o0 b=>jT [(6,.bf 0 1)] (wT b) 1 (λ h k0 e=>?_) λ h=>?_
 ·refine(ak)<|lI (λ n' x'=>tz F bZ a n' x'.1 x'.2) (λ x'=>[(6,.bf 0 1),(22,.bf 1 1),(23,aI ((List.length (((List.take (@GetElem.getElem (@Array TypeInfo) Nat TypeInfo (λ(c:(@Array TypeInfo))=>(λ(d:Nat)=>(d<(@Array.size TypeInfo c)))) (@Array.instGetElemNatLtSize TypeInfo) Proofs.Tryz.prog.toTables.types 80 (@Ws (Nat.succ 80) (@Array.size TypeInfo Proofs.Tryz.prog.toTables.types) (@rfl Bool true))).size ((AV.sl (List.map cB a.2))::[]))::[])++(List.map (fJ cB) bZ)):Nat):Int)),(24,aI x'.1)]) (λ x'=>(wT x'.2++[(1,rT (fJ cB) ((a.2::[])++bZ))])) 2 (0,[]) [(0,416),(1,544)] h ?_;rintro f ⟨g,i⟩ h;dsimp only at h;rw[tz.eq_2]at h;refine(ay)<|bS h (λ h=>?_) λ h=>?_
  ·refine(ak)<|gX h λ h=>?_;refine(ae)<|oB h λ k h=>?_;refine(ae)<|oB h λ l h=>?_;refine(ak)<|cR h PI λ j h=>?_;refine(ay)<|bS h (λ h=>?_) λ h=>?_
   ·cases h;cases k0;exact gE [(0,450)]
   refine(ak)<|aX ?_;refine(ae)<|aX ?_;refine(ae)<|gS h λ h=>?_;exact rE (f,(IntKind.wrap IntKind.i64 (g+(1:Int))),(i++(j.1::[]))) [(0,514),(1,1)] h
  exact qE [(0,0)]
 exact qG [(0,0)]
theorem Zmo{a r}(h:tg F a=some r):FZ ml 194 [] [.str a] (.bool r) []:=by
 refine fA Tryz.func194 ?_;unfold tg at h;refine(ae)<|gX h λ h=>?_;refine(ae)<|jS h λ o4 vu=>jT [(0,.str a)] [] 0 (λ h k4 e=>?_) λ h=>?_
 ·refine(ak)<|lI (λ n' x'=>tw F a n' x') (λ x'=>[(0,.str a),(6,.bf 0 1),(7,aI ((List.length (@gY a):Nat):Int)),(8,aI x')]) (λ x'=>(tJ (List.map (λ(b:UInt8)=>(((UInt8.toNat b):Nat):Int)) a))) 1 0 [(0,96)] h ?_;rintro d c h;rw[tw.eq_2]at h;refine(ay)<|bS h (λ h=>?_) λ h=>?_
  ·refine(ak)<|gX h λ h=>?_;refine(ae)<|oB h λ g h=>?_;refine(ae)<|oB h λ i h=>?_;refine(ae)<|jN h λ f=>jM [(0,.str a),(6,.bf 0 1),(7,aI ((List.length (@gY a):Nat):Int)),(8,aI c),(33,.bool f)] (tJ (List.map (λ(b:UInt8)=>(((UInt8.toNat b):Nat):Int)) a)) 1 (λ h=>qE [(0,0)]) λ h=>?_;refine(ay)<|bS h (λ h=>?_) λ h=>?_
   ·cases h;cases k4;exact rfl
   exact rE (d,(IntKind.wrap IntKind.i64 (c+(1:Int)))) [(0,0)] h
  exact qE []
 exact qR
theorem PY{a b c fs l r}(h:wH F a b c fs l=some r):FZ ml 147 (T5 c fs l) [pp 0,.str a,sM cB b] (aI r.1) (yK r.2.1 r.2.2.1 r.2.2.2):=by
 refine fG Tryz.func147 ?_;unfold wH at h
 (conv=>whnf);left;refine(ak)<|cL h Zmo λ f h=>?_;refine(ay)<|bS h (λ h=>qG [(0,0),(1,1),(3,2)]) λ h=>?_;refine(ae)<|aX ?_;(conv=>whnf);refine both (b:=(Option.isSome (az a fs))) (λ hb=>?_) λ hb=>?_
 ·replace h:=si h hb;refine zx (ek:=(λ(d:(@List UInt8))=>(AV.str d))) (en:=cB) fs a rfl rfl (nJ Tryz.underlying9) hb ?_;(conv=>whnf);left;refine(ay)<|bS h (λ h=>?_) λ h=>?_
  ·cases h;obtain⟨kk,xi⟩:=(Ce (ek:=(λ(d:(@List UInt8))=>(AV.str d))) (en:=cB) (q:=a) (L:=fs) (by assumption)).2;refine Iz (.step _ 1 1 _ _ 448 kk _ _ rfl rfl xi (λ row hr=>by obtain⟨y,_,rfl⟩:=W0.1 hr;rfl) rfl (.refl _)) ?_;exact gI [(0,0),(1,1),(3,2)]
  refine(ae)<|aX ?_;refine(ae)<|aX ?_;refine(ae)<|gS h λ h=>?_;refine(ae)<|aX ?_;(conv=>whnf);obtain⟨hg,h⟩:=dU h;refine xC (ek:=(λ(d:(@List UInt8))=>(AV.str d))) (en:=cB) fs a ((Option.getD (az a fs) [])++b) 1504 rfl rfl (nJ Tryz.underlying9) (.inr ⟨by assumption,rfl⟩) hg rfl _ rfl rQ (λ _=>rfl) rfl ?_;(iterate 5 ((conv=>whnf);first|refine oL ?_|refine aX ?_));refine(ae)<|gS h λ h=>?_;(conv=>whnf);left;cases h;exact gE [(0,0),(1,1),(2,2),(3,2208)]
 replace h:=sh h hb;refine zw (ek:=(λ(d:(@List UInt8))=>(AV.str d))) (en:=cB) fs a .dK rfl rfl (nJ Tryz.underlying9) hb ⟨80,.dK,by kernel_rfl,by kernel_rfl,.refl _⟩ ?_;refine(ae)<|jN h λ e=>jM [(0,pp 0),(1,.str a),(2,sM cB b),(7,.dK),(44,.bool e)] (T5 c fs l) 3 (λ h=>qE [(0,0),(1,1),(2,2)]) λ h=>?_;refine(ay)<|bS h (λ h=>qG [(0,0),(1,1),(3,2)]) λ h=>?_;refine(ae)<|aX ?_;refine(ae)<|gS h λ h=>?_;refine(ae)<|aX ?_;(conv=>whnf);obtain⟨hg,h⟩:=dU h;refine xC (ek:=(λ(d:(@List UInt8))=>(AV.str d))) (en:=cB) fs a b 227 rfl rfl (nJ Tryz.underlying9) (.inl rfl) hg rfl _ rfl rQ (λ _=>rfl) rfl ?_;(iterate 5 ((conv=>whnf);first|refine oL ?_|refine aX ?_));refine(ae)<|gS h λ h=>?_;(conv=>whnf);left;cases h;exact gE [(0,0),(1,1),(2,2),(3,931)]
theorem P5{a c fs l r}(h:zW F a c fs l=some r):FZ ml 148 (T5 c fs l) [pp 0,.str a] (aI r.1) (yK r.2.1 fs r.2.2):=by
 refine fG Tryz.func148 ?_;unfold zW at h;refine(ae)<|cH [0,1,2] h F7 λ b h=>?_;refine(ae)<|jN h λ⟨d,e⟩=>jM [(5,aI b)] (yK d fs e) 4 (λ h=>?_) λ h=>?_
 ·refine(ay)<|bS h (λ h=>?_) λ h=>?_
  ·exact(ae)<|cG [0,1,2] h KC λ f h=>qE [(0,0),(1,1),(2,2),(3,323)]
  exact qE [(0,0),(1,1),(3,2)]
 exact qG (ii 4 [])
end Go.T
