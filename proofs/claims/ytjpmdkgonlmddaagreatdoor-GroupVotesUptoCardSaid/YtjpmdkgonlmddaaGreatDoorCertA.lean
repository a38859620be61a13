import Derived.Test.YtjpmdkgonlmddaaGreatDoorSem
import Derived.Test.YtjpmdkgonlmddaaGreatDoorProg
import Derived.KernelRfl
import Derived.Test.YtjpmdkgonlmddaaGreatDoorAbM
import Derived.Test.YtjpmdkgonlmddaaGreatDoorLib
set_option linter.unusedVariables false
set_option maxRecDepth 200000
set_option maxHeartbeats 4000000
namespace Go.T
open Go Go.Ab Go.Proofs
theorem mixed:Tryz.prog.follows .mixedOrders=true:=by kernel_rfl
abbrev FZ(ml:Gv):=FC Tryz.prog (GM ml)
def pn:List AV:=[aI 0,.dq,aI 0,aI 0,aI 0,aI 0,aI 0,aI 0,.dq,.str [],aI 0,aI 0,aI 0,.dq,.dq,.dq]
def Nr:List AV:=[aI 0,aI 0,aI 0,.str []]
abbrev eG(l:List (Int×aa)):=fc (fun k:Int=>AV.int .i64 k) aa.g l
abbrev gH(l:List (Int×aa))(k:Int)(n:Nat):AO:=.bK (eG l) (some ((mix k l).getD 0,n))
abbrev mP(m:List (ag×Int)):AO:=.aw true (fb (fun k:ag=>AV.agg k.c) (fun k:Int=>AV.int .i64 k) m)
abbrev fS(l:List (List UInt8×List Int)):AO:=.bL 1 (dT (fun k:List UInt8=>AV.str k) (bG .u8) l) none
theorem gF{m:Nat}{rv v:AV}{os os':Ab.Os}(o qo:Nat)(L:List (Int×aa))(q:Int)(x:aa)(V:List Nat)(k:jd m rv os' v (gy os ((o,some (.bK (eG (bw q x L)) none))::V.map fun q=>(q,none))))
 (hs:(ak q L).isSome=true:=by assumption) (h1:lk os o=some (.bK (eG L) (some ((mix q L).getD 0,qo))):=by exact rfl) (h3:(decide (V.length=(aa.g x).length)&&decide V.Nodup&&decide (o∉V)&&decide (V.getD 0 0=qo))=true:=by exact rfl)
 (h4:tM os (fun n=>V.getD n 0) 0 (aa.g x):=by repeat' first|exact zi|refine zj _ rfl ?_ ?_|exact fT.eq rfl|exact fT.eq (YF (fun X=>AO.rows false [X]) rQ)|exact fT.eq (YF (AO.rows true) rQ))
 (h5:(jV (aa.g x)&&um (aa.g x) 0 (aa.g x)&&mU (aa.g x).length (aa.g x))=true:=by exact rfl):jd m rv os' v os:=Gq (QE L q x V _ h1 hs rfl h3 h4 h5 (.refl _)) k
abbrev cJ:=bG .i64
abbrev cB:=bG .u8
abbrev cU:=bG .u32
def T0(a:List Int)(b:Bool)(c:List (Int×aa))(d:Int)(e:Bool)(f:List bj)(g h:List Int)(i:List cq)(j:List bQ)(k:List (ag×Int)):Ab.Os:=[(0,rF [sM cJ a,.aw 1,pp 2,pp 3,.an 4 2,.an 5 1,.an 6 1,.an 7 2,.bool b]),(1,AO.bK (eG c) none),(2,rF [.an 8 4,aI d,.aw 9]),(3,.rows true [(@dn e)]),(4,rT bj.c f),(5,rT cJ g),(6,rT cU h),(7,rT cq.c i),(8,rT bQ.c j),(9,mP k)]
def T1(a:cy)(b c d:List Int)(e:List bV):Ab.Os:=[(0,rF (cy.c a++[.an 1 1,.an 2 1,.an 3 1,.an 4 10])),(1,rT cJ b),(2,rT cJ c),(3,rT cJ d),(4,rT bV.c e)]
def T2(a:List Int)(b:Bool)(c:List (Int×aa))(d e:Int)(f:Bool)(g:bn)(h:Bool)(i j:Int)(k:List (ag×Int))(l:Int)(m:bn)(n:List (List UInt8×List Int))(o:List UInt8)(p q:Int):Ab.Os:=[(0,rF [sM cJ a,.aw 1,pp 2,pp 3,.an 17 2,.an 18 1,.an 19 1,.an 20 2,.bool b]),(1,gH c d 8),(2,rF [.an 21 4,aI e,.aw 10]),(3,.rows true [(@dn f)]),(8,rF ([pp 11,pp 12]++bn.c g++[.bool h,aI i,AV.int IntKind.u32 j])),(10,mP k),(11,rF [.aw 13,.an 22 2,aI l]),(12,rF ([pp 15]++bn.c m)),(13,fS n),(15,rF [pp 11,.str o,aI p,aI q])]
def T3(a:List Int)(b:Bool)(c:List (Int×aa))(d e:Int)(f:Bool)(g:bn)(h:Bool)(i j:Int)(k:List (ag×Int))(l:Int)(m:bn)(n:List (List UInt8×List Int))(o:List UInt8)(p q:Int)(r:List bj)(s t:List Int)(u:List cq)(v:List bQ)(w:List bp):Ab.Os:=[(0,rF [sM cJ a,.aw 1,pp 2,pp 3,.an 16 2,.an 17 1,.an 18 1,.an 19 2,.bool b]),(1,gH c d 8),(2,rF [.an 20 4,aI e,.aw 10]),(3,.rows true [(@dn f)]),(8,rF ([pp 11,pp 12]++bn.c g++[.bool h,aI i,AV.int IntKind.u32 j])),(10,mP k),(11,rF [.aw 13,.an 21 2,aI l]),(12,rF ([pp 15]++bn.c m)),(13,fS n),(15,rF [pp 11,.str o,aI p,aI q]),(16,rT bj.c r),(17,rT cJ s),(18,rT cU t),(19,rT cq.c u),(20,rT bQ.c v),(21,rT bp.c w)]
def T4(a:List Int)(b:Bool)(c:List (Int×aa))(d e:Int)(f:Bool)(g:List bj)(h i:List Int)(j:List cq)(k:bn)(l:Bool)(m n:Int)(o:List bQ)(p:List (ag×Int))(q:Int)(r:bn)(s:List (List UInt8×List Int))(t:List bp)(u:List UInt8)(v w:Int):Ab.Os:=[(0,rF [sM cJ a,.aw 1,pp 2,pp 3,.an 4 2,.an 5 1,.an 6 1,.an 7 2,.bool b]),(1,gH c d 8),(2,rF [.an 9 4,aI e,.aw 10]),(3,.rows true [(@dn f)]),(4,rT bj.c g),(5,rT cJ h),(6,rT cU i),(7,rT cq.c j),(8,rF ([pp 11,pp 12]++bn.c k++[.bool l,aI m,AV.int IntKind.u32 n])),(9,rT bQ.c o),(10,mP p),(11,rF [.aw 13,.an 14 2,aI q]),(12,rF ([pp 15]++bn.c r)),(13,fS s),(14,rT bp.c t),(15,rF [pp 11,.str u,aI v,aI w])]
def T5(a:Int)(b:List (List UInt8×List Int))(c:List bp):Ab.Os:=[(0,rF [.aw 1,.an 2 2,aI a]),(1,fS b),(2,rT bp.c c)]
def T6(a:Int)(b:List bQ)(c:List (ag×Int)):Ab.Os:=[(0,rF [.an 1 4,aI a,.aw 2]),(1,rT bQ.c b),(2,mP c)]
def T7(a:Int)(b:List (List UInt8×List Int))(c d e f g h i:Int)(j:List UInt8)(k l m n:Int)(o:List Int)(p q r s t u:Int)(v:List bj)(w:List UInt8)(x y z:Int)(A B C:List Int)(D:List UInt8)(E F:Int)(G:List bp):Ab.Os:=[(0,rF [.aw 1,.an 6 2,aI a]),(1,fS b),(3,rF [aI c,.dq,aI d,aI e,aI f,aI g,aI h,aI i,.dq,.str j,aI k,aI l,aI m,.dq,.dq,.dq]),(4,rF [aI n,sM cJ o,aI p,aI q,aI r,aI s,aI t,aI u,sM bj.c v,.str w,aI x,aI y,aI z,sM cJ A,sM cJ B,sM cJ C]),(5,rF [pp 0,.str D,aI E,aI F]),(6,rT bp.c G)]
def T8(a:List Int)(b:Bool)(c:bn)(d:Bool)(e f:Int)(g:List (Int×aa))(h i:Int)(j:Bool)(k:List bj)(l m:List Int)(n:List cq)(o:Int)(p:bn)(q:List bQ)(r:List (ag×Int))(s:List (List UInt8×List Int))(t:List bp)(u:List UInt8)(v w:Int):Ab.Os:=[(0,rF [sM cJ a,.aw 2,pp 3,pp 4,.an 5 2,.an 6 1,.an 7 1,.an 8 2,.bool b]),(1,rF ([pp 9,pp 10]++bn.c c++[.bool d,aI e,AV.int IntKind.u32 f])),(2,gH g h 1),(3,rF [.an 11 4,aI i,.aw 12]),(4,.rows true [(@dn j)]),(5,rT bj.c k),(6,rT cJ l),(7,rT cU m),(8,rT cq.c n),(9,rF [.aw 13,.an 14 2,aI o]),(10,rF ([pp 15]++bn.c p)),(11,rT bQ.c q),(12,mP r),(13,fS s),(14,rT bp.c t),(15,rF [pp 9,.str u,aI v,aI w])]
def T9(a:cy)(b c d e f g:List Int)(h:List bV):Ab.Os:=[(0,rF (cy.c a++[.an 5 1,.an 6 1,.an 7 1,.an 8 10])),(1,rT cJ b),(2,rT cJ c),(3,rT cJ d),(5,rT cJ e),(6,rT cJ f),(7,rT cJ g),(8,rT bV.c h)]
def EF(a:List Int)(b:Bool)(c:List (Int×aa))(d:Int)(e:Bool)(f:List (ag×Int))(g:List bj)(h i:List Int)(j:List cq)(k:List bQ):Ab.Os:=[(0,rF [sM cJ a,.aw 1,pp 2,pp 3,.an 10 2,.an 11 1,.an 12 1,.an 13 2,.bool b]),(1,AO.bK (eG c) none),(2,rF [.an 14 4,aI d,.aw 9]),(3,.rows true [(@dn e)]),(9,mP f),(10,rT bj.c g),(11,rT cJ h),(12,rT cU i),(13,rT cq.c j),(14,rT bQ.c k)]
def Nj(a:List Int)(b:Bool)(c:bn)(d:Bool)(e f:Int)(g:List (Int×aa))(h i:Int)(j:Bool)(k:Int)(l:bn)(m:List (ag×Int))(n:List (List UInt8×List Int))(o:List UInt8)(p q:Int)(r:List bj)(s t:List Int)(u:List cq)(v:List bQ)(w:List bp):Ab.Os:=[(0,rF [sM cJ a,.aw 2,pp 3,pp 4,.an 16 2,.an 17 1,.an 18 1,.an 19 2,.bool b]),(1,rF ([pp 9,pp 10]++bn.c c++[.bool d,aI e,AV.int IntKind.u32 f])),(2,gH g h 1),(3,rF [.an 20 4,aI i,.aw 12]),(4,.rows true [(@dn j)]),(9,rF [.aw 13,.an 21 2,aI k]),(10,rF ([pp 15]++bn.c l)),(12,mP m),(13,fS n),(15,rF [pp 9,.str o,aI p,aI q]),(16,rT bj.c r),(17,rT cJ s),(18,rT cU t),(19,rT cq.c u),(20,rT bQ.c v),(21,rT bp.c w)]
def yS(a:bn)(b:List UInt8)(c d e:Int)(f:List (List UInt8×List Int))(g:List bp):Ab.Os:=[(0,rF ([pp 1]++bn.c a)),(1,rF [pp 2,.str b,aI c,aI d]),(2,rF [.aw 3,.an 4 2,aI e]),(3,fS f),(4,rT bp.c g)]
def Ni(a:List Int)(b:Bool)(c:bn)(d:Bool)(e f:Int)(g:List (Int×aa))(h i:Int)(j:Bool)(k:List bj)(l m:List Int)(n:List cq)(o:Int)(p:List bQ)(q:List (ag×Int))(r:List (List UInt8×List Int))(s:List bp):Ab.Os:=[(0,rF [sM cJ a,.aw 2,pp 3,pp 4,.an 5 2,.an 6 1,.an 7 1,.an 8 2,.bool b]),(1,rF ([pp 9,AV.ei (Value.pointer none)]++bn.c c++[.bool d,aI e,AV.int IntKind.u32 f])),(2,gH g h 1),(3,rF [.an 10 4,aI i,.aw 11]),(4,.rows true [(@dn j)]),(5,rT bj.c k),(6,rT cJ l),(7,rT cU m),(8,rT cq.c n),(9,rF [.aw 12,.an 13 2,aI o]),(10,rT bQ.c p),(11,mP q),(12,fS r),(13,rT bp.c s)]
def xb(a:Int)(b:List (List UInt8×List Int))(c:List bp):Ab.Os:=[(0,rF [.aw 1,.an 3 2,aI a]),(1,fS b),(3,rT bp.c c)]
def yR(a:List UInt8)(b c d:Int)(e:List (List UInt8×List Int))(f:List bp):Ab.Os:=[(0,rF [pp 1,.str a,aI b,aI c]),(1,rF [.aw 2,.an 4 2,aI d]),(2,fS e),(4,rT bp.c f)]
def yQ(a:Int)(b:List (ag×Int))(c:List bQ):Ab.Os:=[(0,rF [.an 3 4,aI a,.aw 2]),(2,mP b),(3,rT bQ.c c)]
def xa(a:cy)(b c d:List Int)(e:List bV):Ab.Os:=[(0,rF (cy.c a++[.an 5 1,.an 6 1,.an 7 1,.an 8 10])),(5,rT cJ b),(6,rT cJ c),(7,rT cJ d),(8,rT bV.c e)]
def EE(a:bn)(b:Bool)(c d e:Int)(f:bn)(g:List (List UInt8×List Int))(h:List bp)(i:List UInt8)(j k:Int):Ab.Os:=[(0,rF ([pp 1,pp 2]++bn.c a++[.bool b,aI c,AV.int IntKind.u32 d])),(1,rF [.aw 3,.an 4 2,aI e]),(2,rF ([pp 5]++bn.c f)),(3,fS g),(4,rT bp.c h),(5,rF [pp 1,.str i,aI j,aI k])]
def Cc(a:List UInt8)(b c d:Int)(e:List (List UInt8×List Int))(f:List bp):Ab.Os:=[(0,rF [pp 1,.str a,aI b,aI c]),(1,rF [.aw 2,.an 3 2,aI d]),(2,fS e),(3,rT bp.c f)]
def Iy(a:Int)(b:List (List UInt8×List Int))(c:Int)(d:List Int)(e f g h i j:Int)(k:List bj)(l:List UInt8)(m n o:Int)(p q r:List Int)(s:List (List Int))(t:List bp):Ab.Os:=[(0,rF [.aw 1,.an 6 2,aI a]),(1,fS b),(3,rF pn),(4,rF [aI c,sM cJ d,aI e,aI f,aI g,aI h,aI i,aI j,sM bj.c k,.str l,aI m,aI n,aI o,sM cJ p,sM cJ q,sM cJ r]),(5,rT (fe cB) s),(6,rT bp.c t)]
def Ix(a:Int)(b:List (List UInt8×List Int))(c:Int)(d:List Int)(e f g h i j:Int)(k:List bj)(l:List UInt8)(m n o:Int)(p q r:List Int)(s:List bp):Ab.Os:=[(0,rF [.aw 1,.an 5 2,aI a]),(1,fS b),(3,rF pn),(4,rF [aI c,sM cJ d,aI e,aI f,aI g,aI h,aI i,aI j,sM bj.c k,.str l,aI m,aI n,aI o,sM cJ p,sM cJ q,sM cJ r]),(5,rT bp.c s)]
def Cb(a:cy)(b c d:List Int)(e:List bV):Ab.Os:=[(0,rF pn),(1,rF (cy.c a++[.an 2 1,.an 3 1,.an 4 1,.an 5 10])),(2,rT cJ b),(3,rT cJ c),(4,rT cJ d),(5,rT bV.c e)]
def Nh(a:List Int)(b:Bool)(c:List (Int×aa))(d:Int)(e:Bool)(f:List bj)(g h:List Int)(i:List cq)(j:List bQ)(k:List (ag×Int)):Ab.Os:=[(0,rF [sM cJ a,.aw 2,pp 3,pp 4,.an 5 2,.an 6 1,.an 7 1,.an 8 2,.bool b]),(2,AO.bK (eG c) none),(3,rF [.an 10 4,aI d,.aw 11]),(4,.rows true [(@dn e)]),(5,rT bj.c f),(6,rT cJ g),(7,rT cU h),(8,rT cq.c i),(10,rT bQ.c j),(11,mP k)]
def Ng(a:List Int)(b:Bool)(c:List (Int×aa))(d:Int)(e:Bool)(f:List bj)(g h:List Int)(i:List cq)(j:List (ag×Int))(k:List bQ):Ab.Os:=[(0,rF [sM cJ a,.aw 1,pp 2,pp 3,.an 4 2,.an 5 1,.an 6 1,.an 7 2,.bool b]),(1,AO.bK (eG c) none),(2,rF [.an 10 4,aI d,.aw 9]),(3,.rows true [(@dn e)]),(4,rT bj.c f),(5,rT cJ g),(6,rT cU h),(7,rT cq.c i),(9,mP j),(10,rT bQ.c k)]
def jv(a:List Int):Ab.Os:=[(0,rT cJ a)]
def Nf(a:List Int)(b:Bool)(c:List (Int×aa))(d:Int)(e:Bool)(f:List (ag×Int)):Ab.Os:=[(0,rF [sM cJ a,.aw 1,pp 2,pp 3,.an 16 2,.an 17 1,.an 18 1,.an 19 2,.bool b]),(1,AO.bK (eG c) none),(2,rF [.an 20 4,aI d,.aw 10]),(3,.rows true [(@dn e)]),(10,mP f)]
def Iw(a:bn)(b:List UInt8)(c d e:Int)(f:List (List UInt8×List Int))(g:List bp):Ab.Os:=[(0,rF ([pp 1]++bn.c a)),(1,rF [pp 2,.str b,aI c,aI d]),(2,rF [.aw 3,.an 5 2,aI e]),(3,fS f),(5,rT bp.c g)]
def ED(a:Int)(b:List (List UInt8×List Int)):Ab.Os:=[(0,rF [.aw 1,.an 4 2,aI a]),(1,fS b)]
def EC(a:cy)(b c d:List Int):Ab.Os:=[(0,rF (cy.c a++[.an 5 1,.an 6 1,.an 7 1,.an 8 10])),(1,rT cJ b),(2,rT cJ c),(3,rT cJ d)]
def yP(a:bn)(b:List (List Int))(c d:Int)(e:List bj):Ab.Os:=[(0,rF (bn.c a)),(1,rT (fe cB) b),(2,rF [aI c,aI d,sM bj.c e])]
def Nd(a:bn)(b:Bool)(c d e:Int)(f:bn)(g:List (List UInt8×List Int))(h:List bp)(i:List UInt8)(j k:Int):Ab.Os:=[(0,rF ([pp 1,AV.ei (Value.pointer none)]++bn.c a++[.bool b,aI c,AV.int IntKind.u32 d])),(1,rF [.aw 3,.an 6 2,aI e]),(2,rF ([pp 5]++bn.c f)),(3,fS g),(4,rT bp.c h),(5,rF [pp 1,.str i,aI j,aI k])]
def Nc(a:Int)(b:List (List UInt8×List Int))(c:List (List Int))(d:Bool)(e:List bp)(f:List UInt8)(g h:Int):Ab.Os:=[(0,rF [.aw 1,.an 7 2,aI a]),(1,fS b),(3,rF [pp 0]),(4,rF [pp 8]),(5,rF [sM (fe cB) c]),(6,rF [.bool d]),(7,rT bp.c e),(8,rF [pp 0,.str f,aI g,aI h])]
def EB(a:List Int)(b:Bool)(c:List iN):Ab.Os:=[(0,rF [sM cJ a,.aw 3,pp 4,pp 5,.an 6 2,.an 7 1,.an 8 1,.an 9 2,.bool b]),(1,rT iN.c c)]
def Nb(a:Int)(b:List (List UInt8×List Int))(c:List (List Int))(d:List bp)(e:List UInt8)(f g:Int):Ab.Os:=[(0,rF [.aw 1,.an 5 2,aI a]),(1,fS b),(3,rF [pp 6]),(4,rF [sM (fe cB) c]),(5,rT bp.c d),(6,rF [pp 0,.str e,aI f,aI g])]
def Na(a:bn)(b:List UInt8)(c d e:Int)(f:List (List UInt8×List Int))(g:bn)(h:List bp):Ab.Os:=[(0,rF ([pp 1]++bn.c a)),(1,rF [pp 2,.str b,aI c,aI d]),(2,rF [.aw 3,.an 6 2,aI e]),(3,fS f),(5,rF (bn.c g)),(6,rT bp.c h)]
def Iv(a:cy)(b c d:List Int)(e:List bV):Ab.Os:=[(0,rF (cy.c a++[.an 1 1,.an 2 1,.an 3 1,.an 5 10])),(1,rT cJ b),(2,rT cJ c),(3,rT cJ d),(5,rT bV.c e)]
def M'(a:Int)(b:List (List UInt8×List Int))(c:List (List Int))(d:Bool):Ab.Os:=[(0,rF [.aw 1,.an 8 2,aI a]),(1,fS b),(3,rF [pp 0]),(4,rF [pp 9]),(5,rF [sM (fe cB) c]),(6,rF [.bool d])]
def ln(a:bn):Ab.Os:=[(0,rF (bn.c a))]
def w9(a:cD)(b c:Int):Ab.Os:=[(0,rF (cD.c a)),(1,rF [aI b,aI c,.dq])]
def Iu(a:List Int)(b:Bool)(c:List iN):Ab.Os:=[(0,rF [sM cJ a,.aw 5,pp 6,pp 7,.an 8 2,.an 9 1,.an 10 1,.an 11 2,.bool b]),(1,rT iN.c c)]
def It(a:List Int)(b:Bool)(c:List iN):Ab.Os:=[(0,rF [sM cJ a,.aw 4,pp 5,pp 6,.an 7 2,.an 8 1,.an 9 1,.an 10 2,.bool b]),(1,rT iN.c c)]
def Ca(a b c:List Int):Ab.Os:=[(0,rT cJ a),(1,rT cJ b),(2,rT cJ c)]
def M9(a:bV)(b:cy)(c d e:List Int)(f:List bV):Ab.Os:=[(0,rF (bV.c a)),(1,rF pn),(2,rF (cy.c b++[.an 3 1,.an 4 1,.an 5 1,.an 6 10])),(3,rT cJ c),(4,rT cJ d),(5,rT cJ e),(6,rT bV.c f)]
def uU(a:List (List Int)):Ab.Os:=[(0,rT (fe cB) a)]
def r7(a:List Int):Ab.Os:=[(0,rT cB a)]
def Is(a:List Int)(b:Bool):Ab.Os:=[(0,rF [sM cJ a,.aw 1,pp 2,pp 3,.an 4 2,.an 5 1,.an 6 1,.an 7 2,.bool b])]
variable {ml:Gv}{F:Nat}
theorem BA{a r}(h:pE F a=some r):FZ ml 37 [] [sM cJ a] (.bool r) []:=by
 refine fA Tryz.func37 ?_
 unfold pE at h
 (conv=>whnf);refine jN h fun b=>jM [(0,sM cJ a),(18,.bool b)] [] 0 (fun h=>?_) fun h=>?_
 ·(conv=>whnf);left;refine bS h (fun h=>qE []) fun h=>?_;(conv=>whnf);refine bS h (fun h=>qE []) fun h=>?_;(conv=>whnf);refine aX ?_;(conv=>whnf);refine oB h fun f h=>?_;exact qE []
 (conv=>whnf);left;refine bS h (fun h=>qR) fun h=>?_;(conv=>whnf);refine aX ?_;(conv=>whnf);refine aX ?_;(conv=>whnf);refine gS h fun h=>?_;(conv=>whnf);refine gS h fun h=>?_;(conv=>whnf);refine jS h fun o1 vu=>jT [] [] 0 (fun h k1 e=>?_) fun h=>?_
 ·(conv=>whnf);left;(conv=>whnf);refine lI (fun n' x'=>tu F a n' x') (fun x'=>[(0,sM cJ a),(20,sM cJ (List.drop (Int.toNat (1:Int)) a)),(21,aI (@Nat.cast Int instNatCastInt (List.length (@cut (@List AV) (some (Operand.const (Value.int IntKind.i64 (1:Int)))) none (List.map cJ a) (Int.toNat (1:Int)) (List.length (List.map cJ a)))))),(22,aI x')]) (fun x'=>[]) 0 (0:Int) [] h ?_;rintro c d h;rw[tu.eq_2]at h;(conv=>whnf);left;refine bS h (fun h=>?_) fun h=>?_
  ·(conv=>whnf);left;(conv=>whnf);refine gX h fun h=>?_;(conv=>whnf);refine oB h fun g h=>?_;(conv=>whnf);refine gX h fun h=>?_;(conv=>whnf);refine oB h fun i h=>?_;(conv=>whnf);left;refine bS h (fun h=>?_) fun h=>?_
   ·cases h;cases k1;exact rfl
   exact rE (c,(IntKind.wrap IntKind.i64 (d+(1:Int)))) [] h
  exact qE []
 exact qR
theorem wY{s r}(h:qX F s=some r):FZ ml 38 [] [(.sl (List.map cJ s))] (.an 0 1) [(0,.rows true (List.map cJ r))]:=by
 unfold qX at h
 obtain⟨hg,h⟩:=dA h
 cases h
 refine lW 2000 Tryz.func38 rfl (by kernel_rfl) mixed (by show 1≤8;decide) (by decide) rfl ?_
 refine oL ?_
 refine And.intro (fun hp=>?_) ?_
 ·conv=>whnf
  exact kG [(0,128)] rfl (by rw[hp];rfl) rfl
 refine oL ?_
 refine And.intro (dU.map (fun _=>rfl)) ?_
 refine And.intro dU.nil ?_
 refine And.intro (show 0+(List.map cJ s).length≤bm by simpa using hg) ?_
 conv=>whnf
 exact gI [(0,192)]
theorem Mm{r}(h:Dp F=some r):FZ ml 39 [] [] (pp 0) (T6 r.1 r.2.1 r.2.2):=by
 refine fG Tryz.func39 ?_
 unfold Dp at h
 (conv=>whnf);left;(conv=>whnf);refine Or.inr (A5 0 4 _ rfl rfl ?_);(conv=>whnf);left;cases h;exact gE [(0,128),(1,96),(2,64)]
theorem LR{r}(h:Dc F=some r):FZ ml 40 [] [] (AV.ptr 0 0 0) [(0,(AO.rows true [(@dn r)]))]:=by
 unfold Dc at h;cases h;exact JH
theorem Mk{r}(h:Dk F=some r):FZ ml 41 [] [] (AV.ptr 0 0 0) [(0,(AO.rows false [[(AV.aw 1),(AV.an 2 2),aI r.1]])),(1,(fS r.2)),(2,(AO.rows true []))]:=by
 refine J3 (os:=[(0,(AO.rows false [[(AV.aw 1),AV.dq,aI r.1]])),(1,(fS r.2))]) 0 0 1 2 ?_ (by show 0≤W;decide) rfl rfl rfl rfl (kG [(0,0),(1,1),(2,32)] rfl rfl rfl)
 refine lW 2000 Tryz.func41 rfl (by kernel_rfl) mixed (by show 0≤4;decide) (by show 0≤W;decide) rfl ?_
 unfold Dk at h
 conv=>whnf
 refine Or.inr ?_
 conv=>whnf
 refine⟨Or.inl ⟨1,?_⟩⟩
 iterate 2 refine oL ?_
 conv=>whnf
 cases h;exact gI [(0,128),(1,64)]
theorem Io{s v r}(h:wP F s v=some r):FZ ml 163 [] [sM cJ s,aI v] (aI r) []:=by
 refine fA Tryz.func163 ?_
 unfold wP at h
 (conv=>whnf);refine jS h fun o0 vu=>jT [] [] 0 (fun h k0 e=>?_) fun h=>?_
 ·(conv=>whnf);left;(conv=>whnf);refine lI (fun n' x'=>yD F s v n' x') (fun x'=>[(0,sM cJ s),(1,aI v),(7,aI (@Nat.cast Int instNatCastInt (List.length (List.map cJ s)))),(8,aI x')]) (fun x'=>[]) 0 (0:Int) [] h ?_;rintro a b h;rw[yD.eq_2]at h;(conv=>whnf);left;refine bS h (fun h=>?_) fun h=>?_
  ·(conv=>whnf);left;(conv=>whnf);refine gX h fun h=>?_;(conv=>whnf);refine oB h fun c h=>?_;(conv=>whnf);left;refine bS h (fun h=>?_) fun h=>?_
   ·cases h;cases k0;exact rfl
   exact rE (a,(IntKind.wrap IntKind.i64 (b+(1:Int)))) [] h
  exact qE []
 exact qR
theorem wZ{s v r}(h:rX F s v=some r):FZ ml 130 [] [sM cJ s,aI v] (.bool r) []:=by
 refine fA Tryz.func130 ?_
 unfold rX at h
 (conv=>whnf);left;(conv=>whnf);exact cL h Io fun a h=>qR
theorem H5{n b r}(h:qN F n b=some r):FZ ml 129 (ln b) [aI n,pp 0] (.bool r) (ln b):=by
 refine fG Tryz.func129 ?_
 unfold qN at h
 (conv=>whnf);left;refine bS h (fun h=>qG [(0,0)]) fun h=>?_;(conv=>whnf);left;(conv=>whnf);exact cL h wZ fun a h=>qG [(0,0)]
theorem yb{t r}(h:qL F t=some r):FZ ml 172 [] [.agg (cD.c t)] (aI r) []:=by
 refine fA Tryz.func172 ?_
 unfold qL at h;exact qR
theorem H7{term a r}(h:uH F term a=some r):FZ ml 173 [] [aI term,sM bj.c a] (.bool r) []:=by
 refine fA Tryz.func173 ?_
 unfold uH at h
 (conv=>whnf);refine jS h fun o4 vu=>jT [] [] 0 (fun h k4 e=>?_) fun h=>?_
 ·(conv=>whnf);left;(conv=>whnf);refine lI (fun n' x'=>yh F a n' x'.1 x'.2) (fun x'=>[(0,aI x'.1),(7,sM bj.c a),(8,aI (@Nat.cast Int instNatCastInt (List.length (List.map bj.c a)))),(9,aI x'.2)]) (fun x'=>[]) 0 (term,(0:Int)) [] h ?_;rintro f ⟨i,b⟩ h;dsimp only at h;rw[yh.eq_2]at h;(conv=>whnf);left;refine bS h (fun h=>?_) fun h=>?_
  ·(conv=>whnf);left;(conv=>whnf);refine gX h fun h=>?_;(conv=>whnf);refine oB h fun d h=>?_;(conv=>whnf);left;(conv=>whnf);refine jN h fun g=>jM [(6,pp 0),(7,sM bj.c a),(8,aI (@Nat.cast Int instNatCastInt (List.length (List.map bj.c a)))),(9,aI b),(28,.bool g)] [(0,rF (bj.c d))] 1 (fun h=>qE [(0,96)]) fun h=>?_;(conv=>whnf);left;refine bS h (fun h=>?_) fun h=>?_
   ·cases h;cases k4;exact rfl
   exact rE (f,d.Term,(IntKind.wrap IntKind.i64 (b+(1:Int)))) [] h
  exact qE []
 exact qR
theorem uJ{t r}(h:lj F t=some r):FZ ml 131 [] [.agg (cD.c t)] (.bool r) []:=by
 refine fA Tryz.func131 ?_
 unfold lj at h
 (conv=>whnf);left;(conv=>whnf);left;refine bS h (fun h=>?_) fun h=>?_
 ·(conv=>whnf);refine bS h (fun h=>?_) fun h=>?_
  ·(conv=>whnf);refine bS h (fun h=>?_) fun h=>?_
   ·(conv=>whnf);refine bS h (fun h=>?_) fun h=>?_
    ·(conv=>whnf);refine bS h (fun h=>?_) fun h=>?_
     ·(conv=>whnf);refine bS h (fun h=>?_) fun h=>?_
      ·(conv=>whnf);left;(conv=>whnf);refine cL h yb fun a h=>?_;(conv=>whnf);refine bS h (fun h=>?_) fun h=>?_
       ·(conv=>whnf);left;(conv=>whnf);exact cL h H7 fun b h=>qR
       exact qR
      exact qR
     (conv=>whnf);refine bS h (fun h=>?_) fun h=>?_
     ·(conv=>whnf);refine bS h (fun h=>?_) fun h=>?_
      ·(conv=>whnf);left;(conv=>whnf);refine cL h yb fun d h=>?_;(conv=>whnf);refine bS h (fun h=>?_) fun h=>?_
       ·(conv=>whnf);left;(conv=>whnf);exact cL h H7 fun e h=>qR
       exact qR
      exact qR
     exact qR
    exact qR
   exact qR
  exact qR
 exact qR
theorem Mw{t n r}(h:xQ F t n=some r):FZ ml 174 [] [.agg (cD.c t),aI n] (aI r) []:=by
 refine fA Tryz.func174 ?_
 unfold xQ at h
 (conv=>whnf);left;(conv=>whnf);left;refine bS h (fun h=>qR) fun h=>?_;(conv=>whnf);refine gX h fun h=>?_;(conv=>whnf);refine oB h fun a h=>?_;exact qR
theorem wF{t r}(h:mQ F t=some r):FZ ml 132 [] [.agg (cD.c t)] (.bN [aI r.1,aI r.2]) []:=by
 refine fA Tryz.func132 ?_
 unfold mQ at h
 (conv=>whnf);left;(conv=>whnf);left;(conv=>whnf);refine cL h uJ fun a h=>?_;(conv=>whnf);left;refine bS h (fun h=>qR) fun h=>?_;(conv=>whnf);left;(conv=>whnf);refine cL h yb fun b h=>?_;(conv=>whnf);left;(conv=>whnf);refine cL h yb fun d h=>?_;(conv=>whnf);left;(conv=>whnf);exact cL h Mw fun e h=>qR
theorem yk{a set r}(h:wA F a set=some r):FZ ml 152 [] [sM cJ a,sM cJ set] (.bool r) []:=by
 refine fA Tryz.func152 ?_
 unfold wA at h
 (conv=>whnf);refine jN h fun d=>jM [(0,sM cJ a),(5,aI d)] [] 0 (fun h=>?_) fun h=>?_
 ·(conv=>whnf);left;(conv=>whnf);refine lI (fun n' x'=>yl F a set n' x'.1 x'.2) (fun x'=>[(0,sM cJ a),(1,sM cJ set),(5,aI x'.1),(8,sM cJ a),(9,aI (@Nat.cast Int instNatCastInt (List.length (List.map cJ a)))),(10,aI x'.2)]) (fun x'=>[]) 0 ((0:Int),(0:Int)) [] h ?_;rintro e ⟨f,b⟩ h;dsimp only at h;rw[yl.eq_2]at h;(conv=>whnf);left;refine bS h (fun h=>?_) fun h=>?_
  ·(conv=>whnf);refine jN h fun c=>jM [(0,sM cJ a),(1,sM cJ set),(5,aI c),(8,sM cJ a),(9,aI (@Nat.cast Int instNatCastInt (List.length (List.map cJ a)))),(10,aI b)] [] 0 (fun h=>?_) fun h=>?_
   ·(conv=>whnf);left;(conv=>whnf);refine gX h fun h=>?_;(conv=>whnf);refine oB h fun g h=>?_;(conv=>whnf);left;(conv=>whnf);exact cL h wZ fun i h=>qE []
   exact rE (e,c,(IntKind.wrap IntKind.i64 (b+(1:Int)))) [] h
  exact qE []
 (conv=>whnf);left;(conv=>whnf);left;(conv=>whnf);exact cL h BA fun j h=>qR
theorem UK{r_ r}(h:Bq F r_=some r):FZ ml 133 [] [.agg (bn.c r_)] (.bool r) []:=by
 refine fA Tryz.func133 ?_
 unfold Bq at h
 (conv=>whnf);left;(conv=>whnf);refine jN h fun b=>jM [(1,pp 0),(31,.bool b)] (ln r_) 1 (fun h=>?_) fun h=>?_
 ·(conv=>whnf);left;refine bS h (fun h=>qE [(0,32)]) fun h=>?_;(conv=>whnf);refine bS h (fun h=>qE [(0,32)]) fun h=>?_;(conv=>whnf);refine aX ?_;(conv=>whnf);refine oB h fun g h=>?_;(conv=>whnf);refine bS h (fun h=>qE [(0,32)]) fun h=>?_;(conv=>whnf);left;(conv=>whnf);exact cL h yk fun i h=>qE [(0,32)]
 (conv=>whnf);left;refine bS h (fun h=>qR) fun h=>?_;(conv=>whnf);refine jS h fun o5 vu=>jT [] [] 0 (fun h k5 e=>?_) fun h=>?_
 ·(conv=>whnf);left;(conv=>whnf);refine lI (fun n' x'=>xY F r_ n' x') (fun x'=>[(1,pp 0),(33,sM cJ r_.bB),(34,aI (@Nat.cast Int instNatCastInt (List.length (List.map cJ r_.bB)))),(35,aI x')]) (fun x'=>(ln r_)) 1 (0:Int) [(0,0)] h ?_;rintro d a h;rw[xY.eq_2]at h;(conv=>whnf);left;refine bS h (fun h=>?_) fun h=>?_
  ·(conv=>whnf);left;(conv=>whnf);refine gX h fun h=>?_;(conv=>whnf);refine oB h fun j h=>?_;(conv=>whnf);refine jN h fun f=>jM [(1,pp 0),(33,sM cJ r_.bB),(34,aI (@Nat.cast Int instNatCastInt (List.length (List.map cJ r_.bB)))),(35,aI a),(52,.bool f)] (ln r_) 1 (fun h=>?_) fun h=>?_
   ·(conv=>whnf);left;(conv=>whnf);left;(conv=>whnf);refine cL h wZ fun k h=>?_;(conv=>whnf);refine bS h (fun h=>qE [(0,0)]) fun h=>?_;(conv=>whnf);refine aX ?_;(conv=>whnf);refine gX h fun h=>?_;(conv=>whnf);refine gX h fun h=>?_;(conv=>whnf);refine gS h fun h=>?_;(conv=>whnf);left;(conv=>whnf);exact cL h (fun h=>aE (wZ h)) fun l h=>qE [(0,0)]
   (conv=>whnf);left;refine bS h (fun h=>?_) fun h=>?_
   ·cases h;cases k5;exact rfl
   exact rE (d,(IntKind.wrap IntKind.i64 (a+(1:Int)))) [(0,0)] h
  exact qE []
 exact qR
theorem UJ{r_ r}(h:Bp F r_=some r):FZ ml 134 [] [.agg (bn.c r_)] (.bool r) []:=by
 refine fA Tryz.func134 ?_
 unfold Bp at h
 (conv=>whnf);left;(conv=>whnf);refine jN h fun d=>jM [(1,pp 0),(36,.bool d)] (ln r_) 1 (fun h=>qE [(0,32)]) fun h=>?_;(conv=>whnf);left;refine bS h (fun h=>qR) fun h=>?_;(conv=>whnf);left;(conv=>whnf);refine cL h wF fun a h=>?_;(conv=>whnf);refine jS h fun o5 vu=>jT [] [] 0 (fun h k5 e=>?_) fun h=>?_
 ·(conv=>whnf);left;(conv=>whnf);refine lI (fun n' x'=>xX F r_ a n' x') (fun x'=>[(1,pp 0),(3,aI a.1),(44,sM cJ r_.Match),(45,aI (@Nat.cast Int instNatCastInt (List.length (List.map cJ r_.Match)))),(46,aI x')]) (fun x'=>(ln r_)) 1 (0:Int) [(0,0)] h ?_;rintro f b h;rw[xX.eq_2]at h;(conv=>whnf);left;refine bS h (fun h=>?_) fun h=>?_
  ·(conv=>whnf);left;(conv=>whnf);refine gX h fun h=>?_;(conv=>whnf);refine oB h fun i h=>?_;(conv=>whnf);refine jN h fun g=>jM [(1,pp 0),(3,aI a.1),(44,sM cJ r_.Match),(45,aI (@Nat.cast Int instNatCastInt (List.length (List.map cJ r_.Match)))),(46,aI b),(76,.bool g)] (ln r_) 1 (fun h=>?_) fun h=>?_
   ·(conv=>whnf);left;refine bS h (fun h=>qE [(0,0)]) fun h=>?_;(conv=>whnf);refine bS h (fun h=>qE [(0,0)]) fun h=>?_;(conv=>whnf);refine gX h fun h=>?_;(conv=>whnf);refine oB h fun j h=>?_;(conv=>whnf);refine bS h (fun h=>qE [(0,0)]) fun h=>?_;(conv=>whnf);refine gX h fun h=>?_;(conv=>whnf);refine oB h fun k h=>?_;exact qE [(0,0)]
   (conv=>whnf);left;refine bS h (fun h=>?_) fun h=>?_
   ·cases h;cases k5;exact rfl
   exact rE (f,(IntKind.wrap IntKind.i64 (b+(1:Int)))) [(0,0)] h
  exact qE []
 exact qR
theorem pD{r_ r}(h:kz F r_=some r):FZ ml 87 [] [.agg (bn.c r_)] (.bool r) []:=by
 refine fA Tryz.func87 ?_
 unfold kz at h
 (conv=>whnf);left;(conv=>whnf);refine jN h fun a=>jM [(1,pp 0),(52,.bool a)] (ln r_) 1 (fun h=>?_) fun h=>?_
 ·(conv=>whnf);left;(conv=>whnf);left;(conv=>whnf);refine cL h BA fun e h=>?_;(conv=>whnf);refine bS h (fun h=>qE [(0,32)]) fun h=>?_;(conv=>whnf);refine bS h (fun h=>qE [(0,32)]) fun h=>?_;(conv=>whnf);refine cH [32] h H5 fun f h=>?_;(conv=>whnf);refine bS h (fun h=>qE [(0,32)]) fun h=>?_;(conv=>whnf);refine bS h (fun h=>qE [(0,32)]) fun h=>?_;(conv=>whnf);refine bS h (fun h=>qE [(0,32)]) fun h=>?_;(conv=>whnf);refine cH [32] h H5 fun g h=>?_;(conv=>whnf);refine bS h (fun h=>qE [(0,32)]) fun h=>?_;(conv=>whnf);refine cH [32] h H5 fun i h=>?_;(conv=>whnf);refine bS h (fun h=>qE [(0,32)]) fun h=>?_;(conv=>whnf);left;(conv=>whnf);exact cL h uJ fun j h=>qE [(0,32)]
 (conv=>whnf);left;refine bS h (fun h=>qR) fun h=>?_;(conv=>whnf);left;(conv=>whnf);refine cL h wF fun k h=>?_;(conv=>whnf);refine jN h fun b=>jM [(1,pp 0),(102,.bool b)] (ln r_) 1 (fun h=>qE [(0,0)]) fun h=>?_;(conv=>whnf);left;refine bS h (fun h=>qR) fun h=>?_;(conv=>whnf);refine jN h fun d=>jM [(1,pp 0),(126,.bool d)] (ln r_) 1 (fun h=>qE [(0,0)]) fun h=>?_;(conv=>whnf);left;refine bS h (fun h=>qR) fun h=>?_;(conv=>whnf);left;(conv=>whnf);left;refine bS h (fun h=>qR) fun h=>?_;(conv=>whnf);left;refine bS h (fun h=>?_) fun h=>?_
 ·(conv=>whnf);left;(conv=>whnf);exact cL h UK fun l h=>qR
 (conv=>whnf);left;refine bS h (fun h=>?_) fun h=>?_
 ·(conv=>whnf);left;(conv=>whnf);exact cL h UJ fun m h=>qR
 exact qR
theorem HR{id a r}(h:wb F id a=some r):FZ ml 66 [] [aI id,sM cJ a] (.bN [.agg (bn.c r.1),aI r.2]) []:=by
 refine fK Tryz.func66 ?_
 unfold wb at h
 (conv=>whnf);left;(conv=>whnf);left;(conv=>whnf);refine cR h (fun h=>eT (wY h) rfl) fun b h=>?_;(conv=>whnf);left;(conv=>whnf);left;(conv=>whnf);left;(conv=>whnf);exact cL h (fun h=>aW (pD h)) fun d h=>qK
theorem MQ{c fs l r}(h:D5 F c fs l=some r):FZ ml 88 [(0,(AO.rows false [[(AV.aw 1),(AV.an 2 2),aI c]])),(1,(fS fs)),(2,(AO.rows true (List.map bp.c l)))] [(AV.ptr 0 0 0)] (AV.sl (List.map fy r)) [(0,(AO.rows false [[(AV.aw 1),(AV.an 2 2),aI c]])),(1,(fS fs)),(2,(AO.rows true (List.map bp.c l)))]:=by
 unfold D5 at h
 obtain⟨hg,h⟩:=dA h
 cases h
 exact Sg fs _ _ hg rfl (by show 3≤W;decide)
theorem HY{a r}(h:xS F a=some r):FZ ml 89 [] [AV.str a] (aI r) []:=by
 unfold xS at h
 obtain⟨hg,h⟩:=dA h
 cases h;exact S5 a hg
theorem VI{x r}(h:HZ F x=some r):FZ ml 189 [] [AV.int IntKind.u64 x] (aI r) []:=by
 refine fA Tryz.func189 ?_
 unfold HZ at h
 (conv=>whnf);refine jN h fun⟨a,b⟩=>jM [(0,AV.int IntKind.u64 a),(2,aI b)] [] 0 (fun h=>qE []) fun h=>?_;(conv=>whnf);refine jN h fun⟨c,d⟩=>jM [(0,AV.int IntKind.u64 c),(2,aI d)] [] 0 (fun h=>qE []) fun h=>?_;(conv=>whnf);refine jN h fun⟨e,f⟩=>jM [(0,AV.int IntKind.u64 e),(2,aI f)] [] 0 (fun h=>qE []) fun h=>?_;(conv=>whnf);refine gX h fun h=>?_;obtain⟨g,hy,h⟩:=dS h;refine fm g hy ?_;exact qR
theorem Vv{x r}(h:H3 F x=some r):FZ ml 139 [] [AV.int IntKind.u64 x] (aI r) []:=by
 refine fA Tryz.func139 ?_
 unfold H3 at h
 (conv=>whnf);left;(conv=>whnf);left;(conv=>whnf);exact cL h VI fun a h=>qR
theorem M6{l r}(h:Ep F l=some r):FZ ml 90 [(0,(AO.rows true (List.map cJ l)))] [(AV.an 0 1)] (AV.bN []) [(0,(AO.rows true (List.map cJ r)))]:=by
 unfold Ep at h
 obtain⟨hg,h⟩:=dA h
 cases h;exact Qd l hg
theorem M7{s r}(h:Ew F s=some r):FZ ml 91 [] [(AV.sl (List.map cJ s))] (AV.fn 140 [(AV.rp [(AV.sl (List.map cJ r))] 0)]) []:=by
 unfold Ew at h;cases h;exact Qs s
theorem H6{i r}(h:strconv_Itoa F i=some r):FZ ml 92 [] [aI i] (AV.str r) []:=by
 unfold strconv_Itoa at h
 obtain⟨hg,h⟩:=dA h
 cases h
 exact QR (g:=2) (by kernel_rfl) rfl (by kernel_rfl) (fun n a b w c=>Tryz.strconv_Itoa n a b w c) i hg.1 hg.2
theorem Er{a c fs l r}(h:wV F a c fs l=some r):FZ ml 142 (T5 c fs l) [pp 0,.str a] (aI r) (T5 c fs l):=by
 refine fG Tryz.func142 ?_
 unfold wV at h
 (conv=>whnf);left;(conv=>whnf);refine aX ?_;(conv=>whnf);refine Th (ek:=(fun(b:(@List UInt8))=>(AV.str b))) (en:=cB) fs a rfl rfl (mN Tryz.underlying9) ⟨80,.dq,by kernel_rfl,by kernel_rfl⟩ ?_;exact qG [(0,0),(1,1),(2,2)]
theorem Im{s r}(h:B1 F s=some r):FZ ml 143 [] [(.sl (List.map cB s))] (.an 0 1) [(0,.rows true (List.map cB r))]:=by
 unfold B1 at h
 obtain⟨hg,h⟩:=dA h
 cases h
 refine lW 2000 Tryz.func143 rfl (by kernel_rfl) mixed (by show 1≤8;decide) (by decide) rfl ?_
 refine oL ?_
 refine And.intro (fun hp=>?_) ?_
 ·conv=>whnf
  exact kG [(0,128)] rfl (by rw[hp];rfl) rfl
 refine oL ?_
 refine And.intro (dU.map (fun _=>rfl)) ?_
 refine And.intro dU.nil ?_
 refine And.intro (show 0+(List.map cB s).length≤bm by simpa using hg) ?_
 conv=>whnf
 exact gI [(0,192)]
theorem M5{s r}(h:BY F s=some r):FZ ml 143 [(0,.rows true (List.map cB s))] [.an 0 1] (.an 1 1) [(0,.rows true (List.map cB s)),(1,.rows true (List.map cB r))]:=by
 unfold BY at h
 obtain⟨hg,h⟩:=dA h
 cases h
 refine lW 2000 Tryz.func143 rfl (by kernel_rfl) mixed (by show 1≤8;decide) (by show 1≤W;decide) rfl ?_
 refine oL ?_
 refine And.intro (fun hp=>?_) ?_
 ·conv=>whnf
  exact kG [(0,0),(1,128)] rfl (by rw[hp];rfl) rfl
 refine oL ?_
 refine And.intro (dU.map (fun _=>rfl)) ?_
 refine And.intro dU.nil ?_
 refine And.intro (show 0+(List.map cB s).length≤bm by simpa using hg) ?_
 conv=>whnf
 exact gI [(0,0),(1,192)]
theorem MW{a c fs l r}(h:wG F a c fs l=some (Sum.inl r)):FZ ml 93 (T5 c fs l) [pp 0,.str a] (.bN [.an 3 1,aI r.1]) (T5 c fs l++[(3,rT cB r.2)]):=by
 refine fG Tryz.func93 ?_
 unfold wG at h
 (conv=>whnf);refine cH [0,1,2] h Er fun e h=>?_;(conv=>whnf);left;refine bS h (fun h=>?_) fun h=>?_
 ·cases h;exact gE [(0,0),(1,1),(2,2),(3,320)]
 (conv=>whnf);refine aX ?_;(conv=>whnf);refine both (b:=(Option.isSome (ak a fs))) (fun hb=>?_) fun hb=>?_
 ·replace h:=qH h hb;refine xV (ek:=(fun(d:(@List UInt8))=>(AV.str d))) (en:=cB) fs a rfl rfl (mN Tryz.underlying9) hb ?_;(conv=>whnf);refine cG [448] h M5 fun f h=>?_;cases h;obtain⟨kk,tV⟩:=(AS (ek:=(fun(d:(@List UInt8))=>(AV.str d))) (en:=cB) (q:=a) (L:=fs) (by assumption)).2;refine Gq (.step _ 1 1 _ _ 448 kk _ _ rfl rfl tV (fun row hr=>by obtain⟨y,_,rfl⟩:=YM.1 hr;rfl) rfl (.refl _)) ?_;exact gI [(0,0),(1,1),(2,2),(3,481)]
 replace h:=qF h hb;refine xU (ek:=(fun(d:(@List UInt8))=>(AV.str d))) (en:=cB) fs a .dq rfl rfl (mN Tryz.underlying9) hb ⟨80,.dq,by kernel_rfl,by kernel_rfl,.refl _⟩ ?_;(conv=>whnf);left;(conv=>whnf);refine cR h (fun h=>aW (eT (Im h) rfl)) fun g h=>?_;cases h
theorem MX{a c fs l r}(h:wG F a c fs l=some (Sum.inr r)):FZ ml 93 (T5 c fs l) [pp 0,.str a] (.bN [sM cB r.1,aI r.2]) (T5 c fs l):=by
 refine fG Tryz.func93 ?_
 unfold wG at h
 (conv=>whnf);refine cH [0,1,2] h Er fun e h=>?_;(conv=>whnf);left;refine bS h (fun h=>?_) fun h=>?_
 ·cases h
 (conv=>whnf);refine aX ?_;(conv=>whnf);refine both (b:=(Option.isSome (ak a fs))) (fun hb=>?_) fun hb=>?_
 ·replace h:=qH h hb;refine xV (ek:=(fun(d:(@List UInt8))=>(AV.str d))) (en:=cB) fs a rfl rfl (mN Tryz.underlying9) hb ?_;(conv=>whnf);refine cG [448] h M5 fun f h=>?_;cases h
 replace h:=qF h hb;refine xU (ek:=(fun(d:(@List UInt8))=>(AV.str d))) (en:=cB) fs a .dq rfl rfl (mN Tryz.underlying9) hb ⟨80,.dq,by kernel_rfl,by kernel_rfl,.refl _⟩ ?_;(conv=>whnf);left;(conv=>whnf);exact cR h (fun h=>aW (eT (Im h) rfl)) fun g h=>qG [(0,0),(1,1),(2,2)]
theorem Mi{b r}(h:lM F b=some r):FZ ml 65 [] [sM cB b] (.bN [.int IntKind.u64 r.1,aI r.2.1,aI r.2.2]) []:=by
 refine fA Tryz.func65 ?_
 unfold lM at h
 (conv=>whnf);refine jS h fun o2 vu=>jT [] [] 0 (fun h k2 e=>?_) fun h=>?_
 ·(conv=>whnf);left;(conv=>whnf);refine lI (fun n' x'=>mO F b n' x'.1 x'.2) (fun x'=>[(5,AV.int IntKind.u64 x'.1),(8,sM cB b),(9,aI (@Nat.cast Int instNatCastInt (List.length (List.map cB b)))),(10,aI x'.2)]) (fun x'=>[]) 0 ((0:Int),(0:Int)) [] h ?_;rintro f ⟨c,a⟩ h;dsimp only at h;rw[mO.eq_2]at h;(conv=>whnf);left;refine bS h (fun h=>?_) fun h=>?_
  ·(conv=>whnf);left;(conv=>whnf);refine gX h fun h=>?_;(conv=>whnf);refine oB h fun d h=>?_;(conv=>whnf);refine jN h fun g=>jM [(5,AV.int IntKind.u64 c),(6,aI a),(7,AV.int IntKind.u8 d),(8,sM cB b),(9,aI (@Nat.cast Int instNatCastInt (List.length (List.map cB b)))),(10,aI a),(28,.bool g)] [] 0 (fun h=>qE []) fun h=>?_;(conv=>whnf);left;refine bS h (fun h=>?_) fun h=>?_
   ·cases h;cases k2;exact rfl
   (conv=>whnf);refine gX h fun h=>?_;(conv=>whnf);left;refine bS h (fun h=>?_) fun h=>?_
   ·cases h;cases k2;exact rfl
   exact rE (f,(@bU BinOp.or IntKind.u64 c (IntKind.wrap IntKind.u64 ((IntKind.wrap IntKind.u64 (@bU BinOp.and IntKind.u8 d (127:Int)))*((2:Int)^(min (Int.toNat (IntKind.wrap IntKind.i64 ((7:Int)*a))) 64))))),(IntKind.wrap IntKind.i64 (a+(1:Int)))) [] h
  exact qE []
 exact qR
theorem My{r}(h:Bk F=some r):FZ ml 40 [] [] (AV.ptr 0 0 0) [(0,(AO.rows true [(@dK (0:Int) (0:Int) (0:Int) hZ)]))]:=by
 exact JH
theorem VC{b r}(h:D7 F b=some r):FZ ml 191 [(0,(AO.rows true [(@dK (0:Int) (0:Int) (0:Int) hZ)]))] [(AV.ptr 0 0 0),(AV.sl (List.map cB b))] (AV.int IntKind.u32 r) []:=by
 unfold D7 at h
 obtain⟨hg,h⟩:=dA h
 cases h;exact QN b hg
theorem ML{b r}(h:oj F b=some r):FZ ml 144 [] [sM cB b] (.bN [sM cB r.1,aI r.2.1,aI r.2.2]) []:=by
 refine fA Tryz.func144 ?_
 unfold oj at h
 (conv=>whnf);left;(conv=>whnf);refine cL h Mi fun a h=>?_;(conv=>whnf);left;refine bS h (fun h=>qR) fun h=>?_;(conv=>whnf);left;refine bS h (fun h=>qR) fun h=>?_;(conv=>whnf);left;refine bS h (fun h=>qR) fun h=>?_;(conv=>whnf);refine gX h fun h=>?_;(conv=>whnf);refine oB h fun c h=>?_;(conv=>whnf);refine gX h fun h=>?_;(conv=>whnf);refine oB h fun d h=>?_;(conv=>whnf);refine aX ?_;(conv=>whnf);refine gX h fun h=>?_;(conv=>whnf);refine oB h fun e h=>?_;(conv=>whnf);refine aX ?_;(conv=>whnf);refine gX h fun h=>?_;(conv=>whnf);refine oB h fun f h=>?_;(conv=>whnf);refine aX ?_;(conv=>whnf);refine aX ?_;(conv=>whnf);left;(conv=>whnf);refine cR h My fun g h=>?_;(conv=>whnf);refine aX ?_;(conv=>whnf);refine gX h fun h=>?_;(conv=>whnf);refine gX h fun h=>?_;(conv=>whnf);refine gS h fun h=>?_;obtain⟨i,hy,h⟩:=dS h;refine Or.inr (uq [1824] (VC hy) rfl rfl rfl (bZ rfl (bZ (YF AV.sl rQ) rfl)) ?_);(conv=>whnf);refine aX ?_;(conv=>whnf);left;refine bS h (fun h=>qR) fun h=>?_;(iterate 4 ((conv=>whnf);first|refine oL ?_|refine gX h fun h=>?_|refine aX ?_));(conv=>whnf);refine gS h fun h=>?_;(conv=>whnf);left;(conv=>whnf);obtain⟨j,hy,h⟩:=dS h;refine⟨_,_,(lg (bZ (YF AV.sl rQ) rfl) (eT (Im hy) rfl)),Or.inr ⟨[],rfl,?_⟩⟩;exact qR
theorem ME{kind b r}(h:oh F kind b=some r):FZ ml 49 [] [aI kind,sM cB b] (.bN [.agg (bW.c r.1),aI r.2.1,aI r.2.2]) []:=by
 refine fA Tryz.func49 ?_
 unfold oh at h
 (conv=>whnf);left;(conv=>whnf);left;(conv=>whnf);left;(conv=>whnf);refine jN h fun a=>jM [(0,aI kind),(1,sM cB b),(4,pp 0),(7,pp 1),(22,.bool a)] [(0,rF [aI 0,aI 0,.str []]),(1,rF [aI kind,aI 0,.str []])] 2 (fun h=>qE [(0,32),(1,192)]) fun h=>?_;(conv=>whnf);left;refine bS h (fun h=>qR) fun h=>?_;(conv=>whnf);left;(conv=>whnf);refine cL h Mi fun i h=>?_;(conv=>whnf);left;refine bS h (fun h=>qR) fun h=>?_;(conv=>whnf);refine jS h fun o1 ⟨d,f,g⟩=>jT [(4,pp 0),(7,pp 1),(9,aI (d))] [(0,rF [aI 0,aI 0,.str []]),(1,rF [aI kind,aI (f),.str g])] 2 (fun h k1 e=>?_) fun h=>?_
 ·(conv=>whnf);left;(conv=>whnf);left;refine bS h (fun h=>?_) fun h=>?_
  ·(conv=>whnf);refine aX ?_;(conv=>whnf);left;refine bS h (fun h=>?_) fun h=>?_
   ·cases h;cases k1;exact rfl
   exact qE [(0,0),(1,1)]
  (conv=>whnf);left;refine bS h (fun h=>qE [(0,0),(1,1)]) fun h=>?_;(conv=>whnf);left;refine bS h (fun h=>?_) fun h=>?_
  ·cases h;cases k1;exact rfl
  (conv=>whnf);left;refine bS h (fun h=>?_) fun h=>?_
  ·cases h;cases k1;exact rfl
  (iterate 4 ((conv=>whnf);first|refine oL ?_|refine gX h fun h=>?_|refine aX ?_));(conv=>whnf);refine gS h fun h=>?_;(conv=>whnf);obtain⟨hg,h⟩:=GL h;refine⟨_,Hm rQ hg,?_⟩;exact qE [(0,0),(1,1)]
 exact qR
theorem DW{a b r}(h:kK F a b=some r):FZ ml 33 [] [sM cJ a,sM cB b] (.bN [.an 0 3,aI r.1]) [(0,rT bW.c r.2)]:=by
 refine fG Tryz.func33 ?_
 unfold kK at h
 (conv=>whnf);refine jS h fun o0 ⟨f,g⟩=>jT [(1,sM cB f),(6,.an 0 3)] [(0,rT bW.c g)] 1 (fun h k0 e=>?_) fun h=>?_
 ·(conv=>whnf);left;(conv=>whnf);refine lI (fun n' x'=>mG F a n' x'.1 x'.2.1 x'.2.2) (fun x'=>[(1,sM cB x'.1),(6,.an 0 3),(12,sM cJ a),(13,aI (@Nat.cast Int instNatCastInt (List.length (List.map cJ a)))),(14,aI x'.2.1)]) (fun x'=>[(0,rT bW.c x'.2.2)]) 1 (b,(0:Int),[]) [(0,96)] h ?_;rintro i ⟨j,k,l⟩ h;dsimp only at h;rw[mG.eq_2]at h;(conv=>whnf);left;refine bS h (fun h=>?_) fun h=>?_
  ·(conv=>whnf);left;(conv=>whnf);refine gX h fun h=>?_;(conv=>whnf);refine oB h fun m h=>?_;(conv=>whnf);left;(conv=>whnf);refine cL h ME fun d h=>?_;(conv=>whnf);left;(conv=>whnf);left;refine bS h (fun h=>?_) fun h=>?_
   ·cases h;cases k0;exact gE [(0,577)]
   (conv=>whnf);left;(conv=>whnf);refine aX ?_;(conv=>whnf);refine aX ?_;(conv=>whnf);refine gS h fun h=>?_;(conv=>whnf);refine aX ?_;(conv=>whnf);refine gX h fun h=>?_;(conv=>whnf);refine gS h fun h=>?_;(conv=>whnf);refine gS h fun h=>?_;exact rV (i,(List.drop (Int.toNat d.2.1) j),(IntKind.wrap IntKind.i64 (k+(1:Int))),(l++(d.1::[]))) [(0,641)] h
  exact qE [(0,0)]
 (conv=>whnf);left;refine bS h (fun h=>?_) fun h=>?_
 ·cases h;exact gE [(0,97)]
 exact qG [(0,0)]
theorem DP{b r}(h:mF F b=some r):FZ ml 94 [] [sM cB b] (.bN [.an 0 1,aI r.1,.bool r.2.1]) (uU r.2.2):=by
 refine fG Tryz.func94 ?_
 unfold mF at h
 (conv=>whnf);left;(conv=>whnf);refine cR h ML fun e h=>?_;(conv=>whnf);left;refine bS h (fun h=>?_) fun h=>?_
 ·cases h;exact gE [(0,480)]
 (conv=>whnf);left;(conv=>whnf);left;obtain⟨a,hy,h⟩:=dS h;refine⟨_,_,(lg (bZ (YF AV.sl rQ) rfl) (eT (DW hy) rfl)),Or.inr ⟨[480],rfl,?_⟩⟩;(conv=>whnf);left;refine bS h (fun h=>?_) fun h=>?_
 ·cases h;exact gE [(0,800)]
 (conv=>whnf);left;(conv=>whnf);refine lI (fun n' x'=>wC F b a n' x'.1 x'.2) (fun x'=>[(0,sM cB b),(2,.an 0 1),(3,aI x'.1),(7,sM bW.c a.2)]) (fun x'=>(uU x'.2)) 1 (e.2.1,[]) [(0,32)] h ?_;rintro f ⟨g,i⟩ h;dsimp only at h;rw[wC.eq_2]at h;(conv=>whnf);left;(conv=>whnf);refine aX ?_;(conv=>whnf);refine gX h fun h=>?_;(conv=>whnf);refine gS h fun h=>?_;(conv=>whnf);refine gS h fun h=>?_;(conv=>whnf);left;(conv=>whnf);refine cR h (fun h=>aE (ML h)) fun d h=>?_;(conv=>whnf);left;refine bS h (fun h=>?_) fun h=>?_
 ·(conv=>whnf);refine aX ?_;(conv=>whnf);refine oB h fun j h=>?_;exact qG [(0,0)]
 (conv=>whnf);left;(conv=>whnf);refine aX ?_;(conv=>whnf);refine aX ?_;(conv=>whnf);refine gS h fun h=>?_;exact rE (f,(IntKind.wrap IntKind.i64 (g+d.2.1)),(i++(d.1::[]))) [(0,513)] h
theorem Xx{w a1 r}(h:Ei F w a1=some r):FZ ml 193 [] [.agg (bp.c w),AV.rp (@fy a1) 0] (.bool r) []:=by
 refine fA Tryz.func193 ?_
 unfold Ei at h;exact qR
theorem XN{s f0 r}(h:Ez F s f0=some r):FZ ml 226 [] [sM bp.c s,AV.fn 193 ((AV.rp (@fy f0) 0)::[])] (aI r) []:=by
 refine fA Tryz.func226 ?_
 unfold Ez at h
 (conv=>whnf);refine jS h fun o0 vu=>jT [] [] 0 (fun h k0 e=>?_) fun h=>?_
 ·(conv=>whnf);left;(conv=>whnf);refine lI (fun n' x'=>pH F s f0 n' x') (fun x'=>[(0,sM bp.c s),(1,AV.fn 193 ((AV.rp ((AV.str f0)::[]) 0)::[])),(7,aI (@Nat.cast Int instNatCastInt (List.length (List.map bp.c s)))),(8,aI x')]) (fun x'=>[]) 0 (0:Int) [] h ?_;rintro a b h;rw[pH.eq_2]at h;(conv=>whnf);left;refine bS h (fun h=>?_) fun h=>?_
  ·(conv=>whnf);left;(conv=>whnf);refine gX h fun h=>?_;(conv=>whnf);refine oB h fun d h=>?_;(conv=>whnf);left;(conv=>whnf);refine cL h Xx fun f h=>?_;(conv=>whnf);left;refine bS h (fun h=>?_) fun h=>?_
   ·cases h;cases k0;exact rfl
   exact rE (a,(IntKind.wrap IntKind.i64 (b+(1:Int)))) [] h
  exact qE []
 exact qR
theorem XH{w b r}(h:B0 F w b=some r):FZ ml 193 [(0,rF (@fy b))] [.agg (bp.c w),pp 0] (.bool r) [(0,rF (@fy b))]:=by
 refine fG Tryz.func193 ?_
 unfold B0 at h;exact qG [(0,0)]
theorem XP{l b r}(h:B7 F l b=some r):FZ ml 192 [(0,rT bp.c l),(1,rF (@fy b))] [.an 0 2,AV.fn 193 ((AV.ptr 1 0 0)::[])] (.an 2 2) [(1,rF (@fy b)),(2,rT bp.c r)]:=by
 refine fG Tryz.func192 ?_
 unfold B7 at h
 (conv=>whnf);left;(conv=>whnf);refine cL h XN fun a h=>?_;(conv=>whnf);left;refine bS h (fun h=>qG [(1,1),(2,0)]) fun h=>?_;(conv=>whnf);refine jN h fun⟨g,i⟩=>jM [(0,.an 0 2),(5,aI g)] [(0,rT bp.c i),(1,rF [.str b])] 2 (fun h=>?_) fun h=>?_
 ·(conv=>whnf);left;(conv=>whnf);refine lI (fun n' x'=>uQ F b n' x'.1 x'.2.1 x'.2.2) (fun x'=>[(0,.an 0 2),(1,AV.fn 193 ((AV.ptr 1 0 0)::[])),(5,aI x'.1),(6,aI x'.2.1)]) (fun x'=>[(0,rT bp.c x'.2.2),(1,rF [.str b])]) 2 (a,(IntKind.wrap IntKind.i64 (a+(1:Int))),l) [(0,0),(1,1)] h ?_;rintro j ⟨k,d,m⟩ h;dsimp only at h;rw[uQ.eq_2]at h;(conv=>whnf);left;refine bS h (fun h=>?_) fun h=>?_
  ·(conv=>whnf);refine jN h fun⟨e,f⟩=>jM [(0,.an 0 2),(1,AV.fn 193 ((AV.ptr 1 0 0)::[])),(5,aI e),(6,aI d)] [(0,rT bp.c f),(1,rF [.str b])] 2 (fun h=>?_) fun h=>?_
   ·(conv=>whnf);left;(conv=>whnf);refine gX h fun h=>?_;(conv=>whnf);refine oB h fun n h=>?_;(conv=>whnf);refine oB h fun o h=>?_;(conv=>whnf);left;(conv=>whnf);refine cH [1] h XH fun p h=>?_;(conv=>whnf);left;refine bS h (fun h=>?_) fun h=>?_
    ·(conv=>whnf);refine gX h fun h=>?_;(conv=>whnf);refine oB h fun q h=>?_;(conv=>whnf);refine oB h fun s h=>?_;cases h;exact eE [(0,0),(1,1)]
    exact qE [(0,0),(1,1)]
   exact rE (j,e,(IntKind.wrap IntKind.i64 (d+(1:Int))),f) [(0,0),(1,1)] h
  exact qE [(0,0),(1,1)]
 (conv=>whnf);refine aX ?_;(conv=>whnf);left;(conv=>whnf);refine gX h fun h=>?_;(conv=>whnf);refine gS h fun h=>?_;(conv=>whnf);refine gS h fun h=>?_;(conv=>whnf);refine aX ?_;(conv=>whnf);refine gS h fun h=>?_;(conv=>whnf);refine And.intro (dU.append (dU.take (dU.map (fun _=>rfl))) (dU.append (dU.replicate rfl) (dU.drop (dU.map (fun _=>rfl))))) ?_;(conv=>whnf);refine Or.inr ?_;(conv=>whnf);refine⟨_,_,rfl,rfl,rfl,rfl,?_⟩;(conv=>whnf);refine gX h fun h=>?_;(conv=>whnf);refine gS h fun h=>?_;cases h;exact gE [(0,0),(1,1),(2,194)]
theorem Ie{a c fs l r}(h:wS F a c fs l=some r):FZ ml 145 (T5 c fs l) [pp 0,.str a] (.bN []) (xb r.1 fs r.2):=by
 refine fG Tryz.func145 ?_
 unfold wS at h
 (conv=>whnf);left;(conv=>whnf);exact cG [2,32] h XP fun b h=>qG [(0,0),(1,1),(2,2),(3,258)]
theorem B6{a c fs l r}(h:wR F a c fs l=some r):FZ ml 95 (T5 c fs l) [pp 0,.str a] (aI r.1) (xb r.2.1 r.2.2.1 r.2.2.2):=by
 refine fG Tryz.func95 ?_
 unfold wR at h
 (conv=>whnf);refine cH [0,1,2] h Er fun e h=>?_;(conv=>whnf);refine jN h fun⟨f,g,i⟩=>jM [(5,aI e)] (xb f g i) 4 (fun h=>?_) fun h=>?_
 ·(conv=>whnf);left;refine bS h (fun h=>?_) fun h=>?_
  ·(conv=>whnf);refine aX ?_;(conv=>whnf);refine both (b:=(Option.isSome (ak a fs))) (fun hb=>?_) fun hb=>?_
   ·replace h:=qH h hb;refine xV (ek:=(fun(d:(@List UInt8))=>(AV.str d))) (en:=cB) fs a rfl rfl (mN Tryz.underlying9) hb ?_;(conv=>whnf);refine aX ?_;(conv=>whnf);refine aX ?_;(conv=>whnf);refine Jz (ek:=(fun(d:(@List UInt8))=>(AV.str d))) (en:=cB) fs a rfl rfl (mN Tryz.underlying9) (.inr ⟨by assumption,rfl⟩) ?_;(conv=>whnf);exact cG [0,1,2] h Ie fun j h=>qE [(0,0),(1,1),(2,2),(3,995)]
   replace h:=qF h hb;refine xU (ek:=(fun(d:(@List UInt8))=>(AV.str d))) (en:=cB) fs a .dq rfl rfl (mN Tryz.underlying9) hb ⟨80,.dq,by kernel_rfl,by kernel_rfl,.refl _⟩ ?_;(conv=>whnf);refine aX ?_;(conv=>whnf);refine aX ?_;(conv=>whnf);refine Jz (ek:=(fun(d:(@List UInt8))=>(AV.str d))) (en:=cB) fs a rfl rfl (mN Tryz.underlying9) (.inl rfl) ?_;(conv=>whnf);exact cG [0,1,2] h Ie fun k h=>qE [(0,0),(1,1),(2,2),(3,995)]
  exact qE [(0,0),(1,1),(3,2)]
 exact qG (ii 4 [])
theorem DY{n l r}(h:uC F n l=some r):FZ ml 48 (r7 l) [.an 0 1,AV.int IntKind.u64 n] (.an 1 1) [(1,rT cB r)]:=by
 refine fG Tryz.func48 ?_
 unfold uC at h
 (conv=>whnf);refine jN h fun⟨b,c⟩=>jM [(0,.an 1 1),(1,AV.int IntKind.u64 b)] [(1,rT cB c)] 2 (fun h=>?_) fun h=>?_
 ·(conv=>whnf);left;(conv=>whnf);refine lI (fun n' x'=>uI F n' x'.1 x'.2) (fun x'=>[(0,.an 1 1),(1,AV.int IntKind.u64 x'.1)]) (fun x'=>[(1,rT cB x'.2)]) 2 (n,l) [(1,0)] h ?_;rintro d ⟨a,e⟩ h;dsimp only at h;rw[uI.eq_2]at h;(conv=>whnf);left;refine bS h (fun h=>?_) fun h=>?_
  ·(conv=>whnf);left;(conv=>whnf);left;(conv=>whnf);refine aX ?_;(conv=>whnf);refine aX ?_;(conv=>whnf);refine gS h fun h=>?_;(conv=>whnf);refine aX ?_;exact rE (d,(@Int.fdiv a ((2:Int)^(min (Int.toNat (7:Int)) 64))),(e++((@bU BinOp.or IntKind.u8 (IntKind.wrap IntKind.u8 a) (128:Int))::[]))) [(0,0),(1,226)] h
  exact qE [(0,0),(1,1)]
 (conv=>whnf);left;(conv=>whnf);refine aX ?_;(conv=>whnf);refine aX ?_;(conv=>whnf);refine gS h fun h=>?_;cases h;exact gE [(0,0),(1,130)]
theorem DX{a r}(h:rM F a=some r):FZ ml 31 [] [sM bW.c a] (.bN [.an 0 1,aI r.1]) (r7 r.2):=by
 refine fG Tryz.func31 ?_
 unfold rM at h
 (conv=>whnf);refine jS h fun o6 i=>jT [(4,.an 0 1)] (r7 i) 1 (fun h k6 e=>?_) fun h=>?_
 ·(conv=>whnf);left;(conv=>whnf);refine lI (fun n' x'=>qT F a n' x'.1 x'.2) (fun x'=>[(4,.an 0 1),(7,sM bW.c a),(8,aI (@Nat.cast Int instNatCastInt (List.length (List.map bW.c a)))),(9,aI x'.1)]) (fun x'=>(r7 x'.2)) 1 ((0:Int),[]) [(0,96)] h ?_;rintro j ⟨b,d⟩ h;dsimp only at h;rw[qT.eq_2]at h;(conv=>whnf);left;refine bS h (fun h=>?_) fun h=>?_
  ·(conv=>whnf);refine jS h fun Cp f=>jT [(4,.an 0 1),(7,sM bW.c a),(8,aI (@Nat.cast Int instNatCastInt (List.length (List.map bW.c a)))),(9,aI b)] (r7 f) 1 (fun h NN e=>?_) fun h=>?_
   ·(conv=>whnf);left;(conv=>whnf);refine gX h fun h=>?_;(conv=>whnf);refine oB h fun g h=>?_;(conv=>whnf);left;(conv=>whnf);left;(conv=>whnf);refine jN h fun k=>jM [(4,.an 0 1),(6,pp 1),(7,sM bW.c a),(8,aI (@Nat.cast Int instNatCastInt (List.length (List.map bW.c a)))),(9,aI b),(13,.bool k)] (r7 d++[(1,rF (bW.c g))]) 2 (fun h=>qE [(0,0),(1,97)]) fun h=>?_;(conv=>whnf);left;refine bS h (fun h=>?_) fun h=>?_
    ·(conv=>whnf);exact cG [0] h DY fun m h=>qE [(0,131)]
    (conv=>whnf);left;refine bS h (fun h=>?_) fun h=>?_
    ·(conv=>whnf);refine aX ?_;(conv=>whnf);refine aX ?_;(conv=>whnf);exact cG [0] h DY fun n h=>qE [(0,451)]
    (conv=>whnf);refine jN h fun l=>jM [(4,.an 0 1),(6,pp 1),(7,sM bW.c a),(8,aI (@Nat.cast Int instNatCastInt (List.length (List.map bW.c a)))),(9,aI b),(42,.bool l)] (r7 d++[(1,rF (bW.c g))]) 2 (fun h=>qE [(0,0),(1,1)]) fun h=>?_;(conv=>whnf);left;refine bS h (fun h=>?_) fun h=>?_
    ·(conv=>whnf);refine cG [0] h DY fun o h=>?_;(conv=>whnf);refine aX ?_;(conv=>whnf);refine aX ?_;(conv=>whnf);refine gS h fun h=>?_;(conv=>whnf);refine aX ?_;cases h;cases e;exact eE [(0,258)]
    cases h;cases NN;cases k6;exact gE [(0,2)]
   exact rE (j,(IntKind.wrap IntKind.i64 (b+(1:Int))),f) [(0,0)] h
  exact qE [(0,0)]
 exact qG [(0,0)]
theorem Xb{l r}(h:Ej F l=some r):FZ ml 191 [(0,(AO.rows true [(@dK (0:Int) (0:Int) (0:Int) hZ)])),(1,(AO.rows true (List.map cB l)))] [(AV.ptr 0 0 0),(AV.an 1 1)] (AV.int IntKind.u32 r) [(1,(AO.rows true (List.map cB l)))]:=by
 unfold Ej at h
 obtain⟨hg,h⟩:=dA h
 cases h;exact Qg l hg
theorem UZ{b r}(h:xT F b=some r):FZ ml 200 [] [sM cB b] (.bN [.an 0 1,aI r.1]) (r7 r.2):=by
 refine fG Tryz.func200 ?_
 unfold xT at h
 (conv=>whnf);left;refine bS h (fun h=>?_) fun h=>?_
 ·cases h;exact gE [(0,192)]
 (conv=>whnf);left;(conv=>whnf);obtain⟨a,hy,h⟩:=dS h;refine⟨_,_,(PS 0 1 (DY hy) rfl),Or.inr ⟨[],rfl,?_⟩⟩;(conv=>whnf);refine aX ?_;(conv=>whnf);refine aX ?_;(conv=>whnf);refine gS h fun h=>?_;(conv=>whnf);left;(conv=>whnf);refine cR h My fun c h=>?_;(conv=>whnf);refine cG [416,352] h Xb fun d h=>?_;(iterate 4 ((conv=>whnf);first|refine oL ?_|refine aX ?_));(conv=>whnf);refine And.intro (dU.cons rfl (dU.cons rfl (dU.cons rfl (dU.cons rfl dU.nil)))) ?_;(conv=>whnf);refine aX ?_;(conv=>whnf);refine gS h fun h=>?_;cases h;exact gE [(0,960)]
theorem Mx{rec r}(h:uD F rec=some r):FZ ml 171 [] [sM cB rec] (.bN [sM cB r.1,aI r.2]) []:=by
 refine fA Tryz.func171 ?_
 unfold uD at h
 (conv=>whnf);left;(conv=>whnf);exact cR h (fun h=>eT (UZ h) rfl) fun a h=>qR
theorem U6{bE r}(h:xR F bE=some r):FZ ml 146 [] [sM (fe cB) bE] (.bN [.an 0 1,aI r.1]) (uU r.2):=by
 refine fG Tryz.func146 ?_
 unfold xR at h
 (conv=>whnf);left;(conv=>whnf);left;(conv=>whnf);left;obtain⟨a,hy,h⟩:=dS h;refine⟨_,_,(lg (bZ (YF AV.sl rQ) rfl) (eT (DX hy) rfl)),Or.inr ⟨[192],rfl,?_⟩⟩;(conv=>whnf);left;(conv=>whnf);refine aX ?_;(conv=>whnf);refine aX ?_;(conv=>whnf);refine gS h fun h=>?_;(conv=>whnf);refine jS h fun o0 b=>jT [(6,.an 0 1)] (uU b) 1 (fun h k0 e=>?_) fun h=>?_
 ·(conv=>whnf);left;(conv=>whnf);refine lI (fun n' x'=>rU F bE a n' x'.1 x'.2) (fun x'=>[(6,.an 0 1),(22,.an 1 1),(23,aI (@Nat.cast Int instNatCastInt (List.length (((List.take (@GetElem.getElem (@Array TypeInfo) Nat TypeInfo (fun(c:(@Array TypeInfo))=>(fun(d:Nat)=>(d<(@Array.size TypeInfo c)))) (@Array.instGetElemNatLtSize TypeInfo) Proofs.Tryz.prog.toTables.types 80 (@W5 (Nat.succ 80) (@Array.size TypeInfo Proofs.Tryz.prog.toTables.types) (@rfl Bool true))).size ((AV.sl (List.map cB a.2))::[]))::[])++(List.map (fe cB) bE))))),(24,aI x'.1)]) (fun x'=>(uU x'.2++[(1,rT (fe cB) ((a.2::[])++bE))])) 2 ((0:Int),[]) [(0,416),(1,544)] h ?_;rintro f ⟨g,i⟩ h;dsimp only at h;rw[rU.eq_2]at h;(conv=>whnf);left;refine bS h (fun h=>?_) fun h=>?_
  ·(conv=>whnf);left;(conv=>whnf);refine gX h fun h=>?_;(conv=>whnf);refine oB h fun k h=>?_;(conv=>whnf);refine oB h fun l h=>?_;(conv=>whnf);left;(conv=>whnf);refine cR h Mx fun j h=>?_;(conv=>whnf);left;refine bS h (fun h=>?_) fun h=>?_
   ·cases h;cases k0;exact gE [(0,450)]
   (conv=>whnf);left;(conv=>whnf);refine aX ?_;(conv=>whnf);refine aX ?_;(conv=>whnf);refine gS h fun h=>?_;exact rE (f,(IntKind.wrap IntKind.i64 (g+(1:Int))),(i++(j.1::[]))) [(0,514),(1,1)] h
  exact qE [(0,0)]
 exact qG [(0,0)]
theorem UR{a r}(h:rP F a=some r):FZ ml 194 [] [.str a] (.bool r) []:=by
 refine fA Tryz.func194 ?_
 unfold rP at h
 (conv=>whnf);refine gX h fun h=>?_;(conv=>whnf);refine jS h fun o4 vu=>jT [(0,.str a)] [] 0 (fun h k4 e=>?_) fun h=>?_
 ·(conv=>whnf);left;(conv=>whnf);refine lI (fun n' x'=>rS F a n' x') (fun x'=>[(0,.str a),(6,.an 0 1),(7,aI (@Nat.cast Int instNatCastInt (List.length (@gj a)))),(8,aI x')]) (fun x'=>(r7 (List.map (fun(b:UInt8)=>(((UInt8.toNat b):Nat):Int)) a))) 1 (0:Int) [(0,96)] h ?_;rintro d c h;rw[rS.eq_2]at h;(conv=>whnf);left;refine bS h (fun h=>?_) fun h=>?_
  ·(conv=>whnf);left;(conv=>whnf);refine gX h fun h=>?_;(conv=>whnf);refine oB h fun g h=>?_;(conv=>whnf);refine oB h fun i h=>?_;(conv=>whnf);refine jN h fun f=>jM [(0,.str a),(6,.an 0 1),(7,aI (@Nat.cast Int instNatCastInt (List.length (@gj a)))),(8,aI c),(33,.bool f)] (r7 (List.map (fun(b:UInt8)=>(((UInt8.toNat b):Nat):Int)) a)) 1 (fun h=>qE [(0,0)]) fun h=>?_;(conv=>whnf);left;refine bS h (fun h=>?_) fun h=>?_
   ·cases h;cases k4;exact rfl
   exact rE (d,(IntKind.wrap IntKind.i64 (c+(1:Int)))) [(0,0)] h
  exact qE []
 exact qR
theorem MR{a b c fs l r}(h:uL F a b c fs l=some r):FZ ml 147 (T5 c fs l) [pp 0,.str a,sM cB b] (aI r.1) (xb r.2.1 r.2.2.1 r.2.2.2):=by
 refine fG Tryz.func147 ?_
 unfold uL at h
 (conv=>whnf);left;(conv=>whnf);left;(conv=>whnf);refine cL h UR fun f h=>?_;(conv=>whnf);left;refine bS h (fun h=>qG [(0,0),(1,1),(3,2)]) fun h=>?_;(conv=>whnf);refine aX ?_;(conv=>whnf);refine both (b:=(Option.isSome (ak a fs))) (fun hb=>?_) fun hb=>?_
 ·replace h:=qH h hb;refine xV (ek:=(fun(d:(@List UInt8))=>(AV.str d))) (en:=cB) fs a rfl rfl (mN Tryz.underlying9) hb ?_;(conv=>whnf);left;(conv=>whnf);left;refine bS h (fun h=>?_) fun h=>?_
  ·cases h;obtain⟨kk,tV⟩:=(AS (ek:=(fun(d:(@List UInt8))=>(AV.str d))) (en:=cB) (q:=a) (L:=fs) (by assumption)).2;refine Gq (.step _ 1 1 _ _ 448 kk _ _ rfl rfl tV (fun row hr=>by obtain⟨y,_,rfl⟩:=YM.1 hr;rfl) rfl (.refl _)) ?_;exact gI [(0,0),(1,1),(3,2)]
  (conv=>whnf);refine aX ?_;(conv=>whnf);refine aX ?_;(conv=>whnf);refine gS h fun h=>?_;(conv=>whnf);refine aX ?_;(conv=>whnf);obtain⟨hg,h⟩:=dA h;refine vR (ek:=(fun(d:(@List UInt8))=>(AV.str d))) (en:=cB) fs a ((Option.getD (ak a fs) [])++b) 1504 rfl rfl (mN Tryz.underlying9) (.inr ⟨by assumption,rfl⟩) hg rfl _ rfl rQ (fun _=>rfl) rfl ?_;(iterate 5 ((conv=>whnf);first|refine oL ?_|refine aX ?_));(conv=>whnf);refine gS h fun h=>?_;(conv=>whnf);left;cases h;exact gE [(0,0),(1,1),(2,2),(3,2208)]
 replace h:=qF h hb;refine xU (ek:=(fun(d:(@List UInt8))=>(AV.str d))) (en:=cB) fs a .dq rfl rfl (mN Tryz.underlying9) hb ⟨80,.dq,by kernel_rfl,by kernel_rfl,.refl _⟩ ?_;(conv=>whnf);refine jN h fun e=>jM [(0,pp 0),(1,.str a),(2,sM cB b),(7,.dq),(44,.bool e)] (T5 c fs l) 3 (fun h=>qE [(0,0),(1,1),(2,2)]) fun h=>?_;(conv=>whnf);left;refine bS h (fun h=>qG [(0,0),(1,1),(3,2)]) fun h=>?_;(conv=>whnf);refine aX ?_;(conv=>whnf);refine gS h fun h=>?_;(conv=>whnf);refine aX ?_;(conv=>whnf);obtain⟨hg,h⟩:=dA h;refine vR (ek:=(fun(d:(@List UInt8))=>(AV.str d))) (en:=cB) fs a b 227 rfl rfl (mN Tryz.underlying9) (.inl rfl) hg rfl _ rfl rQ (fun _=>rfl) rfl ?_;(iterate 5 ((conv=>whnf);first|refine oL ?_|refine aX ?_));(conv=>whnf);refine gS h fun h=>?_;(conv=>whnf);left;cases h;exact gE [(0,0),(1,1),(2,2),(3,931)]
theorem MY{a c fs l r}(h:yr F a c fs l=some r):FZ ml 148 (T5 c fs l) [pp 0,.str a] (aI r.1) (xb r.2.1 fs r.2.2):=by
 refine fG Tryz.func148 ?_
 unfold yr at h
 (conv=>whnf);refine cH [0,1,2] h Er fun b h=>?_;(conv=>whnf);refine jN h fun⟨d,e⟩=>jM [(5,aI b)] (xb d fs e) 4 (fun h=>?_) fun h=>?_
 ·(conv=>whnf);left;refine bS h (fun h=>?_) fun h=>?_
  ·(conv=>whnf);exact cG [0,1,2] h Ie fun f h=>qE [(0,0),(1,1),(2,2),(3,323)]
  exact qE [(0,0),(1,1),(3,2)]
 exact qG (ii 4 [])
end Go.T
