import Derived.Test.YtjpmdkgonlmddaaGreatDoorSem
import Derived.Test.YtjpmdkgonlmddaaGreatDoorProg
import Derived.KernelRfl
import Derived.Test.YtjpmdkgonlmddaaGreatDoorAbM
import Derived.Test.YtjpmdkgonlmddaaGreatDoorLib
set_option linter.unusedVariables false
set_option maxRecDepth 200000
set_option maxHeartbeats 4000000
namespace Go.T
open Go Go.Ab Go.Proofs
theorem mixed:Tryz.prog.follows .mixedOrders=true:=by kernel_rfl
abbrev FZ(ml:Gv):=FC Tryz.prog (GM ml)
def zr0:List AV:=[aI 0,.esl,aI 0,aI 0,aI 0,aI 0,aI 0,aI 0,.esl,.str [],aI 0,aI 0,aI 0,.esl,.esl,.esl]
def zr1:List AV:=[aI 0,aI 0,aI 0,.str []]
abbrev eG(l:List (Int×group_node)):=encG (fun k:Int=>AV.int .i64 k) group_node.g l
abbrev gH(l:List (Int×group_node))(k:Int)(n:Nat):AO:=.gmap (eG l) (some ((mix k l).getD 0,n))
abbrev mP(m:List (mesh_pair×Int)):AO:=.mapo true (encM (fun k:mesh_pair=>AV.agg k.c) (fun k:Int=>AV.int .i64 k) m)
abbrev fS(l:List (List UInt8×List Int)):AO:=.fmap 1 (encF (fun k:List UInt8=>AV.str k) (cInt .u8) l) none
theorem gF{m:Nat}{rv v:AV}{os os':Ab.Os}(o qo:Nat)(L:List (Int×group_node))(q:Int)(x:group_node)(V:List Nat)(k:EndG m rv os' v (updL os ((o,some (.gmap (eG (mput q x L)) none))::V.map fun q=>(q,none))))
 (hs:(mget q L).isSome=true:=by assumption) (h1:lk os o=some (.gmap (eG L) (some ((mix q L).getD 0,qo))):=by exact rfl) (h3:(decide (V.length=(group_node.g x).length)&&decide V.Nodup&&decide (o∉V)&&decide (V.getD 0 0=qo))=true:=by exact rfl)
 (h4:lkE os (fun n=>V.getD n 0) 0 (group_node.g x):=by repeat' first|exact lkE_n|refine lkE_c _ rfl ?_ ?_|exact WkO.eq rfl|exact WkO.eq (YI (fun X=>AO.rows false [X]) rQ)|exact WkO.eq (YI (AO.rows true) rQ))
 (h5:(rootB (group_node.g x)&&Zjp (group_node.g x) 0 (group_node.g x)&&idsG (group_node.g x).length (group_node.g x))=true:=by exact rfl):EndG m rv os' v os:=Zp6 (Zsy L q x V _ h1 hs rfl h3 h4 h5 (.refl _)) k
abbrev cJ:=cInt .i64
abbrev cB:=cInt .u8
abbrev cU:=cInt .u32
def T0(a:List Int)(b:Bool)(c:List (Int×group_node))(d:Int)(e:Bool)(f:List Zab)(g h:List Int)(i:List Zai)(j:List Zae)(k:List (mesh_pair×Int)):Ab.Os:=[(0,rF [sM cJ a,.mapo 1,pp 2,pp 3,.osw 4 2,.osw 5 1,.osw 6 1,.osw 7 2,.bool b]),(1,AO.gmap (eG c) none),(2,rF [.osw 8 4,aI d,.mapo 9]),(3,.rows true [(@crowB e)]),(4,rT Zab.c f),(5,rT cJ g),(6,rT cU h),(7,rT Zai.c i),(8,rT Zae.c j),(9,mP k)]
def T1(a:Zah)(b c d:List Int)(e:List Zac):Ab.Os:=[(0,rF (Zah.c a++[.osw 1 1,.osw 2 1,.osw 3 1,.osw 4 10])),(1,rT cJ b),(2,rT cJ c),(3,rT cJ d),(4,rT Zac.c e)]
def T2(a:List Int)(b:Bool)(c:List (Int×group_node))(d e:Int)(f:Bool)(g:Zad)(h:Bool)(i j:Int)(k:List (mesh_pair×Int))(l:Int)(m:Zad)(n:List (List UInt8×List Int))(o:List UInt8)(p q:Int):Ab.Os:=[(0,rF [sM cJ a,.mapo 1,pp 2,pp 3,.osw 17 2,.osw 18 1,.osw 19 1,.osw 20 2,.bool b]),(1,gH c d 8),(2,rF [.osw 21 4,aI e,.mapo 10]),(3,.rows true [(@crowB f)]),(8,rF ([pp 11,pp 12]++Zad.c g++[.bool h,aI i,AV.int IntKind.u32 j])),(10,mP k),(11,rF [.mapo 13,.osw 22 2,aI l]),(12,rF ([pp 15]++Zad.c m)),(13,fS n),(15,rF [pp 11,.str o,aI p,aI q])]
def T3(a:List Int)(b:Bool)(c:List (Int×group_node))(d e:Int)(f:Bool)(g:Zad)(h:Bool)(i j:Int)(k:List (mesh_pair×Int))(l:Int)(m:Zad)(n:List (List UInt8×List Int))(o:List UInt8)(p q:Int)(r:List Zab)(s t:List Int)(u:List Zai)(v:List Zae)(w:List Zaa):Ab.Os:=[(0,rF [sM cJ a,.mapo 1,pp 2,pp 3,.osw 16 2,.osw 17 1,.osw 18 1,.osw 19 2,.bool b]),(1,gH c d 8),(2,rF [.osw 20 4,aI e,.mapo 10]),(3,.rows true [(@crowB f)]),(8,rF ([pp 11,pp 12]++Zad.c g++[.bool h,aI i,AV.int IntKind.u32 j])),(10,mP k),(11,rF [.mapo 13,.osw 21 2,aI l]),(12,rF ([pp 15]++Zad.c m)),(13,fS n),(15,rF [pp 11,.str o,aI p,aI q]),(16,rT Zab.c r),(17,rT cJ s),(18,rT cU t),(19,rT Zai.c u),(20,rT Zae.c v),(21,rT Zaa.c w)]
def T4(a:List Int)(b:Bool)(c:List (Int×group_node))(d e:Int)(f:Bool)(g:List Zab)(h i:List Int)(j:List Zai)(k:Zad)(l:Bool)(m n:Int)(o:List Zae)(p:List (mesh_pair×Int))(q:Int)(r:Zad)(s:List (List UInt8×List Int))(t:List Zaa)(u:List UInt8)(v w:Int):Ab.Os:=[(0,rF [sM cJ a,.mapo 1,pp 2,pp 3,.osw 4 2,.osw 5 1,.osw 6 1,.osw 7 2,.bool b]),(1,gH c d 8),(2,rF [.osw 9 4,aI e,.mapo 10]),(3,.rows true [(@crowB f)]),(4,rT Zab.c g),(5,rT cJ h),(6,rT cU i),(7,rT Zai.c j),(8,rF ([pp 11,pp 12]++Zad.c k++[.bool l,aI m,AV.int IntKind.u32 n])),(9,rT Zae.c o),(10,mP p),(11,rF [.mapo 13,.osw 14 2,aI q]),(12,rF ([pp 15]++Zad.c r)),(13,fS s),(14,rT Zaa.c t),(15,rF [pp 11,.str u,aI v,aI w])]
def T5(a:Int)(b:List (List UInt8×List Int))(c:List Zaa):Ab.Os:=[(0,rF [.mapo 1,.osw 2 2,aI a]),(1,fS b),(2,rT Zaa.c c)]
def T6(a:Int)(b:List Zae)(c:List (mesh_pair×Int)):Ab.Os:=[(0,rF [.osw 1 4,aI a,.mapo 2]),(1,rT Zae.c b),(2,mP c)]
def T7(a:List Int)(b c:Bool)(d e f g h i j:Int)(k:List (Int×group_node))(l:Int)(m:Bool)(n:List Zab)(o p:List Int)(q:List Zai)(r:List Zae)(s:List (mesh_pair×Int)):Ab.Os:=[(0,rF [sM cJ a,.mapo 2,pp 3,pp 4,.osw 5 2,.osw 6 1,.osw 7 1,.osw 8 2,.bool b]),(1,rF [.bool c,aI d,aI e,aI f,aI g,aI h,aI i,AV.int IntKind.u32 j]),(2,AO.gmap (eG k) none),(3,rF [.osw 9 4,aI l,.mapo 10]),(4,.rows true [(@crowB m)]),(5,rT Zab.c n),(6,rT cJ o),(7,rT cU p),(8,rT Zai.c q),(9,rT Zae.c r),(10,mP s)]
def T8(a:Int)(b:List (List UInt8×List Int))(c d e f g h i:Int)(j:List UInt8)(k l m n:Int)(o:List Int)(p q r s t u:Int)(v:List Zab)(w:List UInt8)(x y z:Int)(A B C:List Int)(D:List UInt8)(E F:Int)(G:List Zaa):Ab.Os:=[(0,rF [.mapo 1,.osw 6 2,aI a]),(1,fS b),(3,rF [aI c,.esl,aI d,aI e,aI f,aI g,aI h,aI i,.esl,.str j,aI k,aI l,aI m,.esl,.esl,.esl]),(4,rF [aI n,sM cJ o,aI p,aI q,aI r,aI s,aI t,aI u,sM Zab.c v,.str w,aI x,aI y,aI z,sM cJ A,sM cJ B,sM cJ C]),(5,rF [pp 0,.str D,aI E,aI F]),(6,rT Zaa.c G)]
def T9(a:List Int)(b:Bool)(c:Zad)(d:Bool)(e f:Int)(g:List (Int×group_node))(h i:Int)(j:Bool)(k:List Zab)(l m:List Int)(n:List Zai)(o:Int)(p:Zad)(q:List Zae)(r:List (mesh_pair×Int))(s:List (List UInt8×List Int))(t:List Zaa)(u:List UInt8)(v w:Int):Ab.Os:=[(0,rF [sM cJ a,.mapo 2,pp 3,pp 4,.osw 5 2,.osw 6 1,.osw 7 1,.osw 8 2,.bool b]),(1,rF ([pp 9,pp 10]++Zad.c c++[.bool d,aI e,AV.int IntKind.u32 f])),(2,gH g h 1),(3,rF [.osw 11 4,aI i,.mapo 12]),(4,.rows true [(@crowB j)]),(5,rT Zab.c k),(6,rT cJ l),(7,rT cU m),(8,rT Zai.c n),(9,rF [.mapo 13,.osw 14 2,aI o]),(10,rF ([pp 15]++Zad.c p)),(11,rT Zae.c q),(12,mP r),(13,fS s),(14,rT Zaa.c t),(15,rF [pp 9,.str u,aI v,aI w])]
def T10(a:Zah)(b c d e f g:List Int)(h:List Zac):Ab.Os:=[(0,rF (Zah.c a++[.osw 5 1,.osw 6 1,.osw 7 1,.osw 8 10])),(1,rT cJ b),(2,rT cJ c),(3,rT cJ d),(5,rT cJ e),(6,rT cJ f),(7,rT cJ g),(8,rT Zac.c h)]
def T11(a:List Int)(b:Bool)(c:List (Int×group_node))(d:Int)(e:Bool)(f:List (mesh_pair×Int))(g:List Zab)(h i:List Int)(j:List Zai)(k:List Zae):Ab.Os:=[(0,rF [sM cJ a,.mapo 1,pp 2,pp 3,.osw 10 2,.osw 11 1,.osw 12 1,.osw 13 2,.bool b]),(1,AO.gmap (eG c) none),(2,rF [.osw 14 4,aI d,.mapo 9]),(3,.rows true [(@crowB e)]),(9,mP f),(10,rT Zab.c g),(11,rT cJ h),(12,rT cU i),(13,rT Zai.c j),(14,rT Zae.c k)]
def T12(a:List Int)(b c:Bool)(d e f g h i j:Int)(k:List Zae)(l:List (Int×group_node))(m:Int)(n:Bool)(o:List Zab)(p q:List Int)(r:List Zai)(s:List Zae)(t:List (mesh_pair×Int)):Ab.Os:=[(0,rF [sM cJ a,.mapo 3,pp 4,pp 5,.osw 6 2,.osw 7 1,.osw 8 1,.osw 9 2,.bool b]),(1,rF [.bool c,aI d,aI e,aI f,aI g,aI h,aI i,AV.int IntKind.u32 j]),(2,rT Zae.c k),(3,AO.gmap (eG l) none),(4,rF [.osw 10 4,aI m,.mapo 11]),(5,.rows true [(@crowB n)]),(6,rT Zab.c o),(7,rT cJ p),(8,rT cU q),(9,rT Zai.c r),(10,rT Zae.c s),(11,mP t)]
def T13(a:List Int)(b:Bool)(c:Zad)(d:Bool)(e f:Int)(g:List (Int×group_node))(h i:Int)(j:Bool)(k:Int)(l:Zad)(m:List (mesh_pair×Int))(n:List (List UInt8×List Int))(o:List UInt8)(p q:Int)(r:List Zab)(s t:List Int)(u:List Zai)(v:List Zae)(w:List Zaa):Ab.Os:=[(0,rF [sM cJ a,.mapo 2,pp 3,pp 4,.osw 16 2,.osw 17 1,.osw 18 1,.osw 19 2,.bool b]),(1,rF ([pp 9,pp 10]++Zad.c c++[.bool d,aI e,AV.int IntKind.u32 f])),(2,gH g h 1),(3,rF [.osw 20 4,aI i,.mapo 12]),(4,.rows true [(@crowB j)]),(9,rF [.mapo 13,.osw 21 2,aI k]),(10,rF ([pp 15]++Zad.c l)),(12,mP m),(13,fS n),(15,rF [pp 9,.str o,aI p,aI q]),(16,rT Zab.c r),(17,rT cJ s),(18,rT cU t),(19,rT Zai.c u),(20,rT Zae.c v),(21,rT Zaa.c w)]
def T14(a:Zad)(b:List UInt8)(c d e:Int)(f:List (List UInt8×List Int))(g:List Zaa):Ab.Os:=[(0,rF ([pp 1]++Zad.c a)),(1,rF [pp 2,.str b,aI c,aI d]),(2,rF [.mapo 3,.osw 4 2,aI e]),(3,fS f),(4,rT Zaa.c g)]
def T15(a:List Int)(b:Bool)(c:Zad)(d:Bool)(e f:Int)(g:List (Int×group_node))(h i:Int)(j:Bool)(k:List Zab)(l m:List Int)(n:List Zai)(o:Int)(p:List Zae)(q:List (mesh_pair×Int))(r:List (List UInt8×List Int))(s:List Zaa):Ab.Os:=[(0,rF [sM cJ a,.mapo 2,pp 3,pp 4,.osw 5 2,.osw 6 1,.osw 7 1,.osw 8 2,.bool b]),(1,rF ([pp 9,AV.con (Value.pointer none)]++Zad.c c++[.bool d,aI e,AV.int IntKind.u32 f])),(2,gH g h 1),(3,rF [.osw 10 4,aI i,.mapo 11]),(4,.rows true [(@crowB j)]),(5,rT Zab.c k),(6,rT cJ l),(7,rT cU m),(8,rT Zai.c n),(9,rF [.mapo 12,.osw 13 2,aI o]),(10,rT Zae.c p),(11,mP q),(12,fS r),(13,rT Zaa.c s)]
def T16(a:Int)(b:List (List UInt8×List Int))(c:List Zaa):Ab.Os:=[(0,rF [.mapo 1,.osw 3 2,aI a]),(1,fS b),(3,rT Zaa.c c)]
def T17(a:List UInt8)(b c d:Int)(e:List (List UInt8×List Int))(f:List Zaa):Ab.Os:=[(0,rF [pp 1,.str a,aI b,aI c]),(1,rF [.mapo 2,.osw 4 2,aI d]),(2,fS e),(4,rT Zaa.c f)]
def T18(a:Int)(b:List (mesh_pair×Int))(c:List Zae):Ab.Os:=[(0,rF [.osw 3 4,aI a,.mapo 2]),(2,mP b),(3,rT Zae.c c)]
def T19(a:Zah)(b c d:List Int)(e:List Zac):Ab.Os:=[(0,rF (Zah.c a++[.osw 5 1,.osw 6 1,.osw 7 1,.osw 8 10])),(5,rT cJ b),(6,rT cJ c),(7,rT cJ d),(8,rT Zac.c e)]
def T20(a:Zad)(b:Bool)(c d e:Int)(f:Zad)(g:List (List UInt8×List Int))(h:List Zaa)(i:List UInt8)(j k:Int):Ab.Os:=[(0,rF ([pp 1,pp 2]++Zad.c a++[.bool b,aI c,AV.int IntKind.u32 d])),(1,rF [.mapo 3,.osw 4 2,aI e]),(2,rF ([pp 5]++Zad.c f)),(3,fS g),(4,rT Zaa.c h),(5,rF [pp 1,.str i,aI j,aI k])]
def T21(a:List UInt8)(b c d:Int)(e:List (List UInt8×List Int))(f:List Zaa):Ab.Os:=[(0,rF [pp 1,.str a,aI b,aI c]),(1,rF [.mapo 2,.osw 3 2,aI d]),(2,fS e),(3,rT Zaa.c f)]
def T22(a:Int)(b:List (List UInt8×List Int))(c:Int)(d:List Int)(e f g h i j:Int)(k:List Zab)(l:List UInt8)(m n o:Int)(p q r:List Int)(s:List (List Int))(t:List Zaa):Ab.Os:=[(0,rF [.mapo 1,.osw 6 2,aI a]),(1,fS b),(3,rF zr0),(4,rF [aI c,sM cJ d,aI e,aI f,aI g,aI h,aI i,aI j,sM Zab.c k,.str l,aI m,aI n,aI o,sM cJ p,sM cJ q,sM cJ r]),(5,rT (cSl cB) s),(6,rT Zaa.c t)]
def T23(a:Int)(b:List (List UInt8×List Int))(c:Int)(d:List Int)(e f g h i j:Int)(k:List Zab)(l:List UInt8)(m n o:Int)(p q r:List Int)(s:List Zaa):Ab.Os:=[(0,rF [.mapo 1,.osw 5 2,aI a]),(1,fS b),(3,rF zr0),(4,rF [aI c,sM cJ d,aI e,aI f,aI g,aI h,aI i,aI j,sM Zab.c k,.str l,aI m,aI n,aI o,sM cJ p,sM cJ q,sM cJ r]),(5,rT Zaa.c s)]
def T24(a:Zah)(b c d:List Int)(e:List Zac):Ab.Os:=[(0,rF zr0),(1,rF (Zah.c a++[.osw 2 1,.osw 3 1,.osw 4 1,.osw 5 10])),(2,rT cJ b),(3,rT cJ c),(4,rT cJ d),(5,rT Zac.c e)]
def T25(a:List Int)(b:Bool)(c:List (Int×group_node))(d:Int)(e:Bool)(f:List Zab)(g h:List Int)(i:List Zai)(j:List Zae)(k:List (mesh_pair×Int)):Ab.Os:=[(0,rF [sM cJ a,.mapo 2,pp 3,pp 4,.osw 5 2,.osw 6 1,.osw 7 1,.osw 8 2,.bool b]),(2,AO.gmap (eG c) none),(3,rF [.osw 10 4,aI d,.mapo 11]),(4,.rows true [(@crowB e)]),(5,rT Zab.c f),(6,rT cJ g),(7,rT cU h),(8,rT Zai.c i),(10,rT Zae.c j),(11,mP k)]
def T26(a:List Int)(b:Bool)(c:List (Int×group_node))(d:Int)(e:Bool)(f:List Zab)(g h:List Int)(i:List Zai)(j:List (mesh_pair×Int))(k:List Zae):Ab.Os:=[(0,rF [sM cJ a,.mapo 1,pp 2,pp 3,.osw 4 2,.osw 5 1,.osw 6 1,.osw 7 2,.bool b]),(1,AO.gmap (eG c) none),(2,rF [.osw 10 4,aI d,.mapo 9]),(3,.rows true [(@crowB e)]),(4,rT Zab.c f),(5,rT cJ g),(6,rT cU h),(7,rT Zai.c i),(9,mP j),(10,rT Zae.c k)]
def T27(a:List Int):Ab.Os:=[(0,rT cJ a)]
def T28(a:List Int)(b:Bool)(c:List (Int×group_node))(d:Int)(e:Bool)(f:List (mesh_pair×Int)):Ab.Os:=[(0,rF [sM cJ a,.mapo 1,pp 2,pp 3,.osw 16 2,.osw 17 1,.osw 18 1,.osw 19 2,.bool b]),(1,AO.gmap (eG c) none),(2,rF [.osw 20 4,aI d,.mapo 10]),(3,.rows true [(@crowB e)]),(10,mP f)]
def T29(a:Zad)(b:List UInt8)(c d e:Int)(f:List (List UInt8×List Int))(g:List Zaa):Ab.Os:=[(0,rF ([pp 1]++Zad.c a)),(1,rF [pp 2,.str b,aI c,aI d]),(2,rF [.mapo 3,.osw 5 2,aI e]),(3,fS f),(5,rT Zaa.c g)]
def T30(a:Int)(b:List (List UInt8×List Int)):Ab.Os:=[(0,rF [.mapo 1,.osw 4 2,aI a]),(1,fS b)]
def T31(a:Zah)(b c d:List Int):Ab.Os:=[(0,rF (Zah.c a++[.osw 5 1,.osw 6 1,.osw 7 1,.osw 8 10])),(1,rT cJ b),(2,rT cJ c),(3,rT cJ d)]
def T32(a:Zad)(b:List (List Int))(c d:Int)(e:List Zab):Ab.Os:=[(0,rF (Zad.c a)),(1,rT (cSl cB) b),(2,rF [aI c,aI d,sM Zab.c e])]
def T33(a:Zad)(b:Bool)(c d e:Int)(f:Zad)(g:List (List UInt8×List Int))(h:List Zaa)(i:List UInt8)(j k:Int):Ab.Os:=[(0,rF ([pp 1,AV.con (Value.pointer none)]++Zad.c a++[.bool b,aI c,AV.int IntKind.u32 d])),(1,rF [.mapo 3,.osw 6 2,aI e]),(2,rF ([pp 5]++Zad.c f)),(3,fS g),(4,rT Zaa.c h),(5,rF [pp 1,.str i,aI j,aI k])]
def T34(a:Int)(b:List (List UInt8×List Int))(c:List (List Int))(d:Bool)(e:List Zaa)(f:List UInt8)(g h:Int):Ab.Os:=[(0,rF [.mapo 1,.osw 7 2,aI a]),(1,fS b),(3,rF [pp 0]),(4,rF [pp 8]),(5,rF [sM (cSl cB) c]),(6,rF [.bool d]),(7,rT Zaa.c e),(8,rF [pp 0,.str f,aI g,aI h])]
def T35(a:Int)(b:List (List UInt8×List Int))(c:List (List Int))(d:List Zaa)(e:List UInt8)(f g:Int):Ab.Os:=[(0,rF [.mapo 1,.osw 5 2,aI a]),(1,fS b),(3,rF [pp 6]),(4,rF [sM (cSl cB) c]),(5,rT Zaa.c d),(6,rF [pp 0,.str e,aI f,aI g])]
def T36(a:Zad)(b:List UInt8)(c d e:Int)(f:List (List UInt8×List Int))(g:Zad)(h:List Zaa):Ab.Os:=[(0,rF ([pp 1]++Zad.c a)),(1,rF [pp 2,.str b,aI c,aI d]),(2,rF [.mapo 3,.osw 6 2,aI e]),(3,fS f),(5,rF (Zad.c g)),(6,rT Zaa.c h)]
def T37(a:Zah)(b c d:List Int)(e:List Zac):Ab.Os:=[(0,rF (Zah.c a++[.osw 1 1,.osw 2 1,.osw 3 1,.osw 5 10])),(1,rT cJ b),(2,rT cJ c),(3,rT cJ d),(5,rT Zac.c e)]
def T38(a:Int)(b:List (List UInt8×List Int))(c:List (List Int))(d:Bool):Ab.Os:=[(0,rF [.mapo 1,.osw 8 2,aI a]),(1,fS b),(3,rF [pp 0]),(4,rF [pp 9]),(5,rF [sM (cSl cB) c]),(6,rF [.bool d])]
def T39(a:Zad):Ab.Os:=[(0,rF (Zad.c a))]
def T40(a:Zag)(b c:Int):Ab.Os:=[(0,rF (Zag.c a)),(1,rF [aI b,aI c,.esl])]
def T41(a b c:List Int):Ab.Os:=[(0,rT cJ a),(1,rT cJ b),(2,rT cJ c)]
def T42(a:Zac)(b:Zah)(c d e:List Int)(f:List Zac):Ab.Os:=[(0,rF (Zac.c a)),(1,rF zr0),(2,rF (Zah.c b++[.osw 3 1,.osw 4 1,.osw 5 1,.osw 6 10])),(3,rT cJ c),(4,rT cJ d),(5,rT cJ e),(6,rT Zac.c f)]
def T43(a:List (List Int)):Ab.Os:=[(0,rT (cSl cB) a)]
def T44(a:List Int):Ab.Os:=[(0,rT cB a)]
def T45(a:List Int)(b:Bool):Ab.Os:=[(0,rF [sM cJ a,.mapo 1,pp 2,pp 3,.osw 4 2,.osw 5 1,.osw 6 1,.osw 7 2,.bool b])]
variable {ml:Gv}{F:Nat}
theorem Zek{a r}(h:Zbu F a=some r):FZ ml 37 [] [sM cJ a] (.bool r) []:=by
 refine fA Tryz.func37 ?_
 unfold Zbu at h
 (conv=>whnf);refine jN h fun b=>jM [(0,sM cJ a),(18,.bool b)] [] 0 (fun h=>?_) fun h=>?_
 ·(conv=>whnf);left;refine bS h (fun h=>qE []) fun h=>?_;(conv=>whnf);refine bS h (fun h=>qE []) fun h=>?_;(conv=>whnf);refine aX ?_;(conv=>whnf);refine oB h fun f h=>?_;exact qE []
 (conv=>whnf);left;refine bS h (fun h=>qR) fun h=>?_;(conv=>whnf);refine aX ?_;(conv=>whnf);refine aX ?_;(conv=>whnf);refine gS h fun h=>?_;(conv=>whnf);refine gS h fun h=>?_;(conv=>whnf);refine jS h fun o1 vu=>jT [] [] 0 (fun h k1 e=>?_) fun h=>?_
 ·(conv=>whnf);left;(conv=>whnf);refine lI (fun n' x'=>ZcO F a n' x') (fun x'=>[(0,sM cJ a),(20,sM cJ (List.drop (Int.toNat (1:Int)) a)),(21,aI (@Nat.cast Int instNatCastInt (List.length (@cut (@List AV) (some (Operand.const (Value.int IntKind.i64 (1:Int)))) none (List.map cJ a) (Int.toNat (1:Int)) (List.length (List.map cJ a)))))),(22,aI x')]) (fun x'=>[]) 0 (0:Int) [] h ?_;rintro c d h;rw[ZcO.eq_2]at h;(conv=>whnf);left;refine bS h (fun h=>?_) fun h=>?_
  ·(conv=>whnf);left;(conv=>whnf);refine gX h fun h=>?_;(conv=>whnf);refine oB h fun g h=>?_;(conv=>whnf);refine gX h fun h=>?_;(conv=>whnf);refine oB h fun i h=>?_;(conv=>whnf);left;refine bS h (fun h=>?_) fun h=>?_
   ·cases h;cases k1;exact rfl
   exact rE (c,(IntKind.wrap IntKind.i64 (d+(1:Int)))) [] h
  exact qE []
 exact qR
theorem ZaV{s r}(h:Zaz F s=some r):FZ ml 38 [] [(.sl (List.map cJ s))] (.osw 0 1) [(0,.rows true (List.map cJ r))]:=by
 unfold Zaz at h
 obtain⟨hg,h⟩:=grd_e h
 cases h
 refine Zfr 2000 Tryz.func38 rfl (by kernel_rfl) mixed (by show 1≤8;decide) (by decide) rfl ?_
 refine oL ?_
 refine And.intro (fun hp=>?_) ?_
 ·conv=>whnf
  exact ZeP [(0,128)] rfl (by rw[hp];rfl) rfl
 refine oL ?_
 refine And.intro (ZaF.map (fun _=>rfl)) ?_
 refine And.intro ZaF.nil ?_
 refine And.intro (show 0+(List.map cJ s).length≤LIM by simpa using hg) ?_
 conv=>whnf
 exact gI [(0,192)]
theorem Zjo{r}(h:ZjJ F=some r):FZ ml 39 [] [] (pp 0) (T6 r.1 r.2.1 r.2.2):=by
 refine fG Tryz.func39 ?_
 unfold ZjJ at h
 (conv=>whnf);left;(conv=>whnf);refine Or.inr (ZiZ 0 4 _ rfl rfl ?_);(conv=>whnf);left;cases h;exact gE [(0,128),(1,96),(2,64)]
theorem Zkl{r}(h:ZlG F=some r):FZ ml 40 [] [] (AV.ptr 0 0 0) [(0,(AO.rows true [(@crowB r)]))]:=by
 unfold ZlG at h;cases h;exact ZrG
theorem Zjr{r}(h:ZjN F=some r):FZ ml 41 [] [] (AV.ptr 0 0 0) [(0,(AO.rows false [[(AV.mapo 1),(AV.osw 2 2),aI r.1]])),(1,(fS r.2)),(2,(AO.rows true []))]:=by
 refine Zqw (os:=[(0,(AO.rows false [[(AV.mapo 1),AV.esl,aI r.1]])),(1,(fS r.2))]) 0 0 1 2 ?_ (by show 0≤W;decide) rfl rfl rfl rfl (ZeP [(0,0),(1,1),(2,32)] rfl rfl rfl)
 refine Zfr 2000 Tryz.func41 rfl (by kernel_rfl) mixed (by show 0≤4;decide) (by show 0≤W;decide) rfl ?_
 unfold ZjN at h
 conv=>whnf
 refine Or.inr ?_
 conv=>whnf
 refine⟨Or.inl ⟨1,?_⟩⟩
 iterate 2 refine oL ?_
 conv=>whnf
 cases h;exact gI [(0,128),(1,64)]
theorem ZcZ{s v r}(h:Zbh F s v=some r):FZ ml 163 [] [sM cJ s,aI v] (aI r) []:=by
 refine fA Tryz.func163 ?_
 unfold Zbh at h
 (conv=>whnf);refine jS h fun o0 vu=>jT [] [] 0 (fun h k0 e=>?_) fun h=>?_
 ·(conv=>whnf);left;(conv=>whnf);refine lI (fun n' x'=>Zbe F s v n' x') (fun x'=>[(0,sM cJ s),(1,aI v),(7,aI (@Nat.cast Int instNatCastInt (List.length (List.map cJ s)))),(8,aI x')]) (fun x'=>[]) 0 (0:Int) [] h ?_;rintro a b h;rw[Zbe.eq_2]at h;(conv=>whnf);left;refine bS h (fun h=>?_) fun h=>?_
  ·(conv=>whnf);left;(conv=>whnf);refine gX h fun h=>?_;(conv=>whnf);refine oB h fun c h=>?_;(conv=>whnf);left;refine bS h (fun h=>?_) fun h=>?_
   ·cases h;cases k0;exact rfl
   exact rE (a,(IntKind.wrap IntKind.i64 (b+(1:Int)))) [] h
  exact qE []
 exact qR
theorem ZaJ{s v r}(h:Zaw F s v=some r):FZ ml 130 [] [sM cJ s,aI v] (.bool r) []:=by
 refine fA Tryz.func130 ?_
 unfold Zaw at h
 (conv=>whnf);left;(conv=>whnf);exact cL h ZcZ fun a h=>qR
theorem ZfN{n b r}(h:Zcr F n b=some r):FZ ml 129 (T39 b) [aI n,pp 0] (.bool r) (T39 b):=by
 refine fG Tryz.func129 ?_
 unfold Zcr at h
 (conv=>whnf);left;refine bS h (fun h=>qG [(0,0)]) fun h=>?_;(conv=>whnf);left;(conv=>whnf);exact cL h ZaJ fun a h=>qG [(0,0)]
theorem Zet{t r}(h:Zdr F t=some r):FZ ml 172 [] [.agg (Zag.c t)] (aI r) []:=by
 refine fA Tryz.func172 ?_
 unfold Zdr at h;exact qR
theorem Zf6{term a r}(h:ZdH F term a=some r):FZ ml 173 [] [aI term,sM Zab.c a] (.bool r) []:=by
 refine fA Tryz.func173 ?_
 unfold ZdH at h
 (conv=>whnf);refine jS h fun o4 vu=>jT [] [] 0 (fun h k4 e=>?_) fun h=>?_
 ·(conv=>whnf);left;(conv=>whnf);refine lI (fun n' x'=>Zds F a n' x'.1 x'.2) (fun x'=>[(0,aI x'.1),(7,sM Zab.c a),(8,aI (@Nat.cast Int instNatCastInt (List.length (List.map Zab.c a)))),(9,aI x'.2)]) (fun x'=>[]) 0 (term,(0:Int)) [] h ?_;rintro f ⟨i,b⟩ h;dsimp only at h;rw[Zds.eq_2]at h;(conv=>whnf);left;refine bS h (fun h=>?_) fun h=>?_
  ·(conv=>whnf);left;(conv=>whnf);refine gX h fun h=>?_;(conv=>whnf);refine oB h fun d h=>?_;(conv=>whnf);left;(conv=>whnf);refine jN h fun g=>jM [(6,pp 0),(7,sM Zab.c a),(8,aI (@Nat.cast Int instNatCastInt (List.length (List.map Zab.c a)))),(9,aI b),(28,.bool g)] [(0,rF (Zab.c d))] 1 (fun h=>qE [(0,96)]) fun h=>?_;(conv=>whnf);left;refine bS h (fun h=>?_) fun h=>?_
   ·cases h;cases k4;exact rfl
   exact rE (f,d.Term,(IntKind.wrap IntKind.i64 (b+(1:Int)))) [] h
  exact qE []
 exact qR
theorem ZcE{t r}(h:Za4 F t=some r):FZ ml 131 [] [.agg (Zag.c t)] (.bool r) []:=by
 refine fA Tryz.func131 ?_
 unfold Za4 at h
 (conv=>whnf);left;(conv=>whnf);left;refine bS h (fun h=>?_) fun h=>?_
 ·(conv=>whnf);refine bS h (fun h=>?_) fun h=>?_
  ·(conv=>whnf);refine bS h (fun h=>?_) fun h=>?_
   ·(conv=>whnf);refine bS h (fun h=>?_) fun h=>?_
    ·(conv=>whnf);refine bS h (fun h=>?_) fun h=>?_
     ·(conv=>whnf);refine bS h (fun h=>?_) fun h=>?_
      ·(conv=>whnf);left;(conv=>whnf);refine cL h Zet fun a h=>?_;(conv=>whnf);refine bS h (fun h=>?_) fun h=>?_
       ·(conv=>whnf);left;(conv=>whnf);exact cL h Zf6 fun b h=>qR
       exact qR
      exact qR
     (conv=>whnf);refine bS h (fun h=>?_) fun h=>?_
     ·(conv=>whnf);refine bS h (fun h=>?_) fun h=>?_
      ·(conv=>whnf);left;(conv=>whnf);refine cL h Zet fun d h=>?_;(conv=>whnf);refine bS h (fun h=>?_) fun h=>?_
       ·(conv=>whnf);left;(conv=>whnf);exact cL h Zf6 fun e h=>qR
       exact qR
      exact qR
     exact qR
    exact qR
   exact qR
  exact qR
 exact qR
theorem Ziu{t n r}(h:ZeY F t n=some r):FZ ml 174 [] [.agg (Zag.c t),aI n] (aI r) []:=by
 refine fA Tryz.func174 ?_
 unfold ZeY at h
 (conv=>whnf);left;(conv=>whnf);left;refine bS h (fun h=>qR) fun h=>?_;(conv=>whnf);refine gX h fun h=>?_;(conv=>whnf);refine oB h fun a h=>?_;exact qR
theorem ZdO{t r}(h:Zb6 F t=some r):FZ ml 132 [] [.agg (Zag.c t)] (.tup [aI r.1,aI r.2]) []:=by
 refine fA Tryz.func132 ?_
 unfold Zb6 at h
 (conv=>whnf);left;(conv=>whnf);left;(conv=>whnf);refine cL h ZcE fun a h=>?_;(conv=>whnf);left;refine bS h (fun h=>qR) fun h=>?_;(conv=>whnf);left;(conv=>whnf);refine cL h Zet fun b h=>?_;(conv=>whnf);left;(conv=>whnf);refine cL h Zet fun d h=>?_;(conv=>whnf);left;(conv=>whnf);exact cL h Ziu fun e h=>qR
theorem Zd9{a set r}(h:ZdP F a set=some r):FZ ml 152 [] [sM cJ a,sM cJ set] (.bool r) []:=by
 refine fA Tryz.func152 ?_
 unfold ZdP at h
 (conv=>whnf);refine jN h fun d=>jM [(0,sM cJ a),(5,aI d)] [] 0 (fun h=>?_) fun h=>?_
 ·(conv=>whnf);left;(conv=>whnf);refine lI (fun n' x'=>Zcn F a set n' x'.1 x'.2) (fun x'=>[(0,sM cJ a),(1,sM cJ set),(5,aI x'.1),(8,sM cJ a),(9,aI (@Nat.cast Int instNatCastInt (List.length (List.map cJ a)))),(10,aI x'.2)]) (fun x'=>[]) 0 ((0:Int),(0:Int)) [] h ?_;rintro e ⟨f,b⟩ h;dsimp only at h;rw[Zcn.eq_2]at h;(conv=>whnf);left;refine bS h (fun h=>?_) fun h=>?_
  ·(conv=>whnf);refine jN h fun c=>jM [(0,sM cJ a),(1,sM cJ set),(5,aI c),(8,sM cJ a),(9,aI (@Nat.cast Int instNatCastInt (List.length (List.map cJ a)))),(10,aI b)] [] 0 (fun h=>?_) fun h=>?_
   ·(conv=>whnf);left;(conv=>whnf);refine gX h fun h=>?_;(conv=>whnf);refine oB h fun g h=>?_;(conv=>whnf);left;(conv=>whnf);exact cL h ZaJ fun i h=>qE []
   exact rE (e,c,(IntKind.wrap IntKind.i64 (b+(1:Int)))) [] h
  exact qE []
 (conv=>whnf);left;(conv=>whnf);left;(conv=>whnf);exact cL h Zek fun j h=>qR
theorem Zlk{r_ r}(h:ZgD F r_=some r):FZ ml 133 [] [.agg (Zad.c r_)] (.bool r) []:=by
 refine fA Tryz.func133 ?_
 unfold ZgD at h
 (conv=>whnf);left;(conv=>whnf);refine jN h fun b=>jM [(1,pp 0),(31,.bool b)] (T39 r_) 1 (fun h=>?_) fun h=>?_
 ·(conv=>whnf);left;refine bS h (fun h=>qE [(0,32)]) fun h=>?_;(conv=>whnf);refine bS h (fun h=>qE [(0,32)]) fun h=>?_;(conv=>whnf);refine aX ?_;(conv=>whnf);refine oB h fun g h=>?_;(conv=>whnf);refine bS h (fun h=>qE [(0,32)]) fun h=>?_;(conv=>whnf);left;(conv=>whnf);exact cL h Zd9 fun i h=>qE [(0,32)]
 (conv=>whnf);left;refine bS h (fun h=>qR) fun h=>?_;(conv=>whnf);refine jS h fun o5 vu=>jT [] [] 0 (fun h k5 e=>?_) fun h=>?_
 ·(conv=>whnf);left;(conv=>whnf);refine lI (fun n' x'=>Zey F r_ n' x') (fun x'=>[(1,pp 0),(33,sM cJ r_.Votes),(34,aI (@Nat.cast Int instNatCastInt (List.length (List.map cJ r_.Votes)))),(35,aI x')]) (fun x'=>(T39 r_)) 1 (0:Int) [(0,0)] h ?_;rintro d a h;rw[Zey.eq_2]at h;(conv=>whnf);left;refine bS h (fun h=>?_) fun h=>?_
  ·(conv=>whnf);left;(conv=>whnf);refine gX h fun h=>?_;(conv=>whnf);refine oB h fun j h=>?_;(conv=>whnf);refine jN h fun f=>jM [(1,pp 0),(33,sM cJ r_.Votes),(34,aI (@Nat.cast Int instNatCastInt (List.length (List.map cJ r_.Votes)))),(35,aI a),(52,.bool f)] (T39 r_) 1 (fun h=>?_) fun h=>?_
   ·(conv=>whnf);left;(conv=>whnf);left;(conv=>whnf);refine cL h ZaJ fun k h=>?_;(conv=>whnf);refine bS h (fun h=>qE [(0,0)]) fun h=>?_;(conv=>whnf);refine aX ?_;(conv=>whnf);refine gX h fun h=>?_;(conv=>whnf);refine gX h fun h=>?_;(conv=>whnf);refine gS h fun h=>?_;(conv=>whnf);left;(conv=>whnf);exact cL h (fun h=>aE (ZaJ h)) fun l h=>qE [(0,0)]
   (conv=>whnf);left;refine bS h (fun h=>?_) fun h=>?_
   ·cases h;cases k5;exact rfl
   exact rE (d,(IntKind.wrap IntKind.i64 (a+(1:Int)))) [(0,0)] h
  exact qE []
 exact qR
theorem Zll{r_ r}(h:ZgE F r_=some r):FZ ml 134 [] [.agg (Zad.c r_)] (.bool r) []:=by
 refine fA Tryz.func134 ?_
 unfold ZgE at h
 (conv=>whnf);left;(conv=>whnf);refine jN h fun d=>jM [(1,pp 0),(36,.bool d)] (T39 r_) 1 (fun h=>qE [(0,32)]) fun h=>?_;(conv=>whnf);left;refine bS h (fun h=>qR) fun h=>?_;(conv=>whnf);left;(conv=>whnf);refine cL h ZdO fun a h=>?_;(conv=>whnf);refine jS h fun o5 vu=>jT [] [] 0 (fun h k5 e=>?_) fun h=>?_
 ·(conv=>whnf);left;(conv=>whnf);refine lI (fun n' x'=>Zez F r_ a n' x') (fun x'=>[(1,pp 0),(3,aI a.1),(44,sM cJ r_.Match),(45,aI (@Nat.cast Int instNatCastInt (List.length (List.map cJ r_.Match)))),(46,aI x')]) (fun x'=>(T39 r_)) 1 (0:Int) [(0,0)] h ?_;rintro f b h;rw[Zez.eq_2]at h;(conv=>whnf);left;refine bS h (fun h=>?_) fun h=>?_
  ·(conv=>whnf);left;(conv=>whnf);refine gX h fun h=>?_;(conv=>whnf);refine oB h fun i h=>?_;(conv=>whnf);refine jN h fun g=>jM [(1,pp 0),(3,aI a.1),(44,sM cJ r_.Match),(45,aI (@Nat.cast Int instNatCastInt (List.length (List.map cJ r_.Match)))),(46,aI b),(76,.bool g)] (T39 r_) 1 (fun h=>?_) fun h=>?_
   ·(conv=>whnf);left;refine bS h (fun h=>qE [(0,0)]) fun h=>?_;(conv=>whnf);refine bS h (fun h=>qE [(0,0)]) fun h=>?_;(conv=>whnf);refine gX h fun h=>?_;(conv=>whnf);refine oB h fun j h=>?_;(conv=>whnf);refine bS h (fun h=>qE [(0,0)]) fun h=>?_;(conv=>whnf);refine gX h fun h=>?_;(conv=>whnf);refine oB h fun k h=>?_;exact qE [(0,0)]
   (conv=>whnf);left;refine bS h (fun h=>?_) fun h=>?_
   ·cases h;cases k5;exact rfl
   exact rE (f,(IntKind.wrap IntKind.i64 (b+(1:Int)))) [(0,0)] h
  exact qE []
 exact qR
theorem ZbQ{r_ r}(h:Zbg F r_=some r):FZ ml 87 [] [.agg (Zad.c r_)] (.bool r) []:=by
 refine fA Tryz.func87 ?_
 unfold Zbg at h
 (conv=>whnf);left;(conv=>whnf);refine jN h fun a=>jM [(1,pp 0),(52,.bool a)] (T39 r_) 1 (fun h=>?_) fun h=>?_
 ·(conv=>whnf);left;(conv=>whnf);left;(conv=>whnf);refine cL h Zek fun e h=>?_;(conv=>whnf);refine bS h (fun h=>qE [(0,32)]) fun h=>?_;(conv=>whnf);refine bS h (fun h=>qE [(0,32)]) fun h=>?_;(conv=>whnf);refine cH [32] h ZfN fun f h=>?_;(conv=>whnf);refine bS h (fun h=>qE [(0,32)]) fun h=>?_;(conv=>whnf);refine bS h (fun h=>qE [(0,32)]) fun h=>?_;(conv=>whnf);refine bS h (fun h=>qE [(0,32)]) fun h=>?_;(conv=>whnf);refine cH [32] h ZfN fun g h=>?_;(conv=>whnf);refine bS h (fun h=>qE [(0,32)]) fun h=>?_;(conv=>whnf);refine cH [32] h ZfN fun i h=>?_;(conv=>whnf);refine bS h (fun h=>qE [(0,32)]) fun h=>?_;(conv=>whnf);left;(conv=>whnf);exact cL h ZcE fun j h=>qE [(0,32)]
 (conv=>whnf);left;refine bS h (fun h=>qR) fun h=>?_;(conv=>whnf);left;(conv=>whnf);refine cL h ZdO fun k h=>?_;(conv=>whnf);refine jN h fun b=>jM [(1,pp 0),(102,.bool b)] (T39 r_) 1 (fun h=>qE [(0,0)]) fun h=>?_;(conv=>whnf);left;refine bS h (fun h=>qR) fun h=>?_;(conv=>whnf);refine jN h fun d=>jM [(1,pp 0),(126,.bool d)] (T39 r_) 1 (fun h=>qE [(0,0)]) fun h=>?_;(conv=>whnf);left;refine bS h (fun h=>qR) fun h=>?_;(conv=>whnf);left;(conv=>whnf);left;refine bS h (fun h=>qR) fun h=>?_;(conv=>whnf);left;refine bS h (fun h=>?_) fun h=>?_
 ·(conv=>whnf);left;(conv=>whnf);exact cL h Zlk fun l h=>qR
 (conv=>whnf);left;refine bS h (fun h=>?_) fun h=>?_
 ·(conv=>whnf);left;(conv=>whnf);exact cL h Zll fun m h=>qR
 exact qR
theorem Zij{id a r}(h:ZgX F id a=some r):FZ ml 66 [] [aI id,sM cJ a] (.tup [.agg (Zad.c r.1),aI r.2]) []:=by
 refine fK Tryz.func66 ?_
 unfold ZgX at h
 (conv=>whnf);left;(conv=>whnf);left;(conv=>whnf);refine cR h (fun h=>Zav (ZaV h) rfl) fun b h=>?_;(conv=>whnf);left;(conv=>whnf);left;(conv=>whnf);left;(conv=>whnf);exact cL h (fun h=>aW (ZbQ h)) fun d h=>qK
theorem Zfq{c fs l r}(h:Zeh F c fs l=some r):FZ ml 88 [(0,(AO.rows false [[(AV.mapo 1),(AV.osw 2 2),aI c]])),(1,(fS fs)),(2,(AO.rows true (List.map Zaa.c l)))] [(AV.ptr 0 0 0)] (AV.sl (List.map cStr r)) [(0,(AO.rows false [[(AV.mapo 1),(AV.osw 2 2),aI c]])),(1,(fS fs)),(2,(AO.rows true (List.map Zaa.c l)))]:=by
 unfold Zeh at h
 obtain⟨hg,h⟩:=grd_e h
 cases h
 exact Zq4 fs _ _ hg rfl (by show 3≤W;decide)
theorem Zgy{a r}(h:ZfX F a=some r):FZ ml 89 [] [AV.str a] (aI r) []:=by
 unfold ZfX at h
 obtain⟨hg,h⟩:=grd_e h
 cases h;exact Zps a hg
theorem ZiJ{x r}(h:Zgg F x=some r):FZ ml 189 [] [AV.int IntKind.u64 x] (aI r) []:=by
 refine fA Tryz.func189 ?_
 unfold Zgg at h
 (conv=>whnf);refine jN h fun⟨a,b⟩=>jM [(0,AV.int IntKind.u64 a),(2,aI b)] [] 0 (fun h=>qE []) fun h=>?_;(conv=>whnf);refine jN h fun⟨c,d⟩=>jM [(0,AV.int IntKind.u64 c),(2,aI d)] [] 0 (fun h=>qE []) fun h=>?_;(conv=>whnf);refine jN h fun⟨e,f⟩=>jM [(0,AV.int IntKind.u64 e),(2,aI f)] [] 0 (fun h=>qE []) fun h=>?_;(conv=>whnf);refine gX h fun h=>?_;obtain⟨g,hy,h⟩:=ZaE h;refine opt_i g hy ?_;exact qR
theorem ZjA{x r}(h:Zg1 F x=some r):FZ ml 139 [] [AV.int IntKind.u64 x] (aI r) []:=by
 refine fA Tryz.func139 ?_
 unfold Zg1 at h
 (conv=>whnf);left;(conv=>whnf);left;(conv=>whnf);exact cL h ZiJ fun a h=>qR
theorem Zd0{l r}(h:Zcm F l=some r):FZ ml 90 [(0,(AO.rows true (List.map cJ l)))] [(AV.osw 0 1)] (AV.tup []) [(0,(AO.rows true (List.map cJ r)))]:=by
 unfold Zcm at h
 obtain⟨hg,h⟩:=grd_e h
 cases h;exact Zr9 l hg
theorem ZdL{s r}(h:Zb9 F s=some r):FZ ml 91 [] [(AV.sl (List.map cJ s))] (AV.fn 140 [(AV.rp [(AV.sl (List.map cJ r))] 0)]) []:=by
 unfold Zb9 at h;cases h;exact ZsK s
theorem ZfM{i r}(h:strconv_Itoa F i=some r):FZ ml 92 [] [aI i] (AV.str r) []:=by
 unfold strconv_Itoa at h
 obtain⟨hg,h⟩:=grd_e h
 cases h
 exact ZsV (g:=2) (by kernel_rfl) rfl (by kernel_rfl) (fun n a b w c=>Tryz.strconv_Itoa n a b w c) i hg.1 hg.2
theorem ZcY{a c fs l r}(h:Zb4 F a c fs l=some r):FZ ml 142 (T5 c fs l) [pp 0,.str a] (aI r) (T5 c fs l):=by
 refine fG Tryz.func142 ?_
 unfold Zb4 at h
 (conv=>whnf);left;(conv=>whnf);refine aX ?_;(conv=>whnf);refine Zom (ek:=(fun(b:(@List UInt8))=>(AV.str b))) (en:=cB) fs a rfl rfl (ZeI Tryz.underlying9) ⟨80,.esl,by kernel_rfl,by kernel_rfl⟩ ?_;exact qG [(0,0),(1,1),(2,2)]
theorem Zcx{s r}(h:ZbO F s=some r):FZ ml 143 [] [(.sl (List.map cB s))] (.osw 0 1) [(0,.rows true (List.map cB r))]:=by
 unfold ZbO at h
 obtain⟨hg,h⟩:=grd_e h
 cases h
 refine Zfr 2000 Tryz.func143 rfl (by kernel_rfl) mixed (by show 1≤8;decide) (by decide) rfl ?_
 refine oL ?_
 refine And.intro (fun hp=>?_) ?_
 ·conv=>whnf
  exact ZeP [(0,128)] rfl (by rw[hp];rfl) rfl
 refine oL ?_
 refine And.intro (ZaF.map (fun _=>rfl)) ?_
 refine And.intro ZaF.nil ?_
 refine And.intro (show 0+(List.map cB s).length≤LIM by simpa using hg) ?_
 conv=>whnf
 exact gI [(0,192)]
theorem Zdl{s r}(h:Zbq F s=some r):FZ ml 143 [(0,.rows true (List.map cB s))] [.osw 0 1] (.osw 1 1) [(0,.rows true (List.map cB s)),(1,.rows true (List.map cB r))]:=by
 unfold Zbq at h
 obtain⟨hg,h⟩:=grd_e h
 cases h
 refine Zfr 2000 Tryz.func143 rfl (by kernel_rfl) mixed (by show 1≤8;decide) (by show 1≤W;decide) rfl ?_
 refine oL ?_
 refine And.intro (fun hp=>?_) ?_
 ·conv=>whnf
  exact ZeP [(0,0),(1,128)] rfl (by rw[hp];rfl) rfl
 refine oL ?_
 refine And.intro (ZaF.map (fun _=>rfl)) ?_
 refine And.intro ZaF.nil ?_
 refine And.intro (show 0+(List.map cB s).length≤LIM by simpa using hg) ?_
 conv=>whnf
 exact gI [(0,0),(1,192)]
theorem ZfK{a c fs l r}(h:Zck F a c fs l=some (Sum.inl r)):FZ ml 93 (T5 c fs l) [pp 0,.str a] (.tup [.osw 3 1,aI r.1]) (T5 c fs l++[(3,rT cB r.2)]):=by
 refine fG Tryz.func93 ?_
 unfold Zck at h
 (conv=>whnf);refine cH [0,1,2] h ZcY fun e h=>?_;(conv=>whnf);left;refine bS h (fun h=>?_) fun h=>?_
 ·cases h;exact gE [(0,0),(1,1),(2,2),(3,320)]
 (conv=>whnf);refine aX ?_;(conv=>whnf);refine both (b:=(Option.isSome (mget a fs))) (fun hb=>?_) fun hb=>?_
 ·replace h:=ZhM h hb;refine Zf3 (ek:=(fun(d:(@List UInt8))=>(AV.str d))) (en:=cB) fs a rfl rfl (ZeI Tryz.underlying9) hb ?_;(conv=>whnf);refine cG [448] h Zdl fun f h=>?_;cases h;obtain⟨kk,hkk⟩:=(ZiF (ek:=(fun(d:(@List UInt8))=>(AV.str d))) (en:=cB) (q:=a) (L:=fs) (by assumption)).2;refine Zp6 (.step _ 1 1 _ _ 448 kk _ _ rfl rfl hkk (fun row hr=>by obtain⟨y,_,rfl⟩:=YK.1 hr;rfl) rfl (.refl _)) ?_;exact gI [(0,0),(1,1),(2,2),(3,481)]
 replace h:=ZhN h hb;refine Zf4 (ek:=(fun(d:(@List UInt8))=>(AV.str d))) (en:=cB) fs a .esl rfl rfl (ZeI Tryz.underlying9) hb ⟨80,.esl,by kernel_rfl,by kernel_rfl,.refl _⟩ ?_;(conv=>whnf);left;(conv=>whnf);refine cR h (fun h=>aW (Zav (Zcx h) rfl)) fun g h=>?_;cases h
theorem ZfJ{a c fs l r}(h:Zck F a c fs l=some (Sum.inr r)):FZ ml 93 (T5 c fs l) [pp 0,.str a] (.tup [sM cB r.1,aI r.2]) (T5 c fs l):=by
 refine fG Tryz.func93 ?_
 unfold Zck at h
 (conv=>whnf);refine cH [0,1,2] h ZcY fun e h=>?_;(conv=>whnf);left;refine bS h (fun h=>?_) fun h=>?_
 ·cases h
 (conv=>whnf);refine aX ?_;(conv=>whnf);refine both (b:=(Option.isSome (mget a fs))) (fun hb=>?_) fun hb=>?_
 ·replace h:=ZhM h hb;refine Zf3 (ek:=(fun(d:(@List UInt8))=>(AV.str d))) (en:=cB) fs a rfl rfl (ZeI Tryz.underlying9) hb ?_;(conv=>whnf);refine cG [448] h Zdl fun f h=>?_;cases h
 replace h:=ZhN h hb;refine Zf4 (ek:=(fun(d:(@List UInt8))=>(AV.str d))) (en:=cB) fs a .esl rfl rfl (ZeI Tryz.underlying9) hb ⟨80,.esl,by kernel_rfl,by kernel_rfl,.refl _⟩ ?_;(conv=>whnf);left;(conv=>whnf);exact cR h (fun h=>aW (Zav (Zcx h) rfl)) fun g h=>qG [(0,0),(1,1),(2,2)]
theorem Zju{b r}(h:Zb0 F b=some r):FZ ml 65 [] [sM cB b] (.tup [.int IntKind.u64 r.1,aI r.2.1,aI r.2.2]) []:=by
 refine fA Tryz.func65 ?_
 unfold Zb0 at h
 (conv=>whnf);refine jS h fun o2 vu=>jT [] [] 0 (fun h k2 e=>?_) fun h=>?_
 ·(conv=>whnf);left;(conv=>whnf);refine lI (fun n' x'=>Zbn F b n' x'.1 x'.2) (fun x'=>[(5,AV.int IntKind.u64 x'.1),(8,sM cB b),(9,aI (@Nat.cast Int instNatCastInt (List.length (List.map cB b)))),(10,aI x'.2)]) (fun x'=>[]) 0 ((0:Int),(0:Int)) [] h ?_;rintro f ⟨c,a⟩ h;dsimp only at h;rw[Zbn.eq_2]at h;(conv=>whnf);left;refine bS h (fun h=>?_) fun h=>?_
  ·(conv=>whnf);left;(conv=>whnf);refine gX h fun h=>?_;(conv=>whnf);refine oB h fun d h=>?_;(conv=>whnf);refine jN h fun g=>jM [(5,AV.int IntKind.u64 c),(6,aI a),(7,AV.int IntKind.u8 d),(8,sM cB b),(9,aI (@Nat.cast Int instNatCastInt (List.length (List.map cB b)))),(10,aI a),(28,.bool g)] [] 0 (fun h=>qE []) fun h=>?_;(conv=>whnf);left;refine bS h (fun h=>?_) fun h=>?_
   ·cases h;cases k2;exact rfl
   (conv=>whnf);refine gX h fun h=>?_;(conv=>whnf);left;refine bS h (fun h=>?_) fun h=>?_
   ·cases h;cases k2;exact rfl
   exact rE (f,(@ibits BinOp.or IntKind.u64 c (IntKind.wrap IntKind.u64 ((IntKind.wrap IntKind.u64 (@ibits BinOp.and IntKind.u8 d (127:Int)))*((2:Int)^(min (Int.toNat (IntKind.wrap IntKind.i64 ((7:Int)*a))) 64))))),(IntKind.wrap IntKind.i64 (a+(1:Int)))) [] h
  exact qE []
 exact qR
theorem Zih{r}(h:ZgM F=some r):FZ ml 40 [] [] (AV.ptr 0 0 0) [(0,(AO.rows true [(@crow (0:Int) (0:Int) (0:Int) tab0)]))]:=by
 exact ZrG
theorem Zic{b r}(h:ZeU F b=some r):FZ ml 191 [(0,(AO.rows true [(@crow (0:Int) (0:Int) (0:Int) tab0)]))] [(AV.ptr 0 0 0),(AV.sl (List.map cB b))] (AV.int IntKind.u32 r) []:=by
 unfold ZeU at h
 obtain⟨hg,h⟩:=grd_e h
 cases h;exact ZsX b hg
theorem ZhO{b r}(h:ZbK F b=some r):FZ ml 144 [] [sM cB b] (.tup [sM cB r.1,aI r.2.1,aI r.2.2]) []:=by
 refine fA Tryz.func144 ?_
 unfold ZbK at h
 (conv=>whnf);left;(conv=>whnf);refine cL h Zju fun a h=>?_;(conv=>whnf);left;refine bS h (fun h=>qR) fun h=>?_;(conv=>whnf);left;refine bS h (fun h=>qR) fun h=>?_;(conv=>whnf);left;refine bS h (fun h=>qR) fun h=>?_;(conv=>whnf);refine gX h fun h=>?_;(conv=>whnf);refine oB h fun c h=>?_;(conv=>whnf);refine gX h fun h=>?_;(conv=>whnf);refine oB h fun d h=>?_;(conv=>whnf);refine aX ?_;(conv=>whnf);refine gX h fun h=>?_;(conv=>whnf);refine oB h fun e h=>?_;(conv=>whnf);refine aX ?_;(conv=>whnf);refine gX h fun h=>?_;(conv=>whnf);refine oB h fun f h=>?_;(conv=>whnf);refine aX ?_;(conv=>whnf);refine aX ?_;(conv=>whnf);left;(conv=>whnf);refine cR h Zih fun g h=>?_;(conv=>whnf);refine aX ?_;(conv=>whnf);refine gX h fun h=>?_;(conv=>whnf);refine gX h fun h=>?_;(conv=>whnf);refine gS h fun h=>?_;obtain⟨i,hy,h⟩:=ZaE h;refine Or.inr (ZhQ [1824] (Zic hy) rfl rfl rfl (cons2 rfl (cons2 (YI AV.sl rQ) rfl)) ?_);(conv=>whnf);refine aX ?_;(conv=>whnf);left;refine bS h (fun h=>qR) fun h=>?_;(iterate 4 ((conv=>whnf);first|refine oL ?_|refine gX h fun h=>?_|refine aX ?_));(conv=>whnf);refine gS h fun h=>?_;(conv=>whnf);left;(conv=>whnf);obtain⟨j,hy,h⟩:=ZaE h;refine⟨_,_,(ZdE (cons2 (YI AV.sl rQ) rfl) (Zav (Zcx hy) rfl)),Or.inr ⟨[],rfl,?_⟩⟩;exact qR
theorem ZiU{kind b r}(h:Zcv F kind b=some r):FZ ml 49 [] [aI kind,sM cB b] (.tup [.agg (Zaf.c r.1),aI r.2.1,aI r.2.2]) []:=by
 refine fA Tryz.func49 ?_
 unfold Zcv at h
 (conv=>whnf);left;(conv=>whnf);left;(conv=>whnf);left;(conv=>whnf);refine jN h fun a=>jM [(0,aI kind),(1,sM cB b),(4,pp 0),(7,pp 1),(22,.bool a)] [(0,rF [aI 0,aI 0,.str []]),(1,rF [aI kind,aI 0,.str []])] 2 (fun h=>qE [(0,32),(1,192)]) fun h=>?_;(conv=>whnf);left;refine bS h (fun h=>qR) fun h=>?_;(conv=>whnf);left;(conv=>whnf);refine cL h Zju fun i h=>?_;(conv=>whnf);left;refine bS h (fun h=>qR) fun h=>?_;(conv=>whnf);refine jS h fun o1 ⟨d,f,g⟩=>jT [(4,pp 0),(7,pp 1),(9,aI (d))] [(0,rF [aI 0,aI 0,.str []]),(1,rF [aI kind,aI (f),.str g])] 2 (fun h k1 e=>?_) fun h=>?_
 ·(conv=>whnf);left;(conv=>whnf);left;refine bS h (fun h=>?_) fun h=>?_
  ·(conv=>whnf);refine aX ?_;(conv=>whnf);left;refine bS h (fun h=>?_) fun h=>?_
   ·cases h;cases k1;exact rfl
   exact qE [(0,0),(1,1)]
  (conv=>whnf);left;refine bS h (fun h=>qE [(0,0),(1,1)]) fun h=>?_;(conv=>whnf);left;refine bS h (fun h=>?_) fun h=>?_
  ·cases h;cases k1;exact rfl
  (conv=>whnf);left;refine bS h (fun h=>?_) fun h=>?_
  ·cases h;cases k1;exact rfl
  (iterate 4 ((conv=>whnf);first|refine oL ?_|refine gX h fun h=>?_|refine aX ?_));(conv=>whnf);refine gS h fun h=>?_;(conv=>whnf);obtain⟨hg,h⟩:=Zm9 h;refine⟨_,Zko rQ hg,?_⟩;exact qE [(0,0),(1,1)]
 exact qR
theorem Zfj{a b r}(h:Zbi F a b=some r):FZ ml 33 [] [sM cJ a,sM cB b] (.tup [.osw 0 3,aI r.1]) [(0,rT Zaf.c r.2)]:=by
 refine fG Tryz.func33 ?_
 unfold Zbi at h
 (conv=>whnf);refine jS h fun o0 ⟨f,g⟩=>jT [(1,sM cB f),(6,.osw 0 3)] [(0,rT Zaf.c g)] 1 (fun h k0 e=>?_) fun h=>?_
 ·(conv=>whnf);left;(conv=>whnf);refine lI (fun n' x'=>ZaR F a n' x'.1 x'.2.1 x'.2.2) (fun x'=>[(1,sM cB x'.1),(6,.osw 0 3),(12,sM cJ a),(13,aI (@Nat.cast Int instNatCastInt (List.length (List.map cJ a)))),(14,aI x'.2.1)]) (fun x'=>[(0,rT Zaf.c x'.2.2)]) 1 (b,(0:Int),[]) [(0,96)] h ?_;rintro i ⟨j,k,l⟩ h;dsimp only at h;rw[ZaR.eq_2]at h;(conv=>whnf);left;refine bS h (fun h=>?_) fun h=>?_
  ·(conv=>whnf);left;(conv=>whnf);refine gX h fun h=>?_;(conv=>whnf);refine oB h fun m h=>?_;(conv=>whnf);left;(conv=>whnf);refine cL h ZiU fun d h=>?_;(conv=>whnf);left;(conv=>whnf);left;refine bS h (fun h=>?_) fun h=>?_
   ·cases h;cases k0;exact gE [(0,577)]
   (conv=>whnf);left;(conv=>whnf);refine aX ?_;(conv=>whnf);refine aX ?_;(conv=>whnf);refine gS h fun h=>?_;(conv=>whnf);refine aX ?_;(conv=>whnf);refine gX h fun h=>?_;(conv=>whnf);refine gS h fun h=>?_;(conv=>whnf);refine gS h fun h=>?_;exact rV (i,(List.drop (Int.toNat d.2.1) j),(IntKind.wrap IntKind.i64 (k+(1:Int))),(l++(d.1::[]))) [(0,641)] h
  exact qE [(0,0)]
 (conv=>whnf);left;refine bS h (fun h=>?_) fun h=>?_
 ·cases h;exact gE [(0,97)]
 exact qG [(0,0)]
theorem Zgt{b r}(h:ZdN F b=some r):FZ ml 94 [] [sM cB b] (.tup [.osw 0 1,aI r.1,.bool r.2.1]) (T43 r.2.2):=by
 refine fG Tryz.func94 ?_
 unfold ZdN at h
 (conv=>whnf);left;(conv=>whnf);refine cR h ZhO fun e h=>?_;(conv=>whnf);left;refine bS h (fun h=>?_) fun h=>?_
 ·cases h;exact gE [(0,480)]
 (conv=>whnf);left;(conv=>whnf);left;obtain⟨a,hy,h⟩:=ZaE h;refine⟨_,_,(ZdE (cons2 (YI AV.sl rQ) rfl) (Zav (Zfj hy) rfl)),Or.inr ⟨[480],rfl,?_⟩⟩;(conv=>whnf);left;refine bS h (fun h=>?_) fun h=>?_
 ·cases h;exact gE [(0,800)]
 (conv=>whnf);left;(conv=>whnf);refine lI (fun n' x'=>ZeV F b a n' x'.1 x'.2) (fun x'=>[(0,sM cB b),(2,.osw 0 1),(3,aI x'.1),(7,sM Zaf.c a.2)]) (fun x'=>(T43 x'.2)) 1 (e.2.1,[]) [(0,32)] h ?_;rintro f ⟨g,i⟩ h;dsimp only at h;rw[ZeV.eq_2]at h;(conv=>whnf);left;(conv=>whnf);refine aX ?_;(conv=>whnf);refine gX h fun h=>?_;(conv=>whnf);refine gS h fun h=>?_;(conv=>whnf);refine gS h fun h=>?_;(conv=>whnf);left;(conv=>whnf);refine cR h (fun h=>aE (ZhO h)) fun d h=>?_;(conv=>whnf);left;refine bS h (fun h=>?_) fun h=>?_
 ·(conv=>whnf);refine aX ?_;(conv=>whnf);refine oB h fun j h=>?_;exact qG [(0,0)]
 (conv=>whnf);left;(conv=>whnf);refine aX ?_;(conv=>whnf);refine aX ?_;(conv=>whnf);refine gS h fun h=>?_;exact rE (f,(IntKind.wrap IntKind.i64 (g+d.2.1)),(i++(d.1::[]))) [(0,513)] h
theorem ZgR{w a1 r}(h:Zdd F w a1=some r):FZ ml 193 [] [.agg (Zaa.c w),AV.rp (@cStr a1) 0] (.bool r) []:=by
 refine fA Tryz.func193 ?_
 unfold Zdd at h;exact qR
theorem ZdF{s f0 r}(h:ZaW F s f0=some r):FZ ml 226 [] [sM Zaa.c s,AV.fn 193 ((AV.rp (@cStr f0) 0)::[])] (aI r) []:=by
 refine fA Tryz.func226 ?_
 unfold ZaW at h
 (conv=>whnf);refine jS h fun o0 vu=>jT [] [] 0 (fun h k0 e=>?_) fun h=>?_
 ·(conv=>whnf);left;(conv=>whnf);refine lI (fun n' x'=>Zak F s f0 n' x') (fun x'=>[(0,sM Zaa.c s),(1,AV.fn 193 ((AV.rp ((AV.str f0)::[]) 0)::[])),(7,aI (@Nat.cast Int instNatCastInt (List.length (List.map Zaa.c s)))),(8,aI x')]) (fun x'=>[]) 0 (0:Int) [] h ?_;rintro a b h;rw[Zak.eq_2]at h;(conv=>whnf);left;refine bS h (fun h=>?_) fun h=>?_
  ·(conv=>whnf);left;(conv=>whnf);refine gX h fun h=>?_;(conv=>whnf);refine oB h fun d h=>?_;(conv=>whnf);left;(conv=>whnf);refine cL h ZgR fun f h=>?_;(conv=>whnf);left;refine bS h (fun h=>?_) fun h=>?_
   ·cases h;cases k0;exact rfl
   exact rE (a,(IntKind.wrap IntKind.i64 (b+(1:Int)))) [] h
  exact qE []
 exact qR
theorem ZfW{w b r}(h:ZbW F w b=some r):FZ ml 193 [(0,rF (@cStr b))] [.agg (Zaa.c w),pp 0] (.bool r) [(0,rF (@cStr b))]:=by
 refine fG Tryz.func193 ?_
 unfold ZbW at h;exact qG [(0,0)]
theorem Zc0{l b r}(h:Zax F l b=some r):FZ ml 192 [(0,rT Zaa.c l),(1,rF (@cStr b))] [.osw 0 2,AV.fn 193 ((AV.ptr 1 0 0)::[])] (.osw 2 2) [(1,rF (@cStr b)),(2,rT Zaa.c r)]:=by
 refine fG Tryz.func192 ?_
 unfold Zax at h
 (conv=>whnf);left;(conv=>whnf);refine cL h ZdF fun a h=>?_;(conv=>whnf);left;refine bS h (fun h=>qG [(1,1),(2,0)]) fun h=>?_;(conv=>whnf);refine jN h fun⟨g,i⟩=>jM [(0,.osw 0 2),(5,aI g)] [(0,rT Zaa.c i),(1,rF [.str b])] 2 (fun h=>?_) fun h=>?_
 ·(conv=>whnf);left;(conv=>whnf);refine lI (fun n' x'=>Zam F b n' x'.1 x'.2.1 x'.2.2) (fun x'=>[(0,.osw 0 2),(1,AV.fn 193 ((AV.ptr 1 0 0)::[])),(5,aI x'.1),(6,aI x'.2.1)]) (fun x'=>[(0,rT Zaa.c x'.2.2),(1,rF [.str b])]) 2 (a,(IntKind.wrap IntKind.i64 (a+(1:Int))),l) [(0,0),(1,1)] h ?_;rintro j ⟨k,d,m⟩ h;dsimp only at h;rw[Zam.eq_2]at h;(conv=>whnf);left;refine bS h (fun h=>?_) fun h=>?_
  ·(conv=>whnf);refine jN h fun⟨e,f⟩=>jM [(0,.osw 0 2),(1,AV.fn 193 ((AV.ptr 1 0 0)::[])),(5,aI e),(6,aI d)] [(0,rT Zaa.c f),(1,rF [.str b])] 2 (fun h=>?_) fun h=>?_
   ·(conv=>whnf);left;(conv=>whnf);refine gX h fun h=>?_;(conv=>whnf);refine oB h fun n h=>?_;(conv=>whnf);refine oB h fun o h=>?_;(conv=>whnf);left;(conv=>whnf);refine cH [1] h ZfW fun p h=>?_;(conv=>whnf);left;refine bS h (fun h=>?_) fun h=>?_
    ·(conv=>whnf);refine gX h fun h=>?_;(conv=>whnf);refine oB h fun q h=>?_;(conv=>whnf);refine oB h fun s h=>?_;cases h;exact eE [(0,0),(1,1)]
    exact qE [(0,0),(1,1)]
   exact rE (j,e,(IntKind.wrap IntKind.i64 (d+(1:Int))),f) [(0,0),(1,1)] h
  exact qE [(0,0),(1,1)]
 (conv=>whnf);refine aX ?_;(conv=>whnf);left;(conv=>whnf);refine gX h fun h=>?_;(conv=>whnf);refine gS h fun h=>?_;(conv=>whnf);refine gS h fun h=>?_;(conv=>whnf);refine aX ?_;(conv=>whnf);refine gS h fun h=>?_;(conv=>whnf);refine And.intro (ZaF.append (ZaF.take (ZaF.map (fun _=>rfl))) (ZaF.append (ZaF.replicate rfl) (ZaF.drop (ZaF.map (fun _=>rfl))))) ?_;(conv=>whnf);refine Or.inr ?_;(conv=>whnf);refine⟨_,_,rfl,rfl,rfl,rfl,?_⟩;(conv=>whnf);refine gX h fun h=>?_;(conv=>whnf);refine gS h fun h=>?_;cases h;exact gE [(0,0),(1,1),(2,194)]
theorem ZdY{a c fs l r}(h:ZbS F a c fs l=some r):FZ ml 145 (T5 c fs l) [pp 0,.str a] (.tup []) (T16 r.1 fs r.2):=by
 refine fG Tryz.func145 ?_
 unfold ZbS at h
 (conv=>whnf);left;(conv=>whnf);exact cG [2,32] h Zc0 fun b h=>qG [(0,0),(1,1),(2,2),(3,258)]
theorem Zb5{a c fs l r}(h:ZbT F a c fs l=some r):FZ ml 95 (T5 c fs l) [pp 0,.str a] (aI r.1) (T16 r.2.1 r.2.2.1 r.2.2.2):=by
 refine fG Tryz.func95 ?_
 unfold ZbT at h
 (conv=>whnf);refine cH [0,1,2] h ZcY fun e h=>?_;(conv=>whnf);refine jN h fun⟨f,g,i⟩=>jM [(5,aI e)] (T16 f g i) 4 (fun h=>?_) fun h=>?_
 ·(conv=>whnf);left;refine bS h (fun h=>?_) fun h=>?_
  ·(conv=>whnf);refine aX ?_;(conv=>whnf);refine both (b:=(Option.isSome (mget a fs))) (fun hb=>?_) fun hb=>?_
   ·replace h:=ZhM h hb;refine Zf3 (ek:=(fun(d:(@List UInt8))=>(AV.str d))) (en:=cB) fs a rfl rfl (ZeI Tryz.underlying9) hb ?_;(conv=>whnf);refine aX ?_;(conv=>whnf);refine aX ?_;(conv=>whnf);refine ZrK (ek:=(fun(d:(@List UInt8))=>(AV.str d))) (en:=cB) fs a rfl rfl (ZeI Tryz.underlying9) (.inr ⟨by assumption,rfl⟩) ?_;(conv=>whnf);exact cG [0,1,2] h ZdY fun j h=>qE [(0,0),(1,1),(2,2),(3,995)]
   replace h:=ZhN h hb;refine Zf4 (ek:=(fun(d:(@List UInt8))=>(AV.str d))) (en:=cB) fs a .esl rfl rfl (ZeI Tryz.underlying9) hb ⟨80,.esl,by kernel_rfl,by kernel_rfl,.refl _⟩ ?_;(conv=>whnf);refine aX ?_;(conv=>whnf);refine aX ?_;(conv=>whnf);refine ZrK (ek:=(fun(d:(@List UInt8))=>(AV.str d))) (en:=cB) fs a rfl rfl (ZeI Tryz.underlying9) (.inl rfl) ?_;(conv=>whnf);exact cG [0,1,2] h ZdY fun k h=>qE [(0,0),(1,1),(2,2),(3,995)]
  exact qE [(0,0),(1,1),(3,2)]
 exact qG (ii 4 [])
theorem Zfh{n l r}(h:Zeo F n l=some r):FZ ml 48 (T44 l) [.osw 0 1,AV.int IntKind.u64 n] (.osw 1 1) [(1,rT cB r)]:=by
 refine fG Tryz.func48 ?_
 unfold Zeo at h
 (conv=>whnf);refine jN h fun⟨b,c⟩=>jM [(0,.osw 1 1),(1,AV.int IntKind.u64 b)] [(1,rT cB c)] 2 (fun h=>?_) fun h=>?_
 ·(conv=>whnf);left;(conv=>whnf);refine lI (fun n' x'=>ZcG F n' x'.1 x'.2) (fun x'=>[(0,.osw 1 1),(1,AV.int IntKind.u64 x'.1)]) (fun x'=>[(1,rT cB x'.2)]) 2 (n,l) [(1,0)] h ?_;rintro d ⟨a,e⟩ h;dsimp only at h;rw[ZcG.eq_2]at h;(conv=>whnf);left;refine bS h (fun h=>?_) fun h=>?_
  ·(conv=>whnf);left;(conv=>whnf);left;(conv=>whnf);refine aX ?_;(conv=>whnf);refine aX ?_;(conv=>whnf);refine gS h fun h=>?_;(conv=>whnf);refine aX ?_;exact rE (d,(@Int.fdiv a ((2:Int)^(min (Int.toNat (7:Int)) 64))),(e++((@ibits BinOp.or IntKind.u8 (IntKind.wrap IntKind.u8 a) (128:Int))::[]))) [(0,0),(1,226)] h
  exact qE [(0,0),(1,1)]
 (conv=>whnf);left;(conv=>whnf);refine aX ?_;(conv=>whnf);refine aX ?_;(conv=>whnf);refine gS h fun h=>?_;cases h;exact gE [(0,0),(1,130)]
theorem Zfi{a r}(h:Zdk F a=some r):FZ ml 31 [] [sM Zaf.c a] (.tup [.osw 0 1,aI r.1]) (T44 r.2):=by
 refine fG Tryz.func31 ?_
 unfold Zdk at h
 (conv=>whnf);refine jS h fun o6 i=>jT [(4,.osw 0 1)] (T44 i) 1 (fun h k6 e=>?_) fun h=>?_
 ·(conv=>whnf);left;(conv=>whnf);refine lI (fun n' x'=>ZbP F a n' x'.1 x'.2) (fun x'=>[(4,.osw 0 1),(7,sM Zaf.c a),(8,aI (@Nat.cast Int instNatCastInt (List.length (List.map Zaf.c a)))),(9,aI x'.1)]) (fun x'=>(T44 x'.2)) 1 ((0:Int),[]) [(0,96)] h ?_;rintro j ⟨b,d⟩ h;dsimp only at h;rw[ZbP.eq_2]at h;(conv=>whnf);left;refine bS h (fun h=>?_) fun h=>?_
  ·(conv=>whnf);refine jS h fun o12 f=>jT [(4,.osw 0 1),(7,sM Zaf.c a),(8,aI (@Nat.cast Int instNatCastInt (List.length (List.map Zaf.c a)))),(9,aI b)] (T44 f) 1 (fun h k12 e=>?_) fun h=>?_
   ·(conv=>whnf);left;(conv=>whnf);refine gX h fun h=>?_;(conv=>whnf);refine oB h fun g h=>?_;(conv=>whnf);left;(conv=>whnf);left;(conv=>whnf);refine jN h fun k=>jM [(4,.osw 0 1),(6,pp 1),(7,sM Zaf.c a),(8,aI (@Nat.cast Int instNatCastInt (List.length (List.map Zaf.c a)))),(9,aI b),(13,.bool k)] (T44 d++[(1,rF (Zaf.c g))]) 2 (fun h=>qE [(0,0),(1,97)]) fun h=>?_;(conv=>whnf);left;refine bS h (fun h=>?_) fun h=>?_
    ·(conv=>whnf);exact cG [0] h Zfh fun m h=>qE [(0,131)]
    (conv=>whnf);left;refine bS h (fun h=>?_) fun h=>?_
    ·(conv=>whnf);refine aX ?_;(conv=>whnf);refine aX ?_;(conv=>whnf);exact cG [0] h Zfh fun n h=>qE [(0,451)]
    (conv=>whnf);refine jN h fun l=>jM [(4,.osw 0 1),(6,pp 1),(7,sM Zaf.c a),(8,aI (@Nat.cast Int instNatCastInt (List.length (List.map Zaf.c a)))),(9,aI b),(42,.bool l)] (T44 d++[(1,rF (Zaf.c g))]) 2 (fun h=>qE [(0,0),(1,1)]) fun h=>?_;(conv=>whnf);left;refine bS h (fun h=>?_) fun h=>?_
    ·(conv=>whnf);refine cG [0] h Zfh fun o h=>?_;(conv=>whnf);refine aX ?_;(conv=>whnf);refine aX ?_;(conv=>whnf);refine gS h fun h=>?_;(conv=>whnf);refine aX ?_;cases h;cases e;exact eE [(0,258)]
    cases h;cases k12;cases k6;exact gE [(0,2)]
   exact rE (j,(IntKind.wrap IntKind.i64 (b+(1:Int))),f) [(0,0)] h
  exact qE [(0,0)]
 exact qG [(0,0)]
theorem Zhe{l r}(h:ZdZ F l=some r):FZ ml 191 [(0,(AO.rows true [(@crow (0:Int) (0:Int) (0:Int) tab0)])),(1,(AO.rows true (List.map cB l)))] [(AV.ptr 0 0 0),(AV.osw 1 1)] (AV.int IntKind.u32 r) [(1,(AO.rows true (List.map cB l)))]:=by
 unfold ZdZ at h
 obtain⟨hg,h⟩:=grd_e h
 cases h;exact Zr6 l hg
theorem ZkD{b r}(h:Zf5 F b=some r):FZ ml 200 [] [sM cB b] (.tup [.osw 0 1,aI r.1]) (T44 r.2):=by
 refine fG Tryz.func200 ?_
 unfold Zf5 at h
 (conv=>whnf);left;refine bS h (fun h=>?_) fun h=>?_
 ·cases h;exact gE [(0,192)]
 (conv=>whnf);left;(conv=>whnf);obtain⟨a,hy,h⟩:=ZaE h;refine⟨_,_,(Zts 0 1 (Zfh hy) rfl),Or.inr ⟨[],rfl,?_⟩⟩;(conv=>whnf);refine aX ?_;(conv=>whnf);refine aX ?_;(conv=>whnf);refine gS h fun h=>?_;(conv=>whnf);left;(conv=>whnf);refine cR h Zih fun c h=>?_;(conv=>whnf);refine cG [416,352] h Zhe fun d h=>?_;(iterate 4 ((conv=>whnf);first|refine oL ?_|refine aX ?_));(conv=>whnf);refine And.intro (ZaF.cons rfl (ZaF.cons rfl (ZaF.cons rfl (ZaF.cons rfl ZaF.nil)))) ?_;(conv=>whnf);refine aX ?_;(conv=>whnf);refine gS h fun h=>?_;cases h;exact gE [(0,960)]
theorem Zit{rec r}(h:ZeX F rec=some r):FZ ml 171 [] [sM cB rec] (.tup [sM cB r.1,aI r.2]) []:=by
 refine fA Tryz.func171 ?_
 unfold ZeX at h
 (conv=>whnf);left;(conv=>whnf);exact cR h (fun h=>Zav (ZkD h) rfl) fun a h=>qR
theorem Zkw{recs r}(h:ZfY F recs=some r):FZ ml 146 [] [sM (cSl cB) recs] (.tup [.osw 0 1,aI r.1]) (T43 r.2):=by
 refine fG Tryz.func146 ?_
 unfold ZfY at h
 (conv=>whnf);left;(conv=>whnf);left;(conv=>whnf);left;obtain⟨a,hy,h⟩:=ZaE h;refine⟨_,_,(ZdE (cons2 (YI AV.sl rQ) rfl) (Zav (Zfi hy) rfl)),Or.inr ⟨[192],rfl,?_⟩⟩;(conv=>whnf);left;(conv=>whnf);refine aX ?_;(conv=>whnf);refine aX ?_;(conv=>whnf);refine gS h fun h=>?_;(conv=>whnf);refine jS h fun o0 b=>jT [(6,.osw 0 1)] (T43 b) 1 (fun h k0 e=>?_) fun h=>?_
 ·(conv=>whnf);left;(conv=>whnf);refine lI (fun n' x'=>Zcl F recs a n' x'.1 x'.2) (fun x'=>[(6,.osw 0 1),(22,.osw 1 1),(23,aI (@Nat.cast Int instNatCastInt (List.length (((List.take (@GetElem.getElem (@Array TypeInfo) Nat TypeInfo (fun(c:(@Array TypeInfo))=>(fun(d:Nat)=>(d<(@Array.size TypeInfo c)))) (@Array.instGetElemNatLtSize TypeInfo) Proofs.Tryz.prog.toTables.types 80 (@W0 (Nat.succ 80) (@Array.size TypeInfo Proofs.Tryz.prog.toTables.types) (@rfl Bool true))).size ((AV.sl (List.map cB a.2))::[]))::[])++(List.map (cSl cB) recs))))),(24,aI x'.1)]) (fun x'=>(T43 x'.2++[(1,rT (cSl cB) ((a.2::[])++recs))])) 2 ((0:Int),[]) [(0,416),(1,544)] h ?_;rintro f ⟨g,i⟩ h;dsimp only at h;rw[Zcl.eq_2]at h;(conv=>whnf);left;refine bS h (fun h=>?_) fun h=>?_
  ·(conv=>whnf);left;(conv=>whnf);refine gX h fun h=>?_;(conv=>whnf);refine oB h fun k h=>?_;(conv=>whnf);refine oB h fun l h=>?_;(conv=>whnf);left;(conv=>whnf);refine cR h Zit fun j h=>?_;(conv=>whnf);left;refine bS h (fun h=>?_) fun h=>?_
   ·cases h;cases k0;exact gE [(0,450)]
   (conv=>whnf);left;(conv=>whnf);refine aX ?_;(conv=>whnf);refine aX ?_;(conv=>whnf);refine gS h fun h=>?_;exact rE (f,(IntKind.wrap IntKind.i64 (g+(1:Int))),(i++(j.1::[]))) [(0,514),(1,1)] h
  exact qE [(0,0)]
 exact qG [(0,0)]
theorem ZlE{a r}(h:Zea F a=some r):FZ ml 194 [] [.str a] (.bool r) []:=by
 refine fA Tryz.func194 ?_
 unfold Zea at h
 (conv=>whnf);refine gX h fun h=>?_;(conv=>whnf);refine jS h fun o4 vu=>jT [(0,.str a)] [] 0 (fun h k4 e=>?_) fun h=>?_
 ·(conv=>whnf);left;(conv=>whnf);refine lI (fun n' x'=>Zco F a n' x') (fun x'=>[(0,.str a),(6,.osw 0 1),(7,aI (@Nat.cast Int instNatCastInt (List.length (@enc8 a)))),(8,aI x')]) (fun x'=>(T44 (List.map (fun(b:UInt8)=>(((UInt8.toNat b):Nat):Int)) a))) 1 (0:Int) [(0,96)] h ?_;rintro d c h;rw[Zco.eq_2]at h;(conv=>whnf);left;refine bS h (fun h=>?_) fun h=>?_
  ·(conv=>whnf);left;(conv=>whnf);refine gX h fun h=>?_;(conv=>whnf);refine oB h fun g h=>?_;(conv=>whnf);refine oB h fun i h=>?_;(conv=>whnf);refine jN h fun f=>jM [(0,.str a),(6,.osw 0 1),(7,aI (@Nat.cast Int instNatCastInt (List.length (@enc8 a)))),(8,aI c),(33,.bool f)] (T44 (List.map (fun(b:UInt8)=>(((UInt8.toNat b):Nat):Int)) a)) 1 (fun h=>qE [(0,0)]) fun h=>?_;(conv=>whnf);left;refine bS h (fun h=>?_) fun h=>?_
   ·cases h;cases k4;exact rfl
   exact rE (d,(IntKind.wrap IntKind.i64 (c+(1:Int)))) [(0,0)] h
  exact qE []
 exact qR
theorem Zfn{a b c fs l r}(h:Zby F a b c fs l=some r):FZ ml 147 (T5 c fs l) [pp 0,.str a,sM cB b] (aI r.1) (T16 r.2.1 r.2.2.1 r.2.2.2):=by
 refine fG Tryz.func147 ?_
 unfold Zby at h
 (conv=>whnf);left;(conv=>whnf);left;(conv=>whnf);refine cL h ZlE fun f h=>?_;(conv=>whnf);left;refine bS h (fun h=>qG [(0,0),(1,1),(3,2)]) fun h=>?_;(conv=>whnf);refine aX ?_;(conv=>whnf);refine both (b:=(Option.isSome (mget a fs))) (fun hb=>?_) fun hb=>?_
 ·replace h:=ZhM h hb;refine Zf3 (ek:=(fun(d:(@List UInt8))=>(AV.str d))) (en:=cB) fs a rfl rfl (ZeI Tryz.underlying9) hb ?_;(conv=>whnf);left;(conv=>whnf);left;refine bS h (fun h=>?_) fun h=>?_
  ·cases h;obtain⟨kk,hkk⟩:=(ZiF (ek:=(fun(d:(@List UInt8))=>(AV.str d))) (en:=cB) (q:=a) (L:=fs) (by assumption)).2;refine Zp6 (.step _ 1 1 _ _ 448 kk _ _ rfl rfl hkk (fun row hr=>by obtain⟨y,_,rfl⟩:=YK.1 hr;rfl) rfl (.refl _)) ?_;exact gI [(0,0),(1,1),(3,2)]
  (conv=>whnf);refine aX ?_;(conv=>whnf);refine aX ?_;(conv=>whnf);refine gS h fun h=>?_;(conv=>whnf);refine aX ?_;(conv=>whnf);obtain⟨hg,h⟩:=grd_e h;refine Zkd (ek:=(fun(d:(@List UInt8))=>(AV.str d))) (en:=cB) fs a ((Option.getD (mget a fs) [])++b) 1504 rfl rfl (ZeI Tryz.underlying9) (.inr ⟨by assumption,rfl⟩) hg rfl _ rfl rQ (fun _=>rfl) rfl ?_;(iterate 5 ((conv=>whnf);first|refine oL ?_|refine aX ?_));(conv=>whnf);refine gS h fun h=>?_;(conv=>whnf);left;cases h;exact gE [(0,0),(1,1),(2,2),(3,2208)]
 replace h:=ZhN h hb;refine Zf4 (ek:=(fun(d:(@List UInt8))=>(AV.str d))) (en:=cB) fs a .esl rfl rfl (ZeI Tryz.underlying9) hb ⟨80,.esl,by kernel_rfl,by kernel_rfl,.refl _⟩ ?_;(conv=>whnf);refine jN h fun e=>jM [(0,pp 0),(1,.str a),(2,sM cB b),(7,.esl),(44,.bool e)] (T5 c fs l) 3 (fun h=>qE [(0,0),(1,1),(2,2)]) fun h=>?_;(conv=>whnf);left;refine bS h (fun h=>qG [(0,0),(1,1),(3,2)]) fun h=>?_;(conv=>whnf);refine aX ?_;(conv=>whnf);refine gS h fun h=>?_;(conv=>whnf);refine aX ?_;(conv=>whnf);obtain⟨hg,h⟩:=grd_e h;refine Zkd (ek:=(fun(d:(@List UInt8))=>(AV.str d))) (en:=cB) fs a b 227 rfl rfl (ZeI Tryz.underlying9) (.inl rfl) hg rfl _ rfl rQ (fun _=>rfl) rfl ?_;(iterate 5 ((conv=>whnf);first|refine oL ?_|refine aX ?_));(conv=>whnf);refine gS h fun h=>?_;(conv=>whnf);left;cases h;exact gE [(0,0),(1,1),(2,2),(3,931)]
theorem ZfI{a c fs l r}(h:ZcL F a c fs l=some r):FZ ml 148 (T5 c fs l) [pp 0,.str a] (aI r.1) (T16 r.2.1 fs r.2.2):=by
 refine fG Tryz.func148 ?_
 unfold ZcL at h
 (conv=>whnf);refine cH [0,1,2] h ZcY fun b h=>?_;(conv=>whnf);refine jN h fun⟨d,e⟩=>jM [(5,aI b)] (T16 d fs e) 4 (fun h=>?_) fun h=>?_
 ·(conv=>whnf);left;refine bS h (fun h=>?_) fun h=>?_
  ·(conv=>whnf);exact cG [0,1,2] h ZdY fun f h=>qE [(0,0),(1,1),(2,2),(3,323)]
  exact qE [(0,0),(1,1),(3,2)]
 exact qG (ii 4 [])
end Go.T
