import Derived.Test.YtjpmdkgonlmddaaGreatDoorLB
set_option linter.unusedVariables false
set_option linter.unusedSimpArgs false
namespace Go.T
open Go Go.Ab
theorem wa{a b:Nat}(ha:a≤999999999)(hb:b≤999999999)(h:ai a=ai b):a=b:=Dm (by omega) (by omega) (WG h)
theorem Rn{n:Nat}(h1:1≤n)(h2:n≤999999999):jz (ai n)=n:=Tq n h1 h2
theorem C7(n:Nat):ai n≠[]:=by unfold ai cv;simp
theorem AU{s:List UInt8}(h:jz s≠0):∃n:Nat,jz s=n∧1≤n∧n≤999999999∧s=ai n:=Mh h
theorem Kh(s:List UInt8):0<jz s↔jz s≠0:=by
 constructor
 ·intro h;omega
 ·intro h
  obtain⟨n,h1,h2,_⟩:=AU h
  omega
theorem P1(ns:List (List UInt8))(hn:ns.length≤1000)(hlen:∀s,s∈ns→s.length≤16):∀(d i m:Nat) (l:List Int),i+d=ns.length→d<m→l.length≤i→
 rN FF ns m (i:Int) l=some (l++((ns.drop i).map jz).filter fun z=>decide (0<z)):=by
 intro d
 induction d with
 |zero=>
  intro i m l h hm hl
  obtain⟨m,rfl⟩:∃k,m=k+1:=⟨m-1,by omega⟩
  have e:ns.drop i=[]:=Wu (by omega)
  unfold rN
  rw[Ym (by omega),Y8,e]
  simp
 |succ d ih=>
  intro i m l h hm hl
  obtain⟨m,rfl⟩:∃k,m=k+1:=⟨m-1,by omega⟩
  have hi:i<ns.length:=by omega
  have j8:=W7 hi
  have hs:=hlen _ (Wb hi)
  unfold rN xS
  rw[Y4 (by omega),Y5,qg,Y5,cI,Y3 hi,Y1,Y4 (by simp only[bm];omega),Y5,Y1,j8,Yp,kC i (by omega)]
  by_cases hz:0<jz ns[i]
  ·rw[Y4 hz,Y5,Y4 (by simp only[bm];omega),Y5,Y1,ih (i+1) m _ (by omega) (by omega) (by simp;omega),Ww,Y4 hz,if_pos rfl]
   simp
  ·rw[Ym hz,Y8,Y1,ih (i+1) m _ (by omega) (by omega) (by omega),Ww,Ym hz,if_neg (by simp)]
def iB(fs:Fs):List Int:=(eD (((fY (fs.map Prod.fst)).map jz).filter fun z=>decide (0<z))).reverse
theorem S6(fs:Fs)(z:Int):z∈iB fs↔0<z∧∃e,e∈fs∧jz e.1=z:=by
 unfold iB;rw[List.mem_reverse,(L6 _).mem_iff,Wp,YM];constructor
 ·rintro⟨⟨s,h1,h2⟩,h3⟩
  rw[(Bf _).mem_iff]at h1
  obtain⟨e,he,rfl⟩:=YM.1 h1
  exact⟨YI h3,e,he,h2⟩
 ·rintro⟨h1,e,he,h2⟩
  exact⟨⟨e.1,(Bf _).mem_iff.2 (Ws he),h2⟩,Y4 h1⟩
theorem UH(fs:Fs)(h:(fs.map Prod.fst).Nodup):(iB fs).Nodup:=by
 unfold iB;rw[(List.reverse_perm _).nodup_iff,(L6 _).nodup_iff,List.filter_map]
 have h1:(fY (fs.map Prod.fst)).Nodup:=(Bf _).nodup_iff.2 h
 unfold List.Nodup at h1⊢;rw[List.pairwise_map]
 refine(h1.filter _).imp_of_mem ?_
 intro a b ha hb gr he
 have ha:=YI (Wp.1 ha).2
 have hb:=YI (Wp.1 hb).2
 obtain⟨n,n1,n2,n3,n4⟩:=AU ((Kh a).1 ha)
 obtain⟨k,k1,k2,k3,k4⟩:=AU ((Kh b).1 hb)
 apply gr;rw[n4,k4];congr 1;omega
theorem Sr(fs:Fs)(h:(fs.map Prod.fst).Nodup):∃zs:List Nat,iB fs=zs.map (fun n:Nat=>(n:Int))∧zs.Nodup∧(∀z,z∈zs→1≤z∧z≤999999999∧∃x,ak (ai z) fs=some x)∧
 (∀e,e∈fs→jz e.1≠0→∃z,z∈zs∧e.1=ai z):=by
 have hm:=S6 fs
 refine⟨(iB fs).map Int.toNat,?_,?_,?_,?_⟩
 ·rw[YP]
  symm
  have:∀z,z∈iB fs→((fun n:Nat=>(n:Int))∘Int.toNat) z=id z:=by
   intro z hz
   have:=((hm z).1 hz).1
   show((z.toNat:Nat):Int)=z
   omega
  rw[Wt this,List.map_id]
 ·have hn:=UH fs h
  unfold List.Nodup at hn⊢;rw[List.pairwise_map]
  refine hn.imp_of_mem ?_
  intro a b ha hb gr he
  have:=((hm a).1 ha).1
  have:=((hm b).1 hb).1
  omega
 ·intro z hz
  obtain⟨y,hy,rfl⟩:=YM.1 hz
  obtain⟨h1,e,he,h2⟩:=(hm y).1 hy
  obtain⟨n,n1,n2,n3,n4⟩:=AU (show jz e.1≠0 by omega)
  have:y.toNat=n:=by omega
  rw[this]
  exact⟨n2,n3,e.2,by rw[←n4];exact QM h he⟩
 ·intro e he hz
  obtain⟨n,n1,n2,n3,n4⟩:=AU hz
  refine⟨n,YM.2 ⟨(n:Int),(hm n).2 ⟨by omega,e,he,n1⟩,by omega⟩,n4⟩
def ux(s:Int×Fs×List (List Int)×Bool×List bp×List UInt8×Int×Int):Option ((Int×Int×Fs×(List (List Int))×(List bp))⊕((List (List Int))×Int×Int×Fs×(List UInt8)×Int×Int×(List bp))):=
 Option.bind (
  (bif (!s.2.2.2.1)then(
   (Option.bind (qQ FF s.2.2.1 s.2.2.2.2.2.1 s.2.2.2.2.2.2.1 s.2.2.2.2.2.2.2 s.1 s.2.1 s.2.2.2.2.1) fun jO=>(
    (bif (jO.1 != (0:Int))then(
     some (Sum.inl (Sum.inl (jO.1,jO.2.2.2.2.1,jO.2.2.2.2.2.1,[],jO.2.2.2.2.2.2)))
    )else(
     some (Sum.inr (jO.2.2.2.2.1,jO.2.2.2.2.2.1,jO.2.2.2.2.2.2,jO.2.1,jO.2.2.1,jO.2.2.2.1))
    ))
   ))
  )else(
   some (Sum.inr (s.1,s.2.1,s.2.2.2.2.1,s.2.2.2.2.2.1,s.2.2.2.2.2.2.1,s.2.2.2.2.2.2.2))
  ))
 ) fun o8=>Sum.elim (fun r=>some r) (fun(Gl,Ao,EZ,Gk,Gj,Gi)=>(
  some (Sum.inr (s.2.2.1,(0:Int),Gl,Ao,Gk,Gj,Gi,EZ))
 )) o8
theorem P0(c:Int)(fs:Fs)(l:List bp)(h:DI c fs):s9 FF c fs l=Option.bind (kB FF (iB fs) c fs [] false l [] 0 0) ux:=by
 have CM:=h.n64
 have eg:(List.all fs fun e=>decide (e.1.length≤bm))=true:=by
  rw[YG];intro e he
  have:=h.names e he
  exact Y4 (by simp only[bm];omega)
 have X4:(fY (fs.map Prod.fst)).length=fs.length:=by rw[(Bf _).length_eq,Yb]
 unfold s9 D5
 rw[Y4 (by exact⟨by simp only[bm];omega,eg⟩),Y5,Y1]
 have h0:=P1 (fY (fs.map Prod.fst)) (by omega) (by
  intro s hs;rw[(Bf _).mem_iff]at hs
  obtain⟨e,he,rfl⟩:=YM.1 hs
  exact h.names e he) fs.length 0 FF [] (by omega) (by show _<4000000;omega) (by simp)
 rw[show rN FF (fY (fs.map Prod.fst)) FF 0 []=_ from h0]
 simp only[Y1,Vf,YL];unfold Ep
 rw[Y4 (by have:=List.length_filter_le (fun z=>decide ((0:Int)<z)) ((fY (fs.map Prod.fst)).map jz);rw[Yb]at this;simp only[bm];omega),Y5,Y1]
 unfold Ew;rw[Y1];rfl
theorem S7(c:Int)(fs:Fs)(rs:List (List Int))(l:List bp)(file:List UInt8)(last dO:Int):ux (c,fs,rs,true,l,file,last,dO)=some (.inr (rs,0,c,fs,file,last,dO,l)):=rfl
theorem Q2{c:Int}{fs:Fs}{rs:List (List Int)}{l:List bp}{file f':List UInt8}{last dO c2 c3 c':Int}{fs':Fs}{l':List bp}(h:qQ FF rs file last dO c fs l=some (3,f',c2,c3,c',fs',l')):
 ux (c,fs,rs,false,l,file,last,dO)=some (.inl (3,c',fs',[],l')):=by
 unfold ux
 simp only[WM,Y5,h,Y1,show((3:Int) != 0)=true from rfl,Sum.elim_inl]
theorem Pz{c:Int}{fs:Fs}{rs:List (List Int)}{l:List bp}{file f':List UInt8}{last dO c2 c3 c':Int}{fs':Fs}{l':List bp}(h:qQ FF rs file last dO c fs l=some (0,f',c2,c3,c',fs',l')):
 ux (c,fs,rs,false,l,file,last,dO)=some (.inr (rs,0,c',fs',f',c2,c3,l')):=by
 unfold ux
 simp only[WM,Y5,h,Y1,show((0:Int) != 0)=false from rfl,Y8,Sum.elim_inr]
def mx(z:Nat)(last:Int):Int:=if(z:Int)>last then(z:Int)else last
theorem P6(z:Nat)(hz:z≤999999999)(rr:List Int)(c:Int)(fs:Fs)(jf:List (List Int))(cl:Bool)(l:List bp)(file:List UInt8)(last dO:Int)(h:DI c fs)(hl:l.length≤2000000)(x:List Int)(hx:ak (ai z) fs=some x)
 (size:Nat) (whole:Bool) (rs:List (List Int)) (hr:mF FF x=some ((size:Int),whole,rs)):
 kB FF ((z:Int)::rr) c fs jf cl l file last dO=
  if file≠[]∨whole=false then kB FF rr (c-(x.length:Int)) (dI (ai z) fs) jf cl (fx (ai z) l) file (mx z last) dO
  else kB FF rr c fs rs (decide (size=x.length)) l (ai z) (mx z last) (rs.length:Int):=by
 have iu:=uo (oY hx)
 simp only at iu
 have ht:=h.dV
 have hle:=h.le
 have hil:=Hj z (by omega)
 have NZ:x.length≤bm:=by simp only[bm];omega
 conv=>lhs;unfold kB
 unfold strconv_Itoa
 rw[Y4 (by omega),Y5,Y1,show([108,111,103,45]:List UInt8)=cv from rfl,Y4 (by show 4+_≤_;omega),Y5,show cv++Lib.itoa (z:Int)=ai z from rfl,
  TV hx NZ,Y1]
 simp only[Sum.elim_inl,hr,Y1,Yb]
 rw[show(if(z:Int)>last then(z:Int)else last)=mx z last from rfl]
 rw[Ms hx hl (by omega)]
 by_cases hf:file=[]
 ·subst hf
  cases whole with
  |true=>
   rw[if_neg (by rintro(q|q);exact q rfl;cases q)]
   simp only[V4,W4,Y8,Y1];congr 1
   by_cases hs:size=x.length
   ·rw[hs];simp
   ·rw[Ym hs]
    simp only[beq_eq_false_iff_ne,ne_eq];omega
  |false=>
   rw[if_pos (.inr rfl)];simp only[V4,W4,WM,Y8,Y5,Y1]
 ·rw[if_pos (Or.inl hf),show(!(file==[]))=true by simpa using hf]
  simp only[Y5,Y1]
def wv(N:List UInt8)(r:List Int):bp:=bp.mk N ((cw r).length:Int)
theorem Hp(dj dW:Int)(l:List bp)(K:Nat)(hK:(if((l.length:Int)<(if(0:Int)>dj then(0:Int)else dj))then(l.length:Int)else(if(0:Int)>dj then(0:Int)else dj))=(K:Int))(m:Nat)(i c:Int)(fs:Fs)(h:i<K):
 oq FF dj dW l (m+1) i c fs=some (c,fs):=by
 unfold oq
 rw[hK,Ym (by omega),Y8]
theorem Rz(dj dW:Int)(N:List UInt8)(P:List Int)(bA:List (List Int))(hp:eu bA)(nU:bA.length≤2000000)(K T:Nat)(hK:(if(((bA.map (wv N)).length:Int)<(if(0:Int)>dj then(0:Int)else dj))then((bA.map (wv N)).length:Int)else(if(0:Int)>dj then(0:Int)else dj))=(K:Int))
 (hT:(if(0:Int)>dW then(0:Int)else dW)=(T:Int)):
 ∀(j m:Nat) (i c:Int),i=(j:Int)-1→j+1<m→j≤bA.length→(P++(bA.take j).flatMap cw).length≤1048576→c=((P++(bA.take j).flatMap cw).length:Int)→
 ∃(j':Nat) (t:List Int) (c':Int),j'≤bA.length∧Un t∧cX t∧oq FF dj dW (bA.map (wv N)) m i c [(N,P++(bA.take j).flatMap cw)]=some (c',[(N,P++(bA.take j').flatMap cw++t)])∧c'=((P++(bA.take j').flatMap cw++t).length:Int)∧
  (P++(bA.take j').flatMap cw++t).length≤1048576∧(∀r,bA[K]? =some r→K<j→T<(cw r).length→j'=K∧t.length=T)∧(j=0→t=[]):=by
 intro j
 induction j with
 |zero=>
  intro m i c hi hm hj hY hc
  obtain⟨m,rfl⟩:∃k,m=k+1:=⟨m-1,by omega⟩
  refine⟨0,[],c,by omega,rG,cX.nil,?_,by simpa using hc,by simpa using hY,fun r _ q=>by omega,fun _=>rfl⟩
  rw[Hp dj dW _ K hK m i c _ (by omega)]
  simp
 |succ j ih=>
  intro m i c hi hm hj hY hc
  have hi:i=(j:Int):=by omega
  subst hi
  obtain⟨m,rfl⟩:∃k,m=k+1:=⟨m-1,by omega⟩
  have kx:j<bA.length:=by omega
  have xk:bA.take (j+1)=bA.take j++[bA[j]]:=by rw[Wc,Y3 kx];rfl
  have hr:=hp _ (Wb kx)
  by_cases Zp:K≤j
  ·have hfl:P++(bA.take (j+1)).flatMap cw=(P++(bA.take j).flatMap cw)++cw bA[j]:=by rw[xk,V8,Yq];simp
   rw[hfl]at hY hc⊢
   have hlen:=@Ya _ (P++(bA.take j).flatMap cw) (cw bA[j])
   have hstep:∀(s:Nat),s≤(cw bA[j]).length→(j=K→s=min (cw bA[j]).length T)→(j≠K→s=0)→oq FF dj dW (bA.map (wv N)) (m+1) (j:Int) c [(N,(P++(bA.take j).flatMap cw)++cw bA[j])]=
    oq FF dj dW (bA.map (wv N)) m ((j:Int)-1) (((P++(bA.take j).flatMap cw++(cw bA[j]).take s).length:Nat):Int) [(N,P++(bA.take j).flatMap cw++(cw bA[j]).take s)]:=by
    intro s hs Oa hs2
    have hgl:(bA.map (wv N))[j]? =some (wv N bA[j]):=by rw[Yn,Y3 kx];rfl
    conv=>lhs;unfold oq
    rw[hK,Y4 (by omega),Y5,qg,Y5,cI,hgl,Y1,Y1]
    have zK:(bif ((j:Int)==(K:Int))then(some (IntKind.wrap IntKind.i64 ((wv N bA[j]).size-(if((wv N bA[j]).size<(if((0:Int)>dW)then(0:Int)else dW))then(wv N bA[j]).size else(if((0:Int)>dW)then(0:Int)else dW)))))
     else some (wv N bA[j]).size)=some ((((cw bA[j]).length-s:Nat)):Int):=by
     simp only[wv,hT]
     by_cases vz:j=K
     ·have FA:((j:Int)==(K:Int))=true:=by rw[WZ];omega
      rw[FA,Y5,Oa vz];congr 1
      by_cases ht:(cw bA[j]).length<T
      ·rw[if_pos (by omega),W0 (by omega),Yz];omega
      ·rw[if_neg (by omega),Nat.min_eq_right (by omega),Yz];omega
     ·rw[show(((j:Int)==(K:Int))=false)from by rw[beq_eq_false_iff_ne];omega,Y8,hs2 vz];rfl
    rw[zK,Y1]
    have hg:ak (wv N bA[j]).name [(N,(P++(bA.take j).flatMap cw)++cw bA[j])]=some ((P++(bA.take j).flatMap cw)++cw bA[j]):=by simp[ak,wv]
    rw[hg];simp only[Option.isSome_some,Y5,Yv,Yb]
    have hw:IntKind.wrap IntKind.i64 ((((P++(bA.take j).flatMap cw)++cw bA[j]).length:Int)-(((cw bA[j]).length-s:Nat):Int))=(((P++(bA.take j).flatMap cw).length+s:Nat):Int):=by
     rw[Yz];omega
    simp only[hw,qg,Y5,cI]
    rw[Y4 (by omega),Y5,show decide (List.length [(N,(P++(bA.take j).flatMap cw)++cw bA[j])]+1≤bm)=true from rfl,Y5]
    rw[show IntKind.wrap IntKind.i64 ((j:Int)-1)=(j:Int)-1 by rw[Yz];omega]
    have zy:((P++(bA.take j).flatMap cw)++cw bA[j]).take ((P++(bA.take j).flatMap cw).length+s)=P++(bA.take j).flatMap cw++(cw bA[j]).take s:=by
     rw[List.take_length_add_append]
    have FP:IntKind.wrap IntKind.i64 (c-(((cw bA[j]).length-s:Nat):Int))=(((P++(bA.take j).flatMap cw++(cw bA[j]).take s).length:Nat):Int):=by
     rw[hc,hw,@Ya _ (P++(bA.take j).flatMap cw),YD,W0 hs]
    rw[zy,FP];simp[bw,wv]
   by_cases vz:j=K
   ·have hs:=hstep (min (cw bA[j]).length T) (Nat.min_le_left _ _) (fun _=>rfl) (fun q=>absurd vz q)
    obtain⟨m,rfl⟩:∃k,m=k+1:=⟨m-1,by omega⟩
    rw[hs,Hp dj dW _ K hK m _ _ _ (by omega)]
    by_cases Jl:(cw bA[j]).length≤T
    ·refine⟨j+1,[],((P++(bA.take j).flatMap cw++(cw bA[j]).take (min (cw bA[j]).length T)).length:Int),hj,rG,cX.nil,?_,?_,?_,?_,fun q=>by omega⟩
     ·rw[W0 Jl,Wl,YE,hfl]
     ·rw[W0 Jl,Wl,YE,hfl]
     ·rw[YE,hfl];exact hY
     ·intro r xn _ Of
      rw[←vz,Y3 kx]at xn
      injection xn with xn
      subst xn;omega
    ·refine⟨j,(cw bA[j]).take (min (cw bA[j]).length T),_,by omega,Da bA[j] _ hr.1 hr.2 (List.take_prefix ..) (by rw[YD];omega),(xK _ hr.2).take _,rfl,rfl,?_,fun r _ _ _=>⟨vz,by rw[YD];omega⟩,fun q=>by omega⟩
     rw[Ya,YD];omega
   ·rw[hstep 0 (YC _) (fun q=>absurd q vz) (fun _=>rfl),List.take_zero,YE]
    obtain⟨j',t,c',a1,a2,a3,a4,a5,a6,a7,a8⟩:=ih m ((j:Int)-1) _ rfl (by omega) (by omega) (by omega) rfl
    exact⟨j',t,c',a1,a2,a3,a4,a5,a6,fun r h1 h2=>a7 r h1 (by omega),fun q=>by omega⟩
  ·refine⟨j+1,[],c,hj,rG,cX.nil,?_,by rw[YE];exact hc,by rw[YE];exact hY,fun r _ q=>by omega,fun q=>by omega⟩
   rw[Hp dj dW _ K hK m _ c _ (by omega),YE]
theorem Ry(dj dW:Int)(N:List UInt8)(P:List Int)(bA:List (List Int))(hp:eu bA)(nU:bA.length≤2000000)(hY:(P++bA.flatMap cw).length≤1048576):
 ∃(j':Nat) (t:List Int) (c':Int),j'≤bA.length∧Un t∧cX t∧pd FF dj dW ((P++bA.flatMap cw).length:Int) [(N,P++bA.flatMap cw)] (bA.map (wv N))=some (c',[(N,P++(bA.take j').flatMap cw++t)])∧
  c'=((P++(bA.take j').flatMap cw++t).length:Int)∧(P++(bA.take j').flatMap cw++t).length≤1048576∧(dj=0→dW=3→∀r,bA[0]? =some r→3<(cw r).length→j'=0∧t.length=3)∧(bA=[]→t=[]):=by
 obtain⟨K,hK⟩:∃K:Nat,(if(((bA.map (wv N)).length:Int)<(if(0:Int)>dj then(0:Int)else dj))then((bA.map (wv N)).length:Int)else(if(0:Int)>dj then(0:Int)else dj))=(K:Int):=by
  refine⟨(if(((bA.map (wv N)).length:Int)<(if(0:Int)>dj then(0:Int)else dj))then((bA.map (wv N)).length:Int)else(if(0:Int)>dj then(0:Int)else dj)).toNat,?_⟩
  split<;>split<;>omega
 obtain⟨T,hT⟩:∃T:Nat,(if(0:Int)>dW then(0:Int)else dW)=(T:Int):=by
  refine⟨(if(0:Int)>dW then(0:Int)else dW).toNat,?_⟩
  split<;>omega
 have zD:bA.take bA.length=bA:=Wl
 have:=Rz dj dW N P bA hp nU K T hK hT bA.length FF ((bA.length:Int)-1) ((P++bA.flatMap cw).length:Int) rfl (by show _<4000000;omega) (Yg _) (by rw[zD];exact hY) (by rw[zD])
 obtain⟨j',t,c',h1,h2,vM,h3,h4,h5,h6,h7⟩:=this
 refine⟨j',t,c',h1,h2,vM,?_,h4,h5,?_,fun q=>h7 (by rw[q];rfl)⟩
 rotate_left
 ·rintro rfl rfl r q1 q2
  have O0:T=3:=by rw[if_neg (by omega)]at hT;omega
  have O4:K=0:=by rw[if_neg (show¬(0:Int)>0 by omega),if_neg (by omega)]at hK;omega
  subst O0 O4
  have:=Wo.1 q1
  obtain⟨q,_⟩:=this
  exact h6 r q1 q q2
 rw[zD]at h3;unfold pd
 rw[Yb,Yb,show IntKind.wrap IntKind.i64 ((bA.length:Int)-1)=(bA.length:Int)-1 by rw[Yz];omega,h3]
 rfl
theorem Lm(n:Nat)(h:n≤999999999):(ai n).length≤14:=by
 have:=Hj n (by omega)
 unfold ai;rw[Ya]
 show 4+_≤14
 omega
theorem Pv:DI 0 []:=⟨.nil,rfl,by decide,by decide,(fun e he=>by cases he),(fun e he=>by cases he)⟩
theorem CZ(n:Nat)(X:List Int)(h:n≤999999999)(hX:X.length≤1048576)(hb:cX X):DI (X.length:Int) [(ai n,X)]:=by
 have:=Lm n h
 refine⟨by simp,by simp[dV],by simpa[dV]using hX,by simp,?_,?_⟩
 ·intro e he
  simp only[Ys]at he;subst he;simp only;omega
 ·intro e he
  simp only[Ys]at he;subst he;exact hb
theorem pA(n:Nat)(X:List Int):ak (ai n) [(ai n,X)]=some X:=by simp[ak]
theorem Rm(n:Nat)(X Y:List Int):bw (ai n) Y [(ai n,X)]=[(ai n,Y)]:=by simp[bw]
theorem KR(n:Nat)(X:List Int):dI (ai n) [(ai n,X)]=[]:=by simp[dI]
theorem vZ(n:Nat)(X:List Int):dV [(ai n,X)]=X.length:=by simp[dV]
theorem Q3{rs:List (List Int)}(h:eu rs):cX (rs.flatMap cw):=by
 intro y hy
 obtain⟨r,hr,hy⟩:=List.mem_flatMap.1 hy
 exact xK r (h r hr).2 y hy
theorem Dh{k:Nat}{rs:List (List Int)}{t:List Int}(h:eu rs)(ht:cX t):cX (bH k rs t):=cX.append (xK _ (AY _ _)) (cX.append (Q3 h) ht)
theorem Ta(r:List Int):5≤(cw r).length:=by
 have h9:=oZ 9 r.length
 have rA:1≤(bJ r.length).length:=h9.1
 rw[rJ];omega
theorem KJ(rs:List (List Int)):rs.length≤(rs.flatMap cw).length:=by
 induction rs with
 |nil=>simp
 |cons r rs ih=>
  have:=Ta r
  rw[Vl,Ya,Ye];omega
theorem AM(k:Nat)(rs:List (List Int))(t:List Int):rs.length≤(bH k rs t).length:=by
 have:=KJ rs
 unfold bH;rw[Ya,Ya];omega
theorem Ri(k:Nat)(rs:List (List Int))(r:List Int):bH k (rs++[r]) []=bH k rs []++cw r:=by
 unfold bH;rw[V8];simp
theorem L8{q:List UInt8}{x:List Int}{n k c:Int}{fs:Fs}{l:List bp}(h:ak q fs=some x)(hl:l.length≤2000000):By FF q n k c fs l=some (0,c,fx q l):=by
 unfold By;rw[LK h hl];rfl
theorem JA(N:List UInt8)(rs:List (List Int)):fx N (rs.map (wv N))=[]:=by
 unfold fx;rw[List.filter_eq_nil_iff];intro w hw
 obtain⟨r,_,rfl⟩:=YM.1 hw
 simp[wv]
theorem NK(z last:Nat):mx z (last:Int)=((max z last:Nat):Int):=by
 unfold mx
 split<;>omega
end Go.T
