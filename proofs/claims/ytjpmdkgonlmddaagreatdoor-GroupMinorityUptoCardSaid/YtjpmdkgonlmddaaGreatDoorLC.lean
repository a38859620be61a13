import Derived.Test.YtjpmdkgonlmddaaGreatDoorLB
set_option linter.unusedVariables false
set_option linter.unusedSimpArgs false
namespace Go.T
open Go Go.Ab
theorem Zlt{a b:Nat}(ha:a≤999999999)(hb:b≤999999999)(h:nameL a=nameL b):a=b:=ZnL (by omega) (by omega) (Vc h)
theorem Zlq{n:Nat}(h1:1≤n)(h2:n≤999999999):ZbZ (nameL n)=n:=Zog n h1 h2
theorem Zlr(n:Nat):nameL n≠[]:=by unfold nameL logS;simp
theorem ZiD{s:List UInt8}(h:ZbZ s≠0):∃n:Nat,ZbZ s=n∧1≤n∧n≤999999999∧s=nameL n:=ZkQ h
theorem Zpt(s:List UInt8):0<ZbZ s↔ZbZ s≠0:=by
 constructor
 ·intro h;omega
 ·intro h
  obtain⟨n,h1,h2,_⟩:=ZiD h
  omega
theorem Zsl(ns:List (List UInt8))(hn:ns.length≤1000)(hlen:∀s,s∈ns→s.length≤16):∀(d i m:Nat) (l:List Int),i+d=ns.length→d<m→l.length≤i→
 Zdf FF ns m (i:Int) l=some (l++((ns.drop i).map ZbZ).filter fun z=>decide (0<z)):=by
 intro d
 induction d with
 |zero=>
  intro i m l h hm hl
  obtain⟨m,rfl⟩:∃k,m=k+1:=⟨m-1,by omega⟩
  have e:ns.drop i=[]:=Wr (by omega)
  unfold Zdf
  rw[Yi (by omega),Y7,e]
  simp
 |succ d ih=>
  intro i m l h hm hl
  obtain⟨m,rfl⟩:∃k,m=k+1:=⟨m-1,by omega⟩
  have hi:i<ns.length:=by omega
  have hdr:=W6 hi
  have hs:=hlen _ (We hi)
  unfold Zdf ZfX
  rw[Y2 (by omega),Y4,ge0,Y4,cI,Y3 hi,Y0,Y2 (by simp only[LIM];omega),Y4,Y0,hdr,Yp,wadd i (by omega)]
  by_cases hz:0<ZbZ ns[i]
  ·rw[Y2 hz,Y4,Y2 (by simp only[LIM];omega),Y4,Y0,ih (i+1) m _ (by omega) (by omega) (by simp;omega),Wt,Y2 hz,if_pos rfl]
   simp
  ·rw[Yi hz,Y7,Y0,ih (i+1) m _ (by omega) (by omega) (by omega),Wt,Yi hz,if_neg (by simp)]
def numsO(fs:Fs):List Int:=(sortI (((sortS (fs.map Prod.fst)).map ZbZ).filter fun z=>decide (0<z))).reverse
theorem Zpr(fs:Fs)(z:Int):z∈numsO fs↔0<z∧∃e,e∈fs∧ZbZ e.1=z:=by
 unfold numsO;rw[List.mem_reverse,(ZkH _).mem_iff,Wn,YK];constructor
 ·rintro⟨⟨s,h1,h2⟩,h3⟩
  rw[(ZgB _).mem_iff]at h1
  obtain⟨e,he,rfl⟩:=YK.1 h1
  exact⟨YD h3,e,he,h2⟩
 ·rintro⟨h1,e,he,h2⟩
  exact⟨⟨e.1,(ZgB _).mem_iff.2 (WM he),h2⟩,Y2 h1⟩
theorem ZmV(fs:Fs)(h:(fs.map Prod.fst).Nodup):(numsO fs).Nodup:=by
 unfold numsO;rw[(List.reverse_perm _).nodup_iff,(ZkH _).nodup_iff,List.filter_map]
 have h1:(sortS (fs.map Prod.fst)).Nodup:=(ZgB _).nodup_iff.2 h
 unfold List.Nodup at h1⊢;rw[List.pairwise_map]
 refine(h1.filter _).imp_of_mem ?_
 intro a b ha hb hab he
 have ha:=YD (Wn.1 ha).2
 have hb:=YD (Wn.1 hb).2
 obtain⟨n,n1,n2,n3,n4⟩:=ZiD ((Zpt a).1 ha)
 obtain⟨k,k1,k2,k3,k4⟩:=ZiD ((Zpt b).1 hb)
 apply hab;rw[n4,k4];congr 1;omega
theorem Zpq(fs:Fs)(h:(fs.map Prod.fst).Nodup):∃zs:List Nat,numsO fs=zs.map (fun n:Nat=>(n:Int))∧zs.Nodup∧(∀z,z∈zs→1≤z∧z≤999999999∧∃x,mget (nameL z) fs=some x)∧
 (∀e,e∈fs→ZbZ e.1≠0→∃z,z∈zs∧e.1=nameL z):=by
 have hm:=Zpr fs
 refine⟨(numsO fs).map Int.toNat,?_,?_,?_,?_⟩
 ·rw[YN]
  symm
  have:∀z,z∈numsO fs→((fun n:Nat=>(n:Int))∘Int.toNat) z=id z:=by
   intro z hz
   have:=((hm z).1 hz).1
   show((z.toNat:Nat):Int)=z
   omega
  rw[Wq this,List.map_id]
 ·have hn:=ZmV fs h
  unfold List.Nodup at hn⊢;rw[List.pairwise_map]
  refine hn.imp_of_mem ?_
  intro a b ha hb hab he
  have:=((hm a).1 ha).1
  have:=((hm b).1 hb).1
  omega
 ·intro z hz
  obtain⟨y,hy,rfl⟩:=YK.1 hz
  obtain⟨h1,e,he,h2⟩:=(hm y).1 hy
  obtain⟨n,n1,n2,n3,n4⟩:=ZiD (show ZbZ e.1≠0 by omega)
  have:y.toNat=n:=by omega
  rw[this]
  exact⟨n2,n3,e.2,by rw[←n4];exact Zsq h he⟩
 ·intro e he hz
  obtain⟨n,n1,n2,n3,n4⟩:=ZiD hz
  refine⟨n,YK.2 ⟨(n:Int),(hm n).2 ⟨by omega,e,he,n1⟩,by omega⟩,n4⟩
def ZhG(s:Int×Fs×List (List Int)×Bool×List Zaa×List UInt8×Int×Int):Option ((Int×Int×Fs×(List (List Int))×(List Zaa))⊕((List (List Int))×Int×Int×Fs×(List UInt8)×Int×Int×(List Zaa))):=
 Option.bind (
  (bif (!s.2.2.2.1)then(
   (Option.bind (Zbl FF s.2.2.1 s.2.2.2.2.2.1 s.2.2.2.2.2.2.1 s.2.2.2.2.2.2.2 s.1 s.2.1 s.2.2.2.2.1) fun y_68=>(
    (bif (y_68.1 != (0:Int))then(
     some (Sum.inl (Sum.inl (y_68.1,y_68.2.2.2.2.1,y_68.2.2.2.2.2.1,[],y_68.2.2.2.2.2.2)))
    )else(
     some (Sum.inr (y_68.2.2.2.2.1,y_68.2.2.2.2.2.1,y_68.2.2.2.2.2.2,y_68.2.1,y_68.2.2.1,y_68.2.2.2.1))
    ))
   ))
  )else(
   some (Sum.inr (s.1,s.2.1,s.2.2.2.2.1,s.2.2.2.2.2.1,s.2.2.2.2.2.2.1,s.2.2.2.2.2.2.2))
  ))
 ) fun o8=>Sum.elim (fun r=>some r) (fun(c_62,fs_63,l_64,c_65,c_66,c_67)=>(
  some (Sum.inr (s.2.2.1,(0:Int),c_62,fs_63,c_65,c_66,c_67,l_64))
 )) o8
theorem Zsm(c:Int)(fs:Fs)(l:List Zaa)(h:DI c fs):ZfP FF c fs l=Option.bind (Za1 FF (numsO fs) c fs [] false l [] 0 0) ZhG:=by
 have h64:=h.n64
 have hall:(List.all fs fun e=>decide (e.1.length≤LIM))=true:=by
  rw[YF];intro e he
  have:=h.names e he
  exact Y2 (by simp only[LIM];omega)
 have hsl:(sortS (fs.map Prod.fst)).length=fs.length:=by rw[(ZgB _).length_eq,Ya]
 unfold ZfP Zeh
 rw[Y2 (by exact⟨by simp only[LIM];omega,hall⟩),Y4,Y0]
 have h0:=Zsl (sortS (fs.map Prod.fst)) (by omega) (by
  intro s hs;rw[(ZgB _).mem_iff]at hs
  obtain⟨e,he,rfl⟩:=YK.1 hs
  exact h.names e he) fs.length 0 FF [] (by omega) (by show _<4000000;omega) (by simp)
 rw[show Zdf FF (sortS (fs.map Prod.fst)) FF 0 []=_ from h0]
 simp only[Y0,V9,YO];unfold Zcm
 rw[Y2 (by have:=WD (fun z=>decide ((0:Int)<z)) ((sortS (fs.map Prod.fst)).map ZbZ);rw[Ya]at this;simp only[LIM];omega),Y4,Y0]
 unfold Zb9;rw[Y0];rfl
theorem Zp0(c:Int)(fs:Fs)(rs:List (List Int))(l:List Zaa)(file:List UInt8)(last cnt:Int):ZhG (c,fs,rs,true,l,file,last,cnt)=some (.inr (rs,0,c,fs,file,last,cnt,l)):=rfl
theorem Zrl{c:Int}{fs:Fs}{rs:List (List Int)}{l:List Zaa}{file f':List UInt8}{last cnt c2 c3 c':Int}{fs':Fs}{l':List Zaa}(h:Zbl FF rs file last cnt c fs l=some (3,f',c2,c3,c',fs',l')):
 ZhG (c,fs,rs,false,l,file,last,cnt)=some (.inl (3,c',fs',[],l')):=by
 unfold ZhG
 simp only[WH,Y4,h,Y0,show((3:Int) != 0)=true from rfl,Sum.elim_inl]
theorem Ztf{c:Int}{fs:Fs}{rs:List (List Int)}{l:List Zaa}{file f':List UInt8}{last cnt c2 c3 c':Int}{fs':Fs}{l':List Zaa}(h:Zbl FF rs file last cnt c fs l=some (0,f',c2,c3,c',fs',l')):
 ZhG (c,fs,rs,false,l,file,last,cnt)=some (.inr (rs,0,c',fs',f',c2,c3,l')):=by
 unfold ZhG
 simp only[WH,Y4,h,Y0,show((0:Int) != 0)=false from rfl,Y7,Sum.elim_inr]
def mx(z:Nat)(last:Int):Int:=if(z:Int)>last then(z:Int)else last
theorem Zsg(z:Nat)(hz:z≤999999999)(rr:List Int)(c:Int)(fs:Fs)(rs0:List (List Int))(cl:Bool)(l:List Zaa)(file:List UInt8)(last cnt:Int)(h:DI c fs)(hl:l.length≤2000000)(x:List Int)(hx:mget (nameL z) fs=some x)
 (size:Nat) (whole:Bool) (rs:List (List Int)) (hr:ZdN FF x=some ((size:Int),whole,rs)):
 Za1 FF ((z:Int)::rr) c fs rs0 cl l file last cnt=
  if file≠[]∨whole=false then Za1 FF rr (c-(x.length:Int)) (mdel (nameL z) fs) rs0 cl (fgt (nameL z) l) file (mx z last) cnt
  else Za1 FF rr c fs rs (decide (size=x.length)) l (nameL z) (mx z last) (rs.length:Int):=by
 have hxl:=Zhx (ZeA hx)
 simp only at hxl
 have ht:=h.tot
 have hle:=h.le
 have hil:=Zls z (by omega)
 have hxL:x.length≤LIM:=by simp only[LIM];omega
 conv=>lhs;unfold Za1
 unfold strconv_Itoa
 rw[Y2 (by omega),Y4,Y0,show([108,111,103,45]:List UInt8)=logS from rfl,Y2 (by show 4+_≤_;omega),Y4,show logS++Lib.itoa (z:Int)=nameL z from rfl,
  Zos hx hxL,Y0]
 simp only[Sum.elim_inl,hr,Y0,Ya]
 rw[show(if(z:Int)>last then(z:Int)else last)=mx z last from rfl]
 rw[ZjS hx hl (by omega)]
 by_cases hf:file=[]
 ·subst hf
  cases whole with
  |true=>
   rw[if_neg (by rintro(q|q);exact q rfl;cases q)]
   simp only[V1,YP,Y7,Y0];congr 1
   by_cases hs:size=x.length
   ·rw[hs];simp
   ·rw[Yi hs]
    simp only[beq_eq_false_iff_ne,ne_eq];omega
  |false=>
   rw[if_pos (.inr rfl)];simp only[V1,YP,WH,Y7,Y4,Y0]
 ·rw[if_pos (Or.inl hf),show(!(file==[]))=true by simpa using hf]
  simp only[Y4,Y0]
def Only(fs:Fs)(n:Nat):Prop:=∀e,e∈fs→ZbZ e.1≠0→e.1=nameL n
theorem Zmp{fs:Fs}{n:Nat}(h2:n≤999999999)(ho:Only fs n):∀k:Nat,n<k→k≤999999999→mget (nameL k) fs=none:=by
 intro k hk hk2
 cases hg:mget (nameL k) fs with
 |none=>rfl
 |some x=>
  have:=ho _ (ZeA hg) (by simp only;rw[Zlq (by omega) hk2];omega)
  have:=Zlt hk2 h2 this
  omega
theorem ZpA(n:Nat)(h:n≤999999999):(nameL n).length≤14:=by
 have:=Zls n (by omega)
 unfold nameL;rw[Yd]
 show 4+_≤14
 omega
theorem ZrN:DI 0 []:=⟨.nil,rfl,by decide,by decide,(fun e he=>by cases he),(fun e he=>by cases he)⟩
theorem ZnG(n:Nat)(X:List Int):mget (nameL n) [(nameL n,X)]=some X:=by simp[mget]
theorem Zr2(n:Nat)(X:List Int):tot [(nameL n,X)]=X.length:=by simp[tot]
theorem ZpU(r:List Int):5≤(Za8 r).length:=by
 have h9:=ZeR 9 r.length
 have h10:1≤(putL r.length).length:=h9.1
 rw[ZeO];omega
theorem Zrk(rs:List (List Int)):rs.length≤(rs.flatMap Za8).length:=by
 induction rs with
 |nil=>simp
 |cons r rs ih=>
  have:=ZpU r
  rw[List.flatMap_cons,Yd,Yf];omega
theorem Zsr(k:Nat)(rs:List (List Int))(t:List Int):rs.length≤(logL k rs t).length:=by
 have:=Zrk rs
 unfold logL;rw[Yd,Yd];omega
theorem Zn2{q:List UInt8}{x:List Int}{n k c:Int}{fs:Fs}{l:List Zaa}(h:mget q fs=some x)(hl:l.length≤2000000):Zdy FF q n k c fs l=some (0,c,fgt q l):=by
 unfold Zdy;rw[ZlT h hl];rfl
structure WGood(c:Int)(fs:Fs)(f:Nat)(X:List Int)(rs:List (List Int)):Prop where
 di:DI c fs
 f1:1≤f
 f2:f≤999999999
 get:mget (nameL f) fs=some X
 only:Only fs f
 rd:ZdN FF X=some ((X.length:Int),true,rs)
 rcs:Recs rs
structure RI(zs:List Nat)(c:Int)(fs:Fs)(rs:List (List Int))(cl:Bool)(file:List UInt8)(last:Nat):Prop where
 di:DI c fs
 nd:zs.Nodup
 zsr:∀z,z∈zs→1≤z∧z≤999999999∧∃x,mget (nameL z) fs=some x
 fl:(file=[]∧rs=[]∧cl=false∧∀e,e∈fs→ZbZ e.1≠0→∃z,z∈zs∧e.1=nameL z)∨
  ∃(f:Nat) (X:List Int) (size:Nat),file=nameL f∧1≤f∧f≤last∧f∉zs∧mget (nameL f) fs=some X∧ZdN FF X=some ((size:Int),true,rs)∧cl=decide (size=X.length)∧Recs rs∧rs.length≤X.length∧
   ∀e,e∈fs→ZbZ e.1≠0→(∃z,z∈zs∧e.1=nameL z)∨e.1=nameL f
 la:last≤999999999
theorem mxn(z last:Nat):mx z (last:Int)=((max z last:Nat):Int):=by
 unfold mx
 split<;>omega
theorem Zsh:∀(zs:List Nat) (c:Int) (fs:Fs) (rs:List (List Int)) (cl:Bool) (l:List Zaa) (file:List UInt8) (last:Nat) (cnt:Int),RI zs c fs rs cl file last→l.length≤900000→WI fs l→(file≠[]→cnt=(rs.length:Int))→
 ∃c' fs' rs' cl' l' file' last' cnt',Za1 FF (zs.map (fun n:Nat=>(n:Int))) c fs rs cl l file (last:Int) cnt=some (c',fs',rs',cl',l',file',((last':Nat):Int),cnt')∧RI [] c' fs' rs' cl' file' last'∧l'.length≤l.length∧WI fs' l'∧(file'≠[]→cnt'=(rs'.length:Int)):=by
 intro zs
 induction zs with
 |nil=>
  intro c fs rs cl l file last cnt h hl hW hc
  refine⟨c,fs,rs,cl,l,file,last,cnt,?_,h,Yg _,hW,hc⟩
  rw[List.map_nil];rfl
 |cons z zs ih=>
  intro c fs rs cl l file last cnt h hl hW hc
  obtain⟨z1,z2,x,hx⟩:=h.zsr z (Ys ..)
  have hnd:=h.nd
  rw[V5]at hnd
  have hxm:=ZeA hx
  have hxl:=Zhx hxm
  simp only at hxl
  have hle:=h.di.le
  obtain⟨size,whole,rs2,hr,r1,r2,r3,r4⟩:=ZkM x (h.di.byt _ hxm) (by omega)
  have hla:=h.la
  rw[Yp,Zsg z z2 _ c fs rs cl l file (last:Int) cnt h.di (by omega) x hx size whole rs2 hr,mxn]
  by_cases hcond:file≠[]∨whole=false
  ·rw[if_pos hcond]
   have hD:=h.di.del (nameL z) x hx
   have hfl:(fgt (nameL z) l).length≤l.length:=WD ..
   have hothers:∀p,p≠nameL z→mget p (mdel (nameL z) fs)=mget p fs:=fun p hp=>Zja hp fs
   have hmem:∀e,e∈mdel (nameL z) fs→e∈fs∧e.1≠nameL z:=by
    intro e he
    refine⟨(Zh1 fs).subset he,?_⟩
    exact Zfe.1 (ZiH h.di.nk) e he
   have hN:RI zs (c-(x.length:Int)) (mdel (nameL z) fs) rs cl file (max z last):=by
    refine⟨hD,hnd.2,?_,?_,by omega⟩
    ·intro z' hz'
     obtain⟨a,b,x',hx'⟩:=h.zsr z' (Yk _ hz')
     refine⟨a,b,x',?_⟩
     rw[hothers,hx'];intro q
     have:=Zlt b z2 q
     subst this;exact hnd.1 hz'
    ·rcases h.fl with ⟨q1,q2,q3,q4⟩|⟨f,X,sz,q1,q2,q3,q4,q5,q6,q7,q8,q9,q10⟩
     ·refine .inl ⟨q1,q2,q3,fun e he hz=>?_⟩
      obtain⟨he1,he2⟩:=hmem e he
      obtain⟨z',hz',hq⟩:=q4 e he1 hz
      rcases Yj.1 hz' with rfl|hz'
      ·exact absurd hq he2
      ·exact⟨z',hz',hq⟩
     ·refine .inr ⟨f,X,sz,q1,q2,by omega,fun q=>q4 (Yk _ q),?_,q6,q7,q8,q9,fun e he hz=>?_⟩
      ·rw[hothers,q5]
       intro q
       have:=Zlt (by omega) z2 q
       subst this;exact q4 (Ys ..)
      ·obtain⟨he1,he2⟩:=hmem e he
       rcases q10 e he1 hz with ⟨z',hz',hq⟩|hq
       ·rcases Yj.1 hz' with rfl|hz'
        ·exact absurd hq he2
        ·exact .inl ⟨z',hz',hq⟩
       ·exact .inr hq
   obtain⟨c',fs',rs',cl',l',file',last',cnt',g1,g2,g3,g4⟩:=ih _ _ rs cl (fgt (nameL z) l) file (max z last) cnt hN (by omega) (hW.del _) hc
   exact⟨c',fs',rs',cl',l',file',last',cnt',g1,g2,by omega,g4⟩
  ·rw[if_neg hcond]
   have hfile:file=[]:=WG fun q=>hcond (.inl q)
   have hw:whole=true:=by
    cases whole with
    |true=>rfl
    |false=>exact absurd (.inr rfl) hcond
   subst hw
   have hN:RI zs c fs rs2 (decide (size=x.length)) (nameL z) (max z last):=by
    refine⟨h.di,hnd.2,fun z' hz'=>h.zsr z' (Yk _ hz'),?_,by omega⟩
    rcases h.fl with ⟨q1,q2,q3,q4⟩|⟨f,X,sz,q1,_⟩
    ·refine .inr ⟨z,x,size,rfl,z1,by omega,hnd.1,hx,hr,rfl,r2,r3,fun e he hz=>?_⟩
     obtain⟨z',hz',hq⟩:=q4 e he hz
     rcases Yj.1 hz' with rfl|hz'
     ·exact .inr hq
     ·exact .inl ⟨z',hz',hq⟩
    ·rw[hfile]at q1
     exact absurd q1.symm (Zlr f)
   obtain⟨c',fs',rs',cl',l',file',last',cnt',g1,g2,g3⟩:=ih _ _ rs2 _ l (nameL z) (max z last) (rs2.length:Int) hN hl hW fun _=>rfl
   exact⟨c',fs',rs',cl',l',file',last',cnt',g1,g2,g3⟩
theorem Zq1(c:Int)(fs:Fs)(l:List Zaa)(hD:DI c fs)(hW:WI fs l):
 (∃c' fs' l',ZfP FF c fs l=some (.inl (3,c',fs',[],l'))∧DI c' fs'∧WI fs' l')∨
 ∃rs c' fs' f l' X,∃n:Nat,ZfP FF c fs l=some (.inr (rs,0,c',fs',nameL f,(n:Int),(rs.length:Int),l'))∧WGood c' fs' f X rs∧WI fs' l'∧f≤n∧n≤999999999:=by
 have hl:l.length≤900000:=by have:=hW.len hD;omega
 obtain⟨zs,z1,z2,z3,z4⟩:=Zpq fs hD.nk
 have hI:RI zs c fs [] false [] 0:=⟨hD,z2,z3,.inl ⟨rfl,rfl,rfl,z4⟩,by omega⟩
 obtain⟨c',fs',rs',cl',l',file',last',cnt',g1,g2,g3,gW,gc⟩:=Zsh zs c fs [] false l [] 0 0 hI hl hW fun q=>absurd rfl q
 rw[Zsm c fs l hD,z1,show Za1 FF (zs.map (fun n:Nat=>(n:Int))) c fs [] false l [] 0 0=_ from g1,Y0]
 have hla:=g2.la
 have hle:=g2.di.le
 have key:cl'=false→rs'.length≤1048576→Recs rs'→(∀e,e∈base file' fs'→ZbZ e.1=0)→(∀k:Nat,last'<k→k≤999999999→mget (nameL k) fs'=none)→(file'=[]∨∃x,mget file' fs'=some x)→
  (∃c2 fs2 l2,ZhG (c',fs',rs',cl',l',file',(last':Int),cnt')=some (.inl (3,c2,fs2,[],l2))∧DI c2 fs2∧WI fs2 l2)∨
  ∃rs c2 fs2 f l2 X,∃n:Nat,ZhG (c',fs',rs',cl',l',file',(last':Int),cnt')=some (.inr (rs,0,c2,fs2,nameL f,(n:Int),(rs.length:Int),l2))∧WGood c2 fs2 f X rs∧WI fs2 l2∧f≤n∧n≤999999999:=by
  intro hcl hrl hR hno hfr hfi;subst hcl
  rcases ZkL rs' file' last' cnt' c' fs' l' hrl (fun x hx=>(hR x hx).2) hla g2.di (by omega) hfr hfi with ⟨g,x,hx,hx2⟩|⟨c2,c3,fs3,l3,g,_,gd⟩|⟨k1,k2,c3,l3,g,k3,k4,k5,kw⟩
  ·have:=(hR x hx).1
   omega
  ·exact .inl ⟨c3,fs3,l3,Zrl g,gd gW⟩
  ·right
   refine⟨rs',c3,_,last'+1,l3,logL rs'.length rs' [],last'+1,Ztf g,?_,kw gW,by omega,by omega⟩
   have hX:(logL rs'.length rs' []).length≤1048576:=by
    have:=k3.le
    rw[Zld,Zr2]at this;omega
   have hread:=ZqX rs'.length rs' [] (by omega) hR ZoP hX
   rw[Y2 (Yg _),Yx,Nat.sub_zero]at hread
   refine⟨k3,by omega,k2,?_,?_,hread,hR⟩
   ·rw[ZiG]
    ·exact ZnG _ _
    ·rw[Zfe]
     intro e he q
     have:=hno e he
     rw[q,Zlq (by omega) k2]at this
     omega
   ·intro e he hz
    rcases Yy.1 he with he|he
    ·exact absurd (hno e he) hz
    ·simp only[YB]at he
     subst he;rfl
 rcases g2.fl with ⟨q1,q2,q3,q4⟩|⟨f,X,sz,q1,q2,q3,q4,q5,q6,q7,q8,q9,q10⟩
 ·have hno:∀e,e∈fs'→ZbZ e.1=0:=by
   intro e he
   refine WG fun q=>?_
   obtain⟨z,hz,_⟩:=q4 e he q
   cases hz
  refine key q3 (by rw[q2];simp) (by rw[q2];intro r hr;cases hr) ?_ ?_ (.inl q1)
  ·rw[q1];exact hno
  ·intro k h1 h2
   rw[Zfe];intro e he q
   have:=hno e he
   rw[q,Zlq (by omega) h2]at this
   omega
 ·have hon:Only fs' f:=by
   intro e he hz
   rcases q10 e he hz with ⟨z,hz',_⟩|q
   ·cases hz'
   ·exact q
  by_cases hs:sz=X.length
  ·rw[q7,Y2 hs,q1]
   right
   rw[gc (by rw[q1];exact Zlr f)]
   refine⟨rs',c',fs',f,l',X,last',Zp0 ..,⟨g2.di,q2,by omega,q5,hon,?_,q8⟩,gW,q3,by omega⟩
   rw[q6,hs]
  ·have hxl:=Zhx (ZeA q5)
   simp only at hxl
   refine key (by rw[q7,Yi hs]) (by omega) q8 ?_ ?_ (.inr ⟨X,by rw[q1];exact q5⟩)
   ·rw[q1]
    unfold base;rw[if_neg (Zlr f)];intro e he
    refine WG fun q=>?_
    have h1:=hon e ((Zh1 fs').subset he) q
    exact Zfe.1 (ZiH g2.di.nk) e he h1
   ·intro k h1 h2
    exact Zmp (by omega) hon k (by omega) h2
end Go.T
