import Derived.Test.YtjpmdkgonlmddaaGreatDoorAbI
import Derived.Shelf.Spec.SlicesInsert
import Derived.Lib.AppendZerosOnto
import Derived.Lib.Overlaps
import Derived.Laws.NewBlocks
import Derived.Test.YtjpmdkgonlmddaaGreatDoorAbJ
namespace Go.Ab
open Go.Proofs
end Go.Ab
namespace Go.Ab
theorem Zn4 {P : Program} {G : Gmap} {f : Nat} {fn : Func} {c : Code} {args : List AV} {rv : AV} (fuel : Nat) (hf : P.funcs[f]? = some fn) (hb : fn.body = some c)
    (hn:callB P f=true) (hm:P.follows .mixedOrders=true) (hsz:args.length≤fn.ntmps)
    (h:xcode P G ⟨0,fn.ntmps,false⟩ 0 (finC P fn.results.toList fun r=>Wk r rv) fuel [.code c] (argsG args 0) [] W):FC P G f [] args rv []:=by
  refine ⟨hn,fun o x hx=>by simp [lk] at hx,fun S0 ι0 w0 vs h0 hG hob hι hL=>?_⟩
  have him:∀ j L,ι0 j=some L→j<([]:Os).length:=fun j L e=>by rw [hι j (Nat.zero_le _)] at e;cases e
  have hinv:=Zhs (fn:=fn) hsz h0 hG hob hι (Nat.zero_le _) him hL
  refine ZgN hm hf hb ⟨rfl,rfl⟩ hinv h ?_
  intro N dfs qb g os hfin S ι un a w hi
  obtain ⟨rs,hrs,h2⟩:=opt_e hfin
  obtain ⟨rv',hrv,h3⟩:=opt_e h2
  rw [Zc8] at h3
  obtain ⟨v,hv1,hv2⟩:=Zgx (P:=P) hi hrs
  have hcl:=ZdH hi.ob 8 _ _ _ hv2 hrv
  have hR : ∃ v' S' ι', Ending.returned v = .returned v' ∧ Fr (OwOf w0 ι0 []) w0 w ∧ (∀ b, S' b → (S0 b ∨ OwOf w0 ι0 [] b) ∧ b < w.heap.size) ∧ (∀ b, S0 b → S' b) ∧ ι0.le ι' ∧
      (∀ o,W≤o→ι' o=none)∧Rep S' w ι' rv v'∧Zcy (OwOf w0 ι0 []) S' w ι' (lk []):=by
    refine ⟨v,SV S ι (toFS g os).os (os.map (·.1)),ι0,rfl,hi.fr,fun b hb=>⟨?_,SV_lt hi _ b hb⟩,?_,Imap.le_refl _,fun o _=>hι o (Nat.zero_le _),.imm _ _ (h3.irep _ hcl),
      ⟨fun o x hx=>by simp [lk] at hx,fun o x hx=>by simp [lk] at hx,fun o o' x x' hx=>by simp [lk] at hx⟩⟩
    · rcases hb with hb | ⟨o,x,l,_,hx,hl,rfl⟩
      · exact hi.sn b hb
      · by_cases hlv:x.live=true
        · exact .inr (hi.own o x hx hlv l hl _ (.inl rfl)).1
        · have hob2:=hi.ob o x hx
          cases x with
          | froz rs =>
            rcases hob2 with ⟨q,_⟩ | ⟨l',vals,q,_,hS,_⟩
            · rw [q] at hl;cases hl
            · rw [q] at hl;injection hl with hl;injection hl with hl;subst hl
              exact hi.sn _ hS
          | rows p rs=>exact absurd rfl hlv
          | mapo p es=>exact absurd rfl hlv
          | fmap z fs hh=>exact absurd rfl hlv
          | gmap es hh=>exact absurd rfl hlv
          | lit rs=>exact absurd rfl hlv
    · exact fun b hb=>.inl (hi.s0 b hb)
  exact ⟨v,hv1,hR⟩
abbrev aI (n:Int):AV:=.int .i64 n
theorem oL {a b:Prop} (h:a):a∨b:=.inl h
theorem bC {b:Bool} {α:Type} {X Y:Option α} {r:α} {A B:Prop} (h:cond b X Y=some r) (h1:b=true→X=some r→A) (h2:b=false→Y=some r→B):brc b A B :=
  brn_i (fun hb=>h1 hb (ZgY h hb)) (fun hb=>h2 hb (ZgZ h hb))
theorem oG {α:Type} {c:α→List AV} {L:List α} {i:Nat} {y:α} {K:List AV→Prop} (h:L[i]? = some y) (k:K (c y)):opt ((L.map c)[i]?) K:=opt_i (c y) (getE rfl h) k
theorem eI {m : Nat} {R : Prop} {gx : Tm} {osx : Os} {nx : Nat} {g' : Tm} {os' : Os} (σ : List (Nat × Nat)) (hR : R := by first | trivial | rfl)
    (h2:gx.map (fun e=>renAV (ap σ) e.2)=gx.map (fun e=>lookG g' e.1):=by exact rfl) (h3:osx.map (fun e=>some (renO (ap σ) e.2))=osx.map (fun e=>lk os' (ap σ e.1)):=by exact rfl)
    (h1:(gx.all (fun e=>idsB nx e.2) && osx.all (fun e=>decide (e.1<nx) && idsBO nx e.2) && decide ((osx.map fun e=>ap σ e.1).Nodup) && decide (m≤nx) && (List.range m).all (fun j=>ap σ j==j))=true:=by exact rfl) :
    R∧∃ σ,Cov m g' os' σ gx osx nx:=end_i hR σ h2 h3 h1
theorem gI {m : Nat} {rv : AV} {os' : Os} {v : AV} {os : Os} (σ : List (Nat × Nat)) (h2 : renAV (ap σ) rv = v := by exact rfl)
    (h3:os'.map (fun e=>some (renO (ap σ) e.2))=os'.map (fun e=>lk os (ap σ e.1)):=by exact rfl)
    (h1:(idsB W rv && os'.all (fun e=>decide (e.1<W) && idsBO W e.2) && decide ((os'.map fun e=>ap σ e.1).Nodup) && decide (m≤W) && (List.range m).all (fun j=>ap σ j==j))=true:=by exact rfl) :
    EndG m rv os' v os:=Zdl σ h2 h3 h1
end Go.Ab
namespace Go.Ab
theorem rowE {a b:List (List AV)} {p:Bool} (h:a=b):some (AO.rows p a)=some (AO.rows p b):=by rw [h]
theorem rQ {α:Type} {a b:α} (h:a=b:=by first | rfl | (simp;done) | (rw [List.map_append];rfl) | exact map_set1 | exact map_set2 | exact map_set3 | (simp only [List.map_set];rfl) | (simp [outR];done) | (simp only [outR,Sum.elim_inr,id,List.map_append,List.map_map];rfl)):a=b:=h
theorem bS {b b' : Bool} {α : Type} {X Y : Option α} {r : α} {A B : Prop} (h : cond b' X Y = some r) (h1 : X = some r → A) (h2 : Y = some r → B)
    (e1:b=true→b'=true:=by intro hb;first | exact hb | (simp;done) | simpa using hb | simpa [chunk] using hb | (simp [chunk] at hb ⊢;omega))
    (e2:b=false→b'=false:=by intro hb;first | exact hb | (simp;done) | simpa using hb | simpa [chunk] using hb | (simp [chunk] at hb ⊢;omega)):brc b A B :=
  brn_i (fun hb=>h1 (ZgY h (e1 hb))) (fun hb=>h2 (ZgZ h (e2 hb)))
theorem bT {b b' : Bool} {α : Type} {Y : Option α} {r : α} {A B : Prop} (h : cond b' none Y = some r) (h2 : Y = some r → B)
    (e1:b=true→b'=true:=by intro hb;first | exact hb | (simp;done) | simpa using hb | simpa [chunk] using hb | (simp [chunk] at hb ⊢;omega))
    (e2:b=false→b'=false:=by intro hb;first | exact hb | (simp;done) | simpa using hb | simpa [chunk] using hb | (simp [chunk] at hb ⊢;omega)):brc b A B :=
  brn_i (fun hb=>by cases ZgY h (e1 hb)) (fun hb=>h2 (ZgZ h (e2 hb)))
theorem bF {b b' : Bool} {α : Type} {X : Option α} {r : α} {A B : Prop} (h : cond b' X none = some r) (h1 : X = some r → A)
    (e1:b=true→b'=true:=by intro hb;first | exact hb | (simp;done) | simpa using hb | simpa [chunk] using hb | (simp [chunk] at hb ⊢;omega))
    (e2:b=false→b'=false:=by intro hb;first | exact hb | (simp;done) | simpa using hb | simpa [chunk] using hb | (simp [chunk] at hb ⊢;omega)):brc b A B :=
  brn_i (fun hb=>h1 (ZgY h (e1 hb))) (fun hb=>by cases ZgZ h (e2 hb))
theorem gS {p q : Prop} {_ : Decidable q} {α : Type} {X : Option α} {r : α} {b : Prop} (h : cond (decide q) X none = some r) (k : X = some r → b)
    (e:q→p:=by intro hg;first | exact hg | (simp;done) | simpa using hg | simpa [chunk] using hg | (simp [chunk] at hg ⊢;omega)):p∧b :=
  ⟨e (grd_e h).1,k (grd_e h).2⟩
theorem gX {q:Prop} {_:Decidable q} {α:Type} {X:Option α} {r:α} {b:Prop} (h:cond (decide q) X none=some r) (k:X=some r→b):q∧b:=⟨(grd_e h).1,k (grd_e h).2⟩
theorem aX {a b:Prop} (k:b) (h:a:=by first | exact Zal.map (fun _=>rfl) | exact Zal.cons rfl Zal.nil | exact Zal.nil | exact Nat.le_of_ble_eq_true rfl | kernel_rfl | decide | trivial | exact ⟨by kernel_rfl,_,rfl⟩):a∧b:=⟨h,k⟩
theorem oB {α β : Type} {c : α → List AV} {L : List α} {i : Nat} {g : α → Option β} {r : β} {X : List (List AV)} {K : List AV → Prop} (h : Option.bind L[i]? g = some r) (k : ∀ y, g y = some r → K (c y))
    (e:X=L.map c:=by first | exact rfl | (simp;done) | (rw [List.map_append];rfl) | exact map_set1 | exact map_set2 | exact map_set3 | (simp only [List.map_set];rfl)):opt (X[i]?) K:=by
  obtain ⟨y,hy,h⟩:=ZaL h
  exact opt_i (c y) (getE e hy) (k y h)
theorem cL {α β : Type} {X : Option α} {g : α → Option β} {r : β} {P : Program} {G : Gmap} {f : Nat} {args : List AV} {rv : α → AV} {Kf : AV → Prop} {Z : AV → Os → Prop}
    (h:Option.bind X g=some r) (c:∀ {y},X=some y→FC P G f [] args (rv y) []) (k:∀ y,g y=some r→Kf (rv y)) (hf:∀ y,flat (rv y)=true:=by exact fun _=>rfl) :
    ∃ v os,FC P G f [] args v os∧((flat v=true∧os=[]∧Kf v)∨Z v os):=by
  obtain ⟨y,hy,h⟩:=ZaL h
  exact ⟨_,_,c hy,.inl ⟨hf y,rfl,k y h⟩⟩
theorem cR {α β : Type} {X : Option α} {g : α → Option β} {r : β} {P : Program} {G : Gmap} {f : Nat} {args : List AV} {rv : α → AV} {os' : α → Os} {Y : AV → Os → Prop} {A : List Nat → Option (List AV)} {B : AV → Os → List Nat → Prop}
    (h:Option.bind X g=some r) (c:∀ {y},X=some y→FC P G f [] args (rv y) (os' y)) (k:∀ y,g y=some r→B (rv y) (os' y) []) (hA:A []=some args:=by exact rfl) :
    ∃ v os,FC P G f [] args v os∧(Y v os∨∃ V,A V=some args∧B v os V):=by
  obtain ⟨y,hy,h⟩:=ZaL h
  exact ⟨_,_,c hy,.inr ⟨[],hA,k y h⟩⟩
theorem cG {α β : Type} {X : Option α} {g : α → Option β} {r : β} {P : Program} {G : Gmap} {f : Nat} {avs : List AV} {ol : Nat → Option AO} {id : Nat} {K : AV → List (Nat × Option AO) → List Nat → Prop} {A : Prop}
    {oin:List (Nat×AO)} {argsC:List AV} {rv:α→AV} {os':α→List (Nat×AO)}
    (V:List Nat) (h:Option.bind X g=some r) (c:∀ {y},X=some y→FC P G f oin argsC (rv y) (os' y)) (k:∀ y,g y=some r→fAV (renAV (bk V id) (rv y)) fun v=>K v (backU V id (os' y)) V)
    (h1:(decide V.Nodup && idsBL V.length argsC && oin.all fun e=>idsBO V.length e.2)=true:=by exact rfl) (h2:oin.map (·.1)=List.range V.length:=by exact rfl)
    (h3:oin.map (fun e=>some (renO (bk V id) e.2))=V.map ol:=by first | exact rfl | (repeat' first | exact rfl | refine cons2 ?_ ?_ | refine rowE ?_ | (simp;done) | (rw [List.map_append];rfl) | exact map_set1 | exact map_set2 | exact map_set3 | (simp only [List.map_set];rfl) | (simp [outR];done) | (simp only [outR,Sum.elim_inr,id,List.map_append,List.map_map];rfl))) (h4:renL (bk V id) argsC=avs:=by exact rfl):A∨CallG P G f avs ol id K:=by
  obtain ⟨y,hy,h⟩:=ZaL h
  exact .inr (ZhD V (c hy) h1 h2 h3 h4 (k y h))
theorem cH {α β : Type} {X : Option α} {g : α → Option β} {r : β} {P : Program} {G : Gmap} {f : Nat} {avs : List AV} {ol : Nat → Option AO} {id : Nat} {K : AV → List (Nat × Option AO) → List Nat → Prop} {A : Prop}
    {oin:List (Nat×AO)} {argsC:List AV} {rv:α→AV}
    (V:List Nat) (h:Option.bind X g=some r) (c:∀ {y},X=some y→FC P G f oin argsC (rv y) oin) (k:∀ y,g y=some r→fAV (renAV (bk V id) (rv y)) fun v=>K v [] V)
    (h1:(decide V.Nodup && idsBL V.length argsC && oin.all fun e=>idsBO V.length e.2)=true:=by exact rfl) (h2:oin.map (·.1)=List.range V.length:=by exact rfl)
    (h3:oin.map (fun e=>some (renO (bk V id) e.2))=V.map ol:=by first | exact rfl | (repeat' first | exact rfl | refine cons2 ?_ ?_ | refine rowE ?_ | (simp;done) | (rw [List.map_append];rfl) | exact map_set1 | exact map_set2 | exact map_set3 | (simp only [List.map_set];rfl) | (simp [outR];done) | (simp only [outR,Sum.elim_inr,id,List.map_append,List.map_map];rfl))) (h4:renL (bk V id) argsC=avs:=by exact rfl):A∨CallG P G f avs ol id K:=by
  obtain ⟨y,hy,h⟩:=ZaL h
  exact .inr (Znw V (c hy) h1 h2 h3 h4 (k y h))
theorem cg {P : Program} {G : Gmap} {f : Nat} {avs : List AV} {ol : Nat → Option AO} {id : Nat} {K : AV → List (Nat × Option AO) → List Nat → Prop} {A : Prop}
    {oin:List (Nat×AO)} {argsC:List AV} {rv:AV} {os':List (Nat×AO)}
    (V:List Nat) (c:FC P G f oin argsC rv os') (k:fAV (renAV (bk V id) rv) fun v=>K v (backU V id os') V)
    (h1:(decide V.Nodup && idsBL V.length argsC && oin.all fun e=>idsBO V.length e.2)=true:=by exact rfl) (h2:oin.map (·.1)=List.range V.length:=by exact rfl)
    (h3:oin.map (fun e=>some (renO (bk V id) e.2))=V.map ol:=by first | exact rfl | (repeat' first | exact rfl | refine cons2 ?_ ?_ | refine rowE ?_ | (simp;done) | (rw [List.map_append];rfl) | exact map_set1 | exact map_set2 | exact map_set3 | (simp only [List.map_set];rfl) | (simp [outR];done) | (simp only [outR,Sum.elim_inr,id,List.map_append,List.map_map];rfl))) (h4:renL (bk V id) argsC=avs:=by exact rfl):A∨CallG P G f avs ol id K :=
  .inr (ZhD V c h1 h2 h3 h4 k)
structure JB (m:Nat) (body:(Tm→Os→Nat→Prop)→Prop) (K:Tm→Os→Nat→Prop) (R A B:Prop):Prop where
  h:∃ gx osx nx,(A→body (fun g' os' _=>R∧∃ σ,Cov m g' os' σ gx osx nx))∧(B→K gx osx nx)
theorem jM {m:Nat} {body:(Tm→Os→Nat→Prop)→Prop} {K:Tm→Os→Nat→Prop} {R A B:Prop} (gx:Tm) (osx:Os) (nx:Nat) (b1:A→body (fun g' os' _=>R∧∃ σ,Cov m g' os' σ gx osx nx)) (b2:B→K gx osx nx):JB m body K R A B:=⟨gx,osx,nx,b1,b2⟩
theorem jN {m : Nat} {body : (Tm → Os → Nat → Prop) → Prop} {K : Tm → Os → Nat → Prop} {Z : Prop} {α β : Type} {X : Option α} {g : α → Option β} {r : β} (h : Option.bind X g = some r)
    (k:∀ y,JB m body K True (X=some y) (g y=some r)):Z∨Joins m body K:=by
  obtain ⟨y,hy,h⟩:=ZaL h
  obtain ⟨gx,osx,nx,b1,b2⟩:=(k y).h
  exact .inr (Zix True gx osx nx (b1 hy) fun _=>b2 h)
theorem jS {m : Nat} {body : (Tm → Os → Nat → Prop) → Prop} {K : Tm → Os → Nat → Prop} {Z : Prop} {R V β : Type} [Inhabited V] {X : Option (R ⊕ V)} {f : R → Option β} {g : V → Option β} {r : β} (h : Option.bind X (fun o => Sum.elim f g o) = some r)
    (k:∀ o v,JB m body K (o=Sum.inr v) (X=some o∧Sum.elim f g o=some r∧outR o=v) (g v=some r)):Z∨Joins m body K:=by
  obtain ⟨o,ho,h⟩:=ZaL h
  obtain ⟨gx,osx,nx,b1,b2⟩:=(k o (outR o)).h
  exact .inr (Zix (o=Sum.inr (outR o)) gx osx nx (b1 ⟨ho,h,rfl⟩) fun hR=>b2 (ZmW hR h))
theorem jT {m : Nat} {body : (Tm → Os → Nat → Prop) → Prop} {K : Tm → Os → Nat → Prop} {R A1 A2 A3 B : Prop} (gx : Tm) (osx : Os) (nx : Nat) (b1 : A1 → A2 → A3 → body (fun g' os' _ => R ∧ ∃ σ, Cov m g' os' σ gx osx nx)) (b2 : B → K gx osx nx) :
    JB m body K R (A1∧A2∧A3) B:=⟨gx,osx,nx,fun h=>b1 h.1 h.2.1 h.2.2,b2⟩
theorem lI {m : Nat} {g : Tm} {os : Os} {body : (Tm → Os → Nat → Prop) → Tm → Os → Nat → Prop} {β γ : Type} (f : Nat → β → Option γ) (gx : β → Tm) (osx : β → Os) (nx : Nat) {n : Nat} (x0 : β) (σ0 : List (Nat × Nat)) {o : γ} (hI : f n x0 = some o)
    (hr:∀ n x,f (n+1) x=some o→body (fun g' os' _=>∃ x' σ,(fun q:Nat×β=>f q.1 q.2=some o) x'∧(fun q:Nat×β=>q.1) x'<(fun q:Nat×β=>q.1) (n+1,x)∧Cov m g' os' σ ((fun q:Nat×β=>gx q.2) x') ((fun q:Nat×β=>osx q.2) x') nx) (gx x) (osx x) nx)
    (h2:(gx x0).map (fun e=>renAV (ap σ0) e.2)=(gx x0).map (fun e=>lookG g e.1):=by repeat' first | exact rfl | refine cons2 ?_ ?_ | refine congrArg AV.sl ?_ | (simp;done) | (rw [List.map_append];rfl) | exact map_set1 | exact map_set2 | exact map_set3 | (simp only [List.map_set];rfl) | (simp [outR];done) | (simp only [outR,Sum.elim_inr,id,List.map_append,List.map_map];rfl))
    (h3:(osx x0).map (fun e=>some (renO (ap σ0) e.2))=(osx x0).map (fun e=>lk os (ap σ0 e.1)):=by first | exact rfl | (repeat' first | exact rfl | refine cons2 ?_ ?_ | refine rowE ?_ | (simp;done) | (rw [List.map_append];rfl) | exact map_set1 | exact map_set2 | exact map_set3 | (simp only [List.map_set];rfl) | (simp [outR];done) | (simp only [outR,Sum.elim_inr,id,List.map_append,List.map_map];rfl)))
    (h1:((gx x0).all (fun e=>idsB nx e.2) && (osx x0).all (fun e=>decide (e.1<nx) && idsBO nx e.2) && decide (((osx x0).map fun e=>ap σ0 e.1).Nodup) && decide (m≤nx) && (List.range m).all (fun j=>ap σ0 j==j))=true:=by exact rfl)
    (hz:∀ x,f 0 x=none:=by exact fun _=>rfl):Loops m g os body :=
  ZgB (fun q:Nat×β=>gx q.2) (fun q=>osx q.2) nx (fun q=>f q.1 q.2=some o) (fun q=>q.1) (n,x0) σ0 hI h2 h3 h1 (by
    rintro ⟨n,x⟩ h
    cases n with
    | zero=>rw [show f 0 x=none from hz x] at h;cases h
    | succ n=>exact hr n x h)
theorem kV {a b:AV} (h:Wk a b:=by repeat' first | exact Wk.eq rfl | exact Wk.esl | refine Wk.t ?_ | refine Wk.a ?_ | exact WkL.nil | refine WkL.cons ?_ ?_ | exact Wk.eq (by first | (simp;done) | (rw [List.map_append];rfl) | exact map_set1 | exact map_set2 | exact map_set3 | (simp only [List.map_set];rfl) | (simp [outR];done) | (simp only [outR,Sum.elim_inr,id,List.map_append,List.map_map];rfl))):Wk a b:=h
theorem kL {a b:List AV} (h:WkL a b:=by repeat' first | exact Wk.eq rfl | exact Wk.esl | refine Wk.t ?_ | refine Wk.a ?_ | exact WkL.nil | refine WkL.cons ?_ ?_ | exact Wk.eq (by first | (simp;done) | (rw [List.map_append];rfl) | exact map_set1 | exact map_set2 | exact map_set3 | (simp only [List.map_set];rfl) | (simp [outR];done) | (simp only [outR,Sum.elim_inr,id,List.map_append,List.map_map];rfl))):WkL a b:=h
theorem kO {a b:List (Option AO)} (h:WkOs a b:=by repeat' first | exact WkOs.nil | refine WkOs.cons ?_ ?_ | exact WkO.eq (Option.some.inj rfl) | (refine WkO.eq (Option.some.inj (rowE ?_));first | (simp;done) | (rw [List.map_append];rfl) | (simp [outR];done) | (simp only [outR,Sum.elim_inr,id,List.map_append,List.map_map];rfl)) | refine WkO.r ?_ | exact WkR.nil | refine WkR.cons ?_ ?_ | refine kL | (refine WkR.of_eq ?_;first | (simp;done) | rfl | (rw [List.map_append];rfl) | exact map_set1 | exact map_set2 | exact map_set3 | (simp only [List.map_set];rfl) | (simp [outR];done) | (simp only [outR,Sum.elim_inr,id,List.map_append,List.map_map];rfl))):WkOs a b:=h
theorem eE {m : Nat} {R : Prop} {gx : Tm} {osx : Os} {nx : Nat} {g' : Tm} {os' : Os} (σ : List (Nat × Nat)) (hR : R := by first | trivial | rfl)
    (h2:gx.map (fun e=>renAV (ap σ) e.2)=gx.map (fun e=>lookG g' e.1):=by exact rfl)
    (h3:osx.map (fun e=>some (renO (ap σ) e.2))=osx.map (fun e=>lk os' (ap σ e.1)):=by repeat' first | exact rfl | refine cons2 ?_ ?_ | refine rowE ?_ | (simp;done) | (rw [List.map_append];rfl) | exact map_set1 | exact map_set2 | exact map_set3 | (simp only [List.map_set];rfl) | (simp [outR];done) | (simp only [outR,Sum.elim_inr,id,List.map_append,List.map_map];rfl))
    (h1:(gx.all (fun e=>idsB nx e.2) && osx.all (fun e=>decide (e.1<nx) && idsBO nx e.2) && decide ((osx.map fun e=>ap σ e.1).Nodup) && decide (m≤nx) && (List.range m).all (fun j=>ap σ j==j))=true:=by exact rfl) :
    R∧∃ σ,Cov m g' os' σ gx osx nx:=end_i hR σ h2 h3 h1
theorem gE {m : Nat} {rv : AV} {os' : Os} {v : AV} {os : Os} (σ : List (Nat × Nat)) (h2 : renAV (ap σ) rv = v := by exact rfl)
    (h3:os'.map (fun e=>some (renO (ap σ) e.2))=os'.map (fun e=>lk os (ap σ e.1)):=by repeat' first | exact rfl | refine cons2 ?_ ?_ | refine rowE ?_ | (simp;done) | (rw [List.map_append];rfl) | exact map_set1 | exact map_set2 | exact map_set3 | (simp only [List.map_set];rfl) | (simp [outR];done) | (simp only [outR,Sum.elim_inr,id,List.map_append,List.map_map];rfl))
    (h1:(idsB W rv && os'.all (fun e=>decide (e.1<W) && idsBO W e.2) && decide ((os'.map fun e=>ap σ e.1).Nodup) && decide (m≤W) && (List.range m).all (fun j=>ap σ j==j))=true:=by exact rfl) :
    EndG m rv os' v os:=Zdl σ h2 h3 h1
theorem rE {m : Nat} {α : Type} {gx : α → Tm} {osx : α → Os} {nx : Nat} {I : α → Prop} {μ : α → Nat} {x : α} {g' : Tm} {os' : Os} (x' : α) (σ : List (Nat × Nat)) (hI : I x') (hμ : μ x' < μ x := by exact Nat.lt_succ_self _)
    (h2:(gx x').map (fun e=>renAV (ap σ) e.2)=(gx x').map (fun e=>lookG g' e.1):=by exact rfl)
    (h3:(osx x').map (fun e=>some (renO (ap σ) e.2))=(osx x').map (fun e=>lk os' (ap σ e.1)):=by repeat' first | exact rfl | refine cons2 ?_ ?_ | refine rowE ?_ | (simp;done) | (rw [List.map_append];rfl) | exact map_set1 | exact map_set2 | exact map_set3 | (simp only [List.map_set];rfl) | (simp [outR];done) | (simp only [outR,Sum.elim_inr,id,List.map_append,List.map_map];rfl))
    (h1:((gx x').all (fun e=>idsB nx e.2) && (osx x').all (fun e=>decide (e.1<nx) && idsBO nx e.2) && decide (((osx x').map fun e=>ap σ e.1).Nodup) && decide (m≤nx) && (List.range m).all (fun j=>ap σ j==j))=true:=by exact rfl) :
    ∃ x' σ,I x'∧μ x'<μ x∧Cov m g' os' σ (gx x') (osx x') nx:=Zgw x' σ hI hμ h2 h3 h1
theorem gW {m : Nat} {rv : AV} {os' : Os} {v : AV} {os : Os} (σ : List (Nat × Nat)) (h2 : Wk v (renAV (ap σ) rv) := by exact kV)
    (h3:WkOs (os'.map fun e=>lk os (ap σ e.1)) (os'.map fun e=>some (renO (ap σ) e.2)):=by exact kO)
    (h1:(idsB W rv && os'.all (fun e=>decide (e.1<W) && idsBO W e.2) && decide ((os'.map fun e=>ap σ e.1).Nodup) && decide (m≤W) && (List.range m).all (fun j=>ap σ j==j))=true:=by exact rfl) :
    EndG m rv os' v os:=ZnV σ h2 h3 h1
theorem aE {P : Program} {G : Gmap} {f : Nat} {args args' : List AV} {rv : AV} {os : Os} (h : FC P G f [] args rv os)
    (e:args=args':=by repeat' first | exact rfl | refine cons2 ?_ ?_ | refine congrArg AV.agg ?_ | refine congrArg AV.sl ?_ | (simp;done) | (rw [List.map_append];rfl) | exact map_set1 | exact map_set2 | exact map_set3 | (simp only [List.map_set];rfl) | (simp [outR];done) | (simp only [outR,Sum.elim_inr,id,List.map_append,List.map_map];rfl)):FC P G f [] args' rv os:=e▸h
theorem aW {P:Program} {G:Gmap} {f:Nat} {oin:List (Nat×AO)} {args args':List AV} {rv:AV} {os':List (Nat×AO)} (h:FC P G f oin args' rv os') (hw:WkL args args':=by exact kL):FC P G f oin args rv os':=ZhL hw h
theorem fA {P : Program} {G : Gmap} {f : Nat} {fn : Func} {c : Code} {args : List AV} {rv : AV} (hf : P.funcs[f]? = some fn)
    (h:xcode P G ⟨0,fn.ntmps,false⟩ 0 (finC P fn.results.toList fun r=>r=rv) 2000 [.code c] (argsG args 0) [] W) (hb:fn.body=some c:=by exact rfl)
    (hn:callB P f=true:=by kernel_rfl) (hm:P.follows .mixedOrders=true:=by exact mixed) (hsz:args.length≤fn.ntmps:=by exact Nat.le_of_ble_eq_true rfl):FC P G f [] args rv []:=FC_of 2000 hf hb hn hm hsz h
theorem fK {P : Program} {G : Gmap} {f : Nat} {fn : Func} {c : Code} {args : List AV} {rv : AV} (hf : P.funcs[f]? = some fn)
    (h:xcode P G ⟨0,fn.ntmps,false⟩ 0 (finC P fn.results.toList fun r=>Wk r rv) 2000 [.code c] (argsG args 0) [] W) (hb:fn.body=some c:=by exact rfl)
    (hn:callB P f=true:=by kernel_rfl) (hm:P.follows .mixedOrders=true:=by exact mixed) (hsz:args.length≤fn.ntmps:=by exact Nat.le_of_ble_eq_true rfl):FC P G f [] args rv []:=Zn4 2000 hf hb hn hm hsz h
theorem fG {P : Program} {G : Gmap} {f : Nat} {fn : Func} {c : Code} {oin : Os} {args : List AV} {rv : AV} {os' : Os} (hf : P.funcs[f]? = some fn)
    (h:xcode P G ⟨0,fn.ntmps,false⟩ oin.length (finG P fn.results.toList oin.length (EndG oin.length rv os')) 2000 [.code c] (argsG args 0) oin W) (hb:fn.body=some c:=by exact rfl)
    (hn:callB P f=true:=by kernel_rfl) (hm:P.follows .mixedOrders=true:=by exact mixed) (hsz:args.length≤fn.ntmps:=by exact Nat.le_of_ble_eq_true rfl)
    (hin:oin.length≤W:=by exact Nat.le_of_ble_eq_true rfl) (hos:(os'.all fun e=>decide (e.1<W))=true:=by exact rfl):FC P G f oin args rv os':=ZeC 2000 hf hb hn hm hsz hin hos h
def pp (n:Nat):AV:=.ptr n 0 0
def rF (r:List AV):AO:=.rows false [r]
def rT {α:Type} (c:α→List AV) (l:List α):AO:=.rows true (List.map c l)
def sM {α:Type} (c:α→List AV) (l:List α):AV:=.sl (List.map c l)
def tX (_:List (Nat×Nat)) (P:Prop):Prop:=P
theorem tI {σ:List (Nat×Nat)} {P:Prop} (h:let _s:=σ;P):tX σ P:=h
theorem eQ {m : Nat} {R : Prop} {gx : Tm} {osx : Os} {nx : Nat} {g' : Tm} {os' : Os} (σ : List (Nat × Nat)) (h : R ∧
    gx.map (fun e=>renAV (ap σ) e.2)=gx.map (fun e=>lookG g' e.1)∧osx.map (fun e=>some (renO (ap σ) e.2))=osx.map (fun e=>lk os' (ap σ e.1)) ∧
    (gx.all (fun e=>idsB nx e.2) && osx.all (fun e=>decide (e.1<nx) && idsBO nx e.2) && decide ((osx.map fun e=>ap σ e.1).Nodup) && decide (m≤nx) && (List.range m).all (fun j=>ap σ j==j))=true) :
    R∧∃ σ,Cov m g' os' σ gx osx nx:=end_i h.1 σ h.2.1 h.2.2.1 h.2.2.2
theorem gQ {m : Nat} {rv : AV} {os' : Os} {v : AV} {os : Os} (σ : List (Nat × Nat)) (h : renAV (ap σ) rv = v ∧ os'.map (fun e => some (renO (ap σ) e.2)) = os'.map (fun e => lk os (ap σ e.1)) ∧
    (idsB W rv && os'.all (fun e=>decide (e.1<W) && idsBO W e.2) && decide ((os'.map fun e=>ap σ e.1).Nodup) && decide (m≤W) && (List.range m).all (fun j=>ap σ j==j))=true) :
    EndG m rv os' v os:=Zdl σ h.1 h.2.1 h.2.2
theorem qE (σ:List (Nat×Nat)) {P:Prop} (w:tX σ P:=by
  refine tI ?_;intro s
  repeat' ((conv=>whnf);first | refine oL ?_ | refine bT h fun h=>?_ | refine bF h fun h=>?_ | refine bS h (fun h=>?_) fun h=>?_ | (cases h;done) | (refine eQ s ?_;cases h;first | exact ⟨trivial,rfl,rfl,rfl⟩ | exact ⟨rfl,rfl,rfl,rfl⟩ | (cases e;exact ⟨rfl,rfl,rfl,rfl⟩)) | refine gX h fun h=>?_ | refine aX ?_ | refine gS h fun h=>?_)):P:=w
theorem qG (σ:List (Nat×Nat)) {P:Prop} (w:tX σ P:=by
  refine tI ?_;intro s
  repeat' ((conv=>whnf);first | refine oL ?_ | refine bT h fun h=>?_ | refine bF h fun h=>?_ | refine bS h (fun h=>?_) fun h=>?_ | (cases h;done) | (refine gQ s ?_;cases h;exact ⟨rfl,rfl,rfl⟩) | refine gX h fun h=>?_ | refine aX ?_ | refine gS h fun h=>?_)):P:=w
theorem qR {P:Prop} (w:P:=by
  repeat' ((conv=>whnf);first | refine oL ?_ | refine bT h fun h=>?_ | refine bF h fun h=>?_ | refine bS h (fun h=>?_) fun h=>?_ | (cases h;done) | (cases h;exact rfl) | refine gX h fun h=>?_ | refine aX ?_ | refine gS h fun h=>?_)):P:=w
theorem qK {P:Prop} (w:P:=by
  repeat' ((conv=>whnf);first | refine oL ?_ | refine bT h fun h=>?_ | refine bF h fun h=>?_ | refine bS h (fun h=>?_) fun h=>?_ | (cases h;done) | (cases h;exact kV) | refine gX h fun h=>?_ | refine aX ?_ | refine gS h fun h=>?_)):P:=w
end Go.Ab
