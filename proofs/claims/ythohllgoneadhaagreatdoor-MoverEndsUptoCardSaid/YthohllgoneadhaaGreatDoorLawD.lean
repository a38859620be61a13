import Derived.Test.YthohllgoneadhaaGreatDoorLawC
set_option linter.unusedVariables false
set_option linter.unusedSimpArgs false
namespace Go.T
open Go Go.Ab
def rank (st:Int):Nat:=if st=3 then 0 else if st=1 then 1 else if st=2 then 2 else 3
def Later (x x':Zaa):Prop:=x.Epoch<x'.Epoch∨x.Epoch=x'.Epoch∧rank x.State≤rank x'.State
theorem Later.refl (x:Zaa):Later x x:=.inr ⟨rfl,Nat.le_refl _⟩
theorem Later.trans {x y z:Zaa} (h:Later x y) (h':Later y z):Later x z:=by
  unfold Later at *
  omega
def Mono2 (Gs Gs':Grs):Prop:=∀ g id x,lk Gs g id=some x→∃ x',lk Gs' g id=some x'∧Later x x'
theorem Mono2.refl (Gs:Grs):Mono2 Gs Gs:=fun g id x h=>⟨x,h,Later.refl x⟩
theorem Mono2.trans {A B C:Grs} (h1:Mono2 A B) (h2:Mono2 B C):Mono2 A C:=by
  intro g id x h
  obtain ⟨y,hy,e1⟩:=h1 g id x h
  obtain ⟨z,hz,e2⟩:=h2 g id y hy
  exact ⟨z,hz,e1.trans e2⟩
theorem Zdo {Gs:Grs} {g:Nat} (hg:g<Gs.length) {y:Zaa} (h:∀ x,lk Gs g y.Id=some x→Later x y):Mono2 Gs (putG Gs g y):=by
  intro g' id x hx
  rw [Zdp hg]
  by_cases c:g'=g∧id=y.Id
  · rw [if_pos c]
    obtain ⟨rfl,rfl⟩:=c
    exact ⟨y,rfl,h x hx⟩
  · rw [if_neg c]
    exact ⟨x,hx,Later.refl x⟩
def Zfc (Gs:Grs) (g:Int) (o:Zae):Prop:=1≤g∧g≤Gs.length ∧
  ((o.Kind=4∧GoodS o.State∧o.State.State≠4∧∃ x,lk Gs (gi g) o.State.Id=some x∧o.State.Epoch≤x.Epoch) ∨
   (∃ x,lk Gs (gi g) o.Shard=some x∧(
    (o.Kind=2∧(o.Epoch<x.Epoch∨o.Epoch=x.Epoch∧2≤rank x.State)) ∨
    (o.Kind=3∧o.Epoch<x.Epoch) ∨
    (o.Kind=5∧(o.Epoch<x.Epoch∨o.Epoch=x.Epoch∧1≤rank x.State)) ∨
    (o.Kind=6∧1≤o.Shard∧1≤o.Epoch∧o.Epoch≤1099511627776∧(o.Epoch<x.Epoch∨o.Epoch=x.Epoch∧x.State=4)) ∨
    ((o.Kind=7∨o.Kind=8)∧o.Epoch<x.Epoch))))
theorem rank4 {st:Int} (h1:1≤st) (h2:st≤4):3≤rank st↔st=4:=by
  unfold rank
  repeat' split
  all_goals omega
theorem Zfc.mono {last:Int} {Gs Gs':Grs} (hb:Base last Gs') (hm:Mono2 Gs Gs') (hl:Gs'.length=Gs.length) {g:Int} {o:Zae} (h:Zfc Gs g o):Zfc Gs' g o:=by
  obtain ⟨h1,h2,h3⟩:=h
  refine ⟨h1,by omega,?_⟩
  rcases h3 with ⟨k,q1,q2,x,hx,he⟩ | ⟨x,hx,h⟩
  · obtain ⟨y,hy,e1⟩:=hm _ _ _ hx
    exact .inl ⟨k,q1,q2,y,hy,by unfold Later at e1;omega⟩
  · obtain ⟨y,hy,e1⟩:=hm _ _ _ hx
    unfold Later at e1
    refine .inr ⟨y,hy,?_⟩
    rcases h with ⟨k,h⟩ | ⟨k,h⟩ | ⟨k,h⟩ | ⟨k,q1,q2,q3,h⟩ | ⟨k,h⟩
    · exact .inl ⟨k,by omega⟩
    · exact .inr (.inl ⟨k,by omega⟩)
    · exact .inr (.inr (.inl ⟨k,by omega⟩))
    · refine .inr (.inr (.inr (.inl ⟨k,q1,q2,q3,?_⟩)))
      have hyr:=(hb.2 _ _ _ hy).1.1
      rcases h with h | ⟨h,hs⟩
      · exact .inl (by omega)
      · rcases e1 with e1 | ⟨e1,e2⟩
        · exact .inl (by omega)
        · refine .inr ⟨by omega,(rank4 hyr.2.2.2.1 hyr.2.2.2.2.1).1 ?_⟩
          rw [hs] at e2
          exact e2
    · exact .inr (.inr (.inr (.inr ⟨k,by omega⟩)))
theorem ZjO {Gs:Grs} {g:Int} {o:Zae} (hgl:GoodL (gr Gs (gi g))) (h:Zfc Gs g o):∃ e s,Ze3 FM (gr Gs (gi g)) o=some (errR e,s,gr Gs (gi g)):=by
  have hlen:=hgl.2.1
  have hsrt:=hgl.1
  have hsb:∀ s,s∈gr Gs (gi g)→SB s:=fun s hs=>(hgl.2.2.2 s hs).2
  obtain ⟨_,_,h3⟩:=h
  rcases h3 with ⟨k,q1,q2,x,hx,he⟩ | ⟨x,hx,h⟩
  · obtain ⟨e,hd⟩:=ZmA o (l:=gr Gs (gi g)) (by omega) hsrt q1 q2 hx he
    refine ⟨e,noS,do_eq _ o hgl (by omega) ?_⟩
    unfold does
    rw [if_neg (by omega),if_neg (by omega),if_pos k]
    exact hd
  have hx:look (gr Gs (gi g)) o.Shard=some x:=hx
  have hxr:=(hgl.2.2.2 x (ZbM hx).1).1
  have huniq:∀ s,look (gr Gs (gi g)) o.Shard=some s→s=x:=fun s hs=>by rw [hx] at hs;exact (Option.some.inj hs).symm
  have r1:=hxr.2.2.2.1
  have r2:=hxr.2.2.2.2.1
  rcases h with ⟨k,h⟩ | ⟨k,h⟩ | ⟨k,h⟩ | ⟨k,q1,q2,q3,h⟩ | ⟨k,h⟩
  · by_cases c:x.State=4∨x.Epoch≠o.Epoch
    · obtain ⟨e,hd⟩:=ZnU o (l:=gr Gs (gi g)) (by omega) hsrt hsb (fun s hs=>by rw [huniq s hs];exact c)
      refine ⟨e,noS,do_eq _ o hgl (by omega) ?_⟩
      unfold does
      rw [if_pos k]
      exact hd
    · have h2:x.State=2:=by
        rcases h with h | ⟨_,h⟩
        · omega
        · unfold rank at h
          revert h
          repeat' split
          all_goals omega
      have hd:=ZgF o (l:=gr Gs (gi g)) (by omega) hsrt hsb hx (.inr h2) (by omega)
      have e:ZbK x 2=x:=by unfold ZbK;rw [← h2]
      rw [e,ZhH hsrt (by rw [(ZbM hx).2];exact hx)] at hd
      refine ⟨0,x,do_eq _ o hgl (by omega) ?_⟩
      unfold does
      rw [if_pos k]
      exact hd
  · have hd:∃ e,Zbn FM o (gr Gs (gi g))=some (errR e,noS,gr Gs (gi g)):=by
      rcases ZjF o (gr Gs (gi g)) (by omega) hsrt with ⟨i,hi,h1,h2,h3⟩ | ⟨_,h3⟩
      · have e:=Zcl hsrt hx hi h1
        rw [e] at h3
        by_cases c:x.State=1∧x.Epoch=o.Past
        · rw [if_pos c] at h3;exact ⟨_,h3⟩
        · rw [if_neg c,if_pos (by omega)] at h3;exact ⟨_,h3⟩
      · exact ⟨_,h3⟩
    obtain ⟨e,hd⟩:=hd
    refine ⟨e,noS,do_eq _ o hgl (by omega) ?_⟩
    unfold does
    rw [if_neg (by omega),if_pos k]
    exact hd
  · have hd:∃ e,Zbc FM o (gr Gs (gi g))=some (errR e,noS,gr Gs (gi g)):=by
      rcases ZjZ o (gr Gs (gi g)) (by omega) hsrt with ⟨i,hi,h1,h2,h3,h4⟩ | ⟨i,hi,h1,h2,h3,h4⟩ | ⟨h1,h4⟩
      · have e:=Zcl hsrt hx hi h1
        rw [e] at h4 h2 h3
        by_cases c:x.State=2
        · rw [if_pos c] at h4;exact ⟨_,h4⟩
        · have c1:x.State=1:=by
            rcases h with h | ⟨_,h⟩
            · omega
            · unfold rank at h
              revert h
              repeat' split
              all_goals omega
          rw [if_neg c] at h4
          refine ⟨0,?_⟩
          have e2:ZbK x 1=x:=by unfold ZbK;rw [← c1]
          rw [h4,e2,← e]
          simp
      · exact ⟨_,h4⟩
      · exact ⟨_,h4⟩
    obtain ⟨e,hd⟩:=hd
    refine ⟨e,noS,do_eq _ o hgl (by omega) ?_⟩
    unfold does
    rw [if_neg (by omega),if_neg (by omega),if_neg (by omega),if_pos k]
    exact hd
  · obtain ⟨e,hd⟩:=Zni o (l:=gr Gs (gi g)) (by omega) hsrt q1 q2 q3 hx (by omega)
    refine ⟨e,noS,do_eq _ o hgl (by omega) ?_⟩
    unfold does
    rw [if_neg (by omega),if_neg (by omega),if_neg (by omega),if_neg (by omega),if_pos k]
    exact hd
  · have hall:∀ s,look (gr Gs (gi g)) o.Shard=some s→s.State=4∨s.Epoch≠o.Epoch:=fun s hs=>by rw [huniq s hs];omega
    rcases k with k | k
    · obtain ⟨e,hd⟩:=ZoG o (l:=gr Gs (gi g)) (by omega) hsrt hall
      refine ⟨e,noS,do_eq _ o hgl (by omega) ?_⟩
      unfold does
      rw [if_neg (by omega),if_neg (by omega),if_neg (by omega),if_neg (by omega),if_neg (by omega),if_pos k]
      exact hd
    · obtain ⟨e,hd⟩:=ZoS o (l:=gr Gs (gi g)) (by omega) hsrt hall
      refine ⟨e,noS,do_eq _ o hgl (by omega) ?_⟩
      unfold does
      rw [if_neg (by omega),if_neg (by omega),if_neg (by omega),if_neg (by omega),if_neg (by omega),if_neg (by omega)]
      exact hd
end Go.T
set_option linter.unusedVariables false
set_option linter.unusedSimpArgs false
namespace Go.T
open Go Go.Ab
def Zcw (s:Zab):Zab:=⟨s.From,s.To,s.Shard,s.Epoch+2,s.Group⟩
def mvL (G last:Int) (pre post:List Zab) (s:Zab) (g:Int):Zag:=⟨G,last,pre++Zcw s::post,moveP s g 9⟩
def hasS (s:Zab) (st:Int):Zaa:=⟨s.Shard,s.Epoch,st,[],[],[],[]⟩
section
variable {G last:Int} {pre post:List Zab} {s:Zab} {g:Int}
theorem Zh6 (h:Mp G last (pre++s::post)) (he:s.Epoch≤1099511627774):Mp G last (pre++Zcw s::post):=by
  have f:=Zay h
  exact ZpA h (Zcw s) rfl rfl rfl ⟨by show 1≤s.Epoch+2;omega,by show s.Epoch+2≤_;omega⟩ ⟨f.2.2.2.2.1,f.2.2.2.2.2⟩
theorem Znn (h:Mp G last (pre++s::post)) (he:s.Epoch≤1099511627774):plc (pre++Zcw s::post) s.Shard=(pre.length:Nat):=Zd1 (Zh6 h he)
theorem ZpZ (a : Zag) (s : Zab) (p : Zap) (h1 : p.Group ≠ p.Past) (h2 : 1 ≤ p.Group) (h3 : 1 ≤ p.Past) (h4 : p.Group ≤ a.Groups) (h5 : p.Past ≤ a.Groups) (h6 : p.Other = 0) (h7 : p.Key = []) (hs : 1 ≤ s.Epoch ∧ s.Epoch ≤ 1099511627776)
    (k1:p.Phase=9) (k2:s.Group=p.Past) (k3:s.Epoch - 2=p.Epoch):ZcE FM a s p=some true:=by
  unfold ZcE
  have e1:¬ (if p.Past<p.Group then p.Past else p.Group)<1:=by split<;>omega
  have e2:¬ a.Groups<(if p.Past > p.Group then p.Past else p.Group):=by split<;>omega
  rw [show (p.Group==p.Past)=false by simpa using h1,cond_false,decide_eq_false e1,cond_false,decide_eq_false e2,cond_false,show (p.Other != 0)=false by simpa using h6,cond_false,h7]
  simp only [show (!(([]:List UInt8)==[]))=false from rfl,Option.bind_some,cond_false]
  have hw:IntKind.wrap IntKind.i64 (s.Epoch - 2)=s.Epoch - 2:=Zb9 (by omega) (by omega)
  have g2:(s.Group==p.Past)=true:=by simpa using k2
  have g3:(s.Epoch - 2==p.Epoch)=true:=by simpa using k3
  rw [hw,show (p.Phase==1)=false by rw [k1];rfl,cond_false,show (p.Phase==2)=false by rw [k1];rfl,cond_false,show (p.Phase==3)=false by rw [k1];rfl,show (p.Phase==9)=true by rw [k1];rfl]
  simp only [cond_true,cond_false,Option.bind_some,g2,g3]
theorem ZgH (h:Mp G last (pre++s::post)) (hg:1≤g∧g≤G) (hne:g≠s.Group) (he:s.Epoch≤1099511627774):Zbb FM (mvL G last pre post s g)=some true:=by
  have f:=Zay h
  have h':=Zh6 h he
  rw [ZdD (ZdO (a:=mvL G last pre post s g) h')]
  have:=(Zfi (mvL G last pre post s g) h'.2.2.2.1 (by show (1:Int)≠0;decide) pre.length (by simp [mvL]) (Znn h he) f.2.2.1 he).1 rfl
  rw [this]
  refine ZpZ _ _ _ hne hg.1 f.2.2.2.2.1 hg.2 f.2.2.2.2.2 rfl rfl ?_ rfl ?_ ?_
  all_goals simp only [mvL,List.getElem_append_right (Nat.le_refl _),Nat.sub_self,List.getElem_cons_zero,Zcw,moveP]
  · omega
  · omega
theorem ZqA (h : Mp G last (pre ++ s :: post)) (hg : 1 ≤ g ∧ g ≤ G) (hne : g ≠ s.Group) (he : s.Epoch ≤ 1099511627774) :
    Za6 FM (mvL G last pre post s g) 9=some (⟨G,last,pre++Zcw s::post,noP⟩,0):=by
  have hl:(pre++Zcw s::post).length≤16:=(Zh6 h he).2.2.2.1
  unfold Za6
  rw [ZgH h hg hne he,Option.bind_some,Bool.not_true,cond_false,Zd8 (a:=mvL G last pre post s g) hl]
  simp only [Option.bind_some,mvL,moveP,show ((1:Int)==0)=false from rfl,show ((9:Int) != 9)=false from rfl,cond_false]
  rw [ZdN (a:=⟨G,last,pre++Zcw s::post,⟨1,9,s.Shard,0,g,s.Group,s.Epoch,[]⟩⟩) hl,Option.bind_some]
  simp only [Znn h he,mg0,cond_true,mc,Zg4,Option.bind_some,show ((9:Int)==9)=true from rfl]
  rfl
theorem ZkC (h : Mp G last (pre ++ s :: post)) (hg : 1 ≤ g ∧ g ≤ G) (hne : g ≠ s.Group) (he : s.Epoch ≤ 1099511627774) :
    Zb5 FM (mvA G last pre post s g)=some (mvL G last pre post s g,0):=by
  have f:=Zay h
  have hl:(pre++s::post).length≤16:=h.2.2.2.1
  have hw:IntKind.wrap IntKind.i64 (s.Epoch+2)=s.Epoch+2:=Zb9 (by omega) (by omega)
  unfold Zb5
  rw [Zhg h hg hne he,Option.bind_some,Bool.not_true,cond_false,Zd8 (a:=mvA G last pre post s g) hl]
  simp only [Option.bind_some,mvA,moveP,show ((1:Int)==0)=false from rfl,show ((1:Int) != 1)=false from rfl,cond_false]
  rw [ZdN (a:=⟨G,last,pre++s::post,⟨1,1,s.Shard,0,g,s.Group,s.Epoch,[]⟩⟩) hl,Option.bind_some]
  simp only [Zd1 h,mg0,cond_true,mc,Zg4,Option.bind_some,Zi3,hw]
  rfl
theorem Zpr {a:Zag} (hc:Zbb FM a=some true) (hl:a.Spans.length≤16) (h:a.Plan.Kind=0∨a.Plan.Phase≠1):∃ b e,e≠0∧Zb5 FM a=some (b,e):=by
  unfold Zb5
  rw [hc,Option.bind_some,Bool.not_true,cond_false,Zd8 hl]
  simp only [Option.bind_some]
  have:(bif a.Plan.Kind==0 then some true else some (a.Plan.Phase != 1))=some true:=by
    by_cases c:a.Plan.Kind=0
    · rw [show (a.Plan.Kind==0)=true by simpa using c];rfl
    · rw [show (a.Plan.Kind==0)=false by simpa using c,cond_false,show (a.Plan.Phase != 1)=true by simpa using h.resolve_left c]
  rw [this]
  exact ⟨_,_,by decide,rfl⟩
theorem ZhP {a:Zag} (hc:Zbb FM a=some true) (hl:a.Spans.length≤16) (i:Nat) (hi:i<a.Spans.length) (hp:plc a.Spans a.Plan.Shard=i) (hk:a.Plan.Kind≠1):∃ b e,b.Plan.Kind≠1∧Zb5 FM a=some (b,e):=by
  unfold Zb5
  rw [hc,Option.bind_some,Bool.not_true,cond_false,Zd8 hl]
  simp only [Option.bind_some]
  rw [ZdN (a:=⟨a.Groups,a.Last,a.Spans,⟨a.Plan.Kind,a.Plan.Phase,a.Plan.Shard,a.Plan.Other,a.Plan.Group,a.Plan.Past,a.Plan.Epoch,a.Plan.Key⟩⟩) hl]
  simp only [hp,Option.bind_some,mg0,cond_true,mc,List.getElem?_eq_getElem hi]
  cases (a.Plan.Kind==0) with
  | true=>(refine ⟨_,_,?_,rfl⟩;exact hk)
  | false =>
    cases (a.Plan.Phase != 1) with
    | true=>(refine ⟨_,_,?_,rfl⟩;exact hk)
    | false=>(refine ⟨_,_,?_,rfl⟩;exact hk)
theorem Zh5 (h : Mp G last (pre ++ s :: post)) (hg : 1 ≤ g ∧ g ≤ G) (hne : g ≠ s.Group) (he : s.Epoch ≤ 1099511627774) (x : Zaa) (hx : ¬ (x.Id = s.Shard ∧ x.Epoch = s.Epoch)) :
    ZaL FM (mvL G last pre post s g) x=some (s.Group,ord 2 s.Shard s.Epoch 0,true):=by
  have hh:(x.Id==s.Shard && x.Epoch==s.Epoch)=false:=by
    rw [Bool.and_eq_false_iff,beq_eq_false_iff_ne,beq_eq_false_iff_ne];omega
  unfold ZaL
  rw [ZgH h hg hne he,Option.bind_some,Bool.not_true,cond_false]
  simp only [Option.bind_some,mvL,moveP,show ((1:Int)==0)=false from rfl,cond_false,show ((9:Int)==9)=true from rfl,cond_true]
  unfold Zdw
  simp only [show ((1:Int)==1)=true from rfl,cond_true,Zkh,hh,Option.bind_some,Bool.not_false]
  rfl
theorem Zj0 (h : Mp G last (pre ++ s :: post)) (hg : 1 ≤ g ∧ g ≤ G) (hne : g ≠ s.Group) (he : s.Epoch ≤ 1099511627774) (x : Zaa) (hx : x.Id = s.Shard ∧ x.Epoch = s.Epoch) (h4 : x.State ≠ 4) :
    ZaL FM (mvL G last pre post s g) x=some (g,ord 6 s.Shard (s.Epoch+1) 0,true):=by
  have f:=Zay h
  have hw:IntKind.wrap IntKind.i64 (s.Epoch+1)=s.Epoch+1:=Zb9 (by omega) (by omega)
  have hh:(x.Id==s.Shard && x.Epoch==s.Epoch)=true:=by rw [hx.1,hx.2];simp
  unfold ZaL
  rw [ZgH h hg hne he,Option.bind_some,Bool.not_true,cond_false]
  simp only [Option.bind_some,mvL,moveP,show ((1:Int)==0)=false from rfl,cond_false,show ((9:Int)==9)=true from rfl,cond_true]
  unfold Zdw
  simp only [show ((1:Int)==1)=true from rfl,cond_true,Zkh,hh,Option.bind_some,Bool.not_true,cond_false,show (x.State != 4)=true by simpa using h4,hw]
  rfl
theorem Zjc (h : Mp G last (pre ++ s :: post)) (hg : 1 ≤ g ∧ g ≤ G) (hne : g ≠ s.Group) (he : s.Epoch ≤ 1099511627774) (x : Zaa) (hx : x.Id = s.Shard ∧ x.Epoch = s.Epoch) (h4 : x.State = 4) :
    ZaL FM (mvL G last pre post s g) x=some (s.Group,ord 3 s.Shard s.Epoch (s.Epoch+2),true):=by
  have f:=Zay h
  have hw:IntKind.wrap IntKind.i64 (s.Epoch+2)=s.Epoch+2:=Zb9 (by omega) (by omega)
  have hh:(x.Id==s.Shard && x.Epoch==s.Epoch)=true:=by rw [hx.1,hx.2];simp
  unfold ZaL
  rw [ZgH h hg hne he,Option.bind_some,Bool.not_true,cond_false]
  simp only [Option.bind_some,mvL,moveP,show ((1:Int)==0)=false from rfl,cond_false,show ((9:Int)==9)=true from rfl,cond_true]
  unfold Zdw
  simp only [show ((1:Int)==1)=true from rfl,cond_true,Zkh,hh,Option.bind_some,Bool.not_true,cond_false,show (x.State != 4)=false by simpa using h4,hw]
  rfl
end
theorem ZlW {a : Zag} {x : Zaa} {g : Int} {o : Zae} (h : ZaL FM a x = some (g, o, true)) (hp : a.Plan.Phase = 9) (r : Zam) (s : Zaa) :
    (o.Kind=2→r.Err=0→Zbj FM a x r s=some (s,0))∧(o.Kind=2→r.Err=171→Zbj FM a x r s=some (⟨a.Plan.Shard,a.Plan.Epoch,0,[],[],[],[]⟩,0)) ∧
    (o.Kind=6→r.Err=0→Zbj FM a x r s=some (⟨a.Plan.Shard,a.Plan.Epoch,4,[],[],[],[]⟩,0))∧(o.Kind=3→r.Err=0→Zbj FM a x r s=some (noS,9)):=by
  have hp9:(a.Plan.Phase==9)=true:=by simpa using hp
  unfold Zbj
  rw [h]
  simp only [Option.bind_some,Bool.not_true,cond_false,hp9,List.length_cons,List.length_nil]
  rw [decide_eq_true (show 0+1+1≤LIM by simp only [LIM];omega),decide_eq_true (show 0+1+1+1≤LIM by simp only [LIM];omega),decide_eq_true (show 0+1+1+1+1≤LIM by simp only [LIM];omega),decide_eq_true (show 0+1+1+1+1+1≤LIM by simp only [LIM];omega)]
  simp only [cond_true]
  refine ⟨fun k e=>?_,fun k e=>?_,fun k e=>?_,fun k e=>?_⟩<;>rw [k,e]<;>first | rfl | (simp;done) | skip
end Go.T
set_option linter.unusedVariables false
set_option linter.unusedSimpArgs false
namespace Go.T
open Go Go.Ab
structure Mid (jobs:List Zaf) (seen:List Zac) (G last:Int) (pre post:List Zab) (s:Zab) (g:Int) (Gs:Grs) (Y0:Zaa) (Y1:Option Zaa):Prop where
  mp:Mp G last (pre++s::post)
  len:(Gs.length:Int)=G
  base:Base last Gs
  home:∀ a,a∈pre++post→lk Gs (gi a.Group) a.Shard=some (spanS jobs seen a)
  rest:∀ g' id x,lk Gs g' id=some x→x.State=4∨(∃ a,a∈pre++post∧gi a.Group=g'∧x=spanS jobs seen a)∨(id=s.Shard∧(g'=gi s.Group∨g'=gi g))
  old:∀ a,a∈pre++post→∀ g' x,g'≠gi a.Group→lk Gs g' a.Shard=some x→x.Epoch<a.Epoch
  olds:∀ g' x,g'≠gi s.Group→g'≠gi g→lk Gs g' s.Shard=some x→x.State=4∧x.Epoch<s.Epoch
  y0:lk Gs (gi s.Group) s.Shard=some Y0
  y1:lk Gs (gi g) s.Shard=Y1
  count:liveT Gs=(pre++post).length+one lv (some Y0)+one lv Y1
section
variable {jobs:List Zaf} {seen:List Zac} {G last:Int} {pre post:List Zab} {s:Zab} {g:Int} {Gs:Grs} {Y0 Y0' y:Zaa} {Y1:Option Zaa}
theorem Zec {a:Zab}:a∈pre++s::post↔a=s∨a∈pre++post:=by
  simp only [List.mem_append,List.mem_cons]
  constructor
  · rintro (h | h | h)
    · exact .inr (.inl h)
    · exact .inl h
    · exact .inr (.inr h)
  · rintro (h | h | h)
    · exact .inr (.inl h)
    · exact .inl h
    · exact .inr (.inr h)
theorem pp_ne (h:Mp G last (pre++s::post)) {a:Zab} (ha:a∈pre++post):a.Shard≠s.Shard:=by
  have hp:=h.2.2.2.2.2.1
  rw [List.pairwise_append,List.pairwise_cons] at hp
  rw [List.mem_append] at ha
  rcases ha with q | q
  · exact hp.2.2 a q s List.mem_cons_self
  · exact fun e=>hp.2.1.1 a q e.symm
theorem Mid.h0 (h:Mid jobs seen G last pre post s g Gs Y0 Y1):gi s.Group<Gs.length:=lk_in h.y0
theorem Mid.h1 (h:Mid jobs seen G last pre post s g Gs Y0 Y1) (hg:1≤g∧g≤G):gi g<Gs.length:=by
  have:=h.len;unfold gi;omega
theorem Mid.ne (h:Mid jobs seen G last pre post s g Gs Y0 Y1) (hg:1≤g∧g≤G) (hne:g≠s.Group):gi g≠gi s.Group:=fun e=>hne (ZpC hg.1 (Zay h.mp).2.2.2.2.1 e)
theorem Mid.few (h:Mid jobs seen G last pre post s g Gs Y0 Y1):(pre++post).length≤15:=by
  have:=h.mp.2.2.2.1
  simp only [List.length_append,List.length_cons] at this ⊢
  omega
theorem ZgQ (o:Option Zaa):one lv o≤1:=by
  unfold one
  repeat' split
  all_goals omega
theorem Mid.good0 (h:Mid jobs seen G last pre post s g Gs Y0 Y1) (hg:1≤g∧g≤G) (hne:g≠s.Group) (hl:last≤63):GoodL (gr Gs (gi s.Group))∧(gr Gs (gi s.Group)).length<64:=by
  have f:=Zay h.mp
  have c:=h.count
  have p:=ZgT (h.h1 hg) h.h0 (h.ne hg hne)
  have h3:=h.few
  refine Zfp h.base (by omega) hl _ ?_
  cases hY:Y1 with
  | none =>
    rw [hY] at c
    have:one lv none=0:=rfl
    have:=ZgQ (some Y0)
    omega
  | some y =>
    have hy:=h.y1
    rw [hY] at hy c
    by_cases c4:y.State=4
    · have e:one lv (some y)=0:=by simp [one,lv,c4]
      have:=ZgQ (some Y0)
      omega
    · have:=ZgS hy c4
      have:=ZgQ (some Y0)
      have:=ZgQ (some y)
      omega
theorem Mid.good1 (h:Mid jobs seen G last pre post s g Gs Y0 Y1) (hg:1≤g∧g≤G) (hne:g≠s.Group) (hl:last≤63):GoodL (gr Gs (gi g))∧(gr Gs (gi g)).length<64∧(Y0.State≠4→one lv Y1=0→liveN (gr Gs (gi g))<16):=by
  have f:=Zay h.mp
  have c:=h.count
  have p:=ZgT (h.h1 hg) h.h0 (h.ne hg hne)
  have h3:=h.few
  have o1:=ZgQ Y1
  have hb:liveN (gr Gs (gi g))≤16:=by
    by_cases c4:Y0.State=4
    · have e:one lv (some Y0)=0:=by simp [one,lv,c4]
      omega
    · have:=ZgS h.y0 c4
      have:=ZgQ (some Y0)
      omega
  obtain ⟨b1,b2⟩:=Zfp h.base (by omega) hl _ hb
  refine ⟨b1,b2,fun q1 q2=>?_⟩
  have:=ZgS h.y0 q1
  have:=ZgQ (some Y0)
  omega
theorem Mid.good (h:Mid jobs seen G last pre post s g Gs Y0 Y1) (hg:1≤g∧g≤G) (hne:g≠s.Group) (hl:last≤63) (k:Nat):GoodL (gr Gs k):=by
  by_cases c0:k=gi s.Group
  · subst c0;exact (h.good0 hg hne hl).1
  by_cases c1:k=gi g
  · subst c1;exact (h.good1 hg hne hl).1
  have f:=Zay h.mp
  refine (Zfp h.base (by omega) hl k ?_).1
  by_cases hk:k<Gs.length
  · have c:=h.count
    have h3:=h.few
    have p0:=ZgT hk h.h0 c0
    have p1:=ZgT hk (h.h1 hg) c1
    have o1:=ZgQ Y1
    have o0:=ZgQ (some Y0)
    by_cases q0:Y0.State=4
    · have e:one lv (some Y0)=0:=by simp [one,lv,q0]
      omega
    · have:=ZgS h.y0 q0
      omega
  · rw [ZnS (by omega)]
    exact Nat.zero_le _
theorem Mid.put0 (h:Mid jobs seen G last pre post s g Gs Y0 Y1) (hg:1≤g∧g≤G) (hne:g≠s.Group) (hy:GoodS y) (hid:y.Id=s.Shard):Mid jobs seen G last pre post s g (putG Gs (gi s.Group) y) y Y1:=by
  have f:=Zay h.mp
  have h0:=h.h0
  have h01:=h.ne hg hne
  have hlk:∀ g' id,lk (putG Gs (gi s.Group) y) g' id=if g'=gi s.Group∧id=s.Shard then some y else lk Gs g' id:=by
    intro g' id
    rw [Zdp h0,hid]
  refine ⟨h.mp,by rw [Za5];exact h.len,Zgh h.base h0 hy (by omega) (by omega),fun a ha=>?_,fun g' id x hx=>?_,fun a ha g' x hg' hx=>?_,fun g' x n0 n1 hx=>?_,?_,?_,?_⟩
  · rw [hlk,if_neg (fun e=>pp_ne h.mp ha e.2)]
    exact h.home a ha
  · rw [hlk] at hx
    split at hx
    · rename_i c
      exact .inr (.inr ⟨c.2,.inl c.1⟩)
    · exact h.rest g' id x hx
  · rw [hlk,if_neg (fun e=>pp_ne h.mp ha e.2)] at hx
    exact h.old a ha g' x hg' hx
  · rw [hlk,if_neg (fun e=>n0 e.1)] at hx
    exact h.olds g' x n0 n1 hx
  · rw [hlk,if_pos ⟨rfl,rfl⟩]
  · rw [hlk,if_neg (fun e=>h01 e.1)]
    exact h.y1
  · have c:=Zfl h.base h0 y
    rw [hid,h.y0] at c
    have:=h.count
    omega
theorem Mid.put1 (h:Mid jobs seen G last pre post s g Gs Y0 Y1) (hg:1≤g∧g≤G) (hne:g≠s.Group) (hy:GoodS y) (hid:y.Id=s.Shard):Mid jobs seen G last pre post s g (putG Gs (gi g) y) Y0 (some y):=by
  have f:=Zay h.mp
  have h1:=h.h1 hg
  have h01:=h.ne hg hne
  have hlk:∀ g' id,lk (putG Gs (gi g) y) g' id=if g'=gi g∧id=s.Shard then some y else lk Gs g' id:=by
    intro g' id
    rw [Zdp h1,hid]
  refine ⟨h.mp,by rw [Za5];exact h.len,Zgh h.base h1 hy (by omega) (by omega),fun a ha=>?_,fun g' id x hx=>?_,fun a ha g' x hg' hx=>?_,fun g' x n0 n1 hx=>?_,?_,?_,?_⟩
  · rw [hlk,if_neg (fun e=>pp_ne h.mp ha e.2)]
    exact h.home a ha
  · rw [hlk] at hx
    split at hx
    · rename_i c
      exact .inr (.inr ⟨c.2,.inr c.1⟩)
    · exact h.rest g' id x hx
  · rw [hlk,if_neg (fun e=>pp_ne h.mp ha e.2)] at hx
    exact h.old a ha g' x hg' hx
  · rw [hlk,if_neg (fun e=>n1 e.1)] at hx
    exact h.olds g' x n0 n1 hx
  · rw [hlk,if_neg (fun e=>h01 e.1.symm)]
    exact h.y0
  · rw [hlk,if_pos ⟨rfl,rfl⟩]
  · have c:=Zfl h.base h1 y
    rw [hid,h.y1] at c
    have:=h.count
    omega
theorem Inv.mid (hI : Inv jobs seen G last (pre ++ s :: post) Gs) (hg : 1 ≤ g ∧ g ≤ G) (hne : g ≠ s.Group) :
    Mid jobs seen G last pre post s g Gs (spanS jobs seen s) (lk Gs (gi g) s.Shard)∧∀ y,lk Gs (gi g) s.Shard=some y→y.State=4∧y.Epoch<s.Epoch:=by
  have f:=Zay hI.mp
  have hs:s∈pre++s::post:=Zec.2 (.inl rfl)
  have h01:gi g≠gi s.Group:=fun e=>hne (ZpC hg.1 f.2.2.2.2.1 e)
  have hdead:∀ g' y,g'≠gi s.Group→lk Gs g' s.Shard=some y→y.State=4∧y.Epoch<s.Epoch:=by
    intro g' y hg' hy
    refine ⟨?_,hI.old s hs _ _ hg' hy⟩
    rcases hI.rest _ _ _ hy with q | ⟨a,ha,e2,rfl⟩
    · exact q
    · have:a=s:=Zjd hI.mp ha hs (ZbM hy).2
      subst this
      exact absurd e2.symm hg'
  refine ⟨⟨hI.mp,hI.len,hI.base,fun a ha=>hI.home a (Zec.2 (.inr ha)),fun g' id x hx=>?_,fun a ha=>hI.old a (Zec.2 (.inr ha)),fun g' x n0 n1 hx=>hdead g' x n0 hx,hI.home s hs,rfl,?_⟩,fun y hy=>hdead _ y h01 hy⟩
  · rcases hI.rest g' id x hx with q | ⟨a,ha,e1,e2⟩
    · exact .inl q
    · rcases Zec.1 ha with rfl | ha
      · refine .inr (.inr ⟨?_,.inl e1.symm⟩)
        rw [← (ZbM hx).2,e2];rfl
      · exact .inr (.inl ⟨a,ha,e1,e2⟩)
  · have c:=hI.count
    have o0:one lv (some (spanS jobs seen s))=1:=rfl
    have o1:one lv (lk Gs (gi g) s.Shard)=0:=by
      cases hq:lk Gs (gi g) s.Shard with
      | none=>rfl
      | some y=>have:=(hdead _ y h01 hq).1;simp [one,lv,this]
    simp only [List.length_append,List.length_cons] at c ⊢
    omega
theorem Mid.moved (h : Mid jobs seen G last pre post s g Gs (gone (spanS jobs seen s)) (some (spanS jobs seen (ZcY s g)))) (hg : 1 ≤ g ∧ g ≤ G) (hne : g ≠ s.Group) (he : s.Epoch ≤ 1099511627774) :
    Inv jobs seen G last (pre++ZcY s g::post) Gs:=by
  have hmp:=Zh7 h.mp hg he
  refine ⟨hmp,h.len,h.base,fun a ha=>?_,fun g' id x hx=>?_,fun a ha g' x hg' hx=>?_,?_⟩
  · rcases Zec.1 ha with rfl | ha
    · exact h.y1
    · exact h.home a ha
  · rcases h.rest g' id x hx with q | ⟨a,ha,e1,e2⟩ | ⟨rfl,e1 | e1⟩
    · exact .inl q
    · exact .inr ⟨a,Zec.2 (.inr ha),e1,e2⟩
    · subst e1
      rw [h.y0] at hx
      obtain rfl:=Option.some.inj hx
      exact .inl rfl
    · subst e1
      rw [h.y1] at hx
      obtain rfl:=Option.some.inj hx
      exact .inr ⟨ZcY s g,Zec.2 (.inl rfl),rfl,rfl⟩
  · rcases Zec.1 ha with rfl | ha
    · show x.Epoch<s.Epoch+1
      have hg2:g'≠gi g:=hg'
      have hx2:lk Gs g' s.Shard=some x:=hx
      by_cases c:g'=gi s.Group
      · subst c
        rw [h.y0] at hx2
        obtain rfl:=Option.some.inj hx2
        show s.Epoch<s.Epoch+1
        omega
      · have:=(h.olds g' x c hg2 hx2).2
        omega
    · exact h.old a ha g' x hg' hx
  · have c:=h.count
    have o0:one lv (some (gone (spanS jobs seen s)))=0:=rfl
    have o1:one lv (some (spanS jobs seen (ZcY s g)))=1:=rfl
    simp only [List.length_append,List.length_cons] at c ⊢
    omega
theorem Mid.back (h : Mid jobs seen G last pre post s g Gs (spanS jobs seen (Zcw s)) (some y)) (hg : 1 ≤ g ∧ g ≤ G) (hne : g ≠ s.Group) (he : s.Epoch ≤ 1099511627774) (hy : y.State = 4) (hye : y.Epoch < s.Epoch + 2) :
    Inv jobs seen G last (pre++Zcw s::post) Gs:=by
  have hmp:=Zh6 h.mp he
  refine ⟨hmp,h.len,h.base,fun a ha=>?_,fun g' id x hx=>?_,fun a ha g' x hg' hx=>?_,?_⟩
  · rcases Zec.1 ha with rfl | ha
    · exact h.y0
    · exact h.home a ha
  · rcases h.rest g' id x hx with q | ⟨a,ha,e1,e2⟩ | ⟨rfl,e1 | e1⟩
    · exact .inl q
    · exact .inr ⟨a,Zec.2 (.inr ha),e1,e2⟩
    · subst e1
      rw [h.y0] at hx
      obtain rfl:=Option.some.inj hx
      exact .inr ⟨Zcw s,Zec.2 (.inl rfl),rfl,rfl⟩
    · subst e1
      rw [h.y1] at hx
      obtain rfl:=Option.some.inj hx
      exact .inl hy
  · rcases Zec.1 ha with rfl | ha
    · show x.Epoch<s.Epoch+2
      have hg2:g'≠gi s.Group:=hg'
      have hx2:lk Gs g' s.Shard=some x:=hx
      by_cases c:g'=gi g
      · subst c
        rw [h.y1] at hx2
        obtain rfl:=Option.some.inj hx2
        exact hye
      · have:=(h.olds g' x hg2 c hx2).2
        omega
    · exact h.old a ha g' x hg' hx
  · have c:=h.count
    have o0:one lv (some (spanS jobs seen (Zcw s)))=1:=rfl
    have o1:one lv (some y)=0:=by simp [one,lv,hy]
    simp only [List.length_append,List.length_cons] at c ⊢
    omega
end
end Go.T
set_option linter.unusedVariables false
set_option linter.unusedSimpArgs false
namespace Go.T
open Go Go.Ab
structure StepE (A:Zag) (Gs:Grs) (x:Zaa) (g:Int) (o:Zae) (A':Zag) (Gs':Grs) (x':Zaa):Prop where
  step:StepW A Gs x g o A' Gs' x'
  mono:Mono2 Gs Gs'
  done:Zfc Gs' g o
  len:Gs'.length=Gs.length
def frz (jobs:List Zaf) (seen:List Zac) (s:Zab):Zaa:=ZbK (spanS jobs seen s) 2
def held (jobs:List Zaf) (seen:List Zac) (s:Zab):Zaa:=⟨s.Shard,s.Epoch+1,3,s.From,s.To,cutJ jobs s.From s.To,seen⟩
def NoHas (s:Zab) (x:Zaa):Prop:=¬ (x.Id=s.Shard∧x.Epoch=s.Epoch)
def Has (s:Zab) (x:Zaa):Prop:=x.Id=s.Shard∧x.Epoch=s.Epoch
def OldY (s:Zab) (Y:Option Zaa):Prop:=∀ y,Y=some y→y.State=4∧y.Epoch<s.Epoch
theorem Znm {Gs:Grs} {k:Nat} {y:Zaa} (hs:SrtId (gr Gs k)) (h:lk Gs k y.Id=some y):putG Gs k y=Gs:=by
  unfold putG
  rw [ZhH hs h,ZhV (lk_in h)]
section
variable {jobs:List Zaf} {seen:List Zac} {G last:Int} {pre post:List Zab} {s:Zab} {g:Int} {Gs:Grs} {Y0 y:Zaa} {Y1:Option Zaa} {x:Zaa}
theorem Zjm (hst:Start jobs seen) (h:Mp G last (pre++s::post)):GoodS (frz jobs seen s):=by
  have f:=Zay h
  exact Zf0 hst s.Shard s.Epoch 2 s.From s.To f.1 f.2.2.1 f.2.2.2.1 (by decide) (by decide) (ZfT h (Zec.2 (.inl rfl)))
theorem ZnT (hst:Start jobs seen) (h:Mp G last (pre++s::post)) (he:s.Epoch≤1099511627774):GoodS (held jobs seen s):=by
  have f:=Zay h
  exact Zf0 hst s.Shard (s.Epoch+1) 3 s.From s.To f.1 (by omega) (by omega) (by decide) (by decide) (ZfT h (Zec.2 (.inl rfl)))
theorem ZmB (hst:Start jobs seen) (h:Mp G last (pre++s::post)) (he:s.Epoch≤1099511627774):GoodS (spanS jobs seen (ZcY s g)):=by
  have f:=Zay h
  exact Zf0 hst s.Shard (s.Epoch+1) 1 s.From s.To f.1 (by omega) (by omega) (by decide) (by decide) (ZfT h (Zec.2 (.inl rfl)))
theorem Zll (hst:Start jobs seen) (h:Mp G last (pre++s::post)) (he:s.Epoch≤1099511627774):GoodS (spanS jobs seen (Zcw s)):=by
  have f:=Zay h
  exact Zf0 hst s.Shard (s.Epoch+2) 1 s.From s.To f.1 (by omega) (by omega) (by decide) (by decide) (ZfT h (Zec.2 (.inl rfl)))
theorem ZmC (h:Mp G last (pre++s::post)):GoodS (gone (spanS jobs seen s)):=by
  have f:=Zay h
  exact ZgV f.1 f.2.2.1 f.2.2.2.1 (ZfT h (Zec.2 (.inl rfl)))
theorem Zpc (hst : Start jobs seen) (hm : Mid jobs seen G last pre post s g Gs Y0 Y1) (hg : 1 ≤ g ∧ g ≤ G) (hne : g ≠ s.Group) (he : s.Epoch ≤ 1099511627774) (hl : last ≤ 63) (hY : Y0 = spanS jobs seen s ∨ Y0 = frz jobs seen s) (hx : NoHas s x) :
    ∃ Gs',StepE (mvA G last pre post s g) Gs x s.Group (oF s) (mvA G last pre post s g) Gs' (frz jobs seen s)∧Mid jobs seen G last pre post s g Gs' (frz jobs seen s) Y1:=by
  have f:=Zay hm.mp
  have hlen:=hm.len
  have h0:=hm.h0
  have e:ZbK Y0 2=frz jobs seen s:=by rcases hY with rfl | rfl<;>rfl
  have hs1:Y0.State=1∨Y0.State=2:=by rcases hY with rfl | rfl;exact .inl rfl;exact .inr rfl
  have hep:Y0.Epoch=s.Epoch:=by rcases hY with rfl | rfl<;>rfl
  have st:=ZkK hm.mp hlen hg hne he x hx (hm.good0 hg hne hl).1 hm.y0 hs1 hep
  rw [e] at st
  have hm':=hm.put0 hg hne (Zjm hst hm.mp) (rfl:(frz jobs seen s).Id=s.Shard)
  refine ⟨_,⟨st,Zdo h0 (fun z hz=>?_),⟨f.2.2.2.2.1,by rw [Za5];omega,.inr ⟨_,hm'.y0,.inl ⟨rfl,.inr ⟨rfl,by show 2≤rank 2;decide⟩⟩⟩⟩,Za5 _ _ _⟩,hm'⟩
  have hz':lk Gs (gi s.Group) s.Shard=some z:=hz
  rw [hm.y0] at hz'
  obtain rfl:=Option.some.inj hz'
  refine .inr ⟨hep,?_⟩
  show rank Y0.State≤rank 2
  rcases hs1 with q | q<;>rw [q]<;>decide
theorem Zjl (o : Zae) {l : List Zaa} (hl : l.length ≤ 1000) (hs : SrtId l) (hr : GoodS o.State) (hst : o.State.State ≠ 4) {s : Zaa} (h : look l o.State.Id = some s) (h4 : s.State ≠ 4) (he : s.Epoch = o.State.Epoch) :
    Za0 FM o l=some (errR 0,noS,l):=by
  rcases ZfZ o l hl hs (ZhG _ hr.1 hr.2.2.1) hst hr.2 with ⟨i,hi,h1,h2⟩ | ⟨i,hi,h2,h3,h4'⟩
  · have e:=Zcl hs h hi h1
    rw [h2,e,if_neg (fun q=>h4 q.1),if_neg (fun q=>h4 q.1),if_pos he]
  · obtain ⟨k,hk,hk2,hk3⟩:=ZfA h
    exfalso
    by_cases c:k<i
    · have:=h2 k hk c;omega
    · have:=h3 k hk (by omega);omega
theorem ZnY (hst : Start jobs seen) (hm : Mid jobs seen G last pre post s g Gs (frz jobs seen s) Y1) (hg : 1 ≤ g ∧ g ≤ G) (hne : g ≠ s.Group) (he : s.Epoch ≤ 1099511627774) (hl : last ≤ 63) (hY : OldY s Y1 ∨ Y1 = some (held jobs seen s)) :
    ∃ Gs',StepE (mvA G last pre post s g) Gs (frz jobs seen s) g (oI jobs seen s) (mvB G last pre post s g 2) Gs' (frz jobs seen s)∧Mid jobs seen G last pre post s g Gs' (frz jobs seen s) (some (held jobs seen s)):=by
  have f:=Zay hm.mp
  have hlen:=hm.len
  have h1:=hm.h1 hg
  have gF:=Zjm hst hm.mp
  have gH:=ZnT hst hm.mp he
  obtain ⟨q1,q2,q3⟩:=hm.good1 hg hne hl
  rcases hY with hY | hY
  · have hlv:=q3 (by show (2:Int)≠4;decide) (by
      cases hq:Y1 with
      | none=>rfl
      | some z=>have:=(hY z hq).1;simp [one,lv,this])
    have st:=ZjH hm.mp hlen hg hne he (frz jobs seen s) ⟨rfl,rfl⟩ gH gF.2 q1 q2 hlv (fun z hz=>by
      rw [hm.y1] at hz
      have:=hY z hz
      exact ⟨this.1,by omega⟩)
    have hm':=hm.put1 hg hne gH (rfl:(held jobs seen s).Id=s.Shard)
    refine ⟨_,⟨st,Zdo h1 (fun z hz=>?_),⟨hg.1,by rw [Za5];omega,.inl ⟨rfl,gH,by show (3:Int)≠4;decide,_,hm'.y1,Int.le_refl _⟩⟩,Za5 _ _ _⟩,hm'⟩
    have hz':lk Gs (gi g) s.Shard=some z:=hz
    rw [hm.y1] at hz'
    exact .inl (by have:=(hY z hz').2;show z.Epoch<s.Epoch+1;omega)
  · have hY1:=hm.y1
    rw [hY] at hY1
    have hd:=Zjl (oI jobs seen s) (l:=gr Gs (gi g)) (by omega) q1.1 gH (by show (3:Int)≠4;decide) hY1 (by show (3:Int)≠4;decide) rfl
    have hn:=Zho hm.mp hg hne he (frz jobs seen s) ⟨rfl,rfl⟩ gF.2
    have st:=Zeh (A':=mvB G last pre post s g 2) (x':=frz jobs seen s) hn hg.1 (by omega) ⟨by show (2:Int)≤4;decide,by show (4:Int)≤8;decide⟩ q1 (s:=noS) (l':=gr Gs (gi g)) (d:=1) (by
      unfold does
      rw [if_neg (by show ¬ (4:Int)=2;decide),if_neg (by show ¬ (4:Int)=3;decide),if_pos (by show (4:Int)=4;rfl)]
      exact hd) ((Zep hn (by show (1:Int)≠9;decide) (errR 0) rfl _).2.1 rfl) (by decide) (.inr ⟨by decide,Zon hm.mp hg hne he⟩)
    rw [ZhV h1] at st
    subst hY
    exact ⟨Gs,⟨st,Mono2.refl _,⟨hg.1,by omega,.inl ⟨rfl,gH,by show (3:Int)≠4;decide,_,hY1,Int.le_refl _⟩⟩,rfl⟩,hm⟩
theorem Zq3 (hst : Start jobs seen) (hm : Mid jobs seen G last pre post s g Gs (frz jobs seen s) (some y)) (hg : 1 ≤ g ∧ g ≤ G) (hne : g ≠ s.Group) (he : s.Epoch ≤ 1099511627774) (hl : last ≤ 63) (hY : y = held jobs seen s ∨ y = spanS jobs seen (ZcY s g)) (x : Zaa) :
    ∃ Gs',StepE (mvB G last pre post s g 2) Gs x g (oO s) (mvB G last pre post s g 3) Gs' noS∧Mid jobs seen G last pre post s g Gs' (frz jobs seen s) (some (spanS jobs seen (ZcY s g))):=by
  have f:=Zay hm.mp
  have hlen:=hm.len
  have h1:=hm.h1 hg
  have e:ZbK y 1=spanS jobs seen (ZcY s g):=by rcases hY with rfl | rfl<;>rfl
  have hs1:y.State=1∨y.State=3:=by rcases hY with rfl | rfl;exact .inr rfl;exact .inl rfl
  have hep:y.Epoch=s.Epoch+1:=by rcases hY with rfl | rfl<;>rfl
  have st:=ZmY hm.mp hlen hg hne he x (hm.good1 hg hne hl).1 hm.y1 hs1 hep
  rw [e] at st
  have hm':=hm.put1 hg hne (ZmB (g:=g) hst hm.mp he) (rfl:(spanS jobs seen (ZcY s g)).Id=s.Shard)
  refine ⟨_,⟨st,Zdo h1 (fun z hz=>?_),⟨hg.1,by rw [Za5];omega,.inr ⟨_,hm'.y1,.inr (.inr (.inl ⟨rfl,.inr ⟨rfl,by show 1≤rank 1;decide⟩⟩))⟩⟩,Za5 _ _ _⟩,hm'⟩
  have hz':lk Gs (gi g) s.Shard=some z:=hz
  rw [hm.y1] at hz'
  obtain rfl:=Option.some.inj hz'
  refine .inr ⟨hep,?_⟩
  show rank y.State≤rank 1
  rcases hs1 with q | q<;>rw [q]<;>decide
theorem Zhl (o : Zae) {l : List Zaa} (hl : l.length ≤ 1000) (hs : SrtId l) (ho : 1 ≤ o.Shard) (h1' : 1 ≤ o.Epoch) (h2' : o.Epoch ≤ 1099511627776) {s : Zaa} (h : look l o.Shard = some s) (hst : s.State = 4) :
    ZaM FM o l=some (errR 0,noS,put l ⟨s.Id,if o.Epoch > s.Epoch then o.Epoch else s.Epoch,s.State,s.From,s.To,s.Jobs,s.Seen⟩):=by
  rcases Zfx o l hl hs ho h1' h2' with ⟨i,hi,h1,h4⟩ | ⟨i,hi,h2,h3,h4⟩
  · have e:=Zcl hs h hi h1
    rw [h4,e,if_pos hst,← Zfv hs i hi _ (by rw [e])]
  · obtain ⟨k,hk,_,e⟩:=ZfA h
    exfalso
    by_cases c:k<i
    · have:=h2 k hk c;omega
    · have:=h3 k hk (by omega);omega
theorem Zmr (o : Zae) {l : List Zaa} (hl : l.length < 64) (hs : SrtId l) (ho : 1 ≤ o.Shard) (h1' : 1 ≤ o.Epoch) (h2' : o.Epoch ≤ 1099511627776) (h : look l o.Shard = none) :
    ZaM FM o l=some (errR 0,noS,put l ⟨o.Shard,o.Epoch,4,[],[],[],[]⟩):=by
  rcases Zfx o l (by omega) hs ho h1' h2' with ⟨i,hi,h1,h4⟩ | ⟨i,hi,h2,h3,h4⟩
  · rw [Zia] at h
    exact absurd h1 (h _ (List.getElem_mem hi))
  · rw [h4,if_neg (by omega),Zk9 l i _ hi h2 h3]
theorem Zpa (hst : Start jobs seen) (hm : Mid jobs seen G last pre post s g Gs Y0 (some (spanS jobs seen (ZcY s g)))) (hg : 1 ≤ g ∧ g ≤ G) (hne : g ≠ s.Group) (he : s.Epoch ≤ 1099511627774) (hl : last ≤ 63) (hY : Y0 = frz jobs seen s ∨ Y0 = gone (spanS jobs seen s)) (x : Zaa) :
    ∃ Gs',StepE (mvB G last pre post s g 3) Gs x s.Group (oR s) ⟨G,last,pre++ZcY s g::post,noP⟩ Gs' x∧Mid jobs seen G last pre post s g Gs' (gone (spanS jobs seen s)) (some (spanS jobs seen (ZcY s g))):=by
  have f:=Zay hm.mp
  have hlen:=hm.len
  have h0:=hm.h0
  have hgn:=ZmC (jobs:=jobs) (seen:=seen) hm.mp
  have hm':=hm.put0 hg hne hgn (rfl:(gone (spanS jobs seen s)).Id=s.Shard)
  have q0:=hm.good0 hg hne hl
  have hsettle:Zfc (putG Gs (gi s.Group) (gone (spanS jobs seen s))) s.Group (oR s):=⟨f.2.2.2.2.1,by rw [Za5];omega,.inr ⟨_,hm'.y0,.inr (.inr (.inr (.inl ⟨rfl,f.1,f.2.2.1,f.2.2.2.1,.inr ⟨rfl,rfl⟩⟩)))⟩⟩
  rcases hY with rfl | rfl
  · have st:=ZkJ hm.mp hlen hg hne he x q0.1 hm.y0 (.inl rfl) rfl
    refine ⟨_,⟨st,Zdo h0 (fun z hz=>?_),hsettle,Za5 _ _ _⟩,hm'⟩
    have hz':lk Gs (gi s.Group) s.Shard=some z:=hz
    rw [hm.y0] at hz'
    obtain rfl:=Option.some.inj hz'
    exact .inr ⟨rfl,by show rank 2≤rank 4;decide⟩
  · have hsame:putG Gs (gi s.Group) (gone (spanS jobs seen s))=Gs:=Znm q0.1.1 hm.y0
    rw [hsame] at hsettle
    have hd:=Zhl (oR s) (l:=gr Gs (gi s.Group)) (by omega) q0.1.1 f.1 f.2.2.1 f.2.2.2.1 hm.y0 rfl
    have hn:=Zj1 hm.mp hg hne he x
    have e:(⟨(gone (spanS jobs seen s)).Id,if (oR s).Epoch > (gone (spanS jobs seen s)).Epoch then (oR s).Epoch else (gone (spanS jobs seen s)).Epoch,(gone (spanS jobs seen s)).State,(gone (spanS jobs seen s)).From,(gone (spanS jobs seen s)).To,(gone (spanS jobs seen s)).Jobs,(gone (spanS jobs seen s)).Seen⟩:Zaa)=gone (spanS jobs seen s):=by
      have:(if (oR s).Epoch > (gone (spanS jobs seen s)).Epoch then (oR s).Epoch else (gone (spanS jobs seen s)).Epoch)=s.Epoch:=by
        show (if s.Epoch > s.Epoch then s.Epoch else s.Epoch)=s.Epoch
        split<;>rfl
      rw [this];rfl
    rw [e,ZhH (x:=gone (spanS jobs seen s)) q0.1.1 hm.y0] at hd
    have st:=Zeh (A':=⟨G,last,pre++ZcY s g::post,noP⟩) (x':=x) hn f.2.2.2.2.1 (by omega) ⟨by show (2:Int)≤6;decide,by show (6:Int)≤8;decide⟩ q0.1 (s:=noS) (l':=gr Gs (gi s.Group)) (d:=3) (by
      unfold does
      rw [if_neg (by show ¬ (6:Int)=2;decide),if_neg (by show ¬ (6:Int)=3;decide),if_neg (by show ¬ (6:Int)=4;decide),if_neg (by show ¬ (6:Int)=5;decide),if_pos (by show (6:Int)=6;rfl)]
      exact hd) ((Zep hn (by show (3:Int)≠9;decide) (errR 0) rfl _).2.2.2.1 rfl) (by decide) (.inr ⟨by decide,Zmf hm.mp hg hne he⟩)
    rw [ZhV h0] at st
    exact ⟨Gs,⟨st,Mono2.refl _,hsettle,rfl⟩,hm⟩
end
end Go.T
set_option linter.unusedVariables false
set_option linter.unusedSimpArgs false
namespace Go.T
open Go Go.Ab
theorem ZoA {A A' : Zag} {Gs : Grs} {x x' : Zaa} {g : Int} {o : Zae} (hn : ZaL FM A x = some (g, o, true)) (g1 : 1 ≤ g) (g2 : g ≤ Gs.length) (hk : 2 ≤ o.Kind ∧ o.Kind ≤ 8)
    (hg:GoodL (gr Gs (gi g))) {e:Int} {s:Zaa} {l':List Zaa} (hd:does o (gr Gs (gi g))=some (errR e,s,l')) {d:Int} (hh:Zbj FM A x (errR e) s=some (x',d)) (hd0:0≤d) (ha:d=0∧A'=A∨0<d∧Za6 FM A d=some (A',0)) :
    StepW A Gs x g o A' (Gs.set (gi g) l') x' :=
  ⟨hn,g1,g2,e,s,l',do_eq _ o hg hk hd,rfl,d,hh,hd0,ha⟩
def oR1 (s:Zab):Zae:=ord 6 s.Shard (s.Epoch+1) 0
def oT (s:Zab):Zae:=ord 3 s.Shard s.Epoch (s.Epoch+2)
def Tomb (s:Zab) (Y:Option Zaa):Prop:=∃ y,Y=some y∧y.State=4∧y.Epoch=s.Epoch+1
section
variable {jobs:List Zaf} {seen:List Zac} {G last:Int} {pre post:List Zab} {s:Zab} {g:Int} {Gs:Grs} {Y0 y:Zaa} {Y1:Option Zaa} {x:Zaa}
theorem ZoY (hst : Start jobs seen) (hm : Mid jobs seen G last pre post s g Gs Y0 Y1) (hg : 1 ≤ g ∧ g ≤ G) (hne : g ≠ s.Group) (he : s.Epoch ≤ 1099511627774) (hl : last ≤ 63) (hY : Y0 = spanS jobs seen s ∨ Y0 = frz jobs seen s) (hx : NoHas s x) :
    ∃ Gs',StepE (mvL G last pre post s g) Gs x s.Group (oF s) (mvL G last pre post s g) Gs' (frz jobs seen s)∧Mid jobs seen G last pre post s g Gs' (frz jobs seen s) Y1:=by
  have f:=Zay hm.mp
  have hlen:=hm.len
  have h0:=hm.h0
  have e:ZbK Y0 2=frz jobs seen s:=by rcases hY with rfl | rfl<;>rfl
  have hs1:Y0.State=1∨Y0.State=2:=by rcases hY with rfl | rfl;exact .inl rfl;exact .inr rfl
  have hep:Y0.Epoch=s.Epoch:=by rcases hY with rfl | rfl<;>rfl
  have q0:=hm.good0 hg hne hl
  have hn:=Zh5 hm.mp hg hne he x hx
  have hd:=ZgF (oF s) (l:=gr Gs (gi s.Group)) (by omega) q0.1.1 (fun z hz=>(q0.1.2.2.2 z hz).2) hm.y0 hs1 hep
  rw [e] at hd
  have st:=Zeh (A':=mvL G last pre post s g) (x':=frz jobs seen s) hn f.2.2.2.2.1 (by omega) ⟨by show (2:Int)≤2;decide,by show (2:Int)≤8;decide⟩ q0.1 (s:=frz jobs seen s) (d:=0) (by
    unfold does
    rw [if_pos (by show (2:Int)=2;rfl)]
    exact hd) ((ZlW hn rfl (errR 0) _).1 rfl rfl) (by decide) (.inl ⟨rfl,rfl⟩)
  have hm':=hm.put0 hg hne (Zjm hst hm.mp) (rfl:(frz jobs seen s).Id=s.Shard)
  refine ⟨_,⟨st,Zdo h0 (fun z hz=>?_),⟨f.2.2.2.2.1,by show s.Group≤((putG Gs (gi s.Group) (frz jobs seen s)).length:Int);rw [Za5];omega,.inr ⟨_,hm'.y0,.inl ⟨rfl,.inr ⟨rfl,by show 2≤rank 2;decide⟩⟩⟩⟩,Za5 _ _ _⟩,hm'⟩
  have hz':lk Gs (gi s.Group) s.Shard=some z:=hz
  rw [hm.y0] at hz'
  obtain rfl:=Option.some.inj hz'
  refine .inr ⟨hep,?_⟩
  show rank Y0.State≤rank 2
  rcases hs1 with q | q<;>rw [q]<;>decide
theorem ZnG (hst : Start jobs seen) (hm : Mid jobs seen G last pre post s g Gs (spanS jobs seen (Zcw s)) Y1) (hg : 1 ≤ g ∧ g ≤ G) (hne : g ≠ s.Group) (he : s.Epoch ≤ 1099511627774) (hl : last ≤ 63) (hx : NoHas s x) :
    StepE (mvL G last pre post s g) Gs x s.Group (oF s) (mvL G last pre post s g) Gs (hasS s 0):=by
  have f:=Zay hm.mp
  have hlen:=hm.len
  have h0:=hm.h0
  have q0:=hm.good0 hg hne hl
  have hn:=Zh5 hm.mp hg hne he x hx
  have hd:ZaY FM (oF s) (gr Gs (gi s.Group))=some (errR 171,noS,gr Gs (gi s.Group)):=by
    have hy:look (gr Gs (gi s.Group)) s.Shard=some (spanS jobs seen (Zcw s)):=hm.y0
    rcases ZgE (oF s) (gr Gs (gi s.Group)) (by omega) q0.1.1 (fun z hz=>(q0.1.2.2.2 z hz).2) with ⟨i,hi,h1,h2,h3,h4⟩ | ⟨i,hi,h1,h2,h3,h4⟩ | ⟨h1,h4⟩
    · have e:=Zcl q0.1.1 hy hi h1
      rw [e] at h3
      have h3':s.Epoch+2=s.Epoch:=h3
      omega
    · exact h4
    · have:=h1 _ (ZbM hy).1 rfl
      have h':(1:Int)=4:=this
      omega
  have st:=ZoA (A':=mvL G last pre post s g) (x':=hasS s 0) hn f.2.2.2.2.1 (by omega) ⟨by show (2:Int)≤2;decide,by show (2:Int)≤8;decide⟩ q0.1 (s:=noS) (d:=0) (by
    unfold does
    rw [if_pos (by show (2:Int)=2;rfl)]
    exact hd) ((ZlW hn rfl (errR 171) _).2.1 rfl rfl) (by decide) (.inl ⟨rfl,rfl⟩)
  rw [ZhV h0] at st
  exact ⟨st,Mono2.refl _,⟨f.2.2.2.2.1,by omega,.inr ⟨_,hm.y0,.inl ⟨rfl,.inl (by show s.Epoch<s.Epoch+2;omega)⟩⟩⟩,rfl⟩
theorem ZoX (hst : Start jobs seen) (hm : Mid jobs seen G last pre post s g Gs Y0 Y1) (hg : 1 ≤ g ∧ g ≤ G) (hne : g ≠ s.Group) (he : s.Epoch ≤ 1099511627774) (hl : last ≤ 63) (hY : OldY s Y1 ∨ Y1 = some (held jobs seen s) ∨ Tomb s Y1) (hx : Has s x) (hx4 : x.State ≠ 4) :
    ∃ Gs' Y',StepE (mvL G last pre post s g) Gs x g (oR1 s) (mvL G last pre post s g) Gs' (hasS s 4)∧Mid jobs seen G last pre post s g Gs' Y0 Y'∧Tomb s Y':=by
  have f:=Zay hm.mp
  have hlen:=hm.len
  have h1:=hm.h1 hg
  obtain ⟨q1,q2,_⟩:=hm.good1 hg hne hl
  have hn:=Zj0 hm.mp hg hne he x hx hx4
  have o2:1≤(oR1 s).Epoch:=by show 1≤s.Epoch+1;omega
  have o3:(oR1 s).Epoch≤1099511627776:=by show s.Epoch+1≤_;omega
  have key:∃ y',ZaM FM (oR1 s) (gr Gs (gi g))=some (errR 0,noS,put (gr Gs (gi g)) y')∧GoodS y'∧y'.Id=s.Shard∧y'.State=4∧y'.Epoch=s.Epoch+1∧∀ z,Y1=some z→Later z y':=by
    have hy1:=hm.y1
    cases hq:Y1 with
    | none =>
      rw [hq] at hy1
      refine ⟨_,Zmr (oR1 s) q2 q1.1 f.1 o2 o3 hy1,ZgV f.1 o2 o3 rfl,rfl,rfl,rfl,fun z hz=>by cases hz⟩
    | some z =>
      rw [hq] at hy1
      have hzg:=hm.base.2 _ _ _ hy1
      have hzid:z.Id=s.Shard:=(ZbM hy1).2
      have dead:z.State=4→z.Epoch≤s.Epoch+1→_:=fun h4 hle=>(show ∃ y',ZaM FM (oR1 s) (gr Gs (gi g))=some (errR 0,noS,put (gr Gs (gi g)) y')∧GoodS y'∧y'.Id=s.Shard∧y'.State=4∧y'.Epoch=s.Epoch+1∧∀ w,some z=some w→Later w y' from by
        have hd:=Zhl (oR1 s) (l:=gr Gs (gi g)) (by omega) q1.1 f.1 o2 o3 hy1 h4
        have ee:(if (oR1 s).Epoch > z.Epoch then (oR1 s).Epoch else z.Epoch)=s.Epoch+1:=by
          show (if s.Epoch+1 > z.Epoch then s.Epoch+1 else z.Epoch)=s.Epoch+1
          split<;>omega
        rw [ee,h4] at hd
        obtain ⟨⟨z1,z2,z3,z4,z5,z6,z7,z8,z9,z10⟩,z11⟩:=hzg.1
        obtain ⟨zj,zs⟩:=z9 h4
        refine ⟨_,hd,⟨⟨z1,o2,o3,by show (1:Int)≤4;decide,by show (4:Int)≤4;decide,z6,z7,z8,fun _=>⟨zj,zs⟩,z10⟩,z11⟩,hzid,rfl,rfl,fun w hw=>?_⟩
        obtain rfl:=Option.some.inj hw
        show z.Epoch<s.Epoch+1∨z.Epoch=s.Epoch+1∧rank z.State≤rank 4
        rw [h4]
        rcases Int.lt_or_eq_of_le hle with h | h
        · exact .inl h
        · exact .inr ⟨h,Nat.le_refl _⟩)
      rcases hY with hY | hY | ⟨w,hw,w4,we⟩
      · have:=hY z hq
        exact dead this.1 (by omega)
      · rw [hq] at hY
        obtain rfl:=Option.some.inj hY
        have hd:=ZjQ (oR1 s) (l:=gr Gs (gi g)) (by omega) q1.1 f.1 o2 o3 hy1 (.inr rfl) rfl
        refine ⟨_,hd,ZgV f.1 o2 o3 (ZfT hm.mp (Zec.2 (.inl rfl))),rfl,rfl,rfl,fun w hw=>?_⟩
        obtain rfl:=Option.some.inj hw
        exact .inr ⟨rfl,by show rank 3≤rank 4;decide⟩
      · rw [hq] at hw
        obtain rfl:=Option.some.inj hw
        exact dead w4 (by omega)
  obtain ⟨y',hd,hyg,hyid,hy4,hye,hlater⟩:=key
  have st:=Zeh (A':=mvL G last pre post s g) (x':=hasS s 4) hn hg.1 (by omega) ⟨by show (2:Int)≤6;decide,by show (6:Int)≤8;decide⟩ q1 (s:=noS) (d:=0) (by
    unfold does
    rw [if_neg (by show ¬ (6:Int)=2;decide),if_neg (by show ¬ (6:Int)=3;decide),if_neg (by show ¬ (6:Int)=4;decide),if_neg (by show ¬ (6:Int)=5;decide),if_pos (by show (6:Int)=6;rfl)]
    exact hd) ((ZlW hn rfl (errR 0) _).2.2.1 rfl rfl) (by decide) (.inl ⟨rfl,rfl⟩)
  have hm':=hm.put1 hg hne hyg hyid
  refine ⟨_,some y',⟨st,Zdo h1 (fun z hz=>hlater z ?_),⟨hg.1,by show g≤((putG Gs (gi g) y').length:Int);rw [Za5];omega,.inr ⟨_,hm'.y1,.inr (.inr (.inr (.inl ⟨rfl,f.1,o2,o3,.inr ⟨hye.symm,hy4⟩⟩)))⟩⟩,Za5 _ _ _⟩,hm',⟨y',rfl,hy4,hye⟩⟩
  rw [hyid,hm.y1] at hz
  exact hz
theorem ZqV (hst : Start jobs seen) (hm : Mid jobs seen G last pre post s g Gs Y0 Y1) (hg : 1 ≤ g ∧ g ≤ G) (hne : g ≠ s.Group) (he : s.Epoch ≤ 1099511627774) (hl : last ≤ 63) (hY : Y0 = frz jobs seen s ∨ Y0 = spanS jobs seen (Zcw s)) (hx : Has s x) (hx4 : x.State = 4) :
    ∃ Gs',StepE (mvL G last pre post s g) Gs x s.Group (oT s) ⟨G,last,pre++Zcw s::post,noP⟩ Gs' noS∧Mid jobs seen G last pre post s g Gs' (spanS jobs seen (Zcw s)) Y1:=by
  have f:=Zay hm.mp
  have hlen:=hm.len
  have h0:=hm.h0
  have q0:=hm.good0 hg hne hl
  have hn:=Zjc hm.mp hg hne he x hx hx4
  have hm':=hm.put0 hg hne (Zll hst hm.mp he) (rfl:(spanS jobs seen (Zcw s)).Id=s.Shard)
  have hsettle:Zfc (putG Gs (gi s.Group) (spanS jobs seen (Zcw s))) s.Group (oT s):=⟨f.2.2.2.2.1,by rw [Za5];omega,.inr ⟨_,hm'.y0,.inr (.inl ⟨rfl,by show s.Epoch<s.Epoch+2;omega⟩)⟩⟩
  have hd:Zbn FM (oT s) (gr Gs (gi s.Group))=some (errR 0,noS,put (gr Gs (gi s.Group)) (spanS jobs seen (Zcw s))):=by
    have hy:look (gr Gs (gi s.Group)) s.Shard=some Y0:=hm.y0
    rcases ZjF (oT s) (gr Gs (gi s.Group)) (by omega) q0.1.1 with ⟨i,hi,h1,h2,h3⟩ | ⟨h1,h3⟩
    · have e:=Zcl q0.1.1 hy hi h1
      rw [h3,e]
      rcases hY with rfl | rfl
      · rw [if_neg (fun q=>by have:(2:Int)=1:=q.1;omega),if_neg (fun q=>q rfl),if_neg (fun q=>q rfl),if_neg (fun q=>q (by
          show s.Epoch<s.Epoch+2∧s.Epoch+2≤1099511627776
          omega))]
        rw [← Zfv q0.1.1 i hi (spanS jobs seen (Zcw s)) (by rw [e];rfl)]
        rfl
      · rw [if_pos (show (spanS jobs seen (Zcw s)).State=1∧(spanS jobs seen (Zcw s)).Epoch=(oT s).Past from ⟨rfl,rfl⟩),ZhH (x:=spanS jobs seen (Zcw s)) q0.1.1 hy]
    · have:=h1 _ (ZbM hy).1 (ZbM hy).2
      rcases hY with rfl | rfl
      · have h':(2:Int)=4:=this;omega
      · have h':(1:Int)=4:=this;omega
  have st:=Zeh (A':=⟨G,last,pre++Zcw s::post,noP⟩) (x':=noS) hn f.2.2.2.2.1 (by omega) ⟨by show (2:Int)≤3;decide,by show (3:Int)≤8;decide⟩ q0.1 (s:=noS) (d:=9) (by
    unfold does
    rw [if_neg (by show ¬ (3:Int)=2;decide),if_pos (by show (3:Int)=3;rfl)]
    exact hd) ((ZlW hn rfl (errR 0) _).2.2.2 rfl rfl) (by decide) (.inr ⟨by decide,ZqA hm.mp hg hne he⟩)
  refine ⟨_,⟨st,Zdo h0 (fun z hz=>?_),hsettle,Za5 _ _ _⟩,hm'⟩
  have hz':lk Gs (gi s.Group) s.Shard=some z:=hz
  rw [hm.y0] at hz'
  obtain rfl:=Option.some.inj hz'
  rcases hY with rfl | rfl
  · exact .inl (by show s.Epoch<s.Epoch+2;omega)
  · exact Later.refl _
end
end Go.T
set_option linter.unusedVariables false
set_option linter.unusedSimpArgs false
namespace Go.T
open Go Go.Ab
theorem ZkM (o : Zae) {l : List Zaa} (hl : l.length ≤ 1000) (hs : SrtId l) {s t : Zaa} (h : look l o.Shard = some s) (hst : s.State ≠ 4) (h' : look l o.Other = some t) (hst' : t.State ≠ 4) (e1 : s.Epoch = o.Past) (e2 : t.Epoch = o.Past) (e3 : t.From = o.Key) :
    ZaX FM o l=some (errR 0,noS,l):=by
  obtain ⟨i,hi,e,hid,hg⟩:=ZgW hl hs h hst
  obtain ⟨k,hk,hk2,hk3⟩:=ZfA h'
  rcases ZiZ o l hl hs i hi hg with ⟨_,_,_,_,_,_,_,h5⟩ | ⟨h5,_⟩
  · exact h5
  · exact absurd ⟨k,hk,hk3,by rw [hk2];exact hst',by rw [e];exact e1,by rw [hk2];exact e2,by rw [hk2];exact e3⟩ h5
theorem Zk7 (o : Zae) {l : List Zaa} (hl : l.length ≤ 1000) (hs : SrtId l) {s : Zaa} (h : look l o.Shard = some s) (hst : s.State ≠ 4) (h' : ∀ t, look l o.Other = some t → t.State = 4) (e1 : s.Epoch = o.Past) :
    ZaK FM o l=some (errR 0,noS,l):=by
  obtain ⟨i,hi,e,hid,hg⟩:=ZgW hl hs h hst
  have hg':=Zo4 hl hs h'
  unfold ZaK
  rw [hg,Option.bind_some]
  simp only [Sum.elim_inr]
  rw [hg',Option.bind_some]
  simp only [Sum.elim_inl,List.getElem?_eq_getElem hi,Option.bind_some]
  rw [show ((l[i]).Epoch==o.Past)=true by rw [e];simpa using e1]
  rfl
section
variable {jobs:List Zaf} {seen:List Zac} {G last:Int} {pre post:List Zab} {s t:Zab} {g:Int} {Gs:Grs}
theorem Zqj (hst : Start jobs seen) (hI : Inv jobs seen G last (pre ++ s :: post) Gs) (hl : last ≤ 62) {key : List UInt8} (hk : insB s key = true) (hl16 : (pre ++ s :: post).length < 16) (he : s.Epoch ≤ 1099511627774) :
    ∃ Gs',(∀ x,StepE (spA G last pre post s key) Gs x s.Group (splO s last key) ⟨G,last+1,pre++Zbt s key::Zcj s key (last+1)::post,noP⟩ Gs' x) ∧
      Inv jobs seen G (last+1) (pre++Zbt s key::Zcj s key (last+1)::post) Gs':=by
  have f:=Zay hI.mp
  have hs:s∈pre++s::post:=List.mem_append_right _ List.mem_cons_self
  have h0:=hI.group hs
  have hlen:=hI.len
  obtain ⟨hI4,_⟩:=ZnL hst hI hk hl16 (by omega) (by omega) he
  obtain ⟨e1,e2⟩:=ZoU (jobs:=jobs) (seen:=seen) (last:=last) hst hk
  have q:=hI.good (by omega) (gi s.Group)
  have hcount:=hI.count
  have hlv:=Zjg Gs (gi s.Group)
  have hno:lk Gs (gi s.Group) (last+1)=none:=by
    cases hq:lk Gs (gi s.Group) (last+1) with
    | none=>rfl
    | some x=>have:=(hI.base.2 _ _ _ hq).2.2;omega
  refine ⟨_,fun x=>⟨?_,?_,?_,by rw [Za5,Za5]⟩,hI4⟩
  · have:=Zmi (Gs:=Gs) hI.mp hlen hk hl16 (by omega) (by omega) he x q.1 q.2 (by omega) (hI.home s hs) rfl rfl rfl rfl hno
    rw [e1,e2] at this
    exact this
  · refine (Zdo h0 fun z hz=>?_).trans (Zdo (by rw [Za5];exact h0) fun z hz=>?_)
    · have hz':lk Gs (gi s.Group) s.Shard=some z:=hz
      rw [hI.home s hs] at hz'
      obtain rfl:=Option.some.inj hz'
      exact .inl (by show s.Epoch<s.Epoch+1;omega)
    · have hz':lk (putG Gs (gi s.Group) (spanS jobs seen (Zbt s key))) (gi s.Group) (last+1)=some z:=hz
      rw [Zdp h0,if_neg (fun e=>by have:last+1=s.Shard:=e.2;omega),hno] at hz'
      cases hz'
  · have f5:=f.2.2.2.2.1
    have f6:=f.2.2.2.2.2
    refine ⟨f5,by rw [Za5,Za5];omega,.inr ⟨spanS jobs seen (Zbt s key),?_,.inr (.inr (.inr (.inr ⟨.inl rfl,by show s.Epoch<s.Epoch+1;omega⟩)))⟩⟩
    show lk _ _ s.Shard=_
    rw [Zdp (by rw [Za5];exact h0),if_neg (fun e=>by have:s.Shard=last+1:=e.2;omega),Zdp h0,if_pos ⟨rfl,rfl⟩]
theorem Zo9 {key : List UInt8} (hst : Start jobs seen) (hmp : Mp G last (pre ++ s :: post)) (hI : Inv jobs seen G (last + 1) (pre ++ Zbt s key :: Zcj s key (last + 1) :: post) Gs) (hl : last ≤ 62) (hk : insB s key = true) (hl16 : (pre ++ s :: post).length < 16) (he : s.Epoch ≤ 1099511627774) (x : Zaa) :
    StepE (spA G last pre post s key) Gs x s.Group (splO s last key) ⟨G,last+1,pre++Zbt s key::Zcj s key (last+1)::post,noP⟩ Gs x:=by
  have f:=Zay hmp
  have hlow:Zbt s key∈pre++Zbt s key::Zcj s key (last+1)::post:=by simp
  have hup:Zcj s key (last+1)∈pre++Zbt s key::Zcj s key (last+1)::post:=by simp
  have h0:gi s.Group<Gs.length:=(show gi (Zbt s key).Group<Gs.length from hI.group hlow)
  have hlen:=hI.len
  have k0:lk Gs (gi s.Group) s.Shard=some (spanS jobs seen (Zbt s key)):=hI.home _ hlow
  have k1:lk Gs (gi s.Group) (last+1)=some (spanS jobs seen (Zcj s key (last+1))):=hI.home _ hup
  have q:=hI.good' (by omega) (by omega) (gi s.Group)
  have hn:=ZlO hmp hk hl16 (by omega) he x
  have hd:=ZkM (splO s last key) (l:=gr Gs (gi s.Group)) (by omega) q.1.1 k0 (by show (1:Int)≠4;decide) k1 (by show (1:Int)≠4;decide) rfl rfl rfl
  have st:=Zeh (A':=⟨G,last+1,pre++Zbt s key::Zcj s key (last+1)::post,noP⟩) (x':=x) hn f.2.2.2.2.1 (by omega) ⟨by show (2:Int)≤7;decide,by show (7:Int)≤8;decide⟩ q.1 (s:=noS) (d:=1) (by
    unfold does
    rw [if_neg (by show ¬ (7:Int)=2;decide),if_neg (by show ¬ (7:Int)=3;decide),if_neg (by show ¬ (7:Int)=4;decide),if_neg (by show ¬ (7:Int)=5;decide),if_neg (by show ¬ (7:Int)=6;decide),if_pos (by show (7:Int)=7;rfl)]
    exact hd) ((Zep hn (by show (1:Int)≠9;decide) (errR 0) rfl _).2.2.2.2.1 rfl) (by decide) (.inr ⟨by decide,Zom hmp hk hl16 (by omega) he⟩)
  rw [ZhV h0] at st
  exact ⟨st,Mono2.refl _,⟨f.2.2.2.2.1,by omega,.inr ⟨_,k0,.inr (.inr (.inr (.inr ⟨.inl rfl,by show s.Epoch<s.Epoch+1;omega⟩)))⟩⟩,rfl⟩
theorem Zqk (hst : Start jobs seen) (hI : Inv jobs seen G last (pre ++ s :: t :: post) Gs) (hl : last ≤ 63) (hg : t.Group = s.Group) (he : s.Epoch ≤ 1099511627774) (he' : t.Epoch ≤ 1099511627774) :
    ∃ Gs',(∀ x,StepE (mgA G last pre post s t) Gs x s.Group (mrgO s t) ⟨G,last,pre++ZaD s t::post,noP⟩ Gs' x) ∧
      Inv jobs seen G last (pre++ZaD s t::post) Gs'∧∀ y,lk Gs' (gi s.Group) t.Shard=some y→y.State=4:=by
  have f:=Zay hI.mp
  have hs:s∈pre++s::t::post:=by simp
  have ht:t∈pre++s::t::post:=by simp
  have h0:=hI.group hs
  have hlen:=hI.len
  obtain ⟨hI4,_⟩:=ZnM hst hI hg he he'
  have e1:=Zny hst hI.mp
  have q:=hI.good hl (gi s.Group)
  have hT:=hI.home t ht
  rw [hg] at hT
  obtain ⟨u1,u2,u3,u4⟩:=Znx hI.mp
  have hst':s.Shard≠t.Shard:=by
    have:=hI.mp.2.2.2.2.2.1
    rw [List.pairwise_append,List.pairwise_cons] at this
    exact this.2.1.1 t List.mem_cons_self
  have hjl:∀ a b,(cutJ jobs a b).length≤16:=fun a b=>by
    have:=List.length_filter_le (fun j:Zaf=>inB a b j.Name) jobs
    have:=hst.2.1
    unfold cutJ;omega
  have hep:s.Epoch<(ZaD s t).Epoch:=by
    show s.Epoch<(if t.Epoch > s.Epoch then t.Epoch else s.Epoch)+1
    split<;>omega
  refine ⟨_,fun x=>⟨?_,?_,?_,by rw [Za5,Za5]⟩,hI4,fun y hy=>?_⟩
  · have:=Zmj (Gs:=Gs) hI.mp hlen hg he he' x q.1 (hI.home s hs) hT rfl rfl rfl rfl (nm_ne u1) u3.symm (by
      have a1:=hjl s.From s.To
      have a2:=hjl t.From t.To
      show (cutJ jobs s.From s.To).length+(cutJ jobs t.From t.To).length≤256
      omega) hst.2.2.2.2.2.2
    rw [e1] at this
    exact this
  · refine (Zdo h0 fun z hz=>?_).trans (Zdo (by rw [Za5];exact h0) fun z hz=>?_)
    · have hz':lk Gs (gi s.Group) s.Shard=some z:=hz
      rw [hI.home s hs] at hz'
      obtain rfl:=Option.some.inj hz'
      exact .inl hep
    · have hz':lk (putG Gs (gi s.Group) (spanS jobs seen (ZaD s t))) (gi s.Group) t.Shard=some z:=hz
      rw [Zdp h0,if_neg (fun e=>hst' e.2.symm),hT] at hz'
      obtain rfl:=Option.some.inj hz'
      exact .inr ⟨rfl,by show rank 1≤rank 4;decide⟩
  · have f5:=f.2.2.2.2.1
    have f6:=f.2.2.2.2.2
    refine ⟨f5,by rw [Za5,Za5];omega,.inr ⟨spanS jobs seen (ZaD s t),?_,.inr (.inr (.inr (.inr ⟨.inr rfl,hep⟩)))⟩⟩
    show lk _ _ s.Shard=_
    rw [Zdp (by rw [Za5];exact h0),if_neg (fun e=>hst' e.2),Zdp h0,if_pos ⟨rfl,rfl⟩]
  · rw [Zdp (by rw [Za5];exact h0),if_pos ⟨rfl,rfl⟩] at hy
    obtain rfl:=Option.some.inj hy
    rfl
theorem Zpb (hst : Start jobs seen) (hmp : Mp G last (pre ++ s :: t :: post)) (hI : Inv jobs seen G last (pre ++ ZaD s t :: post) Gs) (hd4 : ∀ y, lk Gs (gi s.Group) t.Shard = some y → y.State = 4) (hl : last ≤ 63) (hg : t.Group = s.Group) (he : s.Epoch ≤ 1099511627774) (he' : t.Epoch ≤ 1099511627774) (x : Zaa) :
    StepE (mgA G last pre post s t) Gs x s.Group (mrgO s t) ⟨G,last,pre++ZaD s t::post,noP⟩ Gs x:=by
  have f:=Zay hmp
  have hM:ZaD s t∈pre++ZaD s t::post:=by simp
  have h0:gi s.Group<Gs.length:=(show gi (ZaD s t).Group<Gs.length from hI.group hM)
  have hlen:=hI.len
  have k0:lk Gs (gi s.Group) s.Shard=some (spanS jobs seen (ZaD s t)):=hI.home _ hM
  have q:=hI.good' (by omega) hl (gi s.Group)
  have hn:=ZlP hmp hg he he' x
  have hep:s.Epoch<(ZaD s t).Epoch:=by
    show s.Epoch<(if t.Epoch > s.Epoch then t.Epoch else s.Epoch)+1
    split<;>omega
  have hd:=Zk7 (mrgO s t) (l:=gr Gs (gi s.Group)) (by omega) q.1.1 k0 (by show (1:Int)≠4;decide) hd4 rfl
  have st:=Zeh (A':=⟨G,last,pre++ZaD s t::post,noP⟩) (x':=x) hn f.2.2.2.2.1 (by omega) ⟨by show (2:Int)≤8;decide,by show (8:Int)≤8;decide⟩ q.1 (s:=noS) (d:=1) (by
    unfold does
    rw [if_neg (by show ¬ (8:Int)=2;decide),if_neg (by show ¬ (8:Int)=3;decide),if_neg (by show ¬ (8:Int)=4;decide),if_neg (by show ¬ (8:Int)=5;decide),if_neg (by show ¬ (8:Int)=6;decide),if_neg (by show ¬ (8:Int)=7;decide)]
    exact hd) ((Zep hn (by show (1:Int)≠9;decide) (errR 0) rfl _).2.2.2.2.2 rfl) (by decide) (.inr ⟨by decide,Zoo hmp hg he he'⟩)
  rw [ZhV h0] at st
  exact ⟨st,Mono2.refl _,⟨f.2.2.2.2.1,by omega,.inr ⟨_,k0,.inr (.inr (.inr (.inr ⟨.inr rfl,hep⟩)))⟩⟩,rfl⟩
end
end Go.T
set_option linter.unusedVariables false
set_option linter.unusedSimpArgs false
namespace Go.T
open Go Go.Ab
inductive Sit (jobs:List Zaf) (seen:List Zac) (G:Int):Nat→Zag→Grs→Zaa→Prop
  | quiet {last:Int} {l:List Zab} {Gs:Grs} {x:Zaa} (hI:Inv jobs seen G last l Gs):Sit jobs seen G 0 ⟨G,last,l,noP⟩ Gs x
  | m1 {last : Int} {pre post : List Zab} {s : Zab} {g : Int} {Gs : Grs} {x : Zaa} {Y0 : Zaa} {Y1 : Option Zaa} (hm : Mid jobs seen G last pre post s g Gs Y0 Y1) (hg : 1 ≤ g ∧ g ≤ G) (hne : g ≠ s.Group) (he : s.Epoch ≤ 1099511627774)
      (hY:Y0=spanS jobs seen s∧OldY s Y1∨Y0=frz jobs seen s∧(OldY s Y1∨Y1=some (held jobs seen s))) (hx:NoHas s x):Sit jobs seen G 5 (mvA G last pre post s g) Gs x
  | m1f {last : Int} {pre post : List Zab} {s : Zab} {g : Int} {Gs : Grs} {Y1 : Option Zaa} (hm : Mid jobs seen G last pre post s g Gs (frz jobs seen s) Y1) (hg : 1 ≤ g ∧ g ≤ G) (hne : g ≠ s.Group) (he : s.Epoch ≤ 1099511627774)
      (hY:OldY s Y1∨Y1=some (held jobs seen s)):Sit jobs seen G 4 (mvA G last pre post s g) Gs (frz jobs seen s)
  | m2 {last : Int} {pre post : List Zab} {s : Zab} {g : Int} {Gs : Grs} {x : Zaa} {y : Zaa} (hm : Mid jobs seen G last pre post s g Gs (frz jobs seen s) (some y)) (hg : 1 ≤ g ∧ g ≤ G) (hne : g ≠ s.Group) (he : s.Epoch ≤ 1099511627774)
      (hY:y=held jobs seen s∨y=spanS jobs seen (ZcY s g)):Sit jobs seen G 3 (mvB G last pre post s g 2) Gs x
  | m3 {last : Int} {pre post : List Zab} {s : Zab} {g : Int} {Gs : Grs} {x : Zaa} {Y0 : Zaa} (hm : Mid jobs seen G last pre post s g Gs Y0 (some (spanS jobs seen (ZcY s g)))) (hg : 1 ≤ g ∧ g ≤ G) (hne : g ≠ s.Group) (he : s.Epoch ≤ 1099511627774)
      (hY:Y0=frz jobs seen s∨Y0=gone (spanS jobs seen s)):Sit jobs seen G 2 (mvB G last pre post s g 3) Gs x
  | l1 {last : Int} {pre post : List Zab} {s : Zab} {g : Int} {Gs : Grs} {x : Zaa} {Y0 : Zaa} {Y1 : Option Zaa} (hm : Mid jobs seen G last pre post s g Gs Y0 Y1) (hg : 1 ≤ g ∧ g ≤ G) (hne : g ≠ s.Group) (he : s.Epoch ≤ 1099511627774)
      (hY:(Y0=spanS jobs seen s∨Y0=frz jobs seen s)∧(OldY s Y1∨Y1=some (held jobs seen s)∨Tomb s Y1)∨Y0=spanS jobs seen (Zcw s)∧Tomb s Y1) (hx:NoHas s x):Sit jobs seen G 3 (mvL G last pre post s g) Gs x
  | l2 {last : Int} {pre post : List Zab} {s : Zab} {g : Int} {Gs : Grs} {x : Zaa} {Y0 : Zaa} {Y1 : Option Zaa} (hm : Mid jobs seen G last pre post s g Gs Y0 Y1) (hg : 1 ≤ g ∧ g ≤ G) (hne : g ≠ s.Group) (he : s.Epoch ≤ 1099511627774)
      (hY:Y0=frz jobs seen s∧(OldY s Y1∨Y1=some (held jobs seen s)∨Tomb s Y1)∨Y0=spanS jobs seen (Zcw s)∧Tomb s Y1) (hx:Has s x) (hx4:x.State≠4):Sit jobs seen G 2 (mvL G last pre post s g) Gs x
  | l3 {last : Int} {pre post : List Zab} {s : Zab} {g : Int} {Gs : Grs} {x : Zaa} {Y0 : Zaa} {Y1 : Option Zaa} (hm : Mid jobs seen G last pre post s g Gs Y0 Y1) (hg : 1 ≤ g ∧ g ≤ G) (hne : g ≠ s.Group) (he : s.Epoch ≤ 1099511627774)
      (hY:(Y0=frz jobs seen s∨Y0=spanS jobs seen (Zcw s))∧Tomb s Y1) (hx:Has s x) (hx4:x.State=4):Sit jobs seen G 1 (mvL G last pre post s g) Gs x
  | sp {last:Int} {pre post:List Zab} {s:Zab} {key:List UInt8} {Gs:Grs} {x:Zaa} (hI:Inv jobs seen G last (pre++s::post) Gs) (hk:insB s key=true) (hl16:(pre++s::post).length<16) (hlast:last<1099511627776) (he:s.Epoch≤1099511627774):Sit jobs seen G 1 (spA G last pre post s key) Gs x
  | sp2 {last:Int} {pre post:List Zab} {s:Zab} {key:List UInt8} {Gs:Grs} {x:Zaa} (hmp:Mp G last (pre++s::post)) (hI:Inv jobs seen G (last+1) (pre++Zbt s key::Zcj s key (last+1)::post) Gs) (hk:insB s key=true) (hl16:(pre++s::post).length<16) (hlast:last<1099511627776) (he:s.Epoch≤1099511627774):Sit jobs seen G 1 (spA G last pre post s key) Gs x
  | mg {last:Int} {pre post:List Zab} {s t:Zab} {Gs:Grs} {x:Zaa} (hI:Inv jobs seen G last (pre++s::t::post) Gs) (hg:t.Group=s.Group) (he:s.Epoch≤1099511627774) (he':t.Epoch≤1099511627774):Sit jobs seen G 1 (mgA G last pre post s t) Gs x
  | mg2 {last:Int} {pre post:List Zab} {s t:Zab} {Gs:Grs} {x:Zaa} (hmp:Mp G last (pre++s::t::post)) (hI:Inv jobs seen G last (pre++ZaD s t::post) Gs) (hd4:∀ y,lk Gs (gi s.Group) t.Shard=some y→y.State=4) (hg:t.Group=s.Group) (he:s.Epoch≤1099511627774) (he':t.Epoch≤1099511627774):Sit jobs seen G 1 (mgA G last pre post s t) Gs x
section
variable {jobs:List Zaf} {seen:List Zac} {G:Int} {n:Nat} {A:Zag} {Gs:Grs} {x:Zaa}
theorem Zhn {last:Int} {pre post:List Zab} {s:Zab} (h:Mp G last (pre++s::post)):NoHas s noS:=fun e=>by
  have f:=Zay h
  have:(0:Int)=s.Shard:=e.1
  omega
theorem Sit.lose (h:Sit jobs seen G n A Gs x):∃ m,(m=0↔n=0)∧Sit jobs seen G m A Gs noS:=by
  cases h with
  | quiet hI=>exact ⟨0,by simp,.quiet hI⟩
  | m1 hm hg hne he hY hx=>exact ⟨5,by simp,.m1 hm hg hne he hY (Zhn hm.mp)⟩
  | m1f hm hg hne he hY=>exact ⟨5,by simp,.m1 hm hg hne he (.inr ⟨rfl,hY⟩) (Zhn hm.mp)⟩
  | m2 hm hg hne he hY=>exact ⟨3,by simp,.m2 hm hg hne he hY⟩
  | m3 hm hg hne he hY=>exact ⟨2,by simp,.m3 hm hg hne he hY⟩
  | l1 hm hg hne he hY hx=>exact ⟨3,by simp,.l1 hm hg hne he hY (Zhn hm.mp)⟩
  | l2 hm hg hne he hY hx hx4 =>
    refine ⟨3,by simp,.l1 hm hg hne he ?_ (Zhn hm.mp)⟩
    rcases hY with ⟨a,b⟩ | h
    · exact .inl ⟨.inr a,b⟩
    · exact .inr h
  | l3 hm hg hne he hY hx hx4 =>
    refine ⟨3,by simp,.l1 hm hg hne he ?_ (Zhn hm.mp)⟩
    rcases hY with ⟨a | a,b⟩
    · exact .inl ⟨.inr a,.inr (.inr b)⟩
    · exact .inr ⟨a,b⟩
  | sp hI hk hl16 hlast he=>exact ⟨1,by simp,.sp hI hk hl16 hlast he⟩
  | sp2 hmp hI hk hl16 hlast he=>exact ⟨1,by simp,.sp2 hmp hI hk hl16 hlast he⟩
  | mg hI hg he he'=>exact ⟨1,by simp,.mg hI hg he he'⟩
  | mg2 hmp hI hd4 hg he he'=>exact ⟨1,by simp,.mg2 hmp hI hd4 hg he he'⟩
theorem ZlF (hst : Start jobs seen) (h : Sit jobs seen G n A Gs x) (hn : n ≠ 0) (hl : A.Last ≤ 63) :
    ∃ g o A' Gs' x' m,StepE A Gs x g o A' Gs' x'∧(∃ k,k≠0∧Sit jobs seen G k A Gs' x)∧Sit jobs seen G m A' Gs' x'∧m<n∧A'.Last=A.Last:=by
  cases h with
  | quiet hI=>exact absurd rfl hn
  | m1 hm hg hne he hY hx =>
    obtain ⟨Gs',st,hm'⟩:=Zpc hst hm hg hne he hl (by rcases hY with h | h;exact .inl h.1;exact .inr h.1) hx
    exact ⟨_,_,_,_,_,4,st,⟨5,by decide,.m1 hm' hg hne he (.inr ⟨rfl,by rcases hY with h | h;exact .inl h.2;exact h.2⟩) hx⟩,.m1f hm' hg hne he (by rcases hY with h | h;exact .inl h.2;exact h.2),by decide,rfl⟩
  | m1f hm hg hne he hY =>
    obtain ⟨Gs',st,hm'⟩:=ZnY hst hm hg hne he hl hY
    exact ⟨_,_,_,_,_,3,st,⟨4,by decide,.m1f hm' hg hne he (.inr rfl)⟩,.m2 hm' hg hne he (.inl rfl),by decide,rfl⟩
  | m2 hm hg hne he hY =>
    obtain ⟨Gs',st,hm'⟩:=Zq3 hst hm hg hne he hl hY x
    exact ⟨_,_,_,_,_,2,st,⟨3,by decide,.m2 hm' hg hne he (.inr rfl)⟩,.m3 hm' hg hne he (.inl rfl),by decide,rfl⟩
  | m3 hm hg hne he hY =>
    obtain ⟨Gs',st,hm'⟩:=Zpa hst hm hg hne he hl hY x
    exact ⟨_,_,_,_,_,0,st,⟨2,by decide,.m3 hm' hg hne he (.inr rfl)⟩,.quiet (hm'.moved hg hne he),by decide,rfl⟩
  | l1 hm hg hne he hY hx =>
    rcases hY with ⟨a,b⟩ | ⟨rfl,b⟩
    · obtain ⟨Gs',st,hm'⟩:=ZoY hst hm hg hne he hl a hx
      exact ⟨_,_,_,_,_,2,st,⟨3,by decide,.l1 hm' hg hne he (.inl ⟨.inr rfl,b⟩) hx⟩,.l2 hm' hg hne he (.inl ⟨rfl,b⟩) ⟨rfl,rfl⟩ (by show (2:Int)≠4;decide),by decide,rfl⟩
    · have st:=ZnG hst hm hg hne he hl hx
      exact ⟨_,_,_,_,_,2,st,⟨3,by decide,.l1 hm hg hne he (.inr ⟨rfl,b⟩) hx⟩,.l2 hm hg hne he (.inr ⟨rfl,b⟩) ⟨rfl,rfl⟩ (by show (0:Int)≠4;decide),by decide,rfl⟩
  | l2 hm hg hne he hY hx hx4 =>
    obtain ⟨Gs',Y',st,hm',ht⟩:=ZoX hst hm hg hne he hl (by
      rcases hY with h | h
      · exact h.2
      · exact .inr (.inr h.2)) hx hx4
    refine ⟨_,_,_,_,_,1,st,⟨2,by decide,.l2 hm' hg hne he ?_ hx hx4⟩,.l3 hm' hg hne he ⟨by rcases hY with h | h;exact .inl h.1;exact .inr h.1,ht⟩ ⟨rfl,rfl⟩ rfl,by decide,rfl⟩
    rcases hY with h | h
    · exact .inl ⟨h.1,.inr (.inr ht)⟩
    · exact .inr ⟨h.1,ht⟩
  | l3 hm hg hne he hY hx hx4 =>
    obtain ⟨hY0,ht⟩:=hY
    obtain ⟨Gs',st,hm'⟩:=ZqV hst hm hg hne he hl hY0 hx hx4
    have ht':=ht
    obtain ⟨y,rfl,y4,ye⟩:=ht
    exact ⟨_,_,_,_,_,0,st,⟨1,by decide,.l3 hm' hg hne he ⟨.inr rfl,ht'⟩ hx hx4⟩,.quiet (hm'.back hg hne he y4 (by omega)),by decide,rfl⟩
  | sp hI hk hl16 hlast he =>
    have hl':_+1≤(63:Int):=hl
    obtain ⟨Gs',st,hI'⟩:=Zqj hst hI (by omega) hk hl16 he
    exact ⟨_,_,_,_,_,0,st x,⟨1,by decide,.sp2 hI.mp hI' hk hl16 hlast he⟩,.quiet hI',by decide,rfl⟩
  | sp2 hmp hI hk hl16 hlast he =>
    have hl':_+1≤(63:Int):=hl
    have st:=Zo9 hst hmp hI (by omega) hk hl16 he x
    exact ⟨_,_,_,_,_,0,st,⟨1,by decide,.sp2 hmp hI hk hl16 hlast he⟩,.quiet hI,by decide,rfl⟩
  | mg hI hg he he' =>
    obtain ⟨Gs',st,hI',hd⟩:=Zqk hst hI hl hg he he'
    exact ⟨_,_,_,_,_,0,st x,⟨1,by decide,.mg2 hI.mp hI' hd hg he he'⟩,.quiet hI',by decide,rfl⟩
  | mg2 hmp hI hd4 hg he he' =>
    have st:=Zpb hst hmp hI hd4 hl hg he he' x
    exact ⟨_,_,_,_,_,0,st,⟨1,by decide,.mg2 hmp hI hd4 hg he he'⟩,.quiet hI,by decide,rfl⟩
end
end Go.T
set_option linter.unusedVariables false
set_option linter.unusedSimpArgs false
namespace Go.T
open Go Go.Ab
def SrtC (l:List Zac):Prop:=l.Pairwise fun a b=>a.Client<b.Client
theorem ZhU (s:Zac) (id:Int):Zei FM s id=some (if s.Client<id then -1 else if id<s.Client then 1 else 0):=by
  unfold Zei
  rw [Zoa];rfl
theorem ZqQ (l : List Zac) (id : Int) (hl : l.length ≤ 1000) (hs : SrtC l) : ∀ (d i j m : Nat), j - i ≤ d → i ≤ j → j ≤ l.length → d < m → (∀ k (h : k < l.length), k < i → (l[k]).Client < id) → (∀ k (h : k < l.length), j ≤ k → id ≤ (l[k]).Client) →
    ∃ r:Nat,Zal FM l id m (i:Int) (j:Int)=some (r:Int)∧r≤l.length∧(∀ k (h:k<l.length),k<r→(l[k]).Client<id)∧(∀ k (h:k<l.length),r≤k→id≤(l[k]).Client):=by
  intro d
  have hp:=List.pairwise_iff_getElem.1 hs
  induction d with
  | zero =>
    intro i j m hd hij hj hm h1 h2
    obtain ⟨m,rfl⟩:∃ k,m=k+1:=⟨m - 1,by omega⟩
    refine ⟨i,?_,by omega,h1,fun k h hk=>h2 k h (by omega)⟩
    unfold Zal
    rw [decide_eq_false (by omega),cond_false]
  | succ d ih =>
    intro i j m hd hij hj hm h1 h2
    obtain ⟨m,rfl⟩:∃ k,m=k+1:=⟨m - 1,by omega⟩
    by_cases hlt:i<j
    · have hh:(i+j) / 2<l.length:=by omega
      unfold Zal
      rw [decide_eq_true (by omega),cond_true]
      simp only [mmid i j (by omega),mg0,cond_true,mc]
      rw [List.getElem?_eq_getElem hh,Option.bind_some,ZhU,Option.bind_some,mwa _ (by omega)]
      by_cases hc:(l[(i+j) / 2]).Client<id
      · rw [if_pos hc,show decide ((-1:Int)<0)=true from rfl,cond_true]
        refine ih ((i+j) / 2+1) j m (by omega) (by omega) hj (by omega) (fun k h hk=>?_) h2
        rcases Nat.lt_or_ge k ((i+j) / 2) with q | q
        · have:=hp k ((i+j) / 2) h hh q
          omega
        · have:k=(i+j) / 2:=by omega
          subst this;exact hc
      · have hd2:decide ((if (l[(i+j) / 2]).Client<id then (-1:Int) else if id<(l[(i+j) / 2]).Client then 1 else 0)<0)=false:=by
          rw [if_neg hc]
          split<;>rfl
        rw [hd2,cond_false]
        refine ih i ((i+j) / 2) m (by omega) (by omega) (by omega) (by omega) h1 (fun k h hk=>?_)
        rcases Nat.lt_or_ge ((i+j) / 2) k with q | q
        · have:=hp ((i+j) / 2) k hh h q
          omega
        · have:k=(i+j) / 2:=by omega
          subst this;omega
    · refine ⟨i,?_,by omega,h1,fun k h hk=>h2 k h (by omega)⟩
      unfold Zal
      rw [decide_eq_false (by omega),cond_false]
theorem Zmn (l : List Zac) (id : Int) (hl : l.length ≤ 1000) (hs : SrtC l) :
    (∃ (i:Nat) (h:i<l.length),(l[i]).Client=id∧Zff FM l id=some ((i:Int),true)) ∨
    (∃ i:Nat,i≤l.length∧Zff FM l id=some ((i:Int),false)∧(∀ k (h:k<l.length),k<i→(l[k]).Client<id)∧(∀ k (h:k<l.length),i≤k→id<(l[k]).Client)):=by
  obtain ⟨r,h1,h2,h3,h4⟩:=ZqQ l id hl hs l.length 0 l.length FM (by omega) (by omega) (by omega) (by show _<4000000;omega) (fun k _ hk=>by omega) (fun k h hk=>by omega)
  have hp:=List.pairwise_iff_getElem.1 hs
  unfold Zff ZaV
  rw [List.length_map,show Zal FM l id FM 0 (l.length:Int)=_ from h1,Option.bind_some]
  by_cases hr:r<l.length
  · have h5:=h4 r hr (Nat.le_refl _)
    by_cases he:(l[r]).Client=id
    · refine .inl ⟨r,hr,he,?_⟩
      simp only [mg0,cond_true,mc]
      rw [decide_eq_true (by omega),cond_true,List.getElem?_eq_getElem hr,Option.bind_some,ZhU,if_neg (by omega),if_neg (by omega)]
      rfl
    · refine .inr ⟨r,h2,?_,h3,fun k h hk=>?_⟩
      · simp only [mg0,cond_true,mc]
        rw [decide_eq_true (by omega),cond_true,List.getElem?_eq_getElem hr,Option.bind_some,ZhU,if_neg (by omega),if_pos (by omega)]
        rfl
      · rcases Nat.lt_or_ge r k with q | q
        · have:=hp r k hr h q;omega
        · have:k=r:=by omega
          subst this;omega
  · refine .inr ⟨r,h2,?_,h3,fun k h hk=>by omega⟩
    rw [decide_eq_false (by omega),cond_false]
    rfl
theorem Zmo (l:List Zac) (hl:l.length≤2000000) (hr:∀ r,r∈l→r.Result.Jobs.length≤2000000):∀ (d i m:Nat),i+d=l.length→d<m→Zcf FM l m (i:Int) l=some l:=by
  intro d
  induction d with
  | zero =>
    intro i m h hm
    obtain ⟨m,rfl⟩:∃ k,m=k+1:=⟨m - 1,by omega⟩
    unfold Zcf
    rw [decide_eq_false (by omega),cond_false]
  | succ d ih =>
    intro i m h hm
    obtain ⟨m,rfl⟩:∃ k,m=k+1:=⟨m - 1,by omega⟩
    have hi:i<l.length:=by omega
    unfold Zcf
    rw [decide_eq_true (by omega),cond_true]
    simp only [mg0,cond_true,mc,List.getElem?_eq_getElem hi,Option.bind_some,Zem _ (hr _ (List.getElem_mem hi))]
    rw [mwa i (by omega)]
    have:l.set i (Zac.mk (l[i]).Client (l[i]).Seq (Zam.mk (l[i]).Result.Err (l[i]).Result.Time (l[i]).Result.Jobs))=l:=Zi2 l i hi
    rw [this]
    exact ih (i+1) m (by omega) (by omega)
def seatB (s:Zac):Bool:=decide (1≤s.Client) && decide (s.Client≤64) && decide (1≤s.Seq)
theorem Zfw (s:Zac):Zdv FM s.Client s.Seq=some (seatB s):=by
  unfold Zdv seatB
  cases decide ((1:Int)≤s.Client)<;>cases decide (s.Client≤(64:Int))<;>rfl
theorem ZhW (l:List Zac) (hl:l.length≤2000000):∀ n (i:Nat),l.length - i<n→ZkG (fun n i=>ZbG FM l n i) l (fun j=>Zdv FM j.Client j.Seq) (fun a b=>decide (a.Client<b.Client)) n i :=
  Zls (fun n i=>ZbG FM l n i) l (fun j=>Zdv FM j.Client j.Seq) (fun a b=>decide (a.Client<b.Client))
  (fun n i h=>by
    simp only [ZbG]
    rw [decide_eq_true (by omega),cond_true]
    simp only [mg0,cond_true,mc,List.getElem?_eq_getElem h,Option.bind_some]
    rw [mwi i (by omega)]
    cases Zdv FM (l[i]).Client (l[i]).Seq with
    | none=>rfl
    | some y =>
      cases y with
      | false=>rfl
      | true =>
        simp only [Option.bind_some,Bool.not_true,cond_false]
        by_cases h0:0<i
        · rw [dif_pos h0,decide_eq_true (by omega),cond_true,mwd i h0 (by omega),mg0,cond_true,mc,List.getElem?_eq_getElem (show i - 1<l.length by omega)]
          simp only [Option.bind_some]
          by_cases c:(l[i - 1]'(by omega)).Client<(l[i]).Client
          · rw [decide_eq_true c,decide_eq_false (by omega)];rfl
          · rw [decide_eq_false c,decide_eq_true (by omega)];rfl
        · rw [dif_neg h0,decide_eq_false (by omega)]
          rfl)
  (fun n i h=>by
    simp only [ZbG]
    rw [decide_eq_false (by omega),cond_false])
theorem Zi4 (l:List Zac) (hl:l.length≤2000000):∃ v,Zbl FM l=some v:=by
  have hL:=(ZhW l hl FM 0 (by show _<4000000;omega)).2.2.1 (fun j hj=>⟨_,Zfw j⟩)
  simp only [Int.natCast_zero] at hL
  unfold Zbl
  rcases hL with e | e<;>rw [e]<;>exact ⟨_,rfl⟩
theorem Zhk (l:List Zac) (hl:l.length≤2000000) (h:Zbl FM l=some true):SrtC l∧∀ s,s∈l→seatB s=true:=by
  have hL:=(ZhW l hl FM 0 (by show _<4000000;omega)).2.1
  simp only [Int.natCast_zero] at hL
  unfold Zbl at h
  cases hq:ZbG FM l FM 0 with
  | none=>rw [hq] at h;cases h
  | some o =>
    rw [hq] at h
    cases o with
    | inl b =>
      simp only [Option.bind_some,Sum.elim_inl,Option.some.injEq] at h
      subst h
      exact absurd hq (ZhW l hl FM 0 (by show _<4000000;omega)).2.2.2
    | inr u =>
      have:=hL hq
      refine ⟨?_,fun s hs=>?_⟩
      · have hp:=Zht (fun a b:Zac=>decide (a.Client<b.Client)) (fun x y z a b=>by
          simp only [decide_eq_true_eq] at *
          omega) l fun k hk h0=>(this k hk (Nat.zero_le _)).2 h0
        exact hp.imp fun h=>by simpa using h
      · obtain ⟨k,hk,rfl⟩:=List.getElem_of_mem hs
        have h1:=(this k hk (Nat.zero_le _)).1
        rw [Zfw] at h1
        exact Option.some.inj h1
theorem Zm1 {x:Zac} {l:List Zac}:SrtC (x::l)↔(∀ y,y∈l→x.Client<y.Client)∧SrtC l:=List.pairwise_cons
theorem ZnQ:∀ (l:List Zac) (a:Nat) (n:Nat),SrtC l→(∀ s,s∈l→(a:Int)<s.Client∧s.Client≤n)→l.length+a≤n∨l=[]:=by
  intro l
  induction l with
  | nil=>intro a n _ _;exact .inr rfl
  | cons x l ih =>
    intro a n hs h
    left
    rw [Zm1] at hs
    have hx:=h x List.mem_cons_self
    rcases ih x.Client.toNat n hs.2 (fun s hm=>by have:=hs.1 s hm;have:=h s (List.mem_cons_of_mem _ hm);omega) with q | q
    · simp only [List.length_cons];omega
    · subst q;simp only [List.length_cons,List.length_nil];omega
theorem Zgb {l:List Zac} (hs:SrtC l) (h:∀ s,s∈l→seatB s=true):l.length≤64:=by
  rcases ZnQ l 0 64 hs (fun s hm=>by
    have:=h s hm
    unfold seatB at this
    simp only [Bool.and_eq_true,decide_eq_true_eq] at this
    omega) with q | q
  · omega
  · rw [q];simp
theorem Znl {l:List Zac} (hc:Zbl FM l=some true) (hs:SrtC l) (hr:∀ s,s∈l→seatB s=true) (i:Nat) (hi:i<l.length):ZgN FM l (l[i])=some ([],160):=by
  have hlen:=Zgb hs hr
  unfold ZgN
  rw [hc,Option.bind_some,Zfw,hr _ (List.getElem_mem hi)]
  simp only [Option.bind_some,Bool.not_true,cond_false]
  have hp:=List.pairwise_iff_getElem.1 hs
  rcases Zmn l (l[i]).Client (by omega) hs with ⟨k,hk,h1,h2⟩ | ⟨k,hk,h2,h3,h4⟩
  · have:k=i:=by
      rcases Nat.lt_trichotomy k i with q | q | q
      · have:=hp k i hk hi q;omega
      · exact q
      · have:=hp i k hi hk q;omega
    subst this
    rw [h2]
    simp only [Option.bind_some,cond_true,mg0,mc,List.getElem?_eq_getElem hk,decide_eq_true (Int.le_refl _)]
  · exfalso
    rcases Nat.lt_or_ge i k with q | q
    · have:=h3 i hi q;omega
    · have:=h4 i hi q;omega
theorem Zp8 {l:List Zac} (hc:Zbl FM l=some true) (hs:SrtC l) (hr:∀ s,s∈l→seatB s=true):∀ (d i m:Nat),i+d=l.length→d<m→ZcX FM l m l (i:Int)=some l:=by
  have hlen:=Zgb hs hr
  intro d
  induction d with
  | zero =>
    intro i m h hm
    obtain ⟨m,rfl⟩:∃ k,m=k+1:=⟨m - 1,by omega⟩
    unfold ZcX
    rw [decide_eq_false (by omega),cond_false]
  | succ d ih =>
    intro i m h hm
    obtain ⟨m,rfl⟩:∃ k,m=k+1:=⟨m - 1,by omega⟩
    have hi:i<l.length:=by omega
    unfold ZcX
    rw [decide_eq_true (by omega),cond_true]
    simp only [mg0,cond_true,mc,List.getElem?_eq_getElem hi,Option.bind_some,Znl hc hs hr i hi]
    rw [mwi i (by omega)]
    exact ih (i+1) m (by omega) (by omega)
theorem Zoq {l:List Zac} (hl:l.length≤2000000) (hc:Zbl FM l=some true) (hj:∀ r,r∈l→r.Result.Jobs.length≤2000000):ZdJ FM l l=some (l,0):=by
  obtain ⟨hs,hr⟩:=Zhk l hl hc
  have hlen:=Zgb hs hr
  unfold ZdJ
  rw [hc]
  simp only [Option.bind_some,Bool.not_true,cond_false]
  have h1:Zej FM l=some l:=by
    unfold Zej
    rw [Zhe l hl,Option.bind_some,show Zcf FM l FM 0 l=some l from Zmo l hl hj l.length 0 FM (by omega) (by show _<4000000;omega)]
    rfl
  rw [h1,Option.bind_some,show ZcX FM l FM l 0=some l from Zp8 hc hs hr l.length 0 FM (by omega) (by show _<4000000;omega)]
  rfl
theorem Zm0 {jobs:List Zaf} {seen:List Zac} (hJ:JobsR jobs) (hn:∀ j,j∈jobs→nm j.Name=true) (h16:jobs.length≤16) (hl:seen.length≤2000000) (hc:Zbl FM seen=some true) (hj:∀ r,r∈seen→r.Result.Jobs.length≤2000000):Start jobs seen :=
  ⟨hJ,h16,hn,hc,hl,hj,Zoq hl hc hj⟩
end Go.T
set_option linter.unusedVariables false
set_option linter.unusedSimpArgs false
namespace Go.T
open Go Go.Ab
theorem Zpj {jobs:List Zaf} (hj:jobs.Pairwise fun a b=>Op.bytesLess a.Name b.Name=true):∀ (l:List Zab) (fr:List UInt8),Ch fr l→(l.map fun s=>cutJ jobs s.From s.To).flatten=cutJ jobs fr []:=by
  intro l
  induction l with
  | nil=>intro fr h;exact absurd h (by unfold Ch;simp)
  | cons s l ih =>
    intro fr h
    rw [ZeR] at h
    obtain ⟨h1,h2⟩:=h
    rw [List.map_cons,List.flatten_cons]
    rcases h2 with ⟨rfl,h3⟩ | ⟨h3,h4,h5⟩
    · rw [h1,h3];simp
    · rw [ih s.To h5,h1]
      rw [h1] at h4
      exact Zn1 hj h4 (.inl rfl)
theorem Zpp {jobs:List Zaf} {seen:List Zac} {G last:Int} {l:List Zab} (hst:Start jobs seen) (h:Mp G last l):(l.map fun s=>cutJ jobs s.From s.To).flatten=jobs:=by
  rw [Zpj hst.1.2.1 l [] h.2.2.2.2.1,Zn3 hst.2.2.1]
theorem ZgB {G last:Int} {l:List Zab} (h:Mp G last l):1≤last:=by
  obtain ⟨c1,_⟩:=ch_at _ _ h.2.2.2.2.1
  obtain ⟨b1,b2,_⟩:=h.2.2.2.2.2.2 _ (List.getElem_mem (show 0<l.length by omega))
  omega
theorem Zoi (A:Zag) {G:Int} (h1:A.Plan=noP) (h2:A.Groups=G):A=⟨G,A.Last,A.Spans,noP⟩:=by
  obtain ⟨a,b,c,d⟩:=A
  simp only at h1 h2
  rw [h1,h2]
end Go.T
set_option linter.unusedVariables false
set_option linter.unusedSimpArgs false
namespace Go.T
open Go Go.Ab
section
variable {jobs:List Zaf} {seen:List Zac} {G:Int} {n:Nat} {A:Zag} {Gs:Grs} {x:Zaa}
theorem Sit.chk (h:Sit jobs seen G n A Gs x):Zbb FM A=some true∧A.Spans.length≤16:=by
  cases h with
  | quiet hI=>exact ⟨ZhN (ZdO (a:=⟨_,_,_,noP⟩) hI.mp) rfl,hI.mp.2.2.2.1⟩
  | m1 hm hg hne he hY hx=>exact ⟨Zhg hm.mp hg hne he,hm.mp.2.2.2.1⟩
  | m1f hm hg hne he hY=>exact ⟨Zhg hm.mp hg hne he,hm.mp.2.2.2.1⟩
  | m2 hm hg hne he hY=>exact ⟨Zhf hm.mp hg hne he (.inl rfl),(Zh7 hm.mp hg he).2.2.2.1⟩
  | m3 hm hg hne he hY=>exact ⟨Zhf hm.mp hg hne he (.inr rfl),(Zh7 hm.mp hg he).2.2.2.1⟩
  | l1 hm hg hne he hY hx=>exact ⟨ZgH hm.mp hg hne he,(Zh6 hm.mp he).2.2.2.1⟩
  | l2 hm hg hne he hY hx hx4=>exact ⟨ZgH hm.mp hg hne he,(Zh6 hm.mp he).2.2.2.1⟩
  | l3 hm hg hne he hY hx hx4=>exact ⟨ZgH hm.mp hg hne he,(Zh6 hm.mp he).2.2.2.1⟩
  | sp hI hk hl16 hlast he=>exact ⟨Zjt hI.mp hk hl16 hlast he,hI.mp.2.2.2.1⟩
  | sp2 hmp hI hk hl16 hlast he=>exact ⟨Zjt hmp hk hl16 hlast he,hmp.2.2.2.1⟩
  | mg hI hg he he'=>exact ⟨Zju hI.mp hg he he',hI.mp.2.2.2.1⟩
  | mg2 hmp hI hd4 hg he he'=>exact ⟨Zju hmp hg he he',hmp.2.2.2.1⟩
theorem Sit.sound (h:Sit jobs seen G n A Gs x) (hl:A.Last≤63):(Gs.length:Int)=G∧(∃ last,Base last Gs)∧∀ k,GoodL (gr Gs k):=by
  cases h with
  | quiet hI=>exact ⟨hI.len,⟨_,hI.base⟩,fun k=>(hI.good' (by have:=ZgB hI.mp;omega) hl k).1⟩
  | m1 hm hg hne he hY hx=>exact ⟨hm.len,⟨_,hm.base⟩,hm.good hg hne hl⟩
  | m1f hm hg hne he hY=>exact ⟨hm.len,⟨_,hm.base⟩,hm.good hg hne hl⟩
  | m2 hm hg hne he hY=>exact ⟨hm.len,⟨_,hm.base⟩,hm.good hg hne hl⟩
  | m3 hm hg hne he hY=>exact ⟨hm.len,⟨_,hm.base⟩,hm.good hg hne hl⟩
  | l1 hm hg hne he hY hx=>exact ⟨hm.len,⟨_,hm.base⟩,hm.good hg hne hl⟩
  | l2 hm hg hne he hY hx hx4=>exact ⟨hm.len,⟨_,hm.base⟩,hm.good hg hne hl⟩
  | l3 hm hg hne he hY hx hx4=>exact ⟨hm.len,⟨_,hm.base⟩,hm.good hg hne hl⟩
  | sp hI hk hl16 hlast he =>
    have hl':_+1≤(63:Int):=hl
    exact ⟨hI.len,⟨_,hI.base⟩,fun k=>(hI.good' (by have:=ZgB hI.mp;omega) (by omega) k).1⟩
  | sp2 hmp hI hk hl16 hlast he=>exact ⟨hI.len,⟨_,hI.base⟩,fun k=>(hI.good' (by have:=ZgB hI.mp;omega) hl k).1⟩
  | mg hI hg he he'=>exact ⟨hI.len,⟨_,hI.base⟩,fun k=>(hI.good' (by have:=ZgB hI.mp;omega) hl k).1⟩
  | mg2 hmp hI hd4 hg he he'=>exact ⟨hI.len,⟨_,hI.base⟩,fun k=>(hI.good' (by have:=ZgB hI.mp;omega) hl k).1⟩
theorem Sit.over (h:Sit jobs seen G n A Gs x):(n=0→A.Plan=noP∧A.Groups=G∧Inv jobs seen G A.Last A.Spans Gs)∧(n≠0→A.Plan.Kind≠0):=by
  cases h with
  | quiet hI=>exact ⟨fun _=>⟨rfl,rfl,hI⟩,fun e=>absurd rfl e⟩
  | m1 hm hg hne he hY hx=>exact ⟨fun e=>(by cases e),fun _=>by show (1:Int)≠0;decide⟩
  | m1f hm hg hne he hY=>exact ⟨fun e=>(by cases e),fun _=>by show (1:Int)≠0;decide⟩
  | m2 hm hg hne he hY=>exact ⟨fun e=>(by cases e),fun _=>by show (1:Int)≠0;decide⟩
  | m3 hm hg hne he hY=>exact ⟨fun e=>(by cases e),fun _=>by show (1:Int)≠0;decide⟩
  | l1 hm hg hne he hY hx=>exact ⟨fun e=>(by cases e),fun _=>by show (1:Int)≠0;decide⟩
  | l2 hm hg hne he hY hx hx4=>exact ⟨fun e=>(by cases e),fun _=>by show (1:Int)≠0;decide⟩
  | l3 hm hg hne he hY hx hx4=>exact ⟨fun e=>(by cases e),fun _=>by show (1:Int)≠0;decide⟩
  | sp hI hk hl16 hlast he=>exact ⟨fun e=>(by cases e),fun _=>by show (2:Int)≠0;decide⟩
  | sp2 hmp hI hk hl16 hlast he=>exact ⟨fun e=>(by cases e),fun _=>by show (2:Int)≠0;decide⟩
  | mg hI hg he he'=>exact ⟨fun e=>(by cases e),fun _=>by show (3:Int)≠0;decide⟩
  | mg2 hmp hI hd4 hg he he'=>exact ⟨fun e=>(by cases e),fun _=>by show (3:Int)≠0;decide⟩
theorem ZmM {a:Zag} (hc:Zbb FM a=some true) (hl:a.Spans.length≤16) (hk:a.Plan.Kind≠0) (q:Zap):ZbU FM a q=some (a,180):=by
  unfold ZbU
  rw [hc,Option.bind_some,Bool.not_true,cond_false,Zkv hl,Option.bind_some,ZdN hl,Option.bind_some,show (a.Plan.Kind != 0)=true by simpa using hk]
  rfl
theorem Zm9 (h : Sit jobs seen G n A Gs x) (q : Zap) (hq : q.Key.length ≤ 1048576) :
    (∃ b e,e≠0∧ZbU FM A q=some (b,e))∨∃ A1 m,n=0∧m≠0∧ZbU FM A q=some (A1,0)∧Sit jobs seen G m A1 Gs noS∧A1.Last≤A.Last+1:=by
  by_cases hn:n=0
  · obtain ⟨e1,e2,hI⟩:=h.over.1 hn
    have hA:=Zoi A e1 e2
    generalize A.Last=last at hI hA ⊢
    generalize A.Spans=l at hI hA
    subst hA
    rcases Zlr ⟨G,last,l,noP⟩ (ZdO (a:=⟨G,last,l,noP⟩) hI.mp) rfl q hq (ZgB hI.mp) with ⟨e,he,hb⟩ | ⟨i,hi,he,h⟩
    · exact .inl ⟨_,e,he,hb⟩
    right
    rcases h with ⟨g1,g2,g3,hb⟩ | ⟨k1,k2,k3,hb⟩ | ⟨i1,m1,m2,hb⟩
    · have e:=Zn2 l i hi
      simp only at hi he g3 hb
      generalize l[i]=s at e he g3 hb
      generalize l.take i=pre at e
      generalize l.drop (i+1)=post at e
      subst e
      obtain ⟨hm,hold⟩:=hI.mid ⟨g1,g2⟩ g3
      exact ⟨_,5,hn,by decide,hb,.m1 hm ⟨g1,g2⟩ g3 he (.inl ⟨rfl,hold⟩) (Zhn hI.mp),by show last≤last+1;omega⟩
    · have e:=Zn2 l i hi
      simp only at hi he k1 k2 k3 hb
      generalize l[i]=s at e he k1 hb
      generalize l.take i=pre at e
      generalize l.drop (i+1)=post at e
      subst e
      exact ⟨_,1,hn,by decide,hb,.sp hI k1 k2 k3 he,Int.le_refl _⟩
    · have e:=Zqo l i i1
      simp only at i1 he m1 m2 hb
      generalize l[i]=s at e he m1 hb
      generalize l[i+1]=t at e m1 m2 hb
      generalize l.take i=pre at e
      generalize l.drop (i+2)=post at e
      subst e
      exact ⟨_,1,hn,by decide,hb,.mg hI m1 he m2,by show last≤last+1;omega⟩
  · exact .inl ⟨_,180,by decide,ZmM h.chk.1 h.chk.2 (h.over.2 hn) q⟩
theorem ZjM (h:Sit jobs seen G 0 A Gs x):∃ g o,ZaL FM A x=some (g,o,false):=by
  obtain ⟨e1,e2,hI⟩:=h.over.1 rfl
  have hs:Zdh A:=ZdO (a:=A) (by rw [e2];exact hI.mp)
  exact ZpY hs e1 x
theorem Zna (h:Sit jobs seen G n A Gs x):∃ b e,Zb5 FM A=some (b,e)∧(e=0→A.Plan.Kind=1→∃ m,m≠0∧n≠0∧Sit jobs seen G m b Gs noS∧b.Last=A.Last):=by
  have hc:=h.chk
  have no:A.Plan.Kind=0∨A.Plan.Phase≠1→∃ b e,Zb5 FM A=some (b,e)∧(e=0→A.Plan.Kind=1→∃ m,m≠0∧n≠0∧Sit jobs seen G m b Gs noS∧b.Last=A.Last):=fun q=>by
    obtain ⟨b,e,he,hb⟩:=Zpr hc.1 hc.2 q
    exact ⟨b,e,hb,fun z=>absurd z he⟩
  cases h with
  | quiet hI=>exact no (.inl rfl)
  | m1 hm hg hne he hY hx =>
    refine ⟨_,0,ZkC hm.mp hg hne he,fun _ _=>⟨3,by decide,by decide,.l1 hm hg hne he (.inl ?_) (Zhn hm.mp),rfl⟩⟩
    rcases hY with ⟨a,b⟩ | ⟨a,b | b⟩
    · exact ⟨.inl a,.inl b⟩
    · exact ⟨.inr a,.inl b⟩
    · exact ⟨.inr a,.inr (.inl b)⟩
  | m1f hm hg hne he hY =>
    refine ⟨_,0,ZkC hm.mp hg hne he,fun _ _=>⟨3,by decide,by decide,.l1 hm hg hne he (.inl ⟨.inr rfl,?_⟩) (Zhn hm.mp),rfl⟩⟩
    rcases hY with b | b
    · exact .inl b
    · exact .inr (.inl b)
  | m2 hm hg hne he hY=>exact no (.inr (by show (2:Int)≠1;decide))
  | m3 hm hg hne he hY=>exact no (.inr (by show (3:Int)≠1;decide))
  | l1 hm hg hne he hY hx=>exact no (.inr (by show (9:Int)≠1;decide))
  | l2 hm hg hne he hY hx hx4=>exact no (.inr (by show (9:Int)≠1;decide))
  | l3 hm hg hne he hY hx hx4=>exact no (.inr (by show (9:Int)≠1;decide))
  | sp hI hk hl16 hlast he =>
    obtain ⟨b,e,_,hb⟩:=ZhP hc.1 hc.2 _ (by simp [spA]) (Zd1 hI.mp) (by show (2:Int)≠1;decide)
    exact ⟨b,e,hb,fun _ q=>by have:(2:Int)=1:=q;omega⟩
  | sp2 hmp hI hk hl16 hlast he =>
    obtain ⟨b,e,_,hb⟩:=ZhP hc.1 hc.2 _ (by simp [spA]) (Zd1 hmp) (by show (2:Int)≠1;decide)
    exact ⟨b,e,hb,fun _ q=>by have:(2:Int)=1:=q;omega⟩
  | mg hI hg he he' =>
    obtain ⟨b,e,_,hb⟩:=ZhP hc.1 hc.2 _ (by simp [mgA]) (Zd1 hI.mp) (by show (3:Int)≠1;decide)
    exact ⟨b,e,hb,fun _ q=>by have:(3:Int)=1:=q;omega⟩
  | mg2 hmp hI hd4 hg he he' =>
    obtain ⟨b,e,_,hb⟩:=ZhP hc.1 hc.2 _ (by simp [mgA]) (Zd1 hmp) (by show (3:Int)≠1;decide)
    exact ⟨b,e,hb,fun _ q=>by have:(3:Int)=1:=q;omega⟩
end
end Go.T
set_option linter.unusedVariables false
set_option linter.unusedSimpArgs false
namespace Go.T
open Go Go.Ab
theorem ZkE {l:List Zaf} (h:l.length≤1048576):Zcs FM l l=some true:=by
  unfold Zcs
  have hl:=Zit (fun n i=>ZbJ FM l l n i) l.length (fun _=>true) false
    (fun n i hi=>by
      simp only [ZbJ]
      have f1:decide ((i:Int)<((l.length:Nat):Int))=true:=decide_eq_true (by omega)
      have f2:decide ((0:Int)≤(i:Int))=true:=decide_eq_true (by omega)
      have f4:IntKind.wrap IntKind.i64 ((i:Int)+1)=(i:Int)+1:=by rw [Zb9 (by omega) (by omega)]
      simp only [f1,f2,f4,cond_true,Int.toNat_natCast,List.getElem?_eq_getElem hi,Option.bind_some,beq_self_eq_true,Bool.and_self,Bool.not_true,cond_false])
    (fun n i hi=>by
      simp only [ZbJ]
      have f1:decide ((i:Int)<((l.length:Nat):Int))=false:=decide_eq_false (by omega)
      simp only [f1,cond_false]) FM 0 (by show _<4000000;omega)
  have e:((((List.length l):Nat):Int) != (((List.length l):Nat):Int))=false:=by simp
  rw [e]
  simp only [Int.natCast_zero] at hl
  rcases hl with ⟨_,hl⟩ | ⟨⟨j,_,_,hg⟩,_⟩
  · rw [cond_false,hl];rfl
  · cases hg
theorem Zlt {r:Zam} (h:r.Jobs.length≤1048576):ZcA FM r r=some true:=by
  unfold ZcA
  rw [ZkE h]
  simp
theorem ZmO {l:List Zac} (h:l.length≤1048576) (hj:∀ y,y∈l→y.Result.Jobs.length≤1048576):ZcQ FM l l=some true:=by
  unfold ZcQ
  have hl:=Zit (fun n i=>ZbB FM l l n i) l.length (fun _=>true) false
    (fun n i hi=>by
      simp only [ZbB]
      have f1:decide ((i:Int)<((l.length:Nat):Int))=true:=decide_eq_true (by omega)
      have f2:decide ((0:Int)≤(i:Int))=true:=decide_eq_true (by omega)
      have f4:IntKind.wrap IntKind.i64 ((i:Int)+1)=(i:Int)+1:=by rw [Zb9 (by omega) (by omega)]
      simp only [f1,f2,f4,cond_true,Int.toNat_natCast,List.getElem?_eq_getElem hi,Option.bind_some,bne_self_eq_false,Zlt (hj _ (List.getElem_mem hi)),Bool.not_true,cond_false])
    (fun n i hi=>by
      simp only [ZbB]
      have f1:decide ((i:Int)<((l.length:Nat):Int))=false:=decide_eq_false (by omega)
      simp only [f1,cond_false]) FM 0 (by show _<4000000;omega)
  have e:((((List.length l):Nat):Int) != (((List.length l):Nat):Int))=false:=by simp
  rw [e]
  simp only [Int.natCast_zero] at hl
  rcases hl with ⟨_,hl⟩ | ⟨⟨j,_,_,hg⟩,_⟩
  · rw [cond_false,hl];rfl
  · cases hg
theorem Zqf {l : List Zaa} (hl : l.length ≤ 1000) (hs : SrtId l) {id : Int} {x : Zaa} (h : look l id = some x) (h4 : x.State ≠ 4) :
    ∃ (k:Nat) (hk:k<l.length),Zb4 FM l id=some (k:Int)∧l[k]=x:=by
  have hL:=ZhM (fun n i=>ZbA FM l id n i) l.length (fun i=>match l[i]? with | some j=>j.Id==id | none=>false)
    (fun n i hi=>by
      simp only [ZbA]
      rw [decide_eq_true (by omega),cond_true]
      simp only [mg0,cond_true,mc,List.getElem?_eq_getElem hi,Option.bind_some,mwi i (by omega)])
    (fun n i hi=>by
      simp only [ZbA]
      rw [decide_eq_false (by omega),cond_false]) FM 0 (by show _<4000000;omega)
  simp only [Int.natCast_zero] at hL
  obtain ⟨q,hq,hq2,hq3⟩:=ZfA h
  rcases hL with ⟨j,_,hj,hh,_,e⟩ | ⟨hh,e⟩
  · rw [List.getElem?_eq_getElem hj] at hh
    have hx:l[j]=x:=Zcl hs h hj (by simpa using hh)
    refine ⟨j,hj,?_,hx⟩
    unfold Zb4 Zdy
    rw [e]
    simp only [Option.bind_some,Sum.elim_inl,mg0,cond_true,mc,List.getElem?_eq_getElem hj,hx]
    rw [show (x.State==4)=false by simpa using h4]
    rfl
  · exfalso
    have:=hh q (Nat.zero_le _) hq
    rw [List.getElem?_eq_getElem hq] at this
    simp only [beq_eq_false_iff_ne] at this
    exact this hq3
theorem Znj (s:Zac):ZcP FM s.Client s.Seq=some (seatB s):=by
  unfold ZcP seatB
  cases decide ((1:Int)≤s.Client)<;>cases decide (s.Client≤(64:Int))<;>rfl
theorem ZjS {l:List Zac} (hs:SrtC l) (hr:∀ s,s∈l→seatB s=true) (hl:l.length≤64):∀ (d i m:Nat) (last:Int),i+d=l.length→d<m→(∀ h:i<l.length,last<(l[i]).Client)→Zbq FM l m last (i:Int)=some (.inr ()):=by
  intro d
  induction d with
  | zero =>
    intro i m last h hm _
    obtain ⟨m,rfl⟩:∃ k,m=k+1:=⟨m - 1,by omega⟩
    unfold Zbq
    rw [decide_eq_false (by omega),cond_false]
  | succ d ih =>
    intro i m last h hm hlast
    obtain ⟨m,rfl⟩:∃ k,m=k+1:=⟨m - 1,by omega⟩
    have hi:i<l.length:=by omega
    unfold Zbq
    rw [decide_eq_true (by omega),cond_true]
    have hlt:=hlast hi
    simp only [mg0,cond_true,mc,List.getElem?_eq_getElem hi,Option.bind_some,Znj,hr _ (List.getElem_mem hi),Bool.not_true,cond_false]
    rw [decide_eq_false (by omega),cond_false,mwi i (by omega)]
    exact ih (i+1) m _ (by omega) (by omega) fun h=>List.pairwise_iff_getElem.1 hs i (i+1) hi h (by omega)
theorem ZhY {l:List Zac} (hs:SrtC l) (hr:∀ s,s∈l→seatB s=true):Zch FM l=some true:=by
  have hl:=Zgb hs hr
  unfold Zch
  rw [show Zbq FM l FM 0 0=_ from ZjS hs hr hl l.length 0 FM 0 (by omega) (by show _<4000000;omega) (fun h=>by
    have:=hr _ (List.getElem_mem h)
    unfold seatB at this
    simp only [Bool.and_eq_true,decide_eq_true_eq] at this
    omega)]
  rfl
theorem Znz {b:List Zac} (hl:b.length≤64):∀ (d k m:Nat),k+d=b.length→d<m→ZaJ FM [] b m 0 (k:Int) (b.take k)=some b:=by
  intro d
  induction d with
  | zero =>
    intro k m h hm
    obtain ⟨m,rfl⟩:∃ k,m=k+1:=⟨m - 1,by omega⟩
    unfold ZaJ
    simp only [List.length_nil,List.length_map,Int.natCast_zero,show decide ((0:Int)<0)=false from rfl,cond_false,Option.bind_some]
    rw [decide_eq_false (by omega),cond_false,List.take_of_length_le (by omega)]
  | succ d ih =>
    intro k m h hm
    obtain ⟨m,rfl⟩:∃ k,m=k+1:=⟨m - 1,by omega⟩
    have hk:k<b.length:=by omega
    unfold ZaJ
    simp only [List.length_nil,List.length_map,Int.natCast_zero,show decide ((0:Int)<0)=false from rfl,cond_false,Option.bind_some]
    rw [decide_eq_true (by omega),cond_true,show (((k:Nat):Int)==((b.length:Nat):Int))=false by rw [beq_eq_false_iff_ne];omega]
    simp only [cond_false,Option.bind_some,beq_self_eq_true,cond_true,mg0,mc,List.getElem?_eq_getElem hk]
    rw [decide_eq_true (by rw [List.length_take];simp only [LIM];omega),cond_true,mwi k (by omega),← List.take_succ_eq_append_getElem hk]
    exact ih (k+1) m (by omega) (by omega)
theorem Zmv {a:List Zac} (hl:a.length≤64):∀ (d k m:Nat),k+d=a.length→d<m→ZaJ FM a a m (k:Int) (k:Int) (a.take k)=some a:=by
  intro d
  induction d with
  | zero =>
    intro k m h hm
    obtain ⟨m,rfl⟩:∃ k,m=k+1:=⟨m - 1,by omega⟩
    unfold ZaJ
    simp only [List.length_map]
    rw [decide_eq_false (by omega)]
    simp only [cond_false,Option.bind_some]
    rw [List.take_of_length_le (by omega)]
  | succ d ih =>
    intro k m h hm
    obtain ⟨m,rfl⟩:∃ k,m=k+1:=⟨m - 1,by omega⟩
    have hk:k<a.length:=by omega
    unfold ZaJ
    simp only [List.length_map]
    rw [decide_eq_true (show (k:Int)<(a.length:Int) by omega),show (((k:Nat):Int)==((a.length:Nat):Int))=false by rw [beq_eq_false_iff_ne];omega]
    simp only [cond_true,cond_false,Option.bind_some,mg0,mc,List.getElem?_eq_getElem hk]
    rw [decide_eq_false (Int.lt_irrefl _)]
    simp only [cond_false,Option.bind_some]
    rw [decide_eq_false (Int.lt_irrefl _)]
    simp only [cond_false,Option.bind_some]
    rw [decide_eq_true (by rw [List.length_take];simp only [LIM];omega)]
    simp only [cond_true,Option.bind_some]
    rw [mwi k (by omega),← List.take_succ_eq_append_getElem hk]
    exact ih (k+1) m (by omega) (by omega)
theorem ZkS {b:List Zac} (hs:SrtC b) (hr:∀ s,s∈b→seatB s=true):Zbw FM [] b=some (0,b):=by
  have hl:=Zgb hs hr
  unfold Zbw
  rw [ZhY (l:=[]) List.Pairwise.nil (fun s h=>by simp at h),ZhY hs hr]
  simp only [Option.bind_some,Bool.not_true,cond_false]
  unfold ZcO
  rw [show ZaJ FM [] b FM 0 0 []=some b from Znz hl b.length 0 FM (by omega) (by show _<4000000;omega)]
  rfl
theorem ZjT {b:List Zac} (hs:SrtC b) (hr:∀ s,s∈b→seatB s=true):Zbw FM b b=some (0,b):=by
  have hl:=Zgb hs hr
  unfold Zbw
  rw [ZhY hs hr]
  simp only [Option.bind_some,Bool.not_true,cond_false]
  unfold ZcO
  rw [show ZaJ FM b b FM 0 0 []=some b from Zmv hl b.length 0 FM (by omega) (by show _<4000000;omega)]
  rfl
end Go.T
set_option linter.unusedVariables false
set_option linter.unusedSimpArgs false
namespace Go.T
open Go Go.Ab
theorem wgi {g:Int} (h1:1≤g) (h2:g≤1000000):IntKind.wrap IntKind.i64 (g - 1)=((gi g:Nat):Int):=by
  rw [Zb9 (by omega) (by omega)]
  unfold gi
  omega
section
variable {jobs:List Zaf} {seen:List Zac} {G last:Int} {l:List Zab} {Gs:Grs}
theorem Zl0 {k:Nat} (h:k<Gs.length):Gs[k]? = some (gr Gs k):=by
  rw [List.getElem?_eq_getElem h,gr_at h]
theorem Zm7 (hI : Inv jobs seen G last l Gs) (hl : last ≤ 63) (i : Nat) (hi : i < l.length) :
    IntKind.wrap IntKind.i64 ((l[i]).Group - 1)=((gi (l[i]).Group:Nat):Int)∧Gs[gi (l[i]).Group]? = some (gr Gs (gi (l[i]).Group)) ∧
    ∃ (k:Nat) (hk:k<(gr Gs (gi (l[i]).Group)).length),Zb4 FM (gr Gs (gi (l[i]).Group)) (l[i]).Shard=some (k:Int)∧(gr Gs (gi (l[i]).Group))[k]=spanS jobs seen (l[i]):=by
  have hm:=List.getElem_mem hi
  have f:=hI.mp.2.2.2.2.2.2 _ hm
  have hG:=hI.mp.2.1
  have g:=hI.good' (by omega) hl (gi (l[i]).Group)
  exact ⟨wgi f.2.2.2.2.1 (by omega),Zl0 (lk_in (hI.home _ hm)),Zqf (by omega) g.1.1 (hI.home _ hm) (by show (1:Int)≠4;decide)⟩
theorem Zqe (hI:Inv jobs seen G last l Gs) (hl:last≤63):∀ (d i m:Nat),i+d=l.length→d<m→ZaP FM l Gs m (i:Int)=some (.inr ()):=by
  intro d
  induction d with
  | zero =>
    intro i m h hm
    obtain ⟨m,rfl⟩:∃ k,m=k+1:=⟨m - 1,by omega⟩
    unfold ZaP
    rw [decide_eq_false (by omega),cond_false]
  | succ d ih =>
    intro i m h hm
    obtain ⟨m,rfl⟩:∃ k,m=k+1:=⟨m - 1,by omega⟩
    have hi:i<l.length:=by omega
    have h16:=hI.mp.2.2.2.1
    obtain ⟨e1,e2,k,hk,e3,e4⟩:=Zm7 hI hl i hi
    unfold ZaP
    rw [decide_eq_true (by omega),cond_true]
    simp only [mg0,cond_true,mc,List.getElem?_eq_getElem hi,Option.bind_some,e1,e2,e3]
    rw [decide_eq_false (by omega),cond_false]
    simp only [List.getElem?_eq_getElem hk,Option.bind_some,e4,spanS,bne_self_eq_false,cond_false,beq_self_eq_true,Bool.not_true]
    rw [mwi i (by omega)]
    exact ih (i+1) m (by omega) (by omega)
def srv (l:List Zaa):Nat:=l.countP fun s=>s.State==1
theorem Zqc {g:Nat} (hg:g<Gs.length) (h64:(gr Gs g).length≤64):∀ (d k m n:Nat),k+d=(gr Gs g).length→d<m→n+d≤1000000→ZaN FM Gs (g:Int) m (n:Int) (k:Int)=some ((n+srv ((gr Gs g).drop k):Nat):Int):=by
  intro d
  induction d with
  | zero =>
    intro k m n h hm hn
    obtain ⟨m,rfl⟩:∃ k,m=k+1:=⟨m - 1,by omega⟩
    unfold ZaN
    simp only [mg0,cond_true,mc,Zl0 hg,Option.bind_some]
    rw [decide_eq_false (by omega),cond_false,List.drop_of_length_le (by omega)]
    rfl
  | succ d ih =>
    intro k m n h hm hn
    obtain ⟨m,rfl⟩:∃ k,m=k+1:=⟨m - 1,by omega⟩
    have hk:k<(gr Gs g).length:=by omega
    unfold ZaN
    simp only [mg0,cond_true,mc,Zl0 hg,Option.bind_some]
    rw [decide_eq_true (by omega),cond_true]
    simp only [List.getElem?_eq_getElem hk,Option.bind_some]
    rw [mwi k (by omega),List.drop_eq_getElem_cons hk]
    have e:srv ((gr Gs g)[k]::(gr Gs g).drop (k+1))=srv ((gr Gs g).drop (k+1))+if ((gr Gs g)[k]).State==1 then 1 else 0:=by
      unfold srv
      rw [List.countP_cons]
    rw [e]
    cases hc:(((gr Gs g)[k]).State==1) with
    | true =>
      simp only [cond_true,Option.bind_some,if_true]
      rw [mwi n (by omega)]
      have:=ih (k+1) m (n+1) (by omega) (by omega) (by omega)
      rw [show ((n+1:Nat):Int)=(n:Int)+1 by omega,show ((k+1:Nat):Int)=(k:Int)+1 by omega] at this
      rw [this,show n+1+srv ((gr Gs g).drop (k+1))=n+(srv ((gr Gs g).drop (k+1))+1) by omega]
    | false =>
      simp only [cond_false,Option.bind_some]
      have:=ih (k+1) m n (by omega) (by omega) (by omega)
      rw [show ((k+1:Nat):Int)=(k:Int)+1 by omega] at this
      rw [this]
      simp
theorem ZqN (l:List Zaa):srv l≤l.length:=List.countP_le_length
theorem Zqd (h64:∀ k,(gr Gs k).length≤64) (h8:Gs.length≤8):∀ (d g m n:Nat),g+d=Gs.length→d<m→n+64 * d≤1000000 - 64→ZaO FM Gs m (n:Int) (g:Int)=some ((n+((Gs.drop g).map srv).sum:Nat):Int):=by
  intro d
  induction d with
  | zero =>
    intro g m n h hm hn
    obtain ⟨m,rfl⟩:∃ k,m=k+1:=⟨m - 1,by omega⟩
    unfold ZaO
    rw [decide_eq_false (by omega),cond_false,List.drop_of_length_le (by omega)]
    simp
  | succ d ih =>
    intro g m n h hm hn
    obtain ⟨m,rfl⟩:∃ k,m=k+1:=⟨m - 1,by omega⟩
    have hg:g<Gs.length:=by omega
    have q:=h64 g
    unfold ZaO
    rw [decide_eq_true (by omega),cond_true,show ZaN FM Gs (g:Int) FM (n:Int) 0=_ from Zqc hg q (gr Gs g).length 0 FM n (by omega) (by show _<4000000;omega) (by omega)]
    simp only [Option.bind_some,List.drop_zero]
    rw [mwi g (by omega),List.drop_eq_getElem_cons hg,List.map_cons,List.sum_cons,← gr_at hg]
    have hs:=ZqN (gr Gs g)
    have:=ih (g+1) m (n+srv (gr Gs g)) (by omega) (by omega) (by omega)
    rw [show ((g+1:Nat):Int)=(g:Int)+1 by omega] at this
    rw [this,Nat.add_assoc]
theorem ZoE (hI:Inv jobs seen G last l Gs):(Gs.map srv).sum=l.length:=by
  rw [← hI.count]
  unfold liveT
  congr 1
  apply List.map_congr_left
  intro k hk
  obtain ⟨g,hg,rfl⟩:=List.getElem_of_mem hk
  unfold srv liveN
  apply List.countP_congr
  intro s hs
  have h1:s∈gr Gs g:=by rw [gr_at hg];exact hs
  have hlk:lk Gs g s.Id=some s:=ZhJ (hI.base.1 g) h1
  rcases hI.rest _ _ _ hlk with q | ⟨a,_,_,e⟩
  · simp [q]
  · rw [e];simp [spanS]
theorem Zqb (hI:Inv jobs seen G last l Gs) (hl:last≤63) (c0 c1 c3 c4 c5 c6 c7 c8 c9:Int) (c10:List UInt8):Zbs FM c0 c1 l c3 c4 c5 c6 c7 c8 c9 c10 Gs=some true:=by
  have h16:=hI.mp.2.2.2.1
  have hG:=hI.mp.2.1
  have hlen:=hI.len
  have h1:=ZgB hI.mp
  have h64:∀ k,(gr Gs k).length≤64:=fun k=>by have:=(hI.good' (by omega) hl k).2;omega
  unfold Zbs
  rw [show ZaP FM l Gs FM 0=_ from Zqe hI hl l.length 0 FM (by omega) (by show _<4000000;omega)]
  simp only [Option.bind_some,Sum.elim_inr,List.length_map]
  rw [show ZaO FM Gs FM 0 0=_ from Zqd h64 (by omega) Gs.length 0 FM 0 (by omega) (by show _<4000000;omega) (by omega)]
  simp only [Option.bind_some,List.drop_zero,Nat.zero_add,ZoE hI,beq_self_eq_true]
def accS (seen:List Zac) (i:Nat):List Zac:=if i=0 then [] else seen
theorem Zra (hst : Start jobs seen) (hI : Inv jobs seen G last l Gs) (hl : last ≤ 63) : ∀ (d i m : Nat), i + d = l.length → d < m →
    ZaH FM l Gs m (i:Int) (((l.take i).map fun s=>cutJ jobs s.From s.To).flatten) (accS seen i)=some (((l.map fun s=>cutJ jobs s.From s.To).flatten),accS seen l.length):=by
  obtain ⟨sc,sr⟩:=Zhk seen hst.2.2.2.2.1 hst.2.2.2.1
  intro d
  induction d with
  | zero =>
    intro i m h hm
    obtain ⟨m,rfl⟩:∃ k,m=k+1:=⟨m - 1,by omega⟩
    unfold ZaH
    rw [decide_eq_false (by omega),cond_false,List.take_of_length_le (by omega),show i=l.length by omega]
  | succ d ih =>
    intro i m h hm
    obtain ⟨m,rfl⟩:∃ k,m=k+1:=⟨m - 1,by omega⟩
    have hi:i<l.length:=by omega
    have h16:=hI.mp.2.2.2.1
    obtain ⟨e1,e2,k,hk,e3,e4⟩:=Zm7 hI hl i hi
    have hjl:∀ a b,(cutJ jobs a b).length≤16:=fun a b=>by
      have:=List.length_filter_le (fun j:Zaf=>inB a b j.Name) jobs
      have:=hst.2.1
      unfold cutJ;omega
    have hacc:((l.take i).map fun s=>cutJ jobs s.From s.To).flatten.length≤16 * (l.take i).length:=by
      generalize l.take i=q
      induction q with
      | nil=>simp
      | cons a q ihq =>
        rw [List.map_cons,List.flatten_cons,List.length_append,List.length_cons]
        have:=hjl a.From a.To
        omega
    rw [List.length_take] at hacc
    unfold ZaH
    rw [decide_eq_true (by omega),cond_true]
    simp only [mg0,cond_true,mc,List.getElem?_eq_getElem hi,Option.bind_some,e1,e2,e3]
    simp only [List.getElem?_eq_getElem hk,Option.bind_some,e4,spanS]
    rw [decide_eq_true (by have:=hjl (l[i]).From (l[i]).To;simp only [LIM];omega),cond_true]
    have hjoin:Zbw FM (accS seen i) seen=some (0,seen):=by
      unfold accS
      split
      · exact ZkS sc sr
      · exact ZjT sc sr
    rw [hjoin,Option.bind_some,mwi i (by omega)]
    have:=ih (i+1) m (by omega) (by omega)
    rw [show ((i+1:Nat):Int)=(i:Int)+1 by omega,List.take_succ_eq_append_getElem hi,List.map_append,List.flatten_append] at this
    simp only [List.map_cons,List.map_nil,List.flatten_cons,List.flatten_nil,List.append_nil] at this
    exact this
theorem Zq9 (hst:Start jobs seen) (hI:Inv jobs seen G last l Gs) (hl:last≤63) (c0 c1 c3 c4 c5 c6 c7 c8 c9:Int) (c10:List UInt8):Zbx FM c0 c1 l c3 c4 c5 c6 c7 c8 c9 c10 Gs=some (jobs,seen):=by
  have h16:=hI.mp.2.2.2.1
  obtain ⟨c1,_⟩:=ch_at _ _ hI.mp.2.2.2.2.1
  unfold Zbx
  rw [show ZaH FM l Gs FM 0 [] []=_ from Zra hst hI hl l.length 0 FM (by omega) (by show _<4000000;omega)]
  rw [Zpp hst hI.mp]
  unfold accS
  rw [if_neg (by omega)]
  rfl
theorem Znb {g : Int} {o : Zae} (h1 : 1 ≤ g) (h2 : g ≤ Gs.length) (h3 : Gs.length ≤ 1000) {r : Zam} {s : Zaa} {l' : List Zaa} (hd : Ze3 FM (gr Gs (gi g)) o = some (r, s, l')) (c0 c1 : Int) (c2 : List Zab) (c3 c4 c5 c6 c7 c8 c9 : Int) (c10 : List UInt8) :
    Zaz FM g o c0 c1 c2 c3 c4 c5 c6 c7 c8 c9 c10 Gs=some (r,s,Gs.set (gi g) l'):=by
  have hw:=wgi h1 (by omega)
  have hk:gi g<Gs.length:=by unfold gi;omega
  unfold Zaz
  rw [decide_eq_false (by omega),cond_false,List.length_map,decide_eq_false (by omega)]
  simp only [Option.bind_some,cond_false,hw,mg0,cond_true,mc,Zl0 hk,hd]
theorem Zo3 {A A' : Zag} {x x' s : Zaa} {r : Zam} {d : Int} (hh : Zbj FM A x r s = some (x', d)) (hd0 : 0 ≤ d) (ha : d = 0 ∧ A' = A ∨ 0 < d ∧ Za6 FM A d = some (A', 0)) (Gs : Grs) :
    Za3 FM x r s A.Groups A.Last A.Spans A.Plan.Kind A.Plan.Phase A.Plan.Shard A.Plan.Other A.Plan.Group A.Plan.Past A.Plan.Epoch A.Plan.Key Gs =
      some (x',A'.Groups,A'.Last,A'.Spans,A'.Plan.Kind,A'.Plan.Phase,A'.Plan.Shard,A'.Plan.Other,A'.Plan.Group,A'.Plan.Past,A'.Plan.Epoch,A'.Plan.Key):=by
  obtain ⟨a1,a2,a3,⟨p1,p2,p3,p4,p5,p6,p7,p8⟩⟩:=A
  unfold Za3
  simp only
  rw [hh]
  simp only [Option.bind_some]
  rcases ha with ⟨rfl,rfl⟩ | ⟨h1,h2⟩
  · rfl
  · rw [decide_eq_true h1,h2]
    simp only [cond_true,Option.bind_some,beq_self_eq_true]
    rw [decide_eq_false (by omega)]
    rfl
end
end Go.T
set_option linter.unusedVariables false
set_option linter.unusedSimpArgs false
namespace Go.T
open Go Go.Ab Go.Proofs
theorem Zqw:Zdz FM=some true:=by kernel_rfl
theorem ZoC (n:Nat) (hn:n≤1000):∀ (d i m:Nat),i+d=n→d<m→ZbC FM (n:Int) m (i:Int) (List.replicate i [])=some (List.replicate n []):=by
  intro d
  induction d with
  | zero =>
    intro i m h hm
    obtain ⟨m,rfl⟩:∃ k,m=k+1:=⟨m - 1,by omega⟩
    unfold ZbC
    rw [decide_eq_false (by omega),cond_false,show i=n by omega]
  | succ d ih =>
    intro i m h hm
    obtain ⟨m,rfl⟩:∃ k,m=k+1:=⟨m - 1,by omega⟩
    unfold ZbC
    rw [decide_eq_true (by omega),cond_true,decide_eq_true (by rw [List.length_replicate];simp only [LIM];omega),cond_true,mwi i (by omega)]
    have:=ih (i+1) m (by omega) (by omega)
    rw [show ((i+1:Nat):Int)=(i:Int)+1 by omega,List.replicate_succ'] at this
    exact this
theorem ZoD (G : Int) (jobs : List Zaf) (seen : List Zac) (hl : jobs.length ≤ 1048576) (h : ∀ j, j ∈ jobs → j.Name.length ≤ 1048576) (hs : seen.length ≤ 1048576) (hj : ∀ r, r ∈ seen → r.Result.Jobs.length ≤ 1048576) :
    (∃ a1 a2 a3 a4 a5 a6 a7 a8 a9 a10 a11 Gs,Zci FM G jobs seen=some (a1,a2,a3,a4,a5,a6,a7,a8,a9,a10,a11,false,Gs)) ∨
    (1≤G∧G≤8∧Zci FM G jobs seen=some (G,1,[ZdH],0,0,0,0,0,0,0,[],true,Zgt G.toNat jobs seen)∧(jobs.length≤16→Start jobs seen)):=by
  unfold Zci
  rcases ZqT G with ⟨h1,h2,e⟩ | ⟨a,e⟩
  · rw [e]
    simp only [Option.bind_some,bne_self_eq_false,cond_false]
    obtain ⟨v,hv,hw⟩:=ZmZ jobs seen (by omega) h (Zi4 seen (by omega))
    have hn:(G.toNat:Int)=G:=by omega
    have hl0:=ZoC G.toNat (by omega) G.toNat 0 FM (by omega) (by show _<4000000;omega)
    rw [hn] at hl0
    simp only [List.replicate_zero,Int.natCast_zero] at hl0
    rw [hl0]
    have g0:(List.replicate G.toNat ([]:List Zaa))[0]? = some []:=by
      rw [List.getElem?_eq_getElem (by simp;omega)];simp
    have g1:((List.replicate G.toNat ([]:List Zaa)).set 0 [ZdR jobs seen])[0]? = some [ZdR jobs seen]:=List.getElem?_set_self (by simp;omega)
    simp only [Option.bind_some,show Int.toNat 0=0 from rfl,g0]
    rw [show (⟨1,1,1,[],[],jobs,seen⟩:Zaa)=ZdR jobs seen from rfl,g1]
    simp only [Option.bind_some,hv]
    cases v with
    | false=>exact .inl ⟨_,_,_,_,_,_,_,_,_,_,_,_,rfl⟩
    | true =>
      right
      obtain ⟨q1,q2,q3⟩:=hw rfl
      exact ⟨h1,h2,rfl,fun h16=>Zm0 q1 q3 h16 (by omega) q2 (fun r hr=>by have:=hj r hr;omega)⟩
  · left
    rw [e]
    exact ⟨_,_,_,_,_,_,_,_,_,_,_,_,rfl⟩
end Go.T
set_option linter.unusedVariables false
set_option linter.unusedSimpArgs false
namespace Go.T
open Go Go.Ab
structure EndI (jobs:List Zaf) (seen:List Zac) (G:Int) (i:Nat) (A:Zag) (Gs:Grs) (x:Zaa) (os:List Zae) (gs:List Int):Prop where
  sit:∃ n,Sit jobs seen G n A Gs x∧2 * A.Last≤i+2+(if n=0 then 0 else 1)
  lens:gs.length=os.length
  few:os.length≤i
  done:∀ p,p∈gs.zip os→Zfc Gs p.1 p.2
def endL0 (script:List Zar) (c:Int) (n:Nat) (i:Int) (A:Zag) (Gs:Grs) (x:Zaa) (os:List Zae) (gs:List Int) :=
  ZaI FM script c n i A.Groups A.Last A.Spans A.Plan.Kind A.Plan.Phase A.Plan.Shard A.Plan.Other A.Plan.Group A.Plan.Past A.Plan.Epoch A.Plan.Key Gs x.Id x.Epoch x.State x.From x.To x.Jobs x.Seen os gs
def endL1 (n:Nat) (i:Int) (A:Zag) (Gs:Grs) (x:Zaa) :=
  ZaU FM n i A.Groups A.Last A.Spans A.Plan.Kind A.Plan.Phase A.Plan.Shard A.Plan.Other A.Plan.Group A.Plan.Past A.Plan.Epoch A.Plan.Key Gs x.Id x.Epoch x.State x.From x.To x.Jobs x.Seen
theorem Sit.le5 {jobs:List Zaf} {seen:List Zac} {G:Int} {n:Nat} {A:Zag} {Gs:Grs} {x:Zaa} (h:Sit jobs seen G n A Gs x):n≤5:=by
  cases h<;>omega
section
variable {jobs:List Zaf} {seen:List Zac} {G:Int} {i:Nat} {A:Zag} {Gs:Grs} {x:Zaa} {os:List Zae} {gs:List Int}
theorem EndI.up (h:EndI jobs seen G i A Gs x os gs):EndI jobs seen G (i+1) A Gs x os gs:=by
  obtain ⟨⟨n,h1,h2⟩,h3,h4,h5⟩:=h
  exact ⟨⟨n,h1,by omega⟩,h3,by omega,h5⟩
theorem Zov {gs:List Int} {os:List Zae} (hl:gs.length=os.length) (g:Int) (o:Zae):(gs++[g]).zip (os++[o])=gs.zip os++[(g,o)]:=by
  rw [List.zip_append hl];rfl
theorem ZiF {A A' : Zag} {Gs Gs' : Grs} {x x' : Zaa} {g : Int} {o : Zae} (h : StepE A Gs x g o A' Gs' x') (h8 : Gs.length ≤ 1000) :
    ZaL FM A x=some (g,o,true)∧∃ r s,(∀ c0 c1 c2 c3 c4 c5 c6 c7 c8 c9 c10,Zaz FM g o c0 c1 c2 c3 c4 c5 c6 c7 c8 c9 c10 Gs=some (r,s,Gs')) ∧
      ∀ Hs,Za3 FM x r s A.Groups A.Last A.Spans A.Plan.Kind A.Plan.Phase A.Plan.Shard A.Plan.Other A.Plan.Group A.Plan.Past A.Plan.Epoch A.Plan.Key Hs =
        some (x',A'.Groups,A'.Last,A'.Spans,A'.Plan.Kind,A'.Plan.Phase,A'.Plan.Shard,A'.Plan.Other,A'.Plan.Group,A'.Plan.Past,A'.Plan.Epoch,A'.Plan.Key):=by
  obtain ⟨hn,g1,g2,e,s,l',hd,rfl,d,hh,hd0,ha⟩:=h.step
  exact ⟨hn,errR e,s,fun c0 c1 c2 c3 c4 c5 c6 c7 c8 c9 c10=>Znb g1 g2 h8 hd c0 c1 c2 c3 c4 c5 c6 c7 c8 c9 c10,fun Hs=>Zo3 hh hd0 ha Hs⟩
theorem Ziu {Gs : Grs} {g : Int} {o : Zae} (hs : Zfc Gs g o) (hg : ∀ k, GoodL (gr Gs k)) (h8 : Gs.length ≤ 1000) :
    ∃ r s,∀ c0 c1 c2 c3 c4 c5 c6 c7 c8 c9 c10,Zaz FM g o c0 c1 c2 c3 c4 c5 c6 c7 c8 c9 c10 Gs=some (r,s,Gs):=by
  obtain ⟨e,s,hd⟩:=ZjO (hg (gi g)) hs
  have h1:=hs.1
  have h2:=hs.2.1
  refine ⟨errR e,s,fun c0 c1 c2 c3 c4 c5 c6 c7 c8 c9 c10=>?_⟩
  rw [Znb h1 h2 h8 hd,ZhV (by unfold gi;omega)]
theorem Zo8 (hst : Start jobs seen) (hG : G ≤ 8) (script : List Zar) (c : Int) (hk : ∀ t, t ∈ script → t.Plan.Key.length ≤ 1048576) (h : EndI jobs seen G i A Gs x os gs) (hi : i < script.length) (hi2 : i < 100) (m : Nat) :
    ∃ A' Gs' x' os' gs',EndI jobs seen G (i+1) A' Gs' x' os' gs'∧endL0 script c (m+1) i A Gs x os gs=endL0 script c m ((i+1:Nat):Int) A' Gs' x' os' gs':=by
  have hup:=h.up
  obtain ⟨⟨n,hsit,hlast⟩,hlens,hfew,hdone⟩:=h
  have hl63:A.Last≤63:=by
    split at hlast<;>omega
  obtain ⟨hlen,hbase,hgood⟩:=hsit.sound hl63
  have h8:Gs.length≤1000:=by omega
  have eta:(⟨A.Groups,A.Last,A.Spans,⟨A.Plan.Kind,A.Plan.Phase,A.Plan.Shard,A.Plan.Other,A.Plan.Group,A.Plan.Past,A.Plan.Epoch,A.Plan.Key⟩⟩:Zag)=A:=rfl
  have etax:(⟨x.Id,x.Epoch,x.State,x.From,x.To,x.Jobs,x.Seen⟩:Zaa)=x:=rfl
  unfold endL0
  rw [ZaI.eq_2]
  have hc:(bif decide ((i:Int)<(script.length:Int)) then some (decide ((i:Int)<100)) else some false)=some true:=by
    rw [decide_eq_true (by omega),cond_true,decide_eq_true (by omega)]
  rw [hc]
  simp only [Option.bind_some,cond_true,mg0,mc,List.getElem?_eq_getElem hi]
  rw [mwi i (by omega),eta,etax]
  have same : ∀ {P : Option (Int × Int × List Zab × Int × Int × Int × Int × Int × Int × Int × List UInt8 × Grs × Int × Int × Int × List UInt8 × List UInt8 × List Zaf × List Zac × List Zae × List Int)},
      P=some (A.Groups,A.Last,A.Spans,A.Plan.Kind,A.Plan.Phase,A.Plan.Shard,A.Plan.Other,A.Plan.Group,A.Plan.Past,A.Plan.Epoch,A.Plan.Key,Gs,x.Id,x.Epoch,x.State,x.From,x.To,x.Jobs,x.Seen,os,gs)→True:=fun _=>trivial
  by_cases k0:(script[i]).Kind=0
  · rw [show ((script[i]).Kind==0)=true by simpa using k0]
    simp only [cond_true]
    rcases Zm9 hsit (script[i]).Plan (hk _ (List.getElem_mem hi)) with ⟨b,e,he,hb⟩ | ⟨A1,m',hn0,hm0,hb,hs1,hl1⟩
    · rw [hb]
      simp only [Option.bind_some,show (e==0)=false by simpa using he,cond_false]
      exact ⟨A,Gs,x,os,gs,hup,rfl⟩
    · rw [hb]
      simp only [Option.bind_some,beq_self_eq_true,cond_true]
      refine ⟨A1,Gs,noS,os,gs,⟨⟨m',hs1,?_⟩,hlens,by omega,hdone⟩,rfl⟩
      rw [if_neg hm0]
      rw [if_pos hn0] at hlast
      omega
  rw [show ((script[i]).Kind==0)=false by simpa using k0]
  simp only [cond_false]
  by_cases k1:(script[i]).Kind=1
  · rw [show ((script[i]).Kind==1)=true by simpa using k1]
    simp only [cond_true]
    obtain ⟨b,e,hb,hab⟩:=Zna hsit
    rw [hb]
    simp only [Option.bind_some]
    by_cases he:e=0∧A.Plan.Kind=1
    · obtain ⟨m',hm0,hn0,hs1,hl1⟩:=hab he.1 he.2
      rw [show (e==0)=true by simpa using he.1,cond_true,show (A.Plan.Kind==1)=true by simpa using he.2]
      simp only [Option.bind_some,cond_true]
      refine ⟨b,Gs,noS,os,gs,⟨⟨m',hs1,?_⟩,hlens,by omega,hdone⟩,rfl⟩
      rw [if_neg hm0]
      rw [if_neg hn0] at hlast
      omega
    · have:(bif e==0 then some (A.Plan.Kind==1) else some false)=some false:=by
        by_cases c:e=0
        · rw [show (e==0)=true by simpa using c,cond_true,show (A.Plan.Kind==1)=false by simpa using fun q=>he ⟨c,q⟩]
        · rw [show (e==0)=false by simpa using c,cond_false]
      rw [this]
      simp only [Option.bind_some,cond_false]
      exact ⟨A,Gs,x,os,gs,hup,rfl⟩
  rw [show ((script[i]).Kind==1)=false by simpa using k1]
  simp only [cond_false]
  by_cases k2:(script[i]).Kind=2∨(script[i]).Kind=3∨(script[i]).Kind=4
  · have hk2:(bif (script[i]).Kind==2 then some ((script[i]).Kind==2) else bif (script[i]).Kind==3 then some ((script[i]).Kind==3) else some ((script[i]).Kind==4))=some true:=by
      rcases k2 with q | q | q<;>rw [q]<;>rfl
    rw [hk2]
    simp only [Option.bind_some,cond_true]
    by_cases hn:n=0
    · subst hn
      obtain ⟨g,o,hnx⟩:=ZjM hsit
      rw [hnx]
      simp only [Option.bind_some,Bool.not_false,cond_true]
      exact ⟨A,Gs,x,os,gs,hup,rfl⟩
    · obtain ⟨g,o,A',Gs',x',m',st,⟨k,hk0,hkeep⟩,hs1,hlt,hl1⟩:=ZlF hst hsit hn hl63
      obtain ⟨hnx,r,s,hsent,hheard⟩:=ZiF st h8
      obtain ⟨hlen',⟨last',hbase'⟩,hgood'⟩:=hkeep.sound hl63
      have h8':Gs'.length≤1000:=by omega
      obtain ⟨r2,s2,hagain⟩:=Ziu st.done hgood' h8'
      rw [hnx]
      simp only [Option.bind_some,Bool.not_true,cond_false]
      rw [hsent]
      simp only [Option.bind_some]
      have hl2:(bif (script[i]).Kind==4 then Option.bind (Zaz FM g o A.Groups A.Last A.Spans A.Plan.Kind A.Plan.Phase A.Plan.Shard A.Plan.Other A.Plan.Group A.Plan.Past A.Plan.Epoch A.Plan.Key Gs') fun y=>some y.2.2 else some Gs')=some Gs':=by
        cases ((script[i]).Kind==4) with
        | true=>rw [cond_true,hagain];rfl
        | false=>rfl
      rw [hl2]
      simp only [Option.bind_some]
      rw [decide_eq_true (by simp only [LIM];omega),cond_true,decide_eq_true (by simp only [LIM];omega),cond_true]
      have hdone':∀ p,p∈(gs++[g]).zip (os++[o])→Zfc Gs' p.1 p.2:=fun p hp=>by
        rw [Zov hlens,List.mem_append] at hp
        rcases hp with hp | hp
        · exact (hdone p hp).mono hbase' st.mono st.len
        · rw [List.mem_singleton] at hp
          subst hp
          exact st.done
      by_cases k3:(script[i]).Kind=3
      · rw [show ((script[i]).Kind != 3)=false by simpa using k3,cond_false]
        refine ⟨A,Gs',x,os++[o],gs++[g],⟨⟨k,hkeep,?_⟩,by simp [hlens],by simp;omega,hdone'⟩,rfl⟩
        rw [if_neg hk0]
        rw [if_neg hn] at hlast
        omega
      · rw [show ((script[i]).Kind != 3)=true by simpa using k3,cond_true,hheard]
        simp only [Option.bind_some]
        refine ⟨A',Gs',x',os++[o],gs++[g],⟨⟨m',hs1,?_⟩,by simp [hlens],by simp;omega,hdone'⟩,rfl⟩
        rw [if_neg hn] at hlast
        split<;>omega
  have hk2:(bif (script[i]).Kind==2 then some ((script[i]).Kind==2) else bif (script[i]).Kind==3 then some ((script[i]).Kind==3) else some ((script[i]).Kind==4))=some false:=by
    rw [show ((script[i]).Kind==2)=false by simpa using fun q=>k2 (.inl q),cond_false,show ((script[i]).Kind==3)=false by simpa using fun q=>k2 (.inr (.inl q)),cond_false,
      show ((script[i]).Kind==4)=false by simpa using fun q=>k2 (.inr (.inr q))]
  rw [hk2]
  simp only [Option.bind_some,cond_false]
  by_cases k5:(script[i]).Kind=5
  · rw [show ((script[i]).Kind==5)=true by simpa using k5]
    simp only [cond_true,Option.bind_some]
    obtain ⟨m',hm,hs1⟩:=hsit.lose
    refine ⟨A,Gs,noS,os,gs,⟨⟨m',hs1,?_⟩,hlens,by omega,hdone⟩,rfl⟩
    split at hlast<;>split<;>omega
  rw [show ((script[i]).Kind==5)=false by simpa using k5]
  simp only [cond_false]
  by_cases k6:2≤os.length
  · rw [decide_eq_true (by omega)]
    simp only [cond_true,List.length_map]
    have hw:IntKind.wrap IntKind.i64 ((os.length:Int) - 2)=((os.length - 2:Nat):Int):=by
      rw [Zb9 (by omega) (by omega)];omega
    have hk':os.length - 2<os.length:=by omega
    have hk2':os.length - 2<gs.length:=by omega
    simp only [hw,mg0,cond_true,mc,List.getElem?_eq_getElem hk',List.getElem?_eq_getElem hk2',Option.bind_some]
    have hp:(gs[os.length - 2],os[os.length - 2])∈gs.zip os:=by
      have q:os.length - 2<(gs.zip os).length:=by rw [List.length_zip];omega
      have e:(gs.zip os)[os.length - 2]=(gs[os.length - 2],os[os.length - 2]):=List.getElem_zip
      rw [← e]
      exact List.getElem_mem q
    obtain ⟨r2,s2,hagain⟩:=Ziu (hdone _ hp) hgood h8
    rw [hagain]
    simp only [Option.bind_some]
    exact ⟨A,Gs,x,os,gs,hup,rfl⟩
  · rw [decide_eq_false (by omega)]
    simp only [cond_false,Option.bind_some]
    exact ⟨A,Gs,x,os,gs,hup,rfl⟩
theorem Zq1 (hst : Start jobs seen) (hG : G ≤ 8) (script : List Zar) (c : Int) (hk : ∀ t, t ∈ script → t.Plan.Key.length ≤ 1048576) :
    ∀ (d i m:Nat) (A:Zag) (Gs:Grs) (x:Zaa) (os:List Zae) (gs:List Int),i+d=min script.length 100→d<m→EndI jobs seen G i A Gs x os gs →
    ∃ A' Gs' x',(∃ n,Sit jobs seen G n A' Gs' x')∧A'.Last≤63∧endL0 script c m i A Gs x os gs =
      some (A'.Groups,A'.Last,A'.Spans,A'.Plan.Kind,A'.Plan.Phase,A'.Plan.Shard,A'.Plan.Other,A'.Plan.Group,A'.Plan.Past,A'.Plan.Epoch,A'.Plan.Key,Gs',x'.Id,x'.Epoch,x'.State,x'.From,x'.To,x'.Jobs,x'.Seen):=by
  intro d
  induction d with
  | zero =>
    intro i m A Gs x os gs h hm hI
    obtain ⟨m,rfl⟩:∃ k,m=k+1:=⟨m - 1,by omega⟩
    obtain ⟨n,hs,hl⟩:=hI.sit
    refine ⟨A,Gs,x,⟨n,hs⟩,by split at hl<;>omega,?_⟩
    unfold endL0
    rw [ZaI.eq_2]
    have hc:(bif decide ((i:Int)<(script.length:Int)) then some (decide ((i:Int)<100)) else some false)=some false:=by
      by_cases c:i<script.length
      · rw [decide_eq_true (by omega),cond_true,decide_eq_false (by omega)]
      · rw [decide_eq_false (by omega),cond_false]
    rw [hc]
    rfl
  | succ d ih =>
    intro i m A Gs x os gs h hm hI
    obtain ⟨m,rfl⟩:∃ k,m=k+1:=⟨m - 1,by omega⟩
    obtain ⟨A',Gs',x',os',gs',hI',e⟩:=Zo8 hst hG script c hk hI (by omega) (by omega) m
    rw [e]
    exact ih (i+1) m A' Gs' x' os' gs' (by omega) (by omega) hI'
theorem Zq0 (hst : Start jobs seen) (hG : G ≤ 8) : ∀ (n k m : Nat) (A : Zag) (Gs : Grs) (x : Zaa), Sit jobs seen G n A Gs x → A.Last ≤ 63 → k + n < 20 → n < m →
    ∃ A' Gs' x',Sit jobs seen G 0 A' Gs' x'∧A'.Last≤63∧endL1 m k A Gs x=some (.inl (true,A'.Groups,A'.Last,A'.Spans,A'.Plan.Kind,A'.Plan.Phase,A'.Plan.Shard,A'.Plan.Other,A'.Plan.Group,A'.Plan.Past,A'.Plan.Epoch,A'.Plan.Key,Gs')):=by
  intro n
  induction n using Nat.strongRecOn with
  | ind n ih =>
    intro k m A Gs x hs hl hkn hm
    obtain ⟨m,rfl⟩:∃ k,m=k+1:=⟨m - 1,by omega⟩
    have eta:(⟨A.Groups,A.Last,A.Spans,⟨A.Plan.Kind,A.Plan.Phase,A.Plan.Shard,A.Plan.Other,A.Plan.Group,A.Plan.Past,A.Plan.Epoch,A.Plan.Key⟩⟩:Zag)=A:=rfl
    have etax:(⟨x.Id,x.Epoch,x.State,x.From,x.To,x.Jobs,x.Seen⟩:Zaa)=x:=rfl
    obtain ⟨hlen,_,_⟩:=hs.sound hl
    have h8:Gs.length≤1000:=by omega
    unfold endL1
    rw [ZaU.eq_2,decide_eq_true (by omega),cond_true,eta,etax]
    by_cases hn:n=0
    · subst hn
      obtain ⟨g,o,hnx⟩:=ZjM hs
      rw [hnx]
      exact ⟨A,Gs,x,hs,hl,rfl⟩
    · obtain ⟨g,o,A',Gs',x',m',st,_,hs1,hlt,hl1⟩:=ZlF hst hs hn hl
      obtain ⟨hnx,r,s,hsent,hheard⟩:=ZiF st h8
      rw [hnx]
      simp only [Option.bind_some,Bool.not_true,cond_false]
      rw [hsent]
      simp only [Option.bind_some]
      rw [hheard]
      simp only [Option.bind_some]
      rw [mwi k (by omega)]
      obtain ⟨A2,Gs2,x2,q1,q2,q3⟩:=ih m' hlt (k+1) m A' Gs' x' hs1 (by omega) (by omega) (by omega)
      unfold endL1 at q3
      rw [show ((k+1:Nat):Int)=(k:Int)+1 by omega] at q3
      exact ⟨A2,Gs2,x2,q1,q2,q3⟩
end
theorem ZiC (G : Int) (jobs : List Zaf) (seen : List Zac) (script : List Zar) (hl : jobs.length ≤ 1048576) (h : ∀ j, j ∈ jobs → j.Name.length ≤ 1048576) (hsn : seen.length ≤ 1048576) (hsj : ∀ r, r ∈ seen → r.Result.Jobs.length ≤ 1048576)
    (hsl:script.length≤1048576) (hk:∀ t,t∈script→t.Plan.Key.length≤1048576):ZbZ FM G jobs seen script=some true:=by
  unfold ZbZ
  rw [Zqw]
  simp only [Option.bind_some,Bool.not_true,cond_false]
  rcases ZoD G jobs seen hl h hsn hsj with ⟨a1,a2,a3,a4,a5,a6,a7,a8,a9,a10,a11,Gs,e⟩ | ⟨g1,g2,e,hst⟩
  · rw [e];rfl
  rw [e]
  simp only [Option.bind_some,Bool.not_true,cond_false,List.length_map]
  by_cases h16:jobs.length≤16
  rotate_left
  · rw [decide_eq_true (show (16:Int)<(jobs.length:Int) by omega)];rfl
  rw [decide_eq_false (show ¬ (16:Int)<(jobs.length:Int) by omega),cond_false]
  have hst:=hst h16
  have hI:EndI jobs seen G 0 ⟨G,1,[ZdH],noP⟩ (Zgt G.toNat jobs seen) noS [] []:=⟨⟨0,.quiet (ZnW hst G g1 g2),by show (2:Int) * 1≤_;decide⟩,rfl,by simp,fun p hp=>by simp at hp⟩
  obtain ⟨A',Gs',x',⟨n,hs⟩,hl',e'⟩:=Zq1 hst g2 script G hk (min script.length 100) 0 FM _ _ _ _ _ (by omega) (by show _<4000000;omega) hI
  obtain ⟨A2,Gs2,x2,hs2,hl2,e2⟩:=Zq0 hst g2 n 0 FM A' Gs' x' hs hl' (by have:=hs.le5;omega) (by have:=hs.le5;show _<4000000;omega)
  obtain ⟨o1,o2,hI2⟩:=hs2.over.1 rfl
  unfold endL0 at e'
  unfold endL1 at e2
  have et:Zbo FM script G 1 [ZdH] 0 0 0 0 0 0 0 [] (Zgt G.toNat jobs seen)=some (true,A2.Groups,A2.Last,A2.Spans,A2.Plan.Kind,A2.Plan.Phase,A2.Plan.Shard,A2.Plan.Other,A2.Plan.Group,A2.Plan.Past,A2.Plan.Epoch,A2.Plan.Key,Gs2):=by
    unfold Zbo
    rw [show ZaI FM script G FM 0 G 1 [ZdH] 0 0 0 0 0 0 0 [] (Zgt G.toNat jobs seen) 0 0 0 [] [] [] [] [] []=_ from e']
    simp only [Option.bind_some]
    rw [show ZaU FM FM 0 A'.Groups A'.Last A'.Spans A'.Plan.Kind A'.Plan.Phase A'.Plan.Shard A'.Plan.Other A'.Plan.Group A'.Plan.Past A'.Plan.Epoch A'.Plan.Key Gs' x'.Id x'.Epoch x'.State x'.From x'.To x'.Jobs x'.Seen=_ from e2]
    rfl
  rw [et]
  simp only [Option.bind_some,Bool.not_true,cond_false]
  rw [Zqb hI2 hl2]
  simp only [Option.bind_some,Bool.not_true,cond_false]
  rw [Zq9 hst hI2 hl2]
  simp only [Option.bind_some,cond_true,ZkE hl,ZmO hsn hsj]
end Go.T
set_option linter.unusedVariables false
namespace Go.T
open Go Go.Ab
theorem ZkD (G : Int) (jobs : List Zaf) (seen : List Zac) (script : List Zar) (h1 : List.length jobs ≤ 1048576 ∧ ∀ y, y ∈ jobs → Zaf.ok 1048576 y) (h3 : List.length seen ≤ 1048576 ∧ ∀ y, y ∈ seen → Zac.ok 1048576 y)
    (h2:List.length script≤1048576∧∀ y,y∈script→Zar.ok 1048576 y):ZbZ 4000000 G jobs seen script=some true :=
  ZiC G jobs seen script h1.1 (fun j hj=>(h1.2 j hj).1) h3.1 (fun r hr=>by
    obtain ⟨_,_,hp,_⟩:=h3.2 r hr
    exact hp.2.2.1.1) h2.1 (fun t ht=>by
    obtain ⟨_,hp,_⟩:=h2.2 t ht
    exact hp.2.2.2.2.2.2.2.1)
end Go.T
