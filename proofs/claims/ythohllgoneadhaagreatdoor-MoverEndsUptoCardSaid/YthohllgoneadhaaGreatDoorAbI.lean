import Derived.Test.YthohllgoneadhaaGreatDoorAbH
import Derived.Shelf.Strings.FieldsFuncAny
import Derived.Deep.Draws
import Derived.Shelf.Strings.Split
import Derived.Shelf.Spec.TrailingZeros
import Derived.Shelf.Strings.SlTrimAscii
import Derived.Below
import Derived.Laws.World
import Derived.Lib.Join
import Derived.Lib.Split
import Derived.Lib.FieldsP
import Derived.Lib.SlTrimSet
import Derived.Lib.ItoaNum
import Derived.Lib.AtoiAll
import Derived.Lib.TrailingZeros
import Derived.Lib.IndexMore
import Derived.Lib.ConvBytes
import Derived.Lib.Strings
import Derived.Sort.Grow
import Derived.Sort.Row
import Derived.Lib.LaidTab
namespace Go.Ab
open Go Go.RowKit Go.Proofs
def bs (l:List UInt8):ByteArray:=⟨l.toArray⟩
structure Keeps (w0 w:World):Prop where
  os:w.os=w0.os
  output:w.output=w0.output
  size:w0.heap.size≤w.heap.size
  old:∀ b,b<w0.heap.size→w.heap[b]? = w0.heap[b]?
theorem Keeps.refl (w:World):Keeps w w:=⟨rfl,rfl,Nat.le_refl _,fun _ _=>rfl⟩
theorem Keeps.drewN (w:World) (n:Nat):Keeps w (w.drewN n):=⟨rfl,rfl,Nat.le_refl _,fun _ _=>rfl⟩
theorem Keeps.below {w w':World} (h:Below w.heap.size w w'):Keeps w w':=⟨h.os,h.output,h.size,h.block⟩
theorem Keeps.fr {w0 w:World} (h:Keeps w0 w) (Ow:Nat→Prop):Fr Ow w0 w:=⟨h.os,h.output,h.size,fun b hb _=>h.old b hb⟩
theorem Keeps.bytes (w:World) (e:TypeId) (s:ByteArray):Keeps w (Lib.bytesWorld w e s) :=
  ⟨rfl,rfl,by simp [Lib.bytesWorld,World.freeze,World.alloc,World.drew,-World.alloc_eq,-World.drew_eq],fun j hj=>Lib.bytesWorld_at_old w e s j hj⟩
theorem ZiW {P : Program} {G : Gmap} {f : Nat} {args : List AV} {rv : AV} (hn : callB P f = true)
    (h:∀ (S:Nat→Prop) (ι:Imap) (w:World) (vs:Array Value),(∀ b,S b→b<w.heap.size)→GOk G S w→RepL S w ι args vs.toList →
      Calls P f vs w fun e w'=>∃ v,e = .returned v∧Keeps w w'∧∀ S w,IRep S w rv v):FC P G f [] args rv []:=by
  refine ⟨hn,fun o x hx=>by simp [lk] at hx,fun S0 ι0 w0 vs h0 hG hob hι hL=>?_⟩
  refine (h S0 ι0 w0 vs h0 hG hL).mono ?_
  rintro e w' ⟨v,rfl,hk,hrep⟩
  exact ⟨v,S0,ι0,rfl,hk.fr _,fun b hb=>⟨.inl hb,Nat.lt_of_lt_of_le (h0 b hb) hk.size⟩,fun b hb=>hb,Imap.le_refl _,fun o ho=>hι o (Nat.zero_le _),.imm _ _ (hrep _ _),
    ⟨fun o x hx=>by simp [lk] at hx,fun o x hx=>by simp [lk] at hx,fun o o' x x' hx=>by simp [lk] at hx⟩⟩
theorem Zos {P : Program} {G : Gmap} {f : Nat} {args : List AV} {xs : List (List UInt8)} (hn : callB P f = true) (hl : xs.length ≤ LIM)
    (h:∀ (S:Nat→Prop) (ι:Imap) (w:World) (vs:Array Value),(∀ b,S b→b<w.heap.size)→GOk G S w→RepL S w ι args vs.toList →
      Calls P f vs w fun e w'=>Keeps w w'∧((xs=[]∧∃ a,e = .returned (.slice a 0 0))∨∃ b o cap,e = .returned (.slice (some ⟨b,o,none⟩) xs.length cap)∧xs.length≤cap∧w.heap.size≤b∧b<w'.heap.size ∧
        ∀ (i:Nat) s,xs[i]? = some s→w'.cell? ⟨b,o+i,none⟩=some (.string (bs s)))):FC P G f [] args (.sl (xs.map cStr)) []:=by
  refine ⟨hn,fun o x hx=>by simp [lk] at hx,fun S0 ι0 w0 vs h0 hG hob hι hL=>?_⟩
  refine (h S0 ι0 w0 vs h0 hG hL).mono ?_
  rintro e w' ⟨hk,h⟩
  rcases h with ⟨rfl,a,rfl⟩ | ⟨b,o,cap,rfl,hcap,hb1,hb2,hc⟩
  · refine ⟨_, S0, ι0, rfl, hk.fr _, fun b hb => ⟨.inl hb, Nat.lt_of_lt_of_le (h0 b hb) hk.size⟩, fun b hb => hb, Imap.le_refl _, fun o ho => hι o (Nat.zero_le _), .imm _ _ ?_,
      ⟨fun o x hx=>by simp [lk] at hx,fun o x hx=>by simp [lk] at hx,fun o o' x x' hx=>by simp [lk] at hx⟩⟩
    cases a with
    | none=>exact .snil
    | some a=>exact .sl [] a 0 0 (fun _=>[]) (Nat.le_refl _) (by simp [LIM]) (fun h=>absurd rfl h) (fun i r hr=>by simp at hr) (fun i j v hi=>by simp at hi) (fun i j r x v hr=>by simp at hr)
  · refine ⟨_, fun k => S0 k ∨ k = b, ι0, rfl, hk.fr _, fun k hb => ?_, fun k hb => .inl hb, Imap.le_refl _, fun o ho => hι o (Nat.zero_le _), .imm _ _ ?_,
      ⟨fun o x hx=>by simp [lk] at hx,fun o x hx=>by simp [lk] at hx,fun o o' x x' hx=>by simp [lk] at hx⟩⟩
    · rcases hb with hb | rfl
      · exact ⟨.inl hb,Nat.lt_of_lt_of_le (h0 k hb) hk.size⟩
      · exact ⟨Or.inr (Or.inl hb1),hb2⟩
    · have e:xs.length=(xs.map cStr).length:=by simp
      rw [e]
      refine .sl (xs.map cStr) ⟨b,o,none⟩ cap 1 (fun i=>[.string (bs (xs.getD i []))]) (by simpa using hcap) (by simpa using hl) (fun _=>⟨.inr rfl,rfl⟩) (fun i r hr=>?_) (fun i j v hi hv=>?_) (fun i j r x v hr hx hv=>?_)
      · rw [List.getElem?_map,Option.map_eq_some_iff] at hr
        obtain ⟨s,_,rfl⟩:=hr
        exact ⟨rfl,rfl⟩
      · have hi:i<xs.length:=by simpa using hi
        cases j with
        | succ j=>simp at hv
        | zero =>
          simp only [List.getElem?_cons_zero,Option.some.injEq] at hv
          subst hv
          have q:=hc i xs[i] (by simp)
          have e2:xs.getD i []=xs[i]:=by simp [List.getD_eq_getElem?_getD,hi]
          refine ⟨?_,rfl⟩
          simp only [Nat.mul_one,Nat.add_zero,e2]
          exact q
      · rw [List.getElem?_map,Option.map_eq_some_iff] at hr
        obtain ⟨s,hs,rfl⟩:=hr
        cases j with
        | succ j=>simp at hv
        | zero =>
          simp only [List.getElem?_cons_zero,Option.some.injEq] at hv hx
          subst hv
          simp only [cStr,List.getElem?_cons_zero,Option.some.injEq] at hx
          subst hx
          rw [List.getD_eq_getElem?_getD,hs]
          exact .str (bs s)
theorem args1 {S:Nat→Prop} {w:World} {ι:Imap} {a:AV} {vs:Array Value} (h:RepL S w ι [a] vs.toList):∃ v,vs = #[v]∧Rep S w ι a v:=by
  obtain ⟨l⟩:=vs
  match l,h with
  | [],h=>have:=h.1;simp at this
  | [v],h=>exact ⟨v,rfl,h.2 0 a v rfl rfl⟩
  | _::_::_,h=>have:=h.1;simp at this
theorem args2 {S:Nat→Prop} {w:World} {ι:Imap} {a b:AV} {vs:Array Value} (h:RepL S w ι [a,b] vs.toList):∃ u v,vs = #[u,v]∧Rep S w ι a u∧Rep S w ι b v:=by
  obtain ⟨l⟩:=vs
  match l,h with
  | [],h=>have:=h.1;simp at this
  | [_],h=>have:=h.1;simp at this
  | [u,v],h=>exact ⟨u,v,rfl,h.2 0 a u rfl rfl,h.2 1 b v rfl rfl⟩
  | _::_::_::_,h=>have:=h.1;simp at this
theorem GOk.cell {G:Gmap} {S:Nat→Prop} {w:World} (h:GOk G S w) {g:Nat} {row:List AV} (hg:G g=some row) {j:Nat} {k:IntKind} {n:Int} (hj:row[j]? = some (.int k n)):w.cell? ⟨g,j,none⟩=some (.int k n):=by
  have:=(h g row hg).1
  generalize hp:Value.pointer (some ⟨g,0,none⟩)=v at this
  cases this with
  | rp row off blk base vals hS hl hcell hr =>
    injection hp with hp
    injection hp with hp
    injection hp with h1 h2 h3
    subst h1
    have hb:base=0:=by omega
    subst hb
    have hlt:j<vals.length:=by rw [← hl];exact (List.getElem?_eq_some_iff.1 hj).1
    have hv:vals[j]? = some vals[j]:=List.getElem?_eq_getElem hlt
    have q1:=hr j _ _ hj hv
    have q2:=(hcell j _ hv).1
    generalize vals[j]=x at q1 q2
    cases q1
    simpa [Zbr] using q2
theorem Zdg (l:List UInt8):(bs l).data.toList=l:=by simp [bs]
theorem Zew (l:List UInt8):(bs l).size=l.length:=by simp [bs,ByteArray.size]
theorem Zk5 (b:ByteArray):bs b.data.toList=b:=by cases b;simp [bs]
theorem Zhb {S:Nat→Prop} {w:World} (l:List UInt8):IRep S w (.str l) (.string ⟨l.toArray⟩):=by
  have:=IRep.str (S:=S) (w:=w) ⟨l.toArray⟩
  simpa using this
theorem Zre {P : Program} {G : Gmap} {f g : Nat} {ml : Int} (hn : callB P f = true) (hg : G g = some [.int .i64 ml])
    (c:∀ (s sep:ByteArray) (w:World),s.size<4294967281→w.cell? ⟨g,0,none⟩=some (.int .i64 ml) →
      Calls P f #[.string s,.string sep] w fun e w'=>e = .returned (.tuple #[.string ⟨(Lib.cut s.data.toList sep.data.toList).1.toArray⟩,.string ⟨(Lib.cut s.data.toList sep.data.toList).2.1.toArray⟩,.bool (Lib.cut s.data.toList sep.data.toList).2.2])∧∃ n,w'=w.drewN n)
    (s sep:List UInt8) (hs:s.length<4294967281):FC P G f [] [.str s,.str sep] (.tup [.str (Lib.cut s sep).1,.str (Lib.cut s sep).2.1,.bool (Lib.cut s sep).2.2]) []:=by
  refine ZiW hn fun S ι w vs _ hG hL=>?_
  obtain ⟨u,v,rfl,h1,h2⟩:=args2 hL
  obtain rfl:=h1.str_inv
  obtain rfl:=h2.str_inv
  refine (c (bs s) (bs sep) w (by rw [Zew];exact hs) (hG.cell hg rfl)).mono ?_
  rintro e w' ⟨rfl,n,rfl⟩
  refine ⟨_,rfl,Keeps.drewN _ _,fun S w=>?_⟩
  simp only [Zdg]
  refine .tup _ _ rfl fun j x v hx hv=>?_
  match j,hx,hv with
  | 0,hx,hv=>simp at hx hv;subst hx;subst hv;exact Zhb _
  | 1,hx,hv=>simp at hx hv;subst hx;subst hv;exact Zhb _
  | 2,hx,hv=>simp at hx hv;subst hx;subst hv;exact .bool _
  | j+3,hx,hv=>simp at hx
theorem ZqE {P : Program} {G : Gmap} {f : Nat} (hn : callB P f = true)
    (c:∀ (s cutset:ByteArray) (w:World),s.size≤9223372036854775807→cutset.size<4294967281→(∀ (j:Nat) b,cutset.data.toList[j]? = some b→b.toNat<128) →
      Calls P f #[.string s,.string cutset] w fun e w'=>e = .returned (.string ⟨(Lib.trimS s.data.toList cutset.data.toList).toArray⟩)∧Below w.heap.size w w')
    (s cs:List UInt8) (hs:s.length≤LIM) (hcs:cs.length≤LIM) (ha:(cs.all fun b=>decide (b.toNat<128))=true):FC P G f [] [.str s,.str cs] (.str (Lib.trimS s cs)) []:=by
  refine ZiW hn fun S ι w vs _ hG hL=>?_
  obtain ⟨u,v,rfl,h1,h2⟩:=args2 hL
  obtain rfl:=h1.str_inv
  obtain rfl:=h2.str_inv
  unfold LIM at hs hcs
  refine (c (bs s) (bs cs) w (by rw [Zew];omega) (by rw [Zew];omega) (fun j b hb=>?_)).mono ?_
  · rw [Zdg] at hb
    have:=List.all_eq_true.1 ha b (List.mem_of_getElem? hb)
    simpa using this
  rintro e w' ⟨rfl,hb⟩
  refine ⟨_,rfl,Keeps.below hb,fun S w=>?_⟩
  simp only [Zdg]
  exact Zhb _
theorem ZqI {P : Program} {G : Gmap} {f : Nat} (hn : callB P f = true)
    (c:∀ (s:ByteArray) (v:Int) (w:World),s.size≤9223372036854775806→Lib.atoiAll s.data.toList = .ok v→Calls P f #[.string s] w fun e w'=>e = .returned (.tuple #[.int .i64 v,.nilIface])∧(w'=w∨∃ t e,w'=Lib.bytesWorld w e t))
    (s:List UInt8) (v:Int) (hs:s.length≤LIM) (h:Lib.atoiAll s = .ok v):FC P G f [] [.str s] (.tup [.int .i64 v,.con .nilIface]) []:=by
  refine ZiW hn fun S ι w vs _ hG hL=>?_
  obtain ⟨u,rfl,h1⟩:=args1 hL
  obtain rfl:=h1.str_inv
  unfold LIM at hs
  refine (c (bs s) v w (by rw [Zew];omega) (by rw [Zdg];exact h)).mono ?_
  rintro e w' ⟨rfl,hw⟩
  refine ⟨_,rfl,?_,fun S w=>?_⟩
  · rcases hw with rfl | ⟨t,e,rfl⟩
    · exact Keeps.refl _
    · exact Keeps.bytes _ _ _
  · refine .tup _ _ rfl fun j x v hx hv=>?_
    match j,hx,hv with
    | 0,hx,hv=>simp at hx hv;subst hx;subst hv;exact .int _ _
    | 1,hx,hv=>simp at hx hv;subst hx;subst hv;exact .con _ rfl
    | j+2,hx,hv=>simp at hx
theorem Zrf {P : Program} {G : Gmap} {f g : Nat} (hn : callB P f = true) (hg : G g = some (Lib.deBruijn64tab.map fun n => .int .u8 n))
    (c:∀ (x:Nat) (w:World),x<18446744073709551616→(x≠0→TabAt g Lib.deBruijn64tab w)→Calls P f #[.int .u64 x] w fun e w'=>e = .returned (.int .i64 (Lib.ctz 64 x))∧w'=w)
    (n:Int) (h0:0≤n) (h1:n<18446744073709551616):FC P G f [] [.int .u64 n] (.int .i64 (Lib.ctz 64 n.toNat:Nat)) []:=by
  refine ZiW hn fun S ι w vs _ hG hL=>?_
  obtain ⟨u,rfl,h2⟩:=args1 hL
  obtain rfl:=h2.int_inv
  obtain ⟨k,rfl⟩:=Int.eq_ofNat_of_zero_le h0
  refine (c k w (by omega) (fun _ j hj=>hG.cell hg (by rw [List.getElem?_map,List.getD_eq_getElem?_getD,List.getElem?_eq_getElem hj];rfl))).mono ?_
  rintro e w' ⟨rfl,rfl⟩
  exact ⟨_,rfl,Keeps.refl _,fun S w=>.int _ _⟩
theorem ZqF {P : Program} {G : Gmap} {f : Nat} (hn : callB P f = true)
    (c0:∀ (a:Option Addr) (c:Nat) (sep:ByteArray) (w:World),Calls P f #[.slice a 0 c,.string sep] w fun e w'=>e = .returned (.string ⟨#[]⟩)∧w'=w)
    (c:∀ (bk o c:Nat) (xs:List ByteArray) (sep:ByteArray) (w:World),(∀ (j:Nat) x,xs[j]? = some x→w.cell? ⟨bk,o+j,none⟩=some (.string x))→bk<w.heap.size→xs.length≤140737488355328→xs.length≤c →
      (Lib.join (xs.map (·.data.toList)) sep.data.toList).length≤140737488355328 →
      Calls P f #[.slice (some ⟨bk,o,none⟩) xs.length c,.string sep] w fun e w'=>e = .returned (.string ⟨(Lib.join (xs.map (·.data.toList)) sep.data.toList).toArray⟩)∧Below w.heap.size w w')
    (xs:List (List UInt8)) (sep:List UInt8) (hl:(Lib.join xs sep).length≤140737488355328):FC P G f [] [.sl (xs.map cStr),.str sep] (.str (Lib.join xs sep)) []:=by
  refine ZiW hn fun S ι w vs hS hG hL=>?_
  obtain ⟨u,v,rfl,h1,h2⟩:=args2 hL
  obtain rfl:=h2.str_inv
  cases xs with
  | nil =>
    have hu:∃ a c,u = .slice a 0 c:=by
      cases h1 with
      | imm _ _ h=>cases h with
        | snil=>exact ⟨_,_,rfl⟩
        | sl _ a cap sz vals hcap hlim hS hlen hcell hrep=>exact ⟨_,_,rfl⟩
    obtain ⟨a,c',rfl⟩:=hu
    refine (c0 a c' (bs sep) w).mono ?_
    rintro e w' ⟨rfl,rfl⟩
    exact ⟨_,rfl,Keeps.refl _,fun S w=>Zhb []⟩
  | cons x r =>
    cases h1 with
    | imm _ _ h =>
      generalize hX:List.map cStr (x::r)=X at h
      have hXl:X.length=(x::r).length:=by rw [← hX];simp
      cases h with
      | snil=>simp at hX
      | sl _ a cap sz vals hcap hlim hS' hlen hcell hrep =>
        have hne:X≠[]:=by intro e;rw [e] at hX;simp at hX
        obtain ⟨hSa,hsp⟩:=hS' hne
        obtain ⟨bk,o,sp⟩:=a
        simp only at hSa hsp
        subst hsp
        have hsz:sz=1:=by
          have:=(hlen 0 (cStr x) (by rw [← hX];rfl)).1
          simpa [cStr] using this.symm
        subst hsz
        have e0:((x::r).map bs).map (·.data.toList)=x::r:=by
          rw [List.map_map]
          conv=>rhs;rw [← List.map_id (x::r)]
          exact List.map_congr_left fun l _=>Zdg l
        have key:=c bk o cap ((x::r).map bs) (bs sep) w (fun j y hy=>by
          rw [List.getElem?_map,Option.map_eq_some_iff] at hy
          obtain ⟨s,hs,rfl⟩:=hy
          have hr:X[j]? = some (cStr s):=by rw [← hX,List.getElem?_map,hs];rfl
          have hj:j<X.length:=ZaQ hr
          have hv:(vals j)[0]? = some ((vals j)[0]'(by rw [(hlen j _ hr).2];decide)):=List.getElem?_eq_getElem _
          have q1:=hrep j 0 _ _ _ hr rfl hv
          have q2:=(hcell j 0 _ hj hv).1
          simp only [Nat.mul_one,Nat.add_zero,Zbr] at q2
          rw [q2]
          exact congrArg some ((Rep.imm (ι:=ι) _ _ q1).str_inv)) (hS _ hSa) (by rw [List.length_map,← hXl];unfold LIM at hlim;omega) (by rw [List.length_map,← hXl];exact hcap) (by rw [e0,Zdg];exact hl)
        rw [e0,Zdg,List.length_map,← hXl] at key
        refine key.mono ?_
        rintro e w' ⟨rfl,hb⟩
        exact ⟨_,rfl,Keeps.below hb,fun S w=>Zhb _⟩
def ZgL (s sep:List UInt8):List (List UInt8):=(Lib.splitB (bs sep) 0 (Lib.countB (bs s) (bs sep)) (bs s)).map (·.data.toList)
theorem Zpt {P : Program} {G : Gmap} {f g : Nat} {ml : Int} {t : TypeId} (hn : callB P f = true) (hg : G g = some [.int .i64 ml])
    (c:∀ (s sep:ByteArray) (w:World),s.size<4294967281→w.cell? ⟨g,0,none⟩=some (.int .i64 ml)→1≤sep.size →
      Calls P f #[.string s,.string sep] w fun e w'=>e = .returned (.slice (some ⟨w.heap.size,0,none⟩) (Lib.countB s sep+1) (Lib.countB s sep+1))∧w'=w.alloc (.cells ((Lib.splitB sep 0 (Lib.countB s sep) s).map Value.string).toArray t))
    (s sep:List UInt8) (hs:s.length≤1048576000) (h1:1≤sep.length):FC P G f [] [.str s,.str sep] (.sl ((ZgL s sep).map cStr)) []:=by
  have hlen:=Lib.splitB_all (bs sep) (by rw [Zew];exact h1) 0 _ (bs s) rfl
  have hle:=Lib.countB_le (bs sep) (by rw [Zew];exact h1) (bs s).size (bs s) (Nat.le_refl _)
  have hlen':(ZgL s sep).length=Lib.countB (bs s) (bs sep)+1:=by unfold ZgL;rw [List.length_map];exact hlen
  rw [Zew] at hle
  refine Zos hn (by unfold LIM;omega) fun S ι w vs _ hG hL=>?_
  obtain ⟨u,v,rfl,q1,q2⟩:=args2 hL
  obtain rfl:=q1.str_inv
  obtain rfl:=q2.str_inv
  refine (c (bs s) (bs sep) w (by rw [Zew];omega) (hG.cell hg rfl) (by rw [Zew];exact h1)).mono ?_
  rintro e w' ⟨rfl,rfl⟩
  refine ⟨⟨rfl,rfl,by show _≤(w.heap.push _).size;simp,fun b hb=>Below.heap_alloc _ _ _ hb⟩,.inr ⟨w.heap.size,0,Lib.countB (bs s) (bs sep)+1,by rw [hlen'],by omega,Nat.le_refl _,by show _<(w.heap.push _).size;simp,fun i x hx=>?_⟩⟩
  unfold ZgL at hx
  rw [List.getElem?_map,Option.map_eq_some_iff] at hx
  obtain ⟨y,hy,rfl⟩:=hx
  rw [Zk5]
  simp [World.cell?,World.alloc,-World.alloc_eq,hy]
def ZeU (x:Nat):Bool:=x==32 || x==9
def ZfF (p:Nat→Bool) (s:List UInt8):List (List UInt8):=(Lib.goFieldsP p (bs s)).map (·.data.toList)
theorem Zot {P : Program} {G : Gmap} {f g t : Nat} (hn : callB P f = true) (p : Nat → Bool) (hp : ∀ w, PredAtRunes P g #[] p w)
    (c:∀ (s:ByteArray) (w:World),s.size≤4294967296→PredAtRunes P g #[] p w →
      Calls P f #[.string s,.func (.func g) #[] #[]] w fun e w'=>∃ A,e = .returned (.slice (some ⟨A,0,none⟩) (Lib.goFieldsP p s).length (Lib.goFieldsP p s).length)∧w.heap.size≤A ∧
      w'.ownsRow w.heap.size t 1 (.slice (some ⟨A,0,none⟩) (Lib.goFieldsP p s).length (Lib.goFieldsP p s).length) (Lib.goFieldsP p s).length ((Lib.goFieldsP p s).map Value.string)∧Below w.heap.size w w')
    (s:List UInt8) (hs:s.length≤LIM) (hl:(ZfF p s).length≤LIM) (hgl:Nat.blt g FB=true):FC P G f [] [.str s,.fn g []] (.sl ((ZfF p s).map cStr)) []:=by
  refine Zos hn hl fun S ι w vs _ hG hL=>?_
  obtain ⟨u,v,rfl,q1,q2⟩:=args2 hL
  obtain rfl:=q1.str_inv
  have hv:v = .func (.func g) #[] #[]:=by
    obtain ⟨us,rfl,hl,_⟩:=q2.fn_inv
    have:us = #[]:=by apply Array.eq_empty_of_size_eq_zero;simpa using hl.symm
    rw [this,Zij hgl]
  subst hv
  refine (c (bs s) w (by rw [Zew];unfold LIM at hs;omega) (hp w)).mono ?_
  rintro e w' ⟨A,rfl,hA,hown,hb⟩
  have hlen:(ZfF p s).length=(Lib.goFieldsP p (bs s)).length:=by simp [ZfF]
  refine ⟨Keeps.below hb,.inr ⟨A,0,(Lib.goFieldsP p (bs s)).length,by rw [hlen],by omega,hA,?_,fun i x hx=>?_⟩⟩
  all_goals
    obtain ⟨_,⟨q,_⟩ | ⟨A',cap,cur,q,_,hh,_,_,hsz,htake⟩⟩:=hown
    · cases q
    · injection q with q _ q3
      injection q with q
      injection q with q
      subst q
      subst q3
      first
        | exact (Array.getElem?_eq_some_iff.1 hh).1
        | (unfold ZfF at hx
           rw [List.getElem?_map,Option.map_eq_some_iff] at hx
           obtain ⟨y,hy,rfl⟩:=hx
           rw [Zk5]
           have:cur.toList[i]? = some (.string y):=by
             have h:=congrArg (fun l=>l[i]?) htake
             simp only [List.getElem?_map,hy,Option.map_some] at h
             rw [List.getElem?_take] at h
             split at h
             · exact h
             · cases h
           simp only [World.cell?,hh,Nat.zero_add]
           simpa using this)
end Go.Ab
namespace Go.Ab
structure Gv where
  ml:Int
  e0:Value
  e1:Value
  h0:e0 = .nilIface∨∃ te pe,e0 = .iface te pe
  h1:e1 = .nilIface∨∃ te pe,e1 = .iface te pe
theorem WkR.set:∀ {xs ys:List (List AV)} (i:Nat) {r q:List AV},WkR xs ys→WkL r q→WkR (xs.set i r) (ys.set i q)
  | [],[],_,_,_,_,_=>trivial
  | _::_,_::_,0,_,_,h,h'=>⟨h',h.2⟩
  | _::_,_::_,i+1,_,_,h,h'=>⟨h.1,WkR.set i h.2 h'⟩
theorem WkR.setm {α:Type} {c:α→List AV} {l:List α} {xs:List (List AV)} {i:Nat} {row:List AV} {x:α} (h:WkR xs (List.map c l)) (h':WkL row (c x)):WkR (xs.set i row) (List.map c (l.set i x)):=by
  rw [List.map_set]
  exact WkR.set i h h'
set_option maxRecDepth 100000
end Go.Ab
namespace Go.Ab
open Go.Sort (Holds putRow grow)
theorem ZqM {P:Program} {G:Gmap} {S:Nat→Prop} {w:World} (hG:GOk G S w) {g:Nat} {k:IntKind} {zs:List Int} (hg:G g=some (zs.map fun n=>AV.int k n)) {name:String} (hname:P.globalNamed name=some g):Lib.TabIs P w name k zs:=by
  obtain ⟨_,cs,t,fr,e,es⟩:=hG g _ hg
  unfold Lib.TabIs World.var?
  rw [hname]
  simp only [Option.bind_some,e,Option.some.injEq]
  apply Array.ext_getElem?
  intro i
  rw [show ((zs.map fun z=>Value.int k z).toArray)[i]? = (zs.map fun z=>Value.int k z)[i]? by simp,List.getElem?_map]
  by_cases hi:i<zs.length
  · have h1:=hG.cell hg (j:=i) (k:=k) (n:=zs[i]) (by rw [List.getElem?_map,List.getElem?_eq_getElem hi];rfl)
    simp only [World.cell?,e] at h1
    rw [List.getElem?_eq_getElem hi]
    exact h1
  · rw [List.getElem?_eq_none (by omega),Array.getElem?_eq_none (by rw [es];simp;omega)]
    rfl
theorem ZqG {P : Program} {G : Gmap} {f g : Nat} (hn : callB P f = true) (hg : G g = some (Lib.pow10Tab.map fun (n : Int) => AV.int .u64 n)) (hname : P.globalNamed "internal/strconv.uint64pow10" = some g)
    (c : ∀ (n : Int), -9223372036854775808 ≤ n → n ≤ 9223372036854775807 → ∀ w : World, Lib.TabIs P w "internal/strconv.uint64pow10" .u64 Lib.pow10Tab →
      Calls P f #[.int .i64 n] w fun e w'=>e = .returned (.string ⟨(Lib.itoa n).toArray⟩)∧∃ k os,w'=grow (w.drewN k) os)
    (n:Int) (h0 : -9223372036854775808≤n) (h1:n≤9223372036854775807):FC P G f [] [.int .i64 n] (.str (Lib.itoa n)) []:=by
  refine ZiW hn fun S ι w vs _ hG hL=>?_
  obtain ⟨u,rfl,h2⟩:=args1 hL
  obtain rfl:=h2.int_inv
  refine (c n h0 h1 w (ZqM hG hg hname)).mono ?_
  rintro e w' ⟨rfl,k,os,rfl⟩
  exact ⟨_,rfl,⟨rfl,rfl,by rw [Sort.size_grow];exact Nat.le_add_right _ _,fun b hb=>(Sort.heap_grow_old (w.drewN k) os hb).trans rfl⟩,fun S w=>Zhb _⟩
end Go.Ab
