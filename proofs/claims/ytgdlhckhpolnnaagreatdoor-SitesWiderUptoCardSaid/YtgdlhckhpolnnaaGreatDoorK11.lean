/- Part 12 of the proof (its last part says what is proved). No condition. -/
import Derived.Great.BuildSlice
import Derived.Lib.LaidTab
import Derived.Test.YtgdlhckhpolnnaaGreatDoorK10
namespace Go.Proofs.YtgdlhckhpolnnaaGreatDoor
set_option maxRecDepth 100000
set_option maxHeartbeats 8000000
open Go.RowKit Go.Proofs.Tryz
section
namespace Q
inductive MK|i (k:IntKind) (n:Int)|s (b:ByteArray)
 deriving DecidableEq
def MK.val:MK→Value
 |.i k n=>.int k n
 |.s b=>.string b
def qbo:TypeDesc→MK→Bool
 |.int k,.i j _=>k=j
 |.string,.s _=>true
 |_,_=>false
inductive V where
 |s (v:Value)|any
 |agg (cs:List V)|tup (cs:List V)
 |ifc (t:TypeId) (v:V)
 |fn (f:Fn) (cs:List V)
 |row (k bw:Nat) (es:List (List V)) (tok:Option Nat)
 |rp (e:List V) (off:Nat)
 |ptr (i off:Nat)|sl (i off len cap:Nat)|mp (i:Nat)
 |rmap (d:TypeDesc) (es:List (MK×V))
structure Gh where
 ι:Nat→Option Nat
 fz:Nat→Nat→Prop
 tk:Nat→Option (Value×Nat)
inductive VR (g:Gh) (w:World):V→Value→Prop
 |s (v:Value):VR g w (.s v) v
 |any (v:Value):VR g w .any v
 |agg (cs:List V) (vs:List Value) (hl:cs.length=vs.length) (h:∀(i:Nat) c v,cs[i]? =some c→vs[i]? =some v→VR g w c v):VR g w (.agg cs) (.agg vs.toArray)
 |tup (cs:List V) (vs:List Value) (hl:cs.length=vs.length) (h:∀(i:Nat) c v,cs[i]? =some c→vs[i]? =some v→VR g w c v):VR g w (.tup cs) (.tuple vs.toArray)
 |ifc (t:TypeId) (x:V) (v:Value) (h:VR g w x v):VR g w (.ifc t x) (.iface t v)
 |fn (f:Fn) (cs:List V) (vs:List Value) (hl:cs.length=vs.length) (h:∀(i:Nat) c v,cs[i]? =some c→vs[i]? =some v→VR g w c v):VR g w (.fn f cs) (.func f #[] vs.toArray)
 |row (k bw:Nat) (es:List (List V)) (tok:Option Nat) (a:Option Addr) (c:Nat) (f:Nat→Nat→Value) (h1:es.length≤c) (h2:c≤maxLen) (h3:es.length*bw≤140737488355328) (hk:∀e∈es,e.length=k)
  (ha:0<es.length→∃b off,a=some ⟨b,off,none⟩∧∀i<es.length,∀j<k,g.fz b (off+i*k+j)∧w.cell? ⟨b,off+i*k+j,none⟩=some (f i j))
  (hr:∀(i:Nat) e (j:Nat) x,es[i]? =some e→e[j]? =some x→VR g w x (f i j))
  (ht:∀t,tok=some t→∃u n,g.tk t=some (u,n)∧es.length≤n∧(es.length=n→u=.slice a es.length c)):VR g w (.row k bw es tok) (.slice a es.length c)
 |rp (e:List V) (off:Nat) (b o:Nat) (f:Nat→Value) (hc:∀j<e.length,g.fz b (o+j)∧w.cell? ⟨b,o+j,none⟩=some (f j)) (hr:∀(j:Nat) x,e[j]? =some x→VR g w x (f j)):VR g w (.rp e off) (.pointer (some ⟨b,o+off,none⟩))
 |ptr (i off b:Nat) (h:g.ι i=some b):VR g w (.ptr i off) (.pointer (some ⟨b,off,none⟩))
 |sl (i off len cap b:Nat) (h:g.ι i=some b) (hc:len≤cap) (hm:cap≤maxLen):VR g w (.sl i off len cap) (.slice (some ⟨b,off,none⟩) len cap)
 |mp (i b:Nat) (h:g.ι i=some b):VR g w (.mp i) (.map (some b))
 |rmap (d:TypeDesc) (es:List (MK×V)) (b:Nat) (ents:Array MapEntry) (clock:Nat) (hb:∀o,g.fz b o) (hh:w.heap[b]? =some (.map ents clock)) (hl:es.length=ents.toList.length) (hk:∀(i:Nat) x e,es[i]? =some x→ents.toList[i]? =some e→x.1.val=e.key) (ho:∀x∈es,qbo d x.1=true)
  (hr:∀(i:Nat) x e,es[i]? =some x→ents.toList[i]? =some e→VR g w x.2 e.val):VR g w (.rmap d es) (.map (some b))
def Gh.own (g:Gh)(i b:Nat):Prop:=g.ι i=some b∨∃v n,g.tk i=some (v,n)∧v.ownBlock=some b
structure Le (g:Gh)(w:World)(g':Gh)(w':World):Prop where
 os:w'.os=w.os
 output:w'.output=w.output
 size:w.heap.size≤w'.heap.size
 fz:∀b o,g.fz b o→g'.fz b o∧w'.cell? ⟨b,o,none⟩=w.cell? ⟨b,o,none⟩
 ι:∀i b,g.ι i=some b→g'.ι i=some b
 tk:∀i u n,g.tk i=some (u,n)→∃u' n',g'.tk i=some (u',n')∧(n<n'∨u=u'∧n=n')
 fzb:∀b,(∀o,g.fz b o)→w'.heap[b]? =w.heap[b]?
 kept:∀b,b<w.heap.size→(∀i,¬g.own i b)→w'.heap[b]? =w.heap[b]?
 own:∀i b,g'.own i b→g.own i b∨w.heap.size≤b
 fzn:∀b o,g'.fz b o→g.fz b o∨w.heap.size≤b∨∃i,g.own i b
section
variable {g g' h:Gh} {w w' u:World}
theorem Le.refl (g:Gh)(w:World):Le g w g w:=⟨rfl,rfl,cf _,fun _ _ h=>⟨h,rfl⟩,fun _ _ h=>h,fun _ u n h=>⟨u,n,h,.inr ⟨rfl,rfl⟩⟩,fun _ _=>rfl,fun _ _ _=>rfl,fun _ _ h=>.inl h,fun _ _ h=>.inl h⟩
theorem Le.trans (h1:Le g w g' w')(C:Le g' w' h u):Le g w h u:=by
 refine⟨C.os.trans h1.os,C.output.trans h1.output,fR h1.size C.size,fun b o j=>?_,fun i b hi=>C.ι _ _ (h1.ι _ _ hi),fun i v n hi=>?_,fun b j=>(C.fzb b fun o=>(h1.fz b o (j o)).1).trans (h1.fzb b j),fun b j ho=>?_,fun i b j=>?_,fun b o j=>?_⟩
 ·obtain⟨R,I⟩:=h1.fz b o j
  obtain⟨Y,J⟩:=C.fz b o R;exact⟨Y,J.trans I⟩
 ·obtain⟨u1,n1,R,I⟩:=h1.tk i v n hi;obtain⟨u2,n2,Y,J⟩:=C.tk i u1 n1 R;refine⟨u2,n2,Y,?_⟩;rcases I with I|⟨rfl,rfl⟩
  ·rcases J with J|⟨rfl,rfl⟩
   ·exact .inl (by omega)
   exact .inl I
  exact J
 ·refine(C.kept b (Nat.lt_of_lt_of_le j h1.size) fun i hi=>?_).trans (h1.kept b j ho)
  rcases h1.own i b hi with h|h;·exact ho i h
  omega
 ·rcases C.own i b j with h|h
  ·exact h1.own i b h
  exact .inr (fR h1.size h)
 rcases C.fzn b o j with h|h|⟨i,h⟩;·exact h1.fzn b o h
 ·exact .inr (.inl (fR h1.size h))
 rcases h1.own i b h with h|h;·exact .inr (.inr ⟨i,h⟩)
 exact .inr (.inl h)
structure Le0 (g:Gh)(w:World)(g':Gh)(w':World):Prop where
 fz:∀b o,g.fz b o→g'.fz b o∧w'.cell? ⟨b,o,none⟩=w.cell? ⟨b,o,none⟩
 ι:∀i b,g.ι i=some b→g'.ι i=some b
 tk:∀i u n,g.tk i=some (u,n)→∃u' n',g'.tk i=some (u',n')∧(n<n'∨u=u'∧n=n')
 fzb:∀b,(∀o,g.fz b o)→w'.heap[b]? =w.heap[b]?
theorem Le.zero (h:Le g w g' w'):Le0 g w g' w':=⟨h.fz,h.ι,h.tk,h.fzb⟩
theorem VR.le0 {x:V}{v:Value}(hl:Le0 g w g' w')(hv:VR g w x v):VR g' w' x v:=by
 induction hv with
 |s v=>exact .s v
 |any v=>exact .any v
 |agg cs vs h1 _ C=>exact .agg cs vs h1 C
 |tup cs vs h1 _ C=>exact .tup cs vs h1 C
 |ifc t x v _ C=>exact .ifc t x v C
 |fn f cs vs h1 _ C=>exact .fn f cs vs h1 C
 |row k bw es tok a c f h1 Y h3 hk ha _ ht C=>
  refine .row k bw es tok a c f h1 Y h3 hk (fun x=>?_) C fun t e=>?_
  ·obtain⟨b,off,e,I⟩:=ha x
   exact⟨b,off,e,fun i hi j J=>⟨(hl.fz _ _ (I i hi j J).1).1,(hl.fz _ _ (I i hi j J).1).2.trans (I i hi j J).2⟩⟩
  obtain⟨u,n,e1,e2,e3⟩:=ht t e;obtain⟨u',n',k1,k2⟩:=hl.tk _ _ _ e1;refine⟨u',n',k1,?_⟩;rcases k2 with k2|⟨rfl,rfl⟩;·exact⟨by omega,fun _=>by omega⟩
  exact⟨e2,e3⟩
 |rp e off b o f I _ C=>exact .rp e off b o f (fun j J=>⟨(hl.fz _ _ (I j J).1).1,(hl.fz _ _ (I j J).1).2.trans (I j J).2⟩) C
 |ptr i off b hi=>exact .ptr i off b (hl.ι _ _ hi)
 |sl i off len cap b hi h1 Y=>exact .sl i off len cap b (hl.ι _ _ hi) h1 Y
 |mp i b hi=>exact .mp i b (hl.ι _ _ hi)
 |rmap d es b R c hb hh h1 hk ho _ C=>exact .rmap d es b R c (fun o=>(hl.fz b o (hb o)).1) ((hl.fzb b hb).trans hh) h1 hk ho C
theorem VR.le {x:V}{v:Value}(hl:Le g w g' w')(j:VR g w x v):VR g' w' x v:=j.le0 hl.zero
end
def da (g:Gh)(w:World)(cs:List V)(vs:List Value):Prop:=cs.length=vs.length∧∀(i:Nat) c v,cs[i]? =some c→vs[i]? =some v→VR g w c v
theorem da.le0 {g g':Gh}{w w':World}{cs:List V}{vs:List Value}(hl:Le0 g w g' w')(h:da g w cs vs):da g' w' cs vs:=⟨h.1,fun i c v h1 j=>(h.2 i c v h1 j).le0 hl⟩
theorem da.le {g g':Gh}{w w':World}{cs:List V}{vs:List Value}(hl:Le g w g' w')(h:da g w cs vs):da g' w' cs vs:=h.le0 hl.zero
theorem da.nil {g:Gh}{w:World}:da g w [] []:=⟨rfl,fun i c v h=>by simp at h⟩
theorem da.cons {g:Gh}{w:World}{c:V}{v:Value}{cs:List V}{vs:List Value}(h:VR g w c v)(o:da g w cs vs):da g w (c::cs) (v::vs):=by
 refine⟨by simp[o.1],fun i x y h1 j=>?_⟩;cases i with
 |zero=>simp at h1 j;subst h1 j;exact h
 |succ i=>simp at h1 j;exact o.2 i x y h1 j
theorem da.append {g:Gh}{w:World}{cs o:List V}{vs us:List Value}(h:da g w cs vs)(C:da g w o us):da g w (cs++o) (vs++us):=by
 refine⟨by simp[C.1,h.1],fun i x y h1 j=>?_⟩;rcases Nat.lt_or_ge i cs.length with hi|hi
 ·rw[ma hi] at h1
  rw[ma (h.1▸hi)] at j;exact h.2 i x y h1 j
 rw[kH hi] at h1;rw[kH (h.1▸hi),←h.1] at j;exact C.2 _ x y h1 j
theorem da.get {g:Gh}{w:World}{cs:List V}{vs:List Value}(h:da g w cs vs){i:Nat}{c:V}(o:cs[i]? =some c):∃v,vs[i]? =some v∧VR g w c v:=by obtain⟨hi,_⟩:=lS.1 o;have j:=h.1▸hi;exact⟨vs[i],lG j,h.2 i c _ o (lG j)⟩
theorem da.set {g:Gh}{w:World}{cs:List V}{vs:List Value}(h:da g w cs vs){x:V}{v:Value}(C:VR g w x v)(i:Nat):da g w (cs.set i x) (vs.set i v):=by
 refine⟨by simp[h.1],fun j c u h1 o=>?_⟩;rw[List.getElem?_set] at h1 o;by_cases e:i=j
 ·rw[ap e] at h1 o;split at h1
  ·split at o
   ·cases h1;cases o;exact C
   cases o
  cases h1
 rw[ae e] at h1 o;exact h.2 j c u h1 o
theorem da.drop {g:Gh}{w:World}{cs:List V}{vs:List Value}(h:da g w cs vs)(n:Nat):da g w (cs.drop n) (vs.drop n):=⟨by simp[h.1],fun i c v h1 j=>h.2 (n+i) c v (by simpa using h1) (by simpa using j)⟩
theorem da.take {g:Gh}{w:World}{cs:List V}{vs:List Value}(h:da g w cs vs)(n:Nat):da g w (cs.take n) (vs.take n):=by
 refine⟨by simp[h.1],fun i c v h1 j=>?_⟩;rw[List.getElem?_take] at h1 j;split at h1;·rename_i hi;rw[ap hi] at j;exact h.2 i c v h1 j
 cases h1
inductive Lt (N:Nat):V→Prop
 |s (v:Value):Lt N (.s v)
 |any:Lt N .any
 |agg (cs:List V) (h:∀c∈cs,Lt N c):Lt N (.agg cs)
 |tup (cs:List V) (h:∀c∈cs,Lt N c):Lt N (.tup cs)
 |ifc (t:TypeId) (x:V) (h:Lt N x):Lt N (.ifc t x)
 |fn (f:Fn) (cs:List V) (h:∀c∈cs,Lt N c):Lt N (.fn f cs)
 |row (k bw:Nat) (es:List (List V)) (tok:Option Nat) (h:∀e∈es,∀c∈e,Lt N c) (ht:∀t,tok=some t→t<N):Lt N (.row k bw es tok)
 |rp (e:List V) (off:Nat) (h:∀c∈e,Lt N c):Lt N (.rp e off)
 |ptr (i off:Nat) (h:i<N):Lt N (.ptr i off)
 |sl (i off len cap:Nat) (h:i<N):Lt N (.sl i off len cap)
 |mp (i:Nat) (h:i<N):Lt N (.mp i)
 |rmap (d:TypeDesc) (es:List (MK×V)) (h:∀e∈es,Lt N e.2):Lt N (.rmap d es)
def Gh.cut (g:Gh)(N:Nat):Gh:=⟨fun i=>if i<N then g.ι i else none,g.fz,fun i=>if i<N then g.tk i else none⟩
theorem VR.cut {g:Gh}{w:World}{x:V}{v:Value}{N:Nat}(h:VR g w x v):Lt N x→VR (g.cut N) w x v:=by
 induction h with
 |s v=>exact fun _=>.s v
 |any v=>exact fun _=>.any v
 |agg cs vs h1 _ C=>exact fun hl=>by cases hl with|agg _ h=>exact .agg cs vs h1 fun i c v I R=>C i c v I R (h c (mG I))
 |tup cs vs h1 _ C=>exact fun hl=>by cases hl with|tup _ h=>exact .tup cs vs h1 fun i c v I R=>C i c v I R (h c (mG I))
 |ifc t x v _ C=>exact fun hl=>by cases hl with|ifc _ _ h=>exact .ifc t x v (C h)
 |fn f cs vs h1 _ C=>exact fun hl=>by cases hl with|fn _ _ h=>exact .fn f cs vs h1 fun i c v I R=>C i c v I R (h c (mG I))
 |row k bw es tok a c f h1 h2 h3 hk ha _ ht C=>
  intro hl;cases hl with
  |row _ _ _ _ h a1=>refine .row k bw es tok a c f h1 h2 h3 hk ha (fun i e j x he J=>C i e j x he J (h e (mG he) x (mG J))) fun t e=>?_;obtain⟨u,n,e1,e2,e3⟩:=ht t e;exact⟨u,n,by simp[Gh.cut,a1 t e,e1],e2,e3⟩
 |rp e off b o f I _ C=>exact fun hl=>by cases hl with|rp _ _ h=>exact .rp e off b o f I fun j x J=>C j x J (h x (mG J))
 |ptr i off b hi=>exact fun hl=>by cases hl with|ptr _ _ h=>exact .ptr i off b (by simp[Gh.cut,h,hi])
 |sl i off len cap b hi h1 h2=>exact fun hl=>by cases hl with|sl _ _ _ _ h=>exact .sl i off len cap b (by simp[Gh.cut,h,hi]) h1 h2
 |mp i b hi=>exact fun hl=>by cases hl with|mp _ h=>exact .mp i b (by simp[Gh.cut,h,hi])
 |rmap d es b Y c hb hh h1 hk ho _ C=>exact fun hl=>by cases hl with|rmap _ _ h=>exact .rmap d es b Y c hb hh h1 hk ho fun i x e J he=>C i x e J he (h x (mG J))
theorem da.cut {g:Gh}{w:World}{cs:List V}{vs:List Value}{N:Nat}(h:da g w cs vs)(hl:∀c∈cs,Lt N c):da (g.cut N) w cs vs:=⟨h.1,fun i c v j o=>(h.2 i c v j o).cut (hl c (mG j))⟩
inductive HO|cells (ty:TypeId) (cs:List V)|map (d:TypeDesc) (es:List (MK×V))|tok (ty:TypeId) (k n:Nat)|gone
def qiE (g:Gh)(w:World)(es:List (MK×V))(j:List MapEntry)(clock:Nat):Prop:=
 es.length=j.length∧(∀(i:Nat) x e,es[i]? =some x→j[i]? =some e→x.1.val=e.key∧VR g w x.2 e.val)∧(∀e∈j,e.born<clock)∧j.Pairwise fun a b=>a.born<b.born
def HOR (g:Gh)(w:World)(i:Nat):HO→Prop
 |.cells ty cs=>∃(b:Nat) (us:List Value),(g.ι i=some b∧g.tk i=none)∧al w b ty us.toArray∧da g w cs us∧∀o,¬g.fz b o
 |.map d es=>∃(b:Nat) (j:Array MapEntry) (clock:Nat),(g.ι i=some b∧g.tk i=none)∧w.heap[b]? =some (.map j clock)∧(qiE g w es j.toList clock∧∀x∈es,qbo d x.1=true)∧∀o,¬g.fz b o
 |.tok ty k n=>∃(v:Value) (xs:List Value),g.ι i=none∧g.tk i=some (v,n)∧w.ownsRow 0 ty k v n xs∧∀b,v.ownBlock=some b→∀o,n*k≤o→¬g.fz b o
 |.gone=>∃b:Nat,(g.ι i=some b∧g.tk i=none)∧b<w.heap.size
structure HR (g:Gh)(w:World)(H:List HO):Prop where
 objs:∀(i:Nat) o,H[i]? =some o→HOR g w i o
 nil:∀i,H.length≤i→g.ι i=none∧g.tk i=none
 inj:∀i j b,g.own i b→g.own j b→i=j
 lt:∀b o,g.fz b o→b<w.heap.size
end Q
end
section
namespace Q
abbrev VT:=List (Nat×V)
def Oo:VT→Nat→Option V
 | [],_=>none
 |(u,x)::T,t=>if u=t then some x else Oo T t
structure Cx where
 P:Program
 g:Gh
 w:World
 D:List Deferred
 n:Nat
 N:Nat
structure SR (C:Cx)(g:Gh)(w:World)(a:Act)(T:VT)(H:List HO):Prop where
 le:Le C.g C.w g w
 tmps:∀t x,Oo T t=some x→∃v,a.tmps[t]? =some v∧VR g w x v
 hr:HR g w H
 defers:a.defers=C.D
 size:a.tmps.size=C.n
 nil:∀i,C.N≤i→C.g.ι i=none∧C.g.tk i=none
abbrev VQ:=Exit→VT→List HO→Prop
def Up (C:Cx)(Q:VQ):Exit→Act→World→Prop:=fun e a w=>∃g T H,SR C g w a T H∧Q e T H
structure VW (C:Cx)(c:Code)(Q:VQ)(T:VT)(H:List HO):Prop where
 out:∀g a w,SR C g w a T H→c.wp C.P (Up C Q) a w
def VL (C:Cx)(ops:Array Oper)(Q:VQ)(l:List Oper)(T:VT)(H:List HO):Prop:=∀g a w,SR C g w a T H→wpList C.P ops (Up C Q) l a w
def qcd (K:VT→List HO→Prop)(Q:VQ):VQ
 |.normal,T,H=>K T H
 |e,T,H=>Q e T H
def qfV (id:Nat)(Q:VQ):VQ
 |.exit i,T,H=>if i=id then Q .normal T H else Q (.exit i) T H
 |e,T,H=>Q e T H
def ev (T:VT):Operand→Option V
 |.tmp t=>Oo T t
 |.const v=>some (.s v)
 |.global g=>some (.s (.pointer (some ⟨g,0,none⟩)))
 |.func f=>some (.s (.func (.func f) #[] #[]))
section
variable {C:Cx} {Q Q':VQ} {T:VT} {H:List HO} {g:Gh} {w:World} {a:Act}
theorem SR.ev (h:SR C g w a T H){o:Operand}{x:V}(j:ev T o=some x):VR g w x (a.eval o):=by
 cases o with
 |tmp t=>
  obtain⟨v,h1,I⟩:=h.tmps t x j;have:a.eval (.tmp t)=v:=by simp[Act.eval,Array.getD_eq_getD_getElem?,h1]
  rw[this];exact I
 |const v=>cases j;exact .s _
 |global g=>cases j;exact .s _
 |func f=>cases j;exact .s _
theorem SR.put (h:SR C g w a T H){j:Gh}{w':World}{H':List HO}(hl:Le g w j w')(hr:HR j w' H'){t:Nat}{x:V}{v:Value}(o:VR j w' x v)(I:t<C.n):SR C j w' (a.put (some t) v) ((t,x)::T) H':=by
 refine⟨h.le.trans hl,fun u y hy=>?_,hr,h.defers,by simpa [Act.put] using h.size,h.nil⟩;simp only[Oo] at hy;by_cases e:t=u
 ·subst e
  rw[ap rfl] at hy;cases hy;exact⟨v,by simp[Act.put,h.size,I],o⟩
 rw[ae e] at hy;obtain⟨J,h1,R⟩:=h.tmps u y hy;exact⟨J,by simp[Act.put,Array.getElem?_setIfInBounds_ne e,h1],R.le hl⟩
theorem SR.still (h:SR C g w a T H){j:Gh}{w':World}{H':List HO}(hl:Le g w j w')(hr:HR j w' H'):SR C j w' a T H':=
 ⟨h.le.trans hl,fun u y hy=>by obtain⟨v,h1,o⟩:=h.tmps u y hy;exact⟨v,h1,o.le hl⟩,hr,h.defers,h.size,h.nil⟩
theorem Up.mono {e:Exit}(h:Up C Q e a w)(j:∀T H,Q e T H→Q' e T H):Up C Q' e a w:=by obtain⟨g,T,H,h1,o⟩:=h;exact⟨g,T,H,h1,j T H o⟩
theorem VW.mono {c:Code}(h:VW C c Q T H)(j:∀e T H,Q e T H→Q' e T H):VW C c Q' T H:=⟨fun g a w o=>wp_mono (h.out g a w o) fun e _ _ hu=>Up.mono hu (j e)⟩
theorem qhN {x y:Code}(h:VW C x (qcd (VW C y Q) Q) T H):VW C (.seq x y) Q T H:=⟨fun g a w I=>wp_seq (wp_mono (h.out g a w I) fun e J w' hu=>by
 obtain⟨j,R,H',h1,o⟩:=hu;cases e with
 |normal=>exact o.out j J w' h1
 |_=>exact⟨j,R,H',h1,o⟩)⟩
theorem qis (h:Q .normal T H):VW C .skip Q T H:=⟨fun g _ _ j=>wp_skip ⟨g,T,H,j,h⟩⟩
theorem qar (h:Q .ret T H):VW C .ret Q T H:=⟨fun g _ _ j=>wp_ret ⟨g,T,H,j,h⟩⟩
theorem qbe {id:Nat}(h:Q (.exit id) T H):VW C (.exit id) Q T H:=⟨fun g _ _ j=>wp_exit ⟨g,T,H,j,h⟩⟩
theorem qhy {id:Nat}{c:Code}(h:VW C c (qfV id Q) T H):VW C (.block id c) Q T H:=⟨fun g a w J=>wp_block (wp_mono (h.out g a w J) fun e R w' hu=>by
 obtain⟨o,I,H',h1,j⟩:=hu;cases e with
 |exit i=>simp only[qfV] at j;simp only[Exit.inBlock];split<;>(rename_i hi;simp only[hi,if_true,if_false] at j;exact⟨o,I,H',h1,j⟩)
 |_=>exact⟨o,I,H',h1,j⟩)⟩
theorem qdy {c:Operand}{x y:Code}{b:Bool}(J:ev T c=some (.s (.bool b)))(R:b=true→VW C x Q T H)(Y:b=false→VW C y Q T H):VW C (.cond c x y) Q T H:=⟨fun g a w o=>by have I:=o.ev J;cases j:a.eval c<;>rw[j] at I<;>cases I;exact wp_cond_split j (fun e=>(R e).out g a w o) fun e=>(Y e).out g a w o⟩
theorem qgM {id:Nat}{l:List Oper}(h:VL C l.toArray (qcd (fun T H=>Q .normal T H) Q) l T H):VW C (.region id l.toArray false) Q T H:=⟨fun g a w j=>wp_region_lit (by refine cast (congrArg (fun q=>wpList C.P l.toArray q l a w) ?_) (h g a w j);funext e o w';refine congrArg (fun q=>Up C q e o w') ?_;funext e;cases e<;>rfl)⟩
theorem qiO {ops:Array Oper}(h:Q .normal T H):VL C ops Q [] T H:=fun g _ _ j=>⟨g,T,H,j,h⟩
end
def OpS (C:Cx)(o:Oper)(T:VT)(H:List HO)(x:V)(H':List HO):Prop:=∀g a w,SR C g w a T H→∃v w' j,((execOp a.eval o).run C.P w=.ok (.value v) w'∨(execOp a.eval o).run C.P w=.ok .skip w'∧v=undef)∧Le g w j w'∧VR j w' x v∧HR j w' H'
section
variable {C:Cx} {Q:VQ} {T:VT} {H H':List HO} {ops:Array Oper} {o:Oper} {l:List Oper}
theorem qaK (j:o.guard=none){f:Nat→Option Bool}:Region.wanted o f=true:=by simp[Region.wanted,j]
theorem qeS {x:V}{t:Nat}(h:OpS C o T H x H')(k:VL C ops Q l ((t,x)::T) H')(I:o.guard=none:=by rfl)(J:o.dst=some t:=by rfl)(R:t<C.n:=by decide):VL C ops Q (o::l) T H:=fun g a w j=>by obtain⟨v,w',Y,hr,hl,hx,hh⟩:=h g a w j;have hk:=k Y (a.put (some t) v) w' (j.put hl hh hx R);simp only[wpList,qaK I,if_true];left;unfold Oper.wp;rcases hr with hr|⟨hr,rfl⟩<;>rw[hr]<;>simp only[Oper.upon,J]<;>exact hk
theorem qgL {x:V}(h:OpS C o T H x H')(k:VL C ops Q l T H')(I:o.guard=none:=by rfl)(J:o.dst=none:=by rfl):VL C ops Q (o::l) T H:=fun g a w j=>by obtain⟨v,w',R,hr,hl,hx,Y⟩:=h g a w j;have hk:=k R a w' (j.still hl Y);simp only[wpList,qaK I,if_true];left;unfold Oper.wp;rcases hr with hr|⟨hr,rfl⟩<;>rw[hr]<;>simp only[Oper.upon,J,Act.put]<;>exact hk
theorem qcG {dst:Option Tmp}{op:Op}{ty:TypeId}{pos:String}{after:Array Edge}{j u:Nat}{want:Bool}{gv:Value}{tmps:Array Value}(I:(ops[j]?).bind (·.dst)=some u)(hu:tmps[u]? =some gv):Region.wanted ⟨dst,op,ty,pos,after,some (j,want)⟩ (yielded ops tmps)=true↔gv=.bool want:=by cases gv<;>simp[Region.wanted,yielded,I,hu]
theorem qfq {j:Nat}{want:Bool}{gv:Value}{u:Nat}{dst:Option Tmp}{op:Op}{ty:TypeId}{pos:String}{after:Array Edge}(J:Oo T u=some (.s gv))(R:(ops[j]?).bind (·.dst)=some u){t:Nat}(Y:dst=some t)(ht:t<C.n)
 (hy:gv=.bool want→VL C ops Q (⟨dst,op,ty,pos,after,none⟩::l) T H) (hn:gv≠.bool want→VL C ops Q l ((t,.s undef)::T) H):VL C ops Q (⟨dst,op,ty,pos,after,some (j,want)⟩::l) T H:=fun g a w I=>by
 obtain⟨v,h1,h2⟩:=I.tmps u _ J;cases h2;have hw:=qcG (dst:=dst) (op:=op) (ty:=ty) (pos:=pos) (after:=after) (want:=want) R h1;simp only[wpList];by_cases e:gv=.bool want
 ·have:=hy e g a w I
  simp only[wpList,Region.wanted,if_true] at this;rw[ap (hw.2 e)];exact this
 rw[ae fun h=>e (hw.1 h)];subst Y;exact hn e g _ w (I.put (Le.refl _ _) I.hr (.s _) ht)
end
end Q
end
section
namespace Q
def Gh.frz (g:Gh)(n:Nat)(w:World):Gh:=⟨g.ι,fun b o=>g.fz b o∨n≤b∧b<w.heap.size,g.tk⟩
def Gh.put (g:Gh)(i b:Nat):Gh:=⟨fun j=>if j=i then some b else g.ι j,g.fz,g.tk⟩
def wr {α:Type}:List α→Nat→List α→List α
 |cs,_,[]=>cs
 |cs,o,x::xs=>wr (cs.set o x) (o+1) xs
theorem qgY {α:Type}:∀(j xs cs:List α),xs.length=cs.length→wr (j++cs) j.length xs=j++xs
 |_,[],[],_=>rfl
 |_,[],_::_,h=>by simp at h
 |_,_::_,[],h=>by simp at h
 |j,x::xs,c::cs,h=>by have:=qgY (j++[x]) xs cs (by simpa using h);simpa [wr] using this
theorem qgX {α:Type}{xs cs:List α}(h:xs.length=cs.length):wr cs 0 xs=xs:=qgY [] xs cs h
section
variable {g g':Gh} {w w':World} {H:List HO} {ty:TypeId} {cs cs':List V} {us us':List Value}
theorem qaP (h:HR g w H){b o:Nat}(j:g.fz b o):b<w.heap.size:=h.lt b o j
theorem qaz (h:HR g w H){j b:Nat}(C:g.own j b):b<w.heap.size∧j<H.length:=by
 rcases Nat.lt_or_ge j H.length with Y|Y;·(
 refine⟨?_,Y⟩;have R:=h.objs j _ (lG Y);generalize H[j]=o at R;cases o with
 |cells ty cs=>
  obtain⟨b',us,⟨h1,I⟩,J,_⟩:=R;rcases C with C|⟨v,n,C,_⟩;·rw[h1] at C;cases C;exact J.lt
  rw[I] at C;cases C
 |map d es=>
  obtain⟨b',us,c,⟨h1,I⟩,J,_⟩:=R;rcases C with C|⟨v,n,C,_⟩;·rw[h1] at C;cases C;exact(mV.1 J).1
  rw[I] at C;cases C
 |tok ty k n=>
  obtain⟨v,xs,h1,I,J,_⟩:=R;rcases C with C|⟨v',n',C,hv⟩;·rw[h1] at C;cases C
  rw[I] at C;cases C;exact(aD J hv).2
 |gone=>
  obtain⟨b',⟨h1,I⟩,J⟩:=R;rcases C with C|⟨v,n,C,_⟩;·rw[h1] at C;cases C;exact J
  rw[I] at C;cases C)
 have:=h.nil j Y;rcases C with C|⟨v,n,C,_⟩;·rw[this.1] at C;cases C
 rw[this.2] at C;cases C
theorem HOR.keep {j:Nat}{o:HO}(h:HOR g w j o)(hl:Le g w g' w')(Y:∀b,g.own j b→w'.heap[b]? =w.heap[b]?∧∀o,g'.fz b o→g.fz b o)(hi:g'.ι j=g.ι j)(ht:g'.tk j=g.tk j):HOR g' w' j o:=by
 cases o with
 |cells ty cs=>obtain⟨b,us,⟨h1,C⟩,I,h3,J⟩:=h;obtain⟨k1,k2⟩:=Y b (.inl h1);exact⟨b,us,⟨hi.trans h1,ht.trans C⟩,k1.trans I,h3.le hl,fun o e=>J o (k2 o e)⟩
 |map d es=>obtain⟨b,R,c,⟨h1,C⟩,I,⟨⟨m1,m2,m3,m4⟩,m5⟩,J⟩:=h;obtain⟨k1,k2⟩:=Y b (.inl h1);exact⟨b,R,c,⟨hi.trans h1,ht.trans C⟩,k1.trans I,⟨⟨m1,fun i x e hx he=>⟨(m2 i x e hx he).1,(m2 i x e hx he).2.le hl⟩,m3,m4⟩,m5⟩,fun o e=>J o (k2 o e)⟩
 |tok ty k n=>
  obtain⟨v,xs,h1,C,I,h3⟩:=h;refine⟨v,xs,hi.trans h1,ht.trans C,⟨I.1,?_⟩,fun b hv o ho e=>h3 b hv o ho ((Y b (.inr ⟨v,n,C,hv⟩)).2 o e)⟩;rcases I.2 with I|⟨gb,cap,cur,rfl,J,h5,h6⟩;·exact .inl I
  exact .inr ⟨gb,cap,cur,rfl,J,(Y gb (.inr ⟨_,_,C,rfl⟩)).1.trans h5,h6⟩
 |gone=>obtain⟨b,⟨h1,C⟩,I⟩:=h;exact⟨b,⟨hi.trans h1,ht.trans C⟩,Nat.lt_of_lt_of_le I hl.size⟩
theorem Le.kept0 (h:HR g w H)(k:aa All w w'):Le g w g w':=
 ⟨k.os,k.output,k.size,fun b _ j=>⟨j,World.cell?_of_block (k.block b (qaP h j) trivial)⟩,fun _ _ h=>h,fun _ u n h=>⟨u,n,h,.inr ⟨rfl,rfl⟩⟩,fun b j=>k.block b (qaP h (j 0)) trivial,fun b j _=>k.block b j trivial,fun _ _ h=>.inl h,fun _ _ h=>.inl h⟩
theorem HR.kept0 (h:HR g w H)(k:aa All w w'):HR g w' H:=
 ⟨fun i o C=>(h.objs i o C).keep (Le.kept0 h k) (fun b j=>⟨k.block b (qaz h j).1 trivial,fun _ h=>h⟩) rfl rfl,h.nil,h.inj,fun b o j=>Nat.lt_of_lt_of_le (h.lt b o j) k.size⟩
theorem Le.frz (h:HR g w H)(k:aa All w w'):Le g w (g.frz w.heap.size w') w':=
 ⟨k.os,k.output,k.size,fun b _ j=>⟨.inl j,World.cell?_of_block (k.block b (qaP h j) trivial)⟩,fun _ _ h=>h,fun _ u n h=>⟨u,n,h,.inr ⟨rfl,rfl⟩⟩,fun b j=>k.block b (qaP h (j 0)) trivial,fun b j _=>k.block b j trivial,fun _ _ h=>.inl h,fun _ _ h=>h.imp id fun h=>.inl h.1⟩
theorem HR.frz (h:HR g w H)(k:aa All w w'):HR (g.frz w.heap.size w') w' H:=
 ⟨fun i o C=>(h.objs i o C).keep (Le.frz h k) (fun b j=>⟨k.block b (qaz h j).1 trivial,fun o e=>e.elim id fun e=>by have:=(qaz h j).1;omega⟩) rfl rfl,h.nil,h.inj,fun b o j=>j.elim (fun j=>Nat.lt_of_lt_of_le (h.lt b o j) k.size) fun j=>j.2⟩
theorem qco (h:HR g w H){b:Nat}{i c:Nat}(j:(g.put H.length b).own i c):(i=H.length∧c=b)∨(i<H.length∧g.own i c):=by
 rcases j with j|⟨v,n,h1,o⟩
 ·simp only[Gh.put] at j
  split at j;·rename_i e;cases j;exact .inl ⟨e,rfl⟩
  exact .inr ⟨(qaz h (.inl j)).2,.inl j⟩
 exact .inr ⟨(qaz h (.inr ⟨v,n,h1,o⟩)).2,.inr ⟨v,n,h1,o⟩⟩
theorem Le.put (h:HR g w H)(k:aa All w w'){b:Nat}(j:w.heap.size≤b):Le g w (g.put H.length b) w':=
 ⟨k.os,k.output,k.size,fun b _ j=>⟨j,World.cell?_of_block (k.block b (qaP h j) trivial)⟩,fun i c hi=>by
  have:i≠H.length:=fun e=>by have:=(h.nil i (by omega)).1;rw[this] at hi;cases hi
  simp[Gh.put,this,hi],fun _ u n h=>⟨u,n,h,.inr ⟨rfl,rfl⟩⟩,fun b j=>k.block b (qaP h (j 0)) trivial,fun b j _=>k.block b j trivial,fun i c o=>(qco h o).elim (fun e=>.inr (e.2▸j)) fun e=>.inl e.2,fun _ _ h=>.inl h⟩
theorem HR.put (h:HR g w H)(k:aa All w w'){b:Nat}(R:w.heap.size≤b){o:HO}(Y:HOR (g.put H.length b) w' H.length o):HR (g.put H.length b) w' (H++[o]):=by
 refine⟨fun i p C=>?_,fun i hi=>?_,fun i j c hi hj=>?_,fun c o I=>?_⟩
 ·rcases Nat.lt_or_ge i H.length with hi|hi
  ·rw[ma hi] at C
   refine(h.objs i p C).keep (Le.put h k R) (fun c I=>⟨k.block c (qaz h I).1 trivial,fun _ h=>h⟩) ?_ rfl;simp[Gh.put,Nat.ne_of_lt hi]
  have:i=H.length:=by have:=(lS.1 C).1;simp at this;omega
  subst this;simp at C;subst C;exact Y
 ·simp at hi;have:=h.nil i (by omega);refine⟨?_,this.2⟩;simp only[Gh.put];rw[ae (by omega)];exact this.1
 ·rcases qco h hi with ⟨e1,J⟩|⟨e1,J⟩<;>rcases qco h hj with ⟨f1,f2⟩|⟨f1,f2⟩;·omega
  ·have:=(qaz h f2).1;omega
  ·have:=(qaz h J).1;omega
  exact h.inj i j c J f2
 exact Nat.lt_of_lt_of_le (h.lt c o I) k.size
theorem HR.new (h:HR g w H)(j:da g w cs us):HR (g.put H.length w.heap.size) (w.alloc (.cells us.toArray ty)) (H++[.cells ty cs]):=by have k:aa All w (w.alloc (.cells us.toArray ty)):=kR.alloc _;exact h.put k (cf _) ⟨w.heap.size,us,⟨by simp[Gh.put],(h.nil _ (cf _)).2⟩,al.new _ _ _,j.le (Le.put h k (cf _)),fun o e=>by have:=qaP h e;omega⟩
theorem Le.new (h:HR g w H){o:Obj}:Le g w (g.put H.length w.heap.size) (w.alloc o):=Le.put h (kR.alloc _) (cf _)
theorem Le.turn {i b:Nat}(hi:g.own i b)(R:∀o,¬g.fz b o)(I:w'.os=w.os)(C:w'.output=w.output)(Y:w'.heap.size=w.heap.size)(J:∀c,c≠b→w'.heap[c]? =w.heap[c]?):Le g w g w':=
 ⟨I,C,by omega,fun c o j=>⟨j,World.cell?_of_block (J c fun e=>R o (e▸j))⟩,fun _ _ h=>h,fun _ u n h=>⟨u,n,h,.inr ⟨rfl,rfl⟩⟩,fun c j=>J c fun e=>R 0 (e▸j 0),fun c _ j=>J c fun e=>j i (e▸hi),fun _ _ h=>.inl h,fun _ _ h=>.inl h⟩
theorem HR.turn (h:HR g w H){i b:Nat}(hi:g.own i b)(hf:∀o,¬g.fz b o)(R:w'.os=w.os)(I:w'.output=w.output)(J:w'.heap.size=w.heap.size)(ho:∀c,c≠b→w'.heap[c]? =w.heap[c]?){p:HO}(hp:HOR g w' i p):HR g w' (H.set i p):=by
 refine⟨fun j q C=>?_,fun j hj=>h.nil j (by simpa using hj),h.inj,fun c o Y=>?_⟩
 ·rw[List.getElem?_set] at C;by_cases e:i=j
  ·subst e;rw[ap rfl] at C;split at C;·cases C;exact hp
   cases C
  rw[ae e] at C;exact(h.objs j q C).keep (Le.turn hi hf R I J ho) (fun c Y=>⟨ho c fun e'=>e (h.inj i j b hi (e'▸Y)),fun _ h=>h⟩) rfl rfl
 rw[J];exact h.lt c o Y
theorem qgb:∀(vs:List Value) (w:World) (b o:Nat) (us:List Value),al w b ty us.toArray→al (w.setCells b o vs) b ty (wr us o vs).toArray
 | [],_,_,_,_,h=>h
 |v::vs,w,b,o,us,h=>by have:=qgb vs (w.setCell ⟨b,o,none⟩ v) b (o+1) (us.set o v) (by simpa using h.set o v);exact this
theorem da.wr {xs:List V}{vs:List Value}(j:da g w xs vs):∀(o:Nat) (cs:List V) (us:List Value),da g w cs us→da g w (Go.Proofs.YtgdlhckhpolnnaaGreatDoor.Q.wr cs o xs) (Go.Proofs.YtgdlhckhpolnnaaGreatDoor.Q.wr us o vs):=by
 induction xs generalizing vs with
 |nil=>
  cases vs with
  |nil=>exact fun _ _ _ h=>h
  |cons v vs=>have:=j.1;simp at this
 |cons x xs C=>
  cases vs with
  |nil=>have:=j.1;simp at this
  |cons v vs=>intro o cs us h;have h1:=j.2 0 x v rfl rfl;exact C ⟨by simpa using j.1,fun i c u I hu=>j.2 (i+1) c u (by simpa using I) (by simpa using hu)⟩ (o+1) _ _ (h.set h1 o)
theorem qaO:∀(vs:List Value) (w:World) (b o c:Nat),c≠b→(w.setCells b o vs).heap[c]? =w.heap[c]?
 | [],_,_,_,_,_=>rfl
 |v::vs,w,b,o,c,h=>(qaO vs _ b (o+1) c h).trans (pI w ⟨b,o,none⟩ v c h)
theorem qbJ:∀(vs:List Value) (w:World) (b o:Nat),(w.setCells b o vs).os=w.os∧(w.setCells b o vs).output=w.output∧(w.setCells b o vs).heap.size=w.heap.size
 | [],_,_,_=>⟨rfl,rfl,rfl⟩
 |v::vs,w,b,o=>by obtain⟨h1,j,C⟩:=qbJ vs (w.setCell ⟨b,o,none⟩ v) b (o+1);exact⟨h1,j,C.trans (by simp)⟩
end
end Q
end
section
namespace Q
def qcn (H:List HO):V→Option (List V×Nat)
 |.ptr i off=>match H[i]? with
  |some (.cells _ cs)=>some (cs,off)
  |_=>none
 |.rp e off=>some (e,off)
 |_=>none
def vld (b:Bool)(n:Nat)(cs:List V)(off:Nat):Option V:=match b with
 |true=>if off=0∧n=cs.length then some (.agg cs) else if off+n≤cs.length then some (.agg ((cs.drop off).take n)) else none
 |false=>cs[off]?
def qaq:V→List V
 |.agg cs=>cs
 |x=>[x]
def qbd:V→Bool
 |.s v=>v.oneCell'
 |.agg _|.tup _|.any=>false
 |_=>true
def qhO (n:Nat):V→Option V
 |.ptr i off=>some (.ptr i (off+n))
 |.rp e off=>some (.rp e (off+n))
 |_=>none
def vat (i n:Nat):V→Option V
 |.row k _ es _=>if k=n then(match es[i]? with|some e=>some (.rp e 0)|none=>none) else none
 |.sl j off len _=>if i<len then some (.ptr j (off+i*n)) else none
 |_=>none
def qhz:V→Option Nat
 |.row _ _ es _=>some es.length
 |.sl _ _ len _=>some len
 |.s (.slice _ n _)=>some n
 |_=>none
section
variable {g:Gh} {w:World} {H:List HO} {p x:V} {v:Value}
theorem qdp (h:VR g w x v)(h1:qbd x=true):v.oneCell'=true:=by
 cases h with
 |s v=>exact h1
 |any|agg|tup=>cases h1
 |_=>rfl
theorem qfw (hr:HR g w H)(hx:VR g w p v){cs:List V}{off:Nat}(C:qcn H p=some (cs,off)):∃b o us,v=.pointer (some ⟨b,o+off,none⟩)∧da g w cs us∧∀(j:Nat) u,us[j]? =some u→w.cell? ⟨b,o+j,none⟩=some u:=by
 cases hx with
 |ptr i I b hi=>
  simp only[qcn] at C;split at C;·rename_i ty a1 J;cases C;obtain⟨b',us,⟨h1,_⟩,R,h3,_⟩:=hr.objs i _ J;rw[hi] at h1;cases h1;exact⟨b,0,us,by rw[cN],h3,fun j u hu=>by rw[cN,R.cell];simpa using hu⟩
  cases C
 |rp e I b o f h1 R=>
  cases C;refine⟨b,o,(List.range cs.length).map f,rfl,⟨by simp,fun i c u C hu=>?_⟩,fun j u hu=>?_⟩;·rw[cL] at hu;obtain⟨m,hm,rfl⟩:=oE.1 hu;obtain⟨_,hm⟩:=lS.1 hm;simp at hm;subst hm;exact R _ c C
  rw[cL] at hu;obtain⟨m,hm,rfl⟩:=oE.1 hu;obtain⟨Y,hm⟩:=lS.1 hm;simp at hm Y;subst hm;exact(h1 _ Y).2
 |_=>cases C
theorem qbF (h:VR g w x v)(h1:(qaq x).all qbd=true):da g w (qaq x) v.cells.toList∧(∀u∈v.cells.toList,u.oneCell'=true):=by
 have key:∀(cs:List V) (us:List Value),da g w cs us→cs.all qbd=true→∀u∈us,u.oneCell'=true:=by intro cs us o J u hu;obtain⟨i,hi⟩:=cY.1 hu;have j:=(lS.1 hi).1;have C:=lG (o.1▸j);exact qdp (o.2 i _ u C hi) (List.all_eq_true.1 J _ (mG C))
 have one:qaq x=[x]→qbd x=true→da g w (qaq x) v.cells.toList∧∀u∈v.cells.toList,u.oneCell'=true:=by(
 intro e R;have I:=qdp h R;have Y:v.cells= #[v]:=by cases v<;>first|rfl|cases I
 rw[e,Y];exact⟨da.cons h da.nil,by simpa using I⟩)
 cases x with
 |agg cs=>
  cases h with
  |agg cs vs hl h=>exact⟨by simpa [Value.cells,qaq] using⟨hl,h⟩,by simpa [Value.cells] using key cs vs ⟨hl,h⟩ h1⟩
 |_=>exact one rfl (by simpa [qaq] using h1)
end
def za (C:Cx)(o:Oper)(T:VT)(H:List HO)(x:V):Prop:=∀g a w,SR C g w a T H→∃v,(execOp a.eval o).run C.P w=.ok (.value v) w∧VR g w x v
section
variable {C:Cx} {T:VT} {H H':List HO} {dst:Option Tmp} {ty:TypeId} {pos:String} {af:Array Edge} {gd:Option (Nat×Bool)} {x y z:Operand} {p q r:V}
theorem VR.of_s {g:Gh}{w:World}{u v:Value}(h:VR g w (.s u) v):v=u:=by cases h;rfl
theorem za.s {o:Oper}(h:za C o T H p):OpS C o T H p H:=fun g a w j=>by obtain⟨v,h1,I⟩:=h g a w j;exact⟨v,w,g,.inl h1,Le.refl _ _,I,j.hr⟩
theorem qhp (h:ev T x=some p):za C ⟨dst,.move x,ty,pos,af,gd⟩ T H p:=fun _ _ _ j=>⟨_,rfl,j.ev h⟩
theorem qfG (h:ev T x=some p):za C ⟨dst,.assign x,ty,pos,af,gd⟩ T H p:=fun _ _ _ j=>⟨_,rfl,j.ev h⟩
def qdu:Value→Bool
 |.nilIface|.agg _=>false
 |_=>true
theorem qcJ {op:BinOp}{t:TypeId}{x y:Operand}{u v:Value}(h:qdu u=true)(P:Program)(w:World):(eqGuard op t x y u v).run P w=.ok () w:=by cases u<;>first|(simp[qdu] at h;done)|(cases op<;>rfl)
theorem qie {op:BinOp}{t yt:TypeId}{u v r:Value}(o:ev T x=some (.s u))(hy:ev T y=some (.s v))(h:∀w,(binOp op t u v).run C.P w=.ok r w)(hu:qdu u=true:=by rfl):za C ⟨dst,.binOp op t x y yt,ty,pos,af,gd⟩ T H (.s r):=fun _ _ w j=>by have I:=(j.ev o).of_s;have J:=(j.ev hy).of_s;exact⟨r,by simp[execOp,I,J,qcJ hu,h w],.s r⟩
def sOf:V→Option Value
 |.s v=>some v
 |_=>none
theorem qhJ {g:Gh}{w:World}{cs:List V}{us:List Value}{v:Value}(o:cs.mapM sOf=some us)(h:VR g w (.agg cs) v):v=.agg us.toArray:=by
 cases h with
 |agg _ vs hl h=>
  have R:=Lib.mapM_length o;refine congrArg (fun l:List Value=>Value.agg l.toArray) (List.ext_getElem? fun i=>?_);rcases Nat.lt_or_ge i cs.length with hi|hi
  ·have h1:=lG (hl▸hi);obtain⟨u,Y,j⟩:=Lib.mapM_at o i _ (lG hi);have I:=h i _ _ (lG hi) h1;rw[h1,Y];cases J:cs[i] with
   |s x=>rw[J] at I j;cases I;exact j
   |_=>rw[J] at j;cases j
  rw[jz (by omega),jz (by omega)]
theorem qfz {P:Program}{op:BinOp}{t:TypeId}{us vs:Array Value}(x y:Operand)(h:P.eqGuardType P.depth t=false)(w:World):(eqGuard op t x y (.agg us) (.agg vs)).run P w=.ok () w:=by simp[eqGuard,go_sem,h]
theorem qhh {op:BinOp}{t yt:TypeId}{cs j:List V}{us vs:List Value}{r:Value}(I:ev T x=some (.agg cs))(hy:ev T y=some (.agg j))(hu:cs.mapM sOf=some us)(J:j.mapM sOf=some vs)(h:∀w,(binOp op t (.agg us.toArray) (.agg vs.toArray)).run C.P w=.ok r w)(R:∀w,(eqGuard op t x y (.agg us.toArray) (.agg vs.toArray)).run C.P w=.ok () w):za C ⟨dst,.binOp op t x y yt,ty,pos,af,gd⟩ T H (.s r):=fun _ _ w o=>by have Y:=qhJ hu (o.ev I);have e2:=qhJ J (o.ev hy);exact⟨r,by simp[execOp,Y,e2,R w,h w],.s r⟩
theorem qiL {op:UnOp}{t:TypeId}{u r:Value}(j:ev T x=some (.s u))(h:∀w,(Op.unary op u).run C.P w=.ok r w):za C ⟨dst,.unOp op t x,ty,pos,af,gd⟩ T H (.s r):=fun _ _ w o=>by have I:=(o.ev j).of_s;exact⟨r,by simp[execOp,I,h w],.s r⟩
theorem qhk {t d:TypeId}{u r:Value}(j:ev T x=some (.s u))(h:∀w,(convert t d u).run C.P w=.ok r w):za C ⟨dst,.convert t d x,ty,pos,af,gd⟩ T H (.s r):=fun _ _ w o=>by have I:=(o.ev j).of_s;exact⟨r,by simp[execOp,I,h w],.s r⟩
theorem qgu {c:Operand}(o:ev T c=some (.s (.bool true)))(I:ev T x=some p):za C ⟨dst,.pick c x y,ty,pos,af,gd⟩ T H p:=fun _ _ _ j=>⟨_,by simp[execOp,(j.ev o).of_s,asBool],j.ev I⟩
theorem qgt {c:Operand}(o:ev T c=some (.s (.bool false)))(I:ev T y=some p):za C ⟨dst,.pick c x y,ty,pos,af,gd⟩ T H p:=fun _ _ _ j=>⟨_,by simp[execOp,(j.ev o).of_s,asBool],j.ev I⟩
theorem qho {t:TypeId}{b:Bool}{n off:Nat}{cs:List V}(hx:ev T x=some p)(hc:qcn H p=some (cs,off))(R:∀w,(isAgg t).run C.P w=.ok b w)(hn:∀w,(sizeOf t).run C.P w=.ok n w)(hy:vld b n cs off=some q):za C ⟨dst,.load t x,ty,pos,af,gd⟩ T H q:=fun g a w Y=>by
 obtain⟨bb,o,us,hv,hu,I⟩:=qfw Y.hr (Y.ev hx) hc;cases b with
 |false=>obtain⟨u,h1,h2⟩:=hu.get hy;exact⟨u,by simp[execOp,hv,Instr.loadAt,Instr.sureAddr,loadVar,R,I _ _ h1],h2⟩
 |true=>
  have hy:off+n≤cs.length∧q=.agg ((cs.drop off).take n):=by(
 simp only[vld] at hy;split at hy;·rename_i h;obtain⟨rfl,rfl⟩:=h;cases hy;exact⟨by omega,by simp⟩
 split at hy;·rename_i hle;cases hy;exact⟨hle,rfl⟩
 cases hy)
  obtain⟨hle,rfl⟩:=hy;have hlen:((us.drop off).take n).length=n:=by simp[←hu.1];omega
  refine⟨.agg ((us.drop off).take n).toArray,?_,.agg _ _ ((hu.drop off).take n).1 ((hu.drop off).take n).2⟩;have hl:=run_loadCells_list (P:=C.P) w ⟨bb,o+off,none⟩ ((us.drop off).take n) (fun j v J=>by
   rw[Addr.add_mid,Nat.add_assoc];rw[List.getElem?_take] at J;split at J;·rw[List.getElem?_drop] at J;exact I _ _ J
   cases J)
  rw[hlen] at hl;simp[execOp,hv,Instr.loadAt,Instr.sureAddr,loadVar,R,hn,hl]
theorem qdq {t:TypeId}{i n:Nat}(hx:ev T x=some p)(R:∀b o w,(Instr.fieldAt t (.pointer (some ⟨b,o,none⟩)) i).run C.P w=.ok (.pointer (some ⟨b,o+n,none⟩)) w)(J:qhO n p=some q):za C ⟨dst,.fieldAddr t x i,ty,pos,af,gd⟩ T H q:=fun _ _ w hs=>by
 have Y:=hs.ev hx;generalize I:Act.eval _ x=v at Y;cases Y with
 |ptr j off b hi=>cases J;exact⟨_,by simp[execOp,I,R],.ptr j (off+n) b hi⟩
 |rp e off b o f hc hr=>cases J;exact⟨.pointer (some ⟨b,o+(off+n),none⟩),by simp[execOp,I,R,Nat.add_assoc],.rp e (off+n) b o f hc hr⟩
 |_=>cases J
theorem qgs {t e:TypeId}{n:Nat}{k:IntKind}{i:Int}(hx:ev T x=some p)(hy:ev T y=some (.s (.int k i)))(hi:0≤i)(hu:∀w,(underlying t).run C.P w=.ok (.slice e) w)(hn:∀w,(sizeOf e).run C.P w=.ok n w)(o:vat i.toNat n p=some q):za C ⟨dst,.indexAddr t x y,ty,pos,af,gd⟩ T H q:=fun _ _ w hs=>by
 have hv:=hs.ev hx;have e2:=(hs.ev hy).of_s;generalize I:Act.eval _ x=v at hv;cases hv with
 |row k' bw es tok a c f h1 h2 h3 hk ha hr ht=>
  simp only[vat] at o;split at o;·(
 rename_i Y;subst Y;split at o
 ·rename_i e1 J;cases o;have R:=(lS.1 J).1;obtain⟨b,off,rfl,hc⟩:=ha (by omega);refine⟨.pointer (some ⟨b,off+i.toNat*k',none⟩),?_,?_⟩
  ·have:(0≤i∧i<(es.length:Int)):=⟨hi,by omega⟩
   simp only[execOp,I,e2,Instr.indexAt,asIntOf,Sem.run_bind,Sem.run_pure,Result.andThen_ok,hu w,hn w,ap this,Addr.add_mid]
  have a6:=hk e1 (mG J);exact .rp e1 0 b (off+i.toNat*k') (f i.toNat) (fun j hj=>hc _ R _ (by omega)) fun j x hj=>hr _ e1 j x J hj
 cases o)
  cases o
 |sl j off len cap b a1 h1 h2=>
  simp only[vat] at o;split at o;·rename_i R;cases o;refine⟨.pointer (some ⟨b,off+i.toNat*n,none⟩),?_,.ptr j _ b a1⟩;have:(0≤i∧i<(len:Int)):=⟨hi,by omega⟩;simp only[execOp,I,e2,Instr.indexAt,asIntOf,Sem.run_bind,Sem.run_pure,Result.andThen_ok,hu w,hn w,ap this,Addr.add_mid]
  cases o
 |_=>cases o
theorem qih {t e:TypeId}{n:Nat}(R:ev T x=some p)(hu:∀w,(underlying t).run C.P w=.ok (.slice e) w)(o:qhz p=some n):za C ⟨dst,.call {callee:=.builtin .len,args:=#[x],argTypes:=#[t]},ty,pos,af,gd⟩ T H (.s (.int .i64 n)):=fun _ _ w Y=>by
 have J:=Y.ev R;refine⟨.int .i64 n,?_,.s _⟩;generalize I:Act.eval _ x=v at J;have:∃a c,v=.slice a n c:=by(
 cases J with
 |row k' bw es tok a c=>cases o;exact⟨a,c,rfl⟩
 |sl j off len cap b=>cases o;exact⟨_,cap,rfl⟩
 |s v=>cases v<;>simp[qhz] at o;subst o;exact⟨_,_,rfl⟩
 |_=>cases o)
 obtain⟨a,c,rfl⟩:=this;simp[execOp,I,resolve,invoke,builtin,Builtin.len_,hu w,goInt]
theorem qhm {t:TypeId}{s:ByteArray}(j:ev T x=some (.s (.string s)))(hu:∀w,(underlying t).run C.P w=.ok .string w):za C ⟨dst,.call {callee:=.builtin .len,args:=#[x],argTypes:=#[t]},ty,pos,af,gd⟩ T H (.s (.int .i64 s.size)):=fun _ _ w o=>by have I:=(o.ev j).of_s;exact⟨.int .i64 s.size,by simp[execOp,I,resolve,invoke,builtin,Builtin.len_,hu w,goInt],.s _⟩
theorem qed {t:TypeId}{i off:Nat}{I:TypeId}{cs:List V}(hx:ev T x=some (.ptr i off))(hi:H[i]? =some (.cells I cs))(hy:ev T y=some q)(h1:(qaq q).all qbd=true)(hn:∀w,(sizeOf t).run C.P w=.ok (qaq q).length w)(hl:off+(qaq q).length≤cs.length):OpS C ⟨dst,.store t x y,ty,pos,af,gd⟩ T H .any (H.set i (.cells I (wr cs off (qaq q)))):=fun g a w hs=>by
 have hv:=hs.ev hx;have hq:=hs.ev hy;generalize J:Act.eval _ x=v at hv;generalize qad:Act.eval _ y=u at hq;cases hv with
 |ptr j a7 b hb=>
  obtain⟨b',us,⟨k1,a1⟩,k2,k3,k4⟩:=hs.hr.objs i _ hi;rw[hb] at k1;cases k1;obtain⟨hp,ho⟩:=qbF hq h1;have hlen:u.cells.toList.length=(qaq q).length:=hp.1.symm;obtain⟨s1,s2,s3⟩:=qbJ u.cells.toList w b off;have o:g.own i b:=.inl hb;have a8:off+u.cells.toList.length≤us.length:=by rw[hlen,←k3.1];exact hl
  refine⟨undef,w.setCells b off u.cells.toList,g,.inr ⟨?_,rfl⟩,Le.turn o k4 s1 s2 s3 fun c R=>qaO _ _ _ _ _ R,.any _,hs.hr.turn o k4 s1 s2 s3 (fun c R=>qaO _ _ _ _ _ R) ⟨b,wr us off u.cells.toList,⟨hb,a1⟩,qgb _ _ _ _ _ k2,?_,k4⟩⟩
  ·have Y:=run_storeCells_cells (P:=C.P) b off u.cells.toList 0 w (fun j hj=>by rw[dj,k2.cell,Option.isSome_iff_exists];exact⟨_,by rw[List.getElem?_toArray];exact lG (by omega)⟩) (fun j _=>by rw[dj];exact k2.free _) ho;rw[dj] at Y;have a6:u.cells.size=(qaq q).length:=by rw[←hlen];simp
   simp[execOp,J,qad,Instr.storeAt,Instr.sureAddr,storeVar,hn,a6,Y]
  have hle:=Le.turn (w':=w.setCells b off u.cells.toList) o k4 s1 s2 s3 fun c R=>qaO _ _ _ _ _ R;exact(da.wr hp off cs us k3).le hle
theorem qdB {g:Gh}{w:World}(us:List Value):da g w (us.map .s) us:=⟨by simp,fun i c v j o=>by rw[cL,o] at j;cases j;exact .s _⟩
theorem qgq {t:TypeId}{z:Value}(o:∀w,(zeroValue t).run C.P w=.ok z w):OpS C ⟨dst,.alloc t,ty,pos,af,gd⟩ T H (.ptr H.length 0) (H++[.cells t (z.cells.toList.map .s)]):=fun g a w j=>by have:=j.hr.new (ty:=t) (qdB z.cells.toList);exact⟨.pointer (some ⟨w.heap.size,0,none⟩),w.alloc (.cells z.cells t),_,.inl (by simp[execOp,Instr.alloc,o,newVar,newRow]),Le.new j.hr,.ptr _ _ _ (by simp[Gh.put]),by simpa using this⟩
theorem qif {t:TypeId}(o:ev T x=some p)(h1:(qaq p).all qbd=true):OpS C ⟨dst,.box t x,ty,pos,af,gd⟩ T H (.ptr H.length 0) (H++[.cells t (qaq p)]):=fun g a w j=>by have:=j.hr.new (ty:=t) (qbF (j.ev o) h1).1;exact⟨.pointer (some ⟨w.heap.size,0,none⟩),w.alloc (.cells (a.eval x).cells t),_,.inl (by simp[execOp,Instr.box,newVar,newRow]),Le.new j.hr,.ptr _ _ _ (by simp[Gh.put]),by simpa using this⟩
theorem qeH {xs:List V}{i:Nat}(I:ev T x=some (.tup xs))(J:xs[i]? =some q):za C ⟨dst,.extract x i,ty,pos,af,gd⟩ T H q:=fun _ _ w R=>by
 have o:=R.ev I;generalize j:Act.eval _ x=v at o;cases o with
 |tup cs vs hl h=>obtain⟨u,h1,Y⟩:=da.get ⟨hl,h⟩ J;exact⟨u,by simp[execOp,j,Instr.extract,h1],Y⟩
theorem qig {t:TypeId}(j:ev T x=some p)(h:∀v w,(Instr.makeInterface t v).run C.P w=.ok (.iface t v) w):za C ⟨dst,.makeInterface t x,ty,pos,af,gd⟩ T H (.ifc t p):=fun _ _ w o=>⟨_,by simp[execOp,h],.ifc t p _ (o.ev j)⟩
theorem qbk {g:Gh}{w:World}{a:Act}(I:SR C g w a T H):∀(l:List Operand) (ps:List V),l.mapM (ev T)=some ps→da g w ps (l.map a.eval)
 | [],ps,h=>by simp at h;subst h;exact da.nil
 |o::l,ps,h=>by(
 rw[List.mapM_cons] at h;cases h1:ev T o with
 |none=>simp[h1] at h
 |some x=>
  cases j:l.mapM (ev T) with
  |none=>simp[h1,j] at h
  |some J=>simp[h1,j] at h;subst h;exact da.cons (I.ev h1) (qbk I l J j))
theorem qhl {f:Fn}{j:Array Operand}{ps:List V}(o:j.toList.mapM (ev T)=some ps):za C ⟨dst,.makeFunc f #[] j,ty,pos,af,gd⟩ T H (.fn f ps):=fun g a w I=>by have:=qbk I _ _ o;exact⟨.func f #[] (j.toList.map a.eval).toArray,by simp[execOp,Instr.makeFunc,←List.map_toArray],.fn f ps _ this.1 this.2⟩
end
end Q
end
section
namespace Q
def HLt (N:Nat):HO→Prop
 |.cells _ cs=>∀c∈cs,Lt N c
 |.map _ es=>∀e∈es,Lt N e.2
 |.tok _ _ _=>True
 |.gone=>True
section
variable {g:Gh} {w:World} {H J:List HO} {N:Nat}
theorem Le0.cut (g:Gh)(w:World)(N:Nat):Le0 (g.cut N) w g w:=by
 refine⟨fun _ _ h=>⟨h,rfl⟩,fun i b h=>?_,fun i u n h=>?_,fun _ _=>rfl⟩<;>(simp only[Gh.cut] at h;split at h);·exact h
 ·cases h
 ·exact⟨u,n,h,.inr ⟨rfl,rfl⟩⟩
 cases h
theorem qds {i b:Nat}(h:(g.cut N).own i b):g.own i b:=by
 rcases h with h|⟨v,n,h,j⟩;·exact .inl ((Le0.cut g default N).ι i b h)
 obtain⟨u,m,h1,o⟩:=(Le0.cut g default N).tk i v n h;simp only[Gh.cut] at h;split at h;·exact .inr ⟨v,n,h,j⟩
 cases h
theorem HR.cut (h:HR g w (H++J))(hl:∀o∈H,HLt H.length o):HR (g.cut H.length) w H:=by
 refine⟨fun i o ho=>?_,fun i hi=>?_,fun i j b hi hj=>h.inj i j b (qds hi) (qds hj),h.lt⟩
 ·have C:=(lS.1 ho).1;have hL:=hl o (mG ho);have hh:=h.objs i o (by rw[ma C];exact ho);cases o with
  |cells ty cs=>obtain⟨b,us,⟨h1,I⟩,R,h3,h4⟩:=hh;exact⟨b,us,⟨by simp[Gh.cut,C,h1],by simp[Gh.cut,C,I]⟩,R,h3.cut hL,h4⟩
  |map d es=>obtain⟨b,Y,c,⟨h1,I⟩,R,⟨⟨m1,m2,m3,m4⟩,m5⟩,h4⟩:=hh;exact⟨b,Y,c,⟨by simp[Gh.cut,C,h1],by simp[Gh.cut,C,I]⟩,R,⟨⟨m1,fun i x e hx he=>⟨(m2 i x e hx he).1,(m2 i x e hx he).2.cut (hL x (mG hx))⟩,m3,m4⟩,m5⟩,h4⟩
  |tok ty k n=>obtain⟨v,xs,h1,I,R,h3⟩:=hh;exact⟨v,xs,by simp[Gh.cut,h1],by simp[Gh.cut,C,I],R,h3⟩
  |gone=>obtain⟨b,⟨h1,I⟩,R⟩:=hh;exact⟨b,⟨by simp[Gh.cut,C,h1],by simp[Gh.cut,C,I]⟩,R⟩
 simp[Gh.cut,Nat.not_lt.2 hi]
theorem Le.cut {g0:Gh}{j:World}(h:Le g0 j g w)(o:∀i,N≤i→g0.ι i=none∧g0.tk i=none):Le g0 j (g.cut N) w:=by
 refine⟨h.os,h.output,h.size,h.fz,fun i b hi=>?_,fun i u n hi=>?_,h.fzb,h.kept,fun i b hi=>h.own i b (qds hi),h.fzn⟩
 ·have:i<N:=Nat.lt_of_not_le fun hle=>by rw[(o i hle).1] at hi;cases hi
  simp[Gh.cut,this,h.ι i b hi]
 have:i<N:=Nat.lt_of_not_le fun hle=>by rw[(o i hle).2] at hi;cases hi
 obtain⟨C,I,h1,R⟩:=h.tk i u n hi;exact⟨C,I,by simp[Gh.cut,this,h1],R⟩
end
def Sub:VT→VT→Prop
 | [],_=>True
 |(t,x)::S,T=>Oo T t=some x∧Sub S T
theorem qjq:∀ {S T:VT},Sub S T→∀t x,Oo S t=some x→Oo T t=some x
 | [],_,_,_,_,h=>by cases h
 |(u,y)::S,T,h,t,x,j=>by
  simp only[Oo] at j;split at j;·rename_i e;subst e;cases j;exact h.1
  exact qjq h.2 t x j
def Cut (N:Nat)(H:List HO)(S:VT)(H':List HO):Prop:=H=H'∨∃J,H'=H++J∧N≤H.length∧(∀x∈S,Lt H.length x.2)∧∀o∈H,HLt H.length o
section
variable {C:Cx} {Q:VQ} {S T:VT} {H H':List HO} {g:Gh} {w:World} {a:Act}
theorem qea:∀ {S:VT} {t:Nat} {x:V},Oo S t=some x→(t,x)∈S
 | [],_,_,h=>by cases h
 |(u,y)::S,t,x,h=>by
  simp only[Oo] at h;split at h;·rename_i e;subst e;cases h;exact List.mem_cons_self ..
  exact List.mem_cons_of_mem _ (qea h)
theorem SR.sub (h:SR C g w a T H')(o:Sub S T)(I:Cut C.N H S H'):∃R,SR C R w a S H:=by
 rcases I with rfl|⟨J,rfl,h1,Y,h3⟩;·exact⟨g,h.le,fun t x j=>h.tmps t x (qjq o t x j),h.hr,h.defers,h.size,h.nil⟩
 refine⟨g.cut H.length,h.le.cut fun i hi=>h.nil i (by omega),fun t x j=>?_,h.hr.cut h3,h.defers,h.size,h.nil⟩;obtain⟨v,k1,k2⟩:=h.tmps t x (qjq o t x j);exact⟨v,k1,k2.cut (Y _ (qea j))⟩
theorem qbf {α:Type}{c:Code}(J:α→Prop)(μ:α→Nat)(F:α→VT)(Hk:α→List HO)(i:α)(h0:J i)(hS:Sub (F i) T)(hC:Cut C.N (Hk i) (F i) H)
 (hr:∀i,J i→VW C c (qcd (fun I H'=>∃j,J j∧μ j<μ i∧Sub (F j) I∧Cut C.N (Hk j) (F j) H') Q) (F i) (Hk i)):VW C (.loop c) Q T H:=.mk fun g a w o=>by
 have key:∀a w,(∃i g,J i∧SR C g w a (F i) (Hk i))→(Code.loop c).wp C.P (Up C Q) a w:=by(
 intro a w ⟨i,g,R,o⟩;refine wp_loop_ghost (fun n a w=>∃i g,μ i=n∧J i∧SR C g w a (F i) (Hk i)) (μ i) ⟨i,g,rfl,R,o⟩ ?_;rintro n a w ⟨i,g,rfl,R,o⟩;refine wp_mono ((hr i R).out g a w o) ?_;rintro e a' w' ⟨Y,I,H',h1,h2⟩;cases e with
 |normal=>obtain⟨j,j1,j2,j3,j4⟩:=h2;obtain⟨g'',h3⟩:=h1.sub j3 j4;exact⟨μ j,j2,j,g'',rfl,j1,h3⟩
 |_=>exact⟨Y,I,H',h1,h2⟩)
 obtain⟨Y,h⟩:=o.sub hS hC;exact key a w ⟨i,Y,h0,h⟩
theorem qiN {α:Type}{x y:Code}(J:α→Prop)(F:α→VT)(Hk:α→List HO)(h1:VW C x (qcd (fun o H'=>∃j,J j∧Sub (F j) o∧Cut C.N (Hk j) (F j) H') Q) T H)(I:∀j,J j→VW C y Q (F j) (Hk j)):VW C (.seq x y) Q T H:=
 qhN (VW.mono h1 fun e o H' h=>by
  cases e with
  |normal=>obtain⟨j,R,Y,j3⟩:=h;exact .mk fun g a w hs=>by obtain⟨g',h3⟩:=hs.sub Y j3;exact(I j R).out g' a w h3
  |_=>exact h)
end
def VG (P:Program)(f:FuncId)(xs:List V)(H:List HO)(Q:V→List HO→Prop):Prop:=∀g w vs,HR g w H→da g w xs vs→Calls P f vs.toArray w fun e w'=>∃v x j H',e=.returned v∧Q x H'∧VR j w' x v∧Le g w j w'∧HR j w' H'
def VF (P:Program)(f:FuncId)(xs:List V)(Q:V→Prop):Prop:=VG P f xs [] fun x H=>Q x∧H=[]
def T0:Nat→List V→VT
 |_,[]=>[]
 |i,x::xs=>(i,x)::T0 (i+1) xs
theorem qfe:∀(xs:List V) (i t:Nat) (x:V),Oo (T0 i xs) t=some x→i≤t∧xs[t-i]? =some x
 | [],_,_,_,h=>by cases h
 |y::xs,i,t,x,h=>by(
 simp only[T0,Oo] at h;split at h;·rename_i e;subst e;cases h;exact⟨cf _,by simp⟩
 obtain⟨h1,j⟩:=qfe xs (i+1) t x h;refine⟨by omega,?_⟩;rw[show t-i=t-(i+1)+1 by omega];simpa using j)
def qeU:List V→V
 | [x]=>x
 |xs=>.tup xs
def qfm (a:Array Value):ResultVar→Sem Value
 |.tmp t=>pure (a.getD t undef)
 |.cell b t=>do loadVar t (←asAddr (a.getD b undef))
theorem qcl (P:Program)(tmps:Array Value)(w:World):∀(j:List Tmp),(j.mapM (qfm tmps∘ResultVar.tmp)).run P w=.ok (j.map fun t=>tmps.getD t undef) w
 | []=>rfl
 |t::j=>by simp[List.mapM_cons,qcl P tmps w j,qfm]
theorem qdc {C:Cx}{g:Gh}{w:World}{a:Act}{T:VT}{H:List HO}(R:SR C g w a T H):∀(j:List Tmp) (xs:List V),j.mapM (Oo T)=some xs→da g w xs (j.map fun t=>a.tmps.getD t undef)
 | [],xs,h1=>by simp at h1;subst h1;exact da.nil
 |t::j,xs,h1=>by(
 rw[List.mapM_cons] at h1;cases o:Oo T t with
 |none=>simp[o] at h1
 |some x=>
  cases I:j.mapM (Oo T) with
  |none=>simp[o,I] at h1
  |some Y=>simp[o,I] at h1;subst h1;obtain⟨v,e1,e2⟩:=R.tmps t x o;rw[List.map_cons,show a.tmps.getD t undef=v by simp[Array.getD_eq_getD_getElem?,e1]];exact da.cons e2 (qdc R j Y I))
theorem IA (P:Program)(tmps:Array Value)(w:World)(j:List Tmp):((j.map ResultVar.tmp).mapM (qfm tmps)).run P w=.ok (j.map fun t=>tmps.getD t undef) w:=by rw[List.mapM_map];exact qcl P tmps w j
def qjS (us:List Value):Value:=if h:us.toArray.size=1 then us.toArray[0] else .tuple us.toArray
theorem qjO {P:Program}{w:World}{fn:Func}{tmps:Array Value}{rs:List ResultVar}{us:List Value}(hr:fn.results=rs.toArray)(h:(rs.mapM (qfm tmps)).run P w=.ok us w):(results fn tmps).run P w=.ok (qjS us) w:=by
 have h1:(fn.results.mapM (qfm tmps)).run P w=.ok us.toArray w:=by rw[hr,Array.mapM_eq_mapM_toList,List.toList_toArray];simp[h]
 show(do let vs←fn.results.mapM (qfm tmps);pure (if h:vs.size=1 then vs[0] else .tuple vs):Sem Value).run P w=_;rw[Sem.run_bind,h1];rfl
theorem qjX {g:Gh}{w:World}{us:List Value}{xs:List V}(j:da g w xs us):VR g w (qeU xs) (qjS us):=by
 match xs,us,j with
 | [],[],_=>exact .tup [] [] rfl fun i c v h=>by simp at h
 | [x],[u],j=>exact j.2 0 x u rfl rfl
 |x::y::xs,u::v::us,j=>exact .tup _ _ j.1 j.2
 | [],_::_,j=>exact absurd j.1 (by simp)
 |_::_,[],j=>exact absurd j.1 (by simp)
 | [_],_::_::_,j=>exact absurd j.1 (by simp)
 |_::_::_,[_],j=>exact absurd j.1 (by simp)
end Q
end
end Go.Proofs.YtgdlhckhpolnnaaGreatDoor
