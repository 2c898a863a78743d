/- Part 15 of the proof (its last part says what is proved). No condition. -/
import Derived.Great.BuildSlice
import Derived.Lib.LaidTab
import Derived.Test.YtgdlhckhpolnnaaGreatDoorK13
namespace Go.Proofs.YtgdlhckhpolnnaaGreatDoor
set_option maxRecDepth 100000
set_option maxHeartbeats 8000000
open Go.RowKit Go.Proofs.Tryz
section
namespace Q
def Gh.frz (g:Gh)(n:Nat)(w:World):Gh:=⟨g.ι,fun b o=>g.fz b o∨n≤b∧b<w.heap.size,g.tk⟩
def Gh.put (g:Gh)(i b:Nat):Gh:=⟨fun j=>if j=i then some b else g.ι j,g.fz,g.tk⟩
def wr {α:Type}:List α→Nat→List α→List α
 |cs,_,[]=>cs
 |cs,o,x::xs=>wr (cs.set o x) (o+1) xs
theorem qgK {α:Type}:∀(j xs cs:List α),xs.length=cs.length→wr (j++cs) j.length xs=j++xs
 |_,[],[],_=>rfl
 |_,[],_::_,h=>by simp at h
 |_,_::_,[],h=>by simp at h
 |j,x::xs,c::cs,h=>by have:=qgK (j++[x]) xs cs (by simpa using h);simpa [wr] using this
theorem qgJ {α:Type}{xs cs:List α}(h:xs.length=cs.length):wr cs 0 xs=xs:=qgK [] xs cs h
section
variable {g g':Gh} {w w':World} {H:List HO} {ty:TypeId} {cs cs':List V} {us us':List Value}
theorem qaX (h:HR g w H){b o:Nat}(j:g.fz b o):b<w.heap.size:=h.lt b o j
theorem qaG (h:HR g w H){j b:Nat}(C:g.own j b):b<w.heap.size∧j<H.length:=by
 rcases Nat.lt_or_ge j H.length with hj|hj;·(
 refine⟨?_,hj⟩;have Y:=h.objs j _ (lG hj);generalize H[j]=o at Y;cases o with
 |cells ty cs=>
  obtain⟨b',us,⟨J,I⟩,R,_⟩:=Y;rcases C with C|⟨v,n,C,_⟩;·rw[J] at C;cases C;exact R.lt
  rw[I] at C;cases C
 |map d es=>
  obtain⟨b',us,c,⟨J,I⟩,R,_⟩:=Y;rcases C with C|⟨v,n,C,_⟩;·rw[J] at C;cases C;exact(mV.1 R).1
  rw[I] at C;cases C
 |tok ty k n=>
  obtain⟨v,xs,J,I,R,_⟩:=Y;rcases C with C|⟨v',n',C,hv⟩;·rw[J] at C;cases C
  rw[I] at C;cases C;exact(aD R hv).2
 |gone=>
  obtain⟨b',⟨J,I⟩,R⟩:=Y;rcases C with C|⟨v,n,C,_⟩;·rw[J] at C;cases C;exact R
  rw[I] at C;cases C)
 have:=h.nil j hj;rcases C with C|⟨v,n,C,_⟩;·rw[this.1] at C;cases C
 rw[this.2] at C;cases C
theorem HOR.keep {j:Nat}{o:HO}(h:HOR g w j o)(hl:Le g w g' w')(hb:∀b,g.own j b→w'.heap[b]? =w.heap[b]?∧∀o,g'.fz b o→g.fz b o)(hi:g'.ι j=g.ι j)(ht:g'.tk j=g.tk j):HOR g' w' j o:=by
 cases o with
 |cells ty cs=>obtain⟨b,us,⟨J,C⟩,I,h3,R⟩:=h;obtain⟨k1,k2⟩:=hb b (.inl J);exact⟨b,us,⟨hi.trans J,ht.trans C⟩,k1.trans I,h3.le hl,fun o e=>R o (k2 o e)⟩
 |map d es=>obtain⟨b,Y,c,⟨J,C⟩,I,⟨⟨m1,m2,m3,m4⟩,m5⟩,R⟩:=h;obtain⟨k1,k2⟩:=hb b (.inl J);exact⟨b,Y,c,⟨hi.trans J,ht.trans C⟩,k1.trans I,⟨⟨m1,fun i x e hx he=>⟨(m2 i x e hx he).1,(m2 i x e hx he).2.le hl⟩,m3,m4⟩,m5⟩,fun o e=>R o (k2 o e)⟩
 |tok ty k n=>
  obtain⟨v,xs,J,C,I,h3⟩:=h;refine⟨v,xs,hi.trans J,ht.trans C,⟨I.1,?_⟩,fun b hv o ho e=>h3 b hv o ho ((hb b (.inr ⟨v,n,C,hv⟩)).2 o e)⟩;rcases I.2 with I|⟨gb,cap,cur,rfl,R,h5,h6⟩;·exact .inl I
  exact .inr ⟨gb,cap,cur,rfl,R,(hb gb (.inr ⟨_,_,C,rfl⟩)).1.trans h5,h6⟩
 |gone=>obtain⟨b,⟨J,C⟩,I⟩:=h;exact⟨b,⟨hi.trans J,ht.trans C⟩,Nat.lt_of_lt_of_le I hl.size⟩
theorem Le.kept0 (h:HR g w H)(k:aa All w w'):Le g w g w':=
 ⟨k.os,k.output,k.size,fun b _ j=>⟨j,World.cell?_of_block (k.block b (qaX h j) trivial)⟩,fun _ _ h=>h,fun _ u n h=>⟨u,n,h,.inr ⟨rfl,rfl⟩⟩,fun b j=>k.block b (qaX h (j 0)) trivial,fun b j _=>k.block b j trivial,fun _ _ h=>.inl h,fun _ _ h=>.inl h⟩
theorem HR.kept0 (h:HR g w H)(k:aa All w w'):HR g w' H:=
 ⟨fun i o C=>(h.objs i o C).keep (Le.kept0 h k) (fun b j=>⟨k.block b (qaG h j).1 trivial,fun _ h=>h⟩) rfl rfl,h.nil,h.inj,fun b o j=>Nat.lt_of_lt_of_le (h.lt b o j) k.size⟩
theorem Le.frz (h:HR g w H)(k:aa All w w'):Le g w (g.frz w.heap.size w') w':=
 ⟨k.os,k.output,k.size,fun b _ j=>⟨.inl j,World.cell?_of_block (k.block b (qaX h j) trivial)⟩,fun _ _ h=>h,fun _ u n h=>⟨u,n,h,.inr ⟨rfl,rfl⟩⟩,fun b j=>k.block b (qaX h (j 0)) trivial,fun b j _=>k.block b j trivial,fun _ _ h=>.inl h,fun _ _ h=>h.imp id fun h=>.inl h.1⟩
theorem HR.frz (h:HR g w H)(k:aa All w w'):HR (g.frz w.heap.size w') w' H:=
 ⟨fun i o C=>(h.objs i o C).keep (Le.frz h k) (fun b j=>⟨k.block b (qaG h j).1 trivial,fun o e=>e.elim id fun e=>by have:=(qaG h j).1;omega⟩) rfl rfl,h.nil,h.inj,fun b o j=>j.elim (fun j=>Nat.lt_of_lt_of_le (h.lt b o j) k.size) fun j=>j.2⟩
theorem qdi (h:HR g w H){b:Nat}{i c:Nat}(j:(g.put H.length b).own i c):(i=H.length∧c=b)∨(i<H.length∧g.own i c):=by
 rcases j with j|⟨v,n,o,C⟩
 ·simp only[Gh.put] at j
  split at j;·rename_i e;cases j;exact .inl ⟨e,rfl⟩
  exact .inr ⟨(qaG h (.inl j)).2,.inl j⟩
 exact .inr ⟨(qaG h (.inr ⟨v,n,o,C⟩)).2,.inr ⟨v,n,o,C⟩⟩
theorem Le.put (h:HR g w H)(k:aa All w w'){b:Nat}(j:w.heap.size≤b):Le g w (g.put H.length b) w':=
 ⟨k.os,k.output,k.size,fun b _ j=>⟨j,World.cell?_of_block (k.block b (qaX h j) trivial)⟩,fun i c hi=>by
  have:i≠H.length:=fun e=>by have:=(h.nil i (by omega)).1;rw[this] at hi;cases hi
  simp[Gh.put,this,hi],fun _ u n h=>⟨u,n,h,.inr ⟨rfl,rfl⟩⟩,fun b j=>k.block b (qaX h (j 0)) trivial,fun b j _=>k.block b j trivial,fun i c o=>(qdi h o).elim (fun e=>.inr (e.2▸j)) fun e=>.inl e.2,fun _ _ h=>.inl h⟩
theorem HR.put (h:HR g w H)(k:aa All w w'){b:Nat}(R:w.heap.size≤b){o:HO}(Y:HOR (g.put H.length b) w' H.length o):HR (g.put H.length b) w' (H++[o]):=by
 refine⟨fun i p C=>?_,fun i hi=>?_,fun i j c hi hj=>?_,fun c o I=>?_⟩
 ·rcases Nat.lt_or_ge i H.length with hi|hi
  ·rw[ma hi] at C
   refine(h.objs i p C).keep (Le.put h k R) (fun c I=>⟨k.block c (qaG h I).1 trivial,fun _ h=>h⟩) ?_ rfl;simp[Gh.put,Nat.ne_of_lt hi]
  have:i=H.length:=by have:=(lS.1 C).1;simp at this;omega
  subst this;simp at C;subst C;exact Y
 ·simp at hi;have:=h.nil i (by omega);refine⟨?_,this.2⟩;simp only[Gh.put];rw[ae (by omega)];exact this.1
 ·rcases qdi h hi with ⟨e1,J⟩|⟨e1,J⟩<;>rcases qdi h hj with ⟨f1,f2⟩|⟨f1,f2⟩;·omega
  ·have:=(qaG h f2).1;omega
  ·have:=(qaG h J).1;omega
  exact h.inj i j c J f2
 exact Nat.lt_of_lt_of_le (h.lt c o I) k.size
theorem HR.new (h:HR g w H)(j:VRs g w cs us):HR (g.put H.length w.heap.size) (w.alloc (.cells us.toArray ty)) (H++[.cells ty cs]):=by have k:aa All w (w.alloc (.cells us.toArray ty)):=kR.alloc _;exact h.put k (cf _) ⟨w.heap.size,us,⟨by simp[Gh.put],(h.nil _ (cf _)).2⟩,al.new _ _ _,j.le (Le.put h k (cf _)),fun o e=>by have:=qaX h e;omega⟩
theorem Le.new (h:HR g w H){o:Obj}:Le g w (g.put H.length w.heap.size) (w.alloc o):=Le.put h (kR.alloc _) (cf _)
theorem Le.turn {i b:Nat}(hi:g.own i b)(R:∀o,¬g.fz b o)(I:w'.os=w.os)(C:w'.output=w.output)(Y:w'.heap.size=w.heap.size)(J:∀c,c≠b→w'.heap[c]? =w.heap[c]?):Le g w g w':=
 ⟨I,C,by omega,fun c o j=>⟨j,World.cell?_of_block (J c fun e=>R o (e▸j))⟩,fun _ _ h=>h,fun _ u n h=>⟨u,n,h,.inr ⟨rfl,rfl⟩⟩,fun c j=>J c fun e=>R 0 (e▸j 0),fun c _ j=>J c fun e=>j i (e▸hi),fun _ _ h=>.inl h,fun _ _ h=>.inl h⟩
theorem HR.turn (h:HR g w H){i b:Nat}(hi:g.own i b)(hf:∀o,¬g.fz b o)(R:w'.os=w.os)(I:w'.output=w.output)(J:w'.heap.size=w.heap.size)(ho:∀c,c≠b→w'.heap[c]? =w.heap[c]?){p:HO}(hp:HOR g w' i p):HR g w' (H.set i p):=by
 refine⟨fun j q C=>?_,fun j hj=>h.nil j (by simpa using hj),h.inj,fun c o Y=>?_⟩
 ·rw[List.getElem?_set] at C;by_cases e:i=j
  ·subst e;rw[ap rfl] at C;split at C;·cases C;exact hp
   cases C
  rw[ae e] at C;exact(h.objs j q C).keep (Le.turn hi hf R I J ho) (fun c Y=>⟨ho c fun e'=>e (h.inj i j b hi (e'▸Y)),fun _ h=>h⟩) rfl rfl
 rw[J];exact h.lt c o Y
theorem qfN:∀(j:List Value) (w:World) (b o:Nat) (us:List Value),al w b ty us.toArray→al (w.setCells b o j) b ty (wr us o j).toArray
 | [],_,_,_,_,h=>h
 |v::j,w,b,o,us,h=>by have:=qfN j (w.setCell ⟨b,o,none⟩ v) b (o+1) (us.set o v) (by simpa using h.set o v);exact this
theorem VRs.wr {xs:List V}{j:List Value}(C:VRs g w xs j):∀(o:Nat) (cs:List V) (us:List Value),VRs g w cs us→VRs g w (Go.Proofs.YtgdlhckhpolnnaaGreatDoor.Q.wr cs o xs) (Go.Proofs.YtgdlhckhpolnnaaGreatDoor.Q.wr us o j):=by
 induction xs generalizing j with
 |nil=>
  cases j with
  |nil=>exact fun _ _ _ h=>h
  |cons v j=>have:=C.1;simp at this
 |cons x xs I=>
  cases j with
  |nil=>have:=C.1;simp at this
  |cons v j=>intro o cs us h;have J:=C.2 0 x v rfl rfl;exact I ⟨by simpa using C.1,fun i c u R hu=>C.2 (i+1) c u (by simpa using R) (by simpa using hu)⟩ (o+1) _ _ (h.set J o)
theorem qaO:∀(j:List Value) (w:World) (b o c:Nat),c≠b→(w.setCells b o j).heap[c]? =w.heap[c]?
 | [],_,_,_,_,_=>rfl
 |v::j,w,b,o,c,h=>(qaO j _ b (o+1) c h).trans (pI w ⟨b,o,none⟩ v c h)
theorem qbH:∀(j:List Value) (w:World) (b o:Nat),(w.setCells b o j).os=w.os∧(w.setCells b o j).output=w.output∧(w.setCells b o j).heap.size=w.heap.size
 | [],_,_,_=>⟨rfl,rfl,rfl⟩
 |v::j,w,b,o=>by obtain⟨C,I,J⟩:=qbH j (w.setCell ⟨b,o,none⟩ v) b (o+1);exact⟨C,I,J.trans (by simp)⟩
end
end Q
end
section
namespace Q
def qcm (H:List HO):V→Option (List V×Nat)
 |.ptr i off=>match H[i]? with
  |some (.cells _ cs)=>some (cs,off)
  |_=>none
 |.rp e off=>some (e,off)
 |_=>none
def vld (b:Bool)(n:Nat)(cs:List V)(off:Nat):Option V:=match b with
 |true=>if off=0∧n=cs.length then some (.agg cs) else if off+n≤cs.length then some (.agg ((cs.drop off).take n)) else none
 |false=>cs[off]?
def qat:V→List V
 |.agg cs=>cs
 |x=>[x]
def qbc:V→Bool
 |.s v=>v.oneCell'
 |.agg _|.tup _|.any=>false
 |_=>true
def qhy (n:Nat):V→Option V
 |.ptr i off=>some (.ptr i (off+n))
 |.rp e off=>some (.rp e (off+n))
 |_=>none
def vat (i n:Nat):V→Option V
 |.row k _ es _=>if k=n then(match es[i]? with|some e=>some (.rp e 0)|none=>none) else none
 |.sl j off len _=>if i<len then some (.ptr j (off+i*n)) else none
 |_=>none
def qhn:V→Option Nat
 |.row _ _ es _=>some es.length
 |.sl _ _ len _=>some len
 |.s (.slice _ n _)=>some n
 |_=>none
section
variable {g:Gh} {w:World} {H:List HO} {p x:V} {v:Value}
theorem qde (h:VR g w x v)(j:qbc x=true):v.oneCell'=true:=by
 cases h with
 |s v=>exact j
 |any|agg|tup=>cases j
 |_=>rfl
theorem qff (hr:HR g w H)(hx:VR g w p v){cs:List V}{off:Nat}(C:qcm H p=some (cs,off)):∃b o us,v=.pointer (some ⟨b,o+off,none⟩)∧VRs g w cs us∧∀(j:Nat) u,us[j]? =some u→w.cell? ⟨b,o+j,none⟩=some u:=by
 cases hx with
 |ptr i I b hi=>
  simp only[qcm] at C;split at C;·rename_i ty a1 R;cases C;obtain⟨b',us,⟨J,_⟩,Y,h3,_⟩:=hr.objs i _ R;rw[hi] at J;cases J;exact⟨b,0,us,by rw[cN],h3,fun j u hu=>by rw[cN,Y.cell];simpa using hu⟩
  cases C
 |rp e I b o f J Y=>
  cases C;refine⟨b,o,(List.range cs.length).map f,rfl,⟨by simp,fun i c u C hu=>?_⟩,fun j u hu=>?_⟩;·rw[cL] at hu;obtain⟨m,hm,rfl⟩:=oE.1 hu;obtain⟨_,hm⟩:=lS.1 hm;simp at hm;subst hm;exact Y _ c C
  rw[cL] at hu;obtain⟨m,hm,rfl⟩:=oE.1 hu;obtain⟨hj,hm⟩:=lS.1 hm;simp at hm hj;subst hm;exact(J _ hj).2
 |_=>cases C
theorem qbE (h:VR g w x v)(o:(qat x).all qbc=true):VRs g w (qat x) v.cells.toList∧(∀u∈v.cells.toList,u.oneCell'=true):=by
 have key:∀(cs:List V) (us:List Value),VRs g w cs us→cs.all qbc=true→∀u∈us,u.oneCell'=true:=by intro cs us C R u hu;obtain⟨i,hi⟩:=cY.1 hu;have j:=(lS.1 hi).1;have I:=lG (C.1▸j);exact qde (C.2 i _ u I hi) (List.all_eq_true.1 R _ (mG I))
 have one:qat x=[x]→qbc x=true→VRs g w (qat x) v.cells.toList∧∀u∈v.cells.toList,u.oneCell'=true:=by(
 intro e Y;have J:=qde h Y;have h3:v.cells= #[v]:=by cases v<;>first|rfl|cases J
 rw[e,h3];exact⟨VRs.cons h VRs.nil,by simpa using J⟩)
 cases x with
 |agg cs=>
  cases h with
  |agg cs vs hl h=>exact⟨by simpa [Value.cells,qat] using⟨hl,h⟩,by simpa [Value.cells] using key cs vs ⟨hl,h⟩ o⟩
 |_=>exact one rfl (by simpa [qat] using o)
end
def OpP (C:Cx)(o:Oper)(T:VT)(H:List HO)(x:V):Prop:=∀g a w,SR C g w a T H→∃v,(execOp a.eval o).run C.P w=.ok (.value v) w∧VR g w x v
section
variable {C:Cx} {T:VT} {H H':List HO} {dst:Option Tmp} {ty:TypeId} {pos:String} {af:Array Edge} {gd:Option (Nat×Bool)} {x y z:Operand} {p q r:V}
theorem VR.of_s {g:Gh}{w:World}{u v:Value}(h:VR g w (.s u) v):v=u:=by cases h;rfl
theorem OpP.s {o:Oper}(h:OpP C o T H p):OpS C o T H p H:=fun g a w j=>by obtain⟨v,I,J⟩:=h g a w j;exact⟨v,w,g,.inl I,Le.refl _ _,J,j.hr⟩
theorem qhd (h:ev T x=some p):OpP C ⟨dst,.move x,ty,pos,af,gd⟩ T H p:=fun _ _ _ j=>⟨_,rfl,j.ev h⟩
theorem qfr (h:ev T x=some p):OpP C ⟨dst,.assign x,ty,pos,af,gd⟩ T H p:=fun _ _ _ j=>⟨_,rfl,j.ev h⟩
def qdj:Value→Bool
 |.nilIface|.agg _=>false
 |_=>true
theorem qcC {op:BinOp}{t:TypeId}{x y:Operand}{u v:Value}(h:qdj u=true)(P:Program)(w:World):(eqGuard op t x y u v).run P w=.ok () w:=by cases u<;>first|(simp[qdj] at h;done)|(cases op<;>rfl)
theorem qhN {op:BinOp}{t yt:TypeId}{u v r:Value}(o:ev T x=some (.s u))(I:ev T y=some (.s v))(h:∀w,(binOp op t u v).run C.P w=.ok r w)(hu:qdj u=true:=by rfl):OpP C ⟨dst,.binOp op t x y yt,ty,pos,af,gd⟩ T H (.s r):=fun _ _ w j=>by have J:=(j.ev o).of_s;have R:=(j.ev I).of_s;exact⟨r,by simp[execOp,J,R,qcC hu,h w],.s r⟩
def sOf:V→Option Value
 |.s v=>some v
 |_=>none
theorem qhv {g:Gh}{w:World}{cs:List V}{us:List Value}{v:Value}(o:cs.mapM sOf=some us)(h:VR g w (.agg cs) v):v=.agg us.toArray:=by
 cases h with
 |agg _ vs hl h=>
  have Y:=Lib.mapM_length o;refine congrArg (fun l:List Value=>Value.agg l.toArray) (List.ext_getElem? fun i=>?_);rcases Nat.lt_or_ge i cs.length with hi|hi
  ·have I:=lG (hl▸hi);obtain⟨u,e1,j⟩:=Lib.mapM_at o i _ (lG hi);have J:=h i _ _ (lG hi) I;rw[I,e1];cases R:cs[i] with
   |s x=>rw[R] at J j;cases J;exact j
   |_=>rw[R] at j;cases j
  rw[jz (by omega),jz (by omega)]
theorem qfi {P:Program}{op:BinOp}{t:TypeId}{us j:Array Value}(x y:Operand)(h:P.eqGuardType P.depth t=false)(w:World):(eqGuard op t x y (.agg us) (.agg j)).run P w=.ok () w:=by simp[eqGuard,go_sem,h]
theorem qgV {op:BinOp}{t yt:TypeId}{cs o:List V}{us j:List Value}{r:Value}(J:ev T x=some (.agg cs))(R:ev T y=some (.agg o))(hu:cs.mapM sOf=some us)(Y:o.mapM sOf=some j)(h:∀w,(binOp op t (.agg us.toArray) (.agg j.toArray)).run C.P w=.ok r w)(hg:∀w,(eqGuard op t x y (.agg us.toArray) (.agg j.toArray)).run C.P w=.ok () w):OpP C ⟨dst,.binOp op t x y yt,ty,pos,af,gd⟩ T H (.s r):=fun _ _ w I=>by have e1:=qhv hu (I.ev J);have e2:=qhv Y (I.ev R);exact⟨r,by simp[execOp,e1,e2,hg w,h w],.s r⟩
theorem qiu {op:UnOp}{t:TypeId}{u r:Value}(j:ev T x=some (.s u))(h:∀w,(Op.unary op u).run C.P w=.ok r w):OpP C ⟨dst,.unOp op t x,ty,pos,af,gd⟩ T H (.s r):=fun _ _ w o=>by have I:=(o.ev j).of_s;exact⟨r,by simp[execOp,I,h w],.s r⟩
theorem qgY {t d:TypeId}{u r:Value}(j:ev T x=some (.s u))(h:∀w,(convert t d u).run C.P w=.ok r w):OpP C ⟨dst,.convert t d x,ty,pos,af,gd⟩ T H (.s r):=fun _ _ w o=>by have I:=(o.ev j).of_s;exact⟨r,by simp[execOp,I,h w],.s r⟩
theorem qgh {c:Operand}(o:ev T c=some (.s (.bool true)))(I:ev T x=some p):OpP C ⟨dst,.pick c x y,ty,pos,af,gd⟩ T H p:=fun _ _ _ j=>⟨_,by simp[execOp,(j.ev o).of_s,asBool],j.ev I⟩
theorem qgg {c:Operand}(o:ev T c=some (.s (.bool false)))(I:ev T y=some p):OpP C ⟨dst,.pick c x y,ty,pos,af,gd⟩ T H p:=fun _ _ _ j=>⟨_,by simp[execOp,(j.ev o).of_s,asBool],j.ev I⟩
theorem qhc {t:TypeId}{b:Bool}{n off:Nat}{cs:List V}(hx:ev T x=some p)(hc:qcm H p=some (cs,off))(Y:∀w,(isAgg t).run C.P w=.ok b w)(hn:∀w,(sizeOf t).run C.P w=.ok n w)(J:vld b n cs off=some q):OpP C ⟨dst,.load t x,ty,pos,af,gd⟩ T H q:=fun g a w hs=>by
 obtain⟨bb,o,us,hv,hu,I⟩:=qff hs.hr (hs.ev hx) hc;cases b with
 |false=>obtain⟨u,h1,h2⟩:=hu.get J;exact⟨u,by simp[execOp,hv,Instr.loadAt,Instr.sureAddr,loadVar,Y,I _ _ h1],h2⟩
 |true=>
  have J:off+n≤cs.length∧q=.agg ((cs.drop off).take n):=by(
 simp only[vld] at J;split at J;·rename_i h;obtain⟨rfl,rfl⟩:=h;cases J;exact⟨by omega,by simp⟩
 split at J;·rename_i hle;cases J;exact⟨hle,rfl⟩
 cases J)
  obtain⟨hle,rfl⟩:=J;have hlen:((us.drop off).take n).length=n:=by simp[←hu.1];omega
  refine⟨.agg ((us.drop off).take n).toArray,?_,.agg _ _ ((hu.drop off).take n).1 ((hu.drop off).take n).2⟩;have hl:=run_loadCells_list (P:=C.P) w ⟨bb,o+off,none⟩ ((us.drop off).take n) (fun j v R=>by
   rw[Addr.add_mid,Nat.add_assoc];rw[List.getElem?_take] at R;split at R;·rw[List.getElem?_drop] at R;exact I _ _ R
   cases R)
  rw[hlen] at hl;simp[execOp,hv,Instr.loadAt,Instr.sureAddr,loadVar,Y,hn,hl]
theorem qdf {t:TypeId}{i n:Nat}(hx:ev T x=some p)(R:∀b o w,(Instr.fieldAt t (.pointer (some ⟨b,o,none⟩)) i).run C.P w=.ok (.pointer (some ⟨b,o+n,none⟩)) w)(J:qhy n p=some q):OpP C ⟨dst,.fieldAddr t x i,ty,pos,af,gd⟩ T H q:=fun _ _ w hs=>by
 have Y:=hs.ev hx;generalize I:Act.eval _ x=v at Y;cases Y with
 |ptr j off b hi=>cases J;exact⟨_,by simp[execOp,I,R],.ptr j (off+n) b hi⟩
 |rp e off b o f hc hr=>cases J;exact⟨.pointer (some ⟨b,o+(off+n),none⟩),by simp[execOp,I,R,Nat.add_assoc],.rp e (off+n) b o f hc hr⟩
 |_=>cases J
theorem qgf {t e:TypeId}{n:Nat}{k:IntKind}{i:Int}(hx:ev T x=some p)(hy:ev T y=some (.s (.int k i)))(hi:0≤i)(hu:∀w,(underlying t).run C.P w=.ok (.slice e) w)(hn:∀w,(sizeOf e).run C.P w=.ok n w)(o:vat i.toNat n p=some q):OpP C ⟨dst,.indexAddr t x y,ty,pos,af,gd⟩ T H q:=fun _ _ w hs=>by
 have hv:=hs.ev hx;have e2:=(hs.ev hy).of_s;generalize I:Act.eval _ x=v at hv;cases hv with
 |row k' bw es tok a c f h1 h2 h3 hk ha hr ht=>
  simp only[vat] at o;split at o;·(
 rename_i Y;subst Y;split at o
 ·rename_i e1 J;cases o;have R:=(lS.1 J).1;obtain⟨b,off,rfl,hc⟩:=ha (by omega);refine⟨.pointer (some ⟨b,off+i.toNat*k',none⟩),?_,?_⟩
  ·have:(0≤i∧i<(es.length:Int)):=⟨hi,by omega⟩
   simp only[execOp,I,e2,Instr.indexAt,asIntOf,Sem.run_bind,Sem.run_pure,Result.andThen_ok,hu w,hn w,ap this,Addr.add_mid]
  have a6:=hk e1 (mG J);exact .rp e1 0 b (off+i.toNat*k') (f i.toNat) (fun j hj=>hc _ R _ (by omega)) fun j x hj=>hr _ e1 j x J hj
 cases o)
  cases o
 |sl j off len cap b a1 h1 h2=>
  simp only[vat] at o;split at o;·rename_i R;cases o;refine⟨.pointer (some ⟨b,off+i.toNat*n,none⟩),?_,.ptr j _ b a1⟩;have:(0≤i∧i<(len:Int)):=⟨hi,by omega⟩;simp only[execOp,I,e2,Instr.indexAt,asIntOf,Sem.run_bind,Sem.run_pure,Result.andThen_ok,hu w,hn w,ap this,Addr.add_mid]
  cases o
 |_=>cases o
theorem qhQ {t e:TypeId}{n:Nat}(R:ev T x=some p)(hu:∀w,(underlying t).run C.P w=.ok (.slice e) w)(o:qhn p=some n):OpP C ⟨dst,.call {callee:=.builtin .len,args:=#[x],argTypes:=#[t]},ty,pos,af,gd⟩ T H (.s (.int .i64 n)):=fun _ _ w Y=>by
 have J:=Y.ev R;refine⟨.int .i64 n,?_,.s _⟩;generalize I:Act.eval _ x=v at J;have:∃a c,v=.slice a n c:=by(
 cases J with
 |row k' bw es tok a c=>cases o;exact⟨a,c,rfl⟩
 |sl j off len cap b=>cases o;exact⟨_,cap,rfl⟩
 |s v=>cases v<;>simp[qhn] at o;subst o;exact⟨_,_,rfl⟩
 |_=>cases o)
 obtain⟨a,c,rfl⟩:=this;simp[execOp,I,resolve,invoke,builtin,Builtin.len_,hu w,goInt]
theorem qha {t:TypeId}{s:ByteArray}(j:ev T x=some (.s (.string s)))(hu:∀w,(underlying t).run C.P w=.ok .string w):OpP C ⟨dst,.call {callee:=.builtin .len,args:=#[x],argTypes:=#[t]},ty,pos,af,gd⟩ T H (.s (.int .i64 s.size)):=fun _ _ w o=>by have I:=(o.ev j).of_s;exact⟨.int .i64 s.size,by simp[execOp,I,resolve,invoke,builtin,Builtin.len_,hu w,goInt],.s _⟩
theorem qdP {t:TypeId}{i off:Nat}{I:TypeId}{cs:List V}(hx:ev T x=some (.ptr i off))(hi:H[i]? =some (.cells I cs))(hy:ev T y=some q)(h1:(qat q).all qbc=true)(hn:∀w,(sizeOf t).run C.P w=.ok (qat q).length w)(hl:off+(qat q).length≤cs.length):OpS C ⟨dst,.store t x y,ty,pos,af,gd⟩ T H .any (H.set i (.cells I (wr cs off (qat q)))):=fun g a w hs=>by
 have hv:=hs.ev hx;have hq:=hs.ev hy;generalize J:Act.eval _ x=v at hv;generalize qad:Act.eval _ y=u at hq;cases hv with
 |ptr j a7 b hb=>
  obtain⟨b',us,⟨k1,a1⟩,k2,k3,k4⟩:=hs.hr.objs i _ hi;rw[hb] at k1;cases k1;obtain⟨hp,ho⟩:=qbE hq h1;have hlen:u.cells.toList.length=(qat q).length:=hp.1.symm;obtain⟨s1,s2,s3⟩:=qbH u.cells.toList w b off;have o:g.own i b:=.inl hb;have a8:off+u.cells.toList.length≤us.length:=by rw[hlen,←k3.1];exact hl
  refine⟨undef,w.setCells b off u.cells.toList,g,.inr ⟨?_,rfl⟩,Le.turn o k4 s1 s2 s3 fun c R=>qaO _ _ _ _ _ R,.any _,hs.hr.turn o k4 s1 s2 s3 (fun c R=>qaO _ _ _ _ _ R) ⟨b,wr us off u.cells.toList,⟨hb,a1⟩,qfN _ _ _ _ _ k2,?_,k4⟩⟩
  ·have Y:=run_storeCells_cells (P:=C.P) b off u.cells.toList 0 w (fun j hj=>by rw[dj,k2.cell,Option.isSome_iff_exists];exact⟨_,by rw[List.getElem?_toArray];exact lG (by omega)⟩) (fun j _=>by rw[dj];exact k2.free _) ho;rw[dj] at Y;have a6:u.cells.size=(qat q).length:=by rw[←hlen];simp
   simp[execOp,J,qad,Instr.storeAt,Instr.sureAddr,storeVar,hn,a6,Y]
  have hle:=Le.turn (w':=w.setCells b off u.cells.toList) o k4 s1 s2 s3 fun c R=>qaO _ _ _ _ _ R;exact(VRs.wr hp off cs us k3).le hle
theorem qds {g:Gh}{w:World}(us:List Value):VRs g w (us.map .s) us:=⟨by simp,fun i c v j o=>by rw[cL,o] at j;cases j;exact .s _⟩
theorem qgd {t:TypeId}{z:Value}(o:∀w,(zeroValue t).run C.P w=.ok z w):OpS C ⟨dst,.alloc t,ty,pos,af,gd⟩ T H (.ptr H.length 0) (H++[.cells t (z.cells.toList.map .s)]):=fun g a w j=>by have:=j.hr.new (ty:=t) (qds z.cells.toList);exact⟨.pointer (some ⟨w.heap.size,0,none⟩),w.alloc (.cells z.cells t),_,.inl (by simp[execOp,Instr.alloc,o,newVar,newRow]),Le.new j.hr,.ptr _ _ _ (by simp[Gh.put]),by simpa using this⟩
theorem qhO {t:TypeId}(o:ev T x=some p)(I:(qat p).all qbc=true):OpS C ⟨dst,.box t x,ty,pos,af,gd⟩ T H (.ptr H.length 0) (H++[.cells t (qat p)]):=fun g a w j=>by have:=j.hr.new (ty:=t) (qbE (j.ev o) I).1;exact⟨.pointer (some ⟨w.heap.size,0,none⟩),w.alloc (.cells (a.eval x).cells t),_,.inl (by simp[execOp,Instr.box,newVar,newRow]),Le.new j.hr,.ptr _ _ _ (by simp[Gh.put]),by simpa using this⟩
theorem qet {xs:List V}{i:Nat}(I:ev T x=some (.tup xs))(J:xs[i]? =some q):OpP C ⟨dst,.extract x i,ty,pos,af,gd⟩ T H q:=fun _ _ w R=>by
 have o:=R.ev I;generalize j:Act.eval _ x=v at o;cases o with
 |tup cs vs hl h=>obtain⟨u,Y,h2⟩:=VRs.get ⟨hl,h⟩ J;exact⟨u,by simp[execOp,j,Instr.extract,Y],h2⟩
theorem qhP {t:TypeId}(j:ev T x=some p)(h:∀v w,(Instr.makeInterface t v).run C.P w=.ok (.iface t v) w):OpP C ⟨dst,.makeInterface t x,ty,pos,af,gd⟩ T H (.ifc t p):=fun _ _ w o=>⟨_,by simp[execOp,h],.ifc t p _ (o.ev j)⟩
theorem qbD {g:Gh}{w:World}{a:Act}(J:SR C g w a T H):∀(l:List Operand) (ps:List V),l.mapM (ev T)=some ps→VRs g w ps (l.map a.eval)
 | [],ps,h=>by simp at h;subst h;exact VRs.nil
 |o::l,ps,h=>by(
 rw[List.mapM_cons] at h;cases j:ev T o with
 |none=>simp[j] at h
 |some x=>
  cases I:l.mapM (ev T) with
  |none=>simp[j,I] at h
  |some R=>simp[j,I] at h;subst h;exact VRs.cons (J.ev j) (qbD J l R I))
theorem qgZ {f:Fn}{j:Array Operand}{ps:List V}(o:j.toList.mapM (ev T)=some ps):OpP C ⟨dst,.makeFunc f #[] j,ty,pos,af,gd⟩ T H (.fn f ps):=fun g a w I=>by have:=qbD I _ _ o;exact⟨.func f #[] (j.toList.map a.eval).toArray,by simp[execOp,Instr.makeFunc,←List.map_toArray],.fn f ps _ this.1 this.2⟩
end
end Q
end
section
namespace Q
def HLt (N:Nat):HO→Prop
 |.cells _ cs=>∀c∈cs,Lt N c
 |.map _ es=>∀e∈es,Lt N e.2
 |.tok _ _ _=>True
 |.gone=>True
section
variable {g:Gh} {w:World} {H J:List HO} {N:Nat}
theorem Le0.cut (g:Gh)(w:World)(N:Nat):Le0 (g.cut N) w g w:=by
 refine⟨fun _ _ h=>⟨h,rfl⟩,fun i b h=>?_,fun i u n h=>?_,fun _ _=>rfl⟩<;>(simp only[Gh.cut] at h;split at h);·exact h
 ·cases h
 ·exact⟨u,n,h,.inr ⟨rfl,rfl⟩⟩
 cases h
theorem qdh {i b:Nat}(h:(g.cut N).own i b):g.own i b:=by
 rcases h with h|⟨v,n,h,j⟩;·exact .inl ((Le0.cut g default N).ι i b h)
 obtain⟨u,m,o,C⟩:=(Le0.cut g default N).tk i v n h;simp only[Gh.cut] at h;split at h;·exact .inr ⟨v,n,h,j⟩
 cases h
theorem HR.cut (h:HR g w (H++J))(hl:∀o∈H,HLt H.length o):HR (g.cut H.length) w H:=by
 refine⟨fun i o ho=>?_,fun i hi=>?_,fun i j b hi hj=>h.inj i j b (qdh hi) (qdh hj),h.lt⟩
 ·have C:=(lS.1 ho).1;have hL:=hl o (mG ho);have hh:=h.objs i o (by rw[ma C];exact ho);cases o with
  |cells ty cs=>obtain⟨b,us,⟨R,I⟩,Y,h3,h4⟩:=hh;exact⟨b,us,⟨by simp[Gh.cut,C,R],by simp[Gh.cut,C,I]⟩,Y,h3.cut hL,h4⟩
  |map d es=>obtain⟨b,a1,c,⟨R,I⟩,Y,⟨⟨m1,m2,m3,m4⟩,m5⟩,h4⟩:=hh;exact⟨b,a1,c,⟨by simp[Gh.cut,C,R],by simp[Gh.cut,C,I]⟩,Y,⟨⟨m1,fun i x e hx he=>⟨(m2 i x e hx he).1,(m2 i x e hx he).2.cut (hL x (mG hx))⟩,m3,m4⟩,m5⟩,h4⟩
  |tok ty k n=>obtain⟨v,xs,R,I,Y,h3⟩:=hh;exact⟨v,xs,by simp[Gh.cut,R],by simp[Gh.cut,C,I],Y,h3⟩
  |gone=>obtain⟨b,⟨R,I⟩,Y⟩:=hh;exact⟨b,⟨by simp[Gh.cut,C,R],by simp[Gh.cut,C,I]⟩,Y⟩
 simp[Gh.cut,Nat.not_lt.2 hi]
theorem Le.cut {g0:Gh}{j:World}(h:Le g0 j g w)(o:∀i,N≤i→g0.ι i=none∧g0.tk i=none):Le g0 j (g.cut N) w:=by
 refine⟨h.os,h.output,h.size,h.fz,fun i b hi=>?_,fun i u n hi=>?_,h.fzb,h.kept,fun i b hi=>h.own i b (qdh hi),h.fzn⟩
 ·have:i<N:=Nat.lt_of_not_le fun hle=>by rw[(o i hle).1] at hi;cases hi
  simp[Gh.cut,this,h.ι i b hi]
 have:i<N:=Nat.lt_of_not_le fun hle=>by rw[(o i hle).2] at hi;cases hi
 obtain⟨C,I,R,Y⟩:=h.tk i u n hi;exact⟨C,I,by simp[Gh.cut,this,R],Y⟩
end
def Sub:VT→VT→Prop
 | [],_=>True
 |(t,x)::S,T=>Oo T t=some x∧Sub S T
theorem qiS:∀ {S T:VT},Sub S T→∀t x,Oo S t=some x→Oo T t=some x
 | [],_,_,_,_,h=>by cases h
 |(u,y)::S,T,h,t,x,j=>by
  simp only[Oo] at j;split at j;·rename_i e;subst e;cases j;exact h.1
  exact qiS h.2 t x j
def Cut (N:Nat)(H:List HO)(S:VT)(H':List HO):Prop:=H=H'∨∃J,H'=H++J∧N≤H.length∧(∀x∈S,Lt H.length x.2)∧∀o∈H,HLt H.length o
section
variable {C:Cx} {Q:VQ} {S T:VT} {H H':List HO} {g:Gh} {w:World} {a:Act}
theorem qdM:∀ {S:VT} {t:Nat} {x:V},Oo S t=some x→(t,x)∈S
 | [],_,_,h=>by cases h
 |(u,y)::S,t,x,h=>by
  simp only[Oo] at h;split at h;·rename_i e;subst e;cases h;exact List.mem_cons_self ..
  exact List.mem_cons_of_mem _ (qdM h)
theorem SR.sub (h:SR C g w a T H')(o:Sub S T)(I:Cut C.N H S H'):∃R,SR C R w a S H:=by
 rcases I with rfl|⟨J,rfl,h1,Y,h3⟩;·exact⟨g,h.le,fun t x j=>h.tmps t x (qiS o t x j),h.hr,h.defers,h.size,h.nil⟩
 refine⟨g.cut H.length,h.le.cut fun i hi=>h.nil i (by omega),fun t x j=>?_,h.hr.cut h3,h.defers,h.size,h.nil⟩;obtain⟨v,k1,k2⟩:=h.tmps t x (qiS o t x j);exact⟨v,k1,k2.cut (Y _ (qdM j))⟩
theorem qbM {α:Type}{c:Code}(J:α→Prop)(μ:α→Nat)(F:α→VT)(Hk:α→List HO)(i:α)(h0:J i)(hS:Sub (F i) T)(hC:Cut C.N (Hk i) (F i) H)
 (hr:∀i,J i→VW C c (qco (fun I H'=>∃j,J j∧μ j<μ i∧Sub (F j) I∧Cut C.N (Hk j) (F j) H') Q) (F i) (Hk i)):VW C (.loop c) Q T H:=.mk fun g a w o=>by
 have key:∀a w,(∃i g,J i∧SR C g w a (F i) (Hk i))→(Code.loop c).wp C.P (Up C Q) a w:=by(
 intro a w ⟨i,g,R,o⟩;refine wp_loop_ghost (fun n a w=>∃i g,μ i=n∧J i∧SR C g w a (F i) (Hk i)) (μ i) ⟨i,g,rfl,R,o⟩ ?_;rintro n a w ⟨i,g,rfl,R,o⟩;refine wp_mono ((hr i R).out g a w o) ?_;rintro e a' w' ⟨Y,I,H',h1,h2⟩;cases e with
 |normal=>obtain⟨j,j1,j2,j3,j4⟩:=h2;obtain⟨g'',h3⟩:=h1.sub j3 j4;exact⟨μ j,j2,j,g'',rfl,j1,h3⟩
 |_=>exact⟨Y,I,H',h1,h2⟩)
 obtain⟨Y,h⟩:=o.sub hS hC;exact key a w ⟨i,Y,h0,h⟩
end
def VG (P:Program)(f:FuncId)(xs:List V)(H:List HO)(Q:V→List HO→Prop):Prop:=∀g w o,HR g w H→VRs g w xs o→Calls P f o.toArray w fun e w'=>∃v x j H',e=.returned v∧Q x H'∧VR j w' x v∧Le g w j w'∧HR j w' H'
def VF (P:Program)(f:FuncId)(xs:List V)(Q:V→Prop):Prop:=VG P f xs [] fun x H=>Q x∧H=[]
def T0:Nat→List V→VT
 |_,[]=>[]
 |i,x::xs=>(i,x)::T0 (i+1) xs
theorem qeO:∀(xs:List V) (i t:Nat) (x:V),Oo (T0 i xs) t=some x→i≤t∧xs[t-i]? =some x
 | [],_,_,_,h=>by cases h
 |y::xs,i,t,x,h=>by(
 simp only[T0,Oo] at h;split at h;·rename_i e;subst e;cases h;exact⟨cf _,by simp⟩
 obtain⟨o,j⟩:=qeO xs (i+1) t x h;refine⟨by omega,?_⟩;rw[show t-i=t-(i+1)+1 by omega];simpa using j)
def qeF:List V→V
 | [x]=>x
 |xs=>.tup xs
def qeW (a:Array Value):ResultVar→Sem Value
 |.tmp t=>pure (a.getD t undef)
 |.cell b t=>do loadVar t (←asAddr (a.getD b undef))
theorem qck (P:Program)(tmps:Array Value)(w:World):∀(j:List Tmp),(j.mapM (qeW tmps∘ResultVar.tmp)).run P w=.ok (j.map fun t=>tmps.getD t undef) w
 | []=>rfl
 |t::j=>by simp[List.mapM_cons,qck P tmps w j,qeW]
theorem qcT {C:Cx}{g:Gh}{w:World}{a:Act}{T:VT}{H:List HO}(Y:SR C g w a T H):∀(o:List Tmp) (xs:List V),o.mapM (Oo T)=some xs→VRs g w xs (o.map fun t=>a.tmps.getD t undef)
 | [],xs,j=>by simp at j;subst j;exact VRs.nil
 |t::o,xs,j=>by(
 rw[List.mapM_cons] at j;cases I:Oo T t with
 |none=>simp[I] at j
 |some x=>
  cases R:o.mapM (Oo T) with
  |none=>simp[I,R] at j
  |some ys=>simp[I,R] at j;subst j;obtain⟨v,e1,e2⟩:=Y.tmps t x I;rw[List.map_cons,show a.tmps.getD t undef=v by simp[Array.getD_eq_getD_getElem?,e1]];exact VRs.cons e2 (qcT Y o ys R))
theorem qhi {P:Program}{g:Gh}{w:World}{fn:Func}{tmps:Array Value}{I:List Tmp}{us:List Value}{xs:List V}(hr:fn.results=(I.map .tmp).toArray)(R:I.map (fun t=>tmps.getD t undef)=us)(j:VRs g w xs us):∃v,(results fn tmps).run P w=.ok v w∧VR g w (qeF xs) v:=by
 have o:(results fn tmps).run P w=.ok (if h:us.toArray.size=1 then us.toArray[0] else .tuple us.toArray) w:=by
  have h1:(fn.results.mapM (qeW tmps)).run P w=.ok us.toArray w:=by rw[hr,Array.mapM_eq_mapM_toList,List.toList_toArray];have:=qck P tmps w I;rw[R] at this;simp[this]
  show(do let Y←fn.results.mapM (qeW tmps);pure (if h:Y.size=1 then Y[0] else .tuple Y):Sem Value).run P w=_;rw[Sem.run_bind,h1];rfl
 refine⟨_,o,?_⟩
 match xs,us,j with
 | [],[],_=>exact .tup [] [] rfl fun i c v h=>by simp at h
 | [x],[u],j=>exact j.2 0 x u rfl rfl
 |x::y::xs,u::v::us,j=>exact .tup _ _ j.1 j.2
 | [],_::_,j=>exact absurd j.1 (by simp)
 |_::_,[],j=>exact absurd j.1 (by simp)
 | [_],_::_::_,j=>exact absurd j.1 (by simp)
 |_::_::_,[_],j=>exact absurd j.1 (by simp)
end Q
end
end Go.Proofs.YtgdlhckhpolnnaaGreatDoor
