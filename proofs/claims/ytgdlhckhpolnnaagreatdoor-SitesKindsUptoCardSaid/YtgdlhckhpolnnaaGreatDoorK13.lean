/- Part 14 of the proof (its last part says what is proved). No condition. -/
import Derived.Test.YtgdlhckhpolnnaaGreatDoorK12
namespace Go.Proofs.YtgdlhckhpolnnaaGreatDoor
set_option maxRecDepth 100000
set_option maxHeartbeats 8000000
open Go.RowKit Go.Proofs.Tryz
section
section
variable {P:Program} {ops:Array Oper} {S:World→Prop} {T:List Tmp} {F:Tmp→Value→World→Prop} {L:Nat→Option (Value→Prop)} {D:Nat→Bool} {X:List PanicEntry→World→Prop} {Q:Act→Prop} {o:Oper} {rest:List Oper} {k:Nat} {dead:Bool} {a:Act}
theorem O3 {v:Value}{C:Act}(h:∀w,S w→ij ops T F o a w→(execOp a.eval o).run P w=.ok (.value v) w)(I:oC P ops S T F L D X Q rest (k+1) dead C)(hw:Region.wanted o (yielded ops a.tmps)=true:=by rfl)(hl:L k=none:=by rfl)(j:D k=false:=by rfl)(J:∀d,o.dst=some d→d∉T:=by intro d j;first|(intro R;cases R;done)|(cases j;decide))(Y:a.put o.dst v=C:=by conv=>lhs;simp only[PS]):oC P ops S T F L D X Q (o::rest) k dead a:=xy hw hl j J h (by rw[Y];exact I)
theorem O0 {v:Value}{C:Act}(I:oC P ops S T F L D X Q rest (k+1) dead C)(h:∀w,S w→ij ops T F o a w→(execOp a.eval o).run P w=.ok (.value v) w:=by intro wn I J;go_simp;with_reducible rfl)(hw:Region.wanted o (yielded ops a.tmps)=true:=by rfl)(hl:L k=none:=by rfl)(j:D k=false:=by rfl)(R:∀d,o.dst=some d→d∉T:=by intro d j;first|(intro Y;cases Y;done)|(cases j;decide))(J:a.put o.dst v=C:=by conv=>lhs;simp only[PS]):oC P ops S T F L D X Q (o::rest) k dead a:=xy hw hl j R h (by rw[J];exact I)
theorem O4 {v:Value}{R:Act}{C:World→Prop}(f:∀w,S w→C w)(Y:oC P ops S T F L D X Q rest (k+1) dead R)(h:∀w,S w→C w→ij ops T F o a w→(execOp a.eval o).run P w=.ok (.value v) w:=by intro wn Y I j;(try dsimp only at I);(repeat obtain⟨_,I⟩:=I);go_simp;with_reducible rfl)(hw:Region.wanted o (yielded ops a.tmps)=true:=by rfl)(hl:L k=none:=by rfl)(J:D k=false:=by rfl)(ht:∀d,o.dst=some d→d∉T:=by intro d J;first|(intro hT;cases hT;done)|(cases J;decide))(j:a.put o.dst v=R:=by conv=>lhs;simp only[PS]):oC P ops S T F L D X Q (o::rest) k dead a:=xy hw hl J ht (fun w hs j=>h w hs (f w hs) j) (by rw[j];exact Y)
theorem O2 {C:Act}(I:oC P ops S T F L D X Q rest (k+1) dead C)(hw:Region.wanted o (yielded ops a.tmps)=false:=by rfl)(j:D k=false:=by rfl)(J:∀d,o.dst=some d→d∉T:=by intro d j;first|(intro R;cases R;done)|(cases j;decide))(Y:a.put o.dst undef=C:=by conv=>lhs;simp only[PS]):oC P ops S T F L D X Q (o::rest) k dead a:=Ib hw j J (by rw[Y];exact I)
theorem O6 {V:Value→Prop}(h:∀w,S w→ij ops T F o a w→xG P S T F X false V o w ((execOp a.eval o).run P w))(j:∀w,S w→ij ops T F o a w→∃u w',V u∧om S T F o w w' u)(C:∀v,V v→oC P ops S T F L D X Q rest (k+1) dead (a.put o.dst v))(hw:Region.wanted o (yielded ops a.tmps)=true:=by rfl)(hl:L k=some V:=by rfl)(I:D k=false:=by rfl):oC P ops S T F L D X Q (o::rest) k dead a:=Ey hw hl I h j C
theorem O5 {v:Value}{C:Act}(h:∀w,S w→ij ops T F o a w→∃f args,(execOp a.eval o).run P w=.ok (.enter f args) w∧Calls P f args w fun e w'=>e=.returned v∧S w'∧∀t∈T,∀v,F t v w→F t v w')(I:oC P ops S T F L D X Q rest (k+1) dead C)(hw:Region.wanted o (yielded ops a.tmps)=true:=by rfl)(hl:L k=some (·=v):=by rfl)(j:D k=false:=by rfl)(J:∀d,o.dst=some d→d∉T:=by intro d j;first|(intro R;cases R;done)|(cases j;decide))(Y:a.put o.dst v=C:=by conv=>lhs;simp only[PS]):oC P ops S T F L D X Q (o::rest) k dead a:=tW hw hl j J h (by rw[Y];exact I)
theorem O7 (v:Value){C:Act}(h:∀w,S w→ij ops T F o a w→∃f args,(execOp a.eval o).run P w=.ok (.enter f args) w∧Calls P f args w fun e w'=>∃I,e=.panicked I∧X I w')(J:oC P ops S T F L D X Q rest (k+1) true C)(hw:Region.wanted o (yielded ops a.tmps)=true:=by rfl)(hl:L k=some (·=v):=by rfl)(j:D k=true:=by rfl)(R:∀d,o.dst=some d→d∉T:=by intro d j;first|(intro Y;cases Y;done)|(cases j;decide))(hp:a.put o.dst v=C:=by conv=>lhs;simp only[PS]):oC P ops S T F L D X Q (o::rest) k dead a:=Ic v hw hl j R h (by rw[hp];exact J)
theorem qaf {Q:Act→Prop}(b:Bool){v:Value}(hw:Region.wanted o (yielded ops a.tmps)=true)(hl:L k=some (·=v))(J:D k=!b)(R:∀d,o.dst=some d→d∉T)
 (h:∀w,S w→ij ops T F o a w→∃f args,(execOp a.eval o).run P w=.ok (.enter f args) w∧Calls P f args w fun e w'=>(b=true∧e=.returned v∧S w'∧∀t∈T,∀v,F t v w→F t v w')∨∃Y,e=.panicked Y∧X Y w') (hk:oC P ops S T F L D X Q rest (k+1) (dead||!b) (a.put o.dst v)):oC P ops S T F L D X Q (o::rest) k dead a:=
 ⟨_,.inr (.inl ⟨hw,hl,fun w C hp=>by
  obtain⟨f,args,hr,hc⟩:=h w C hp;rw[hr];refine hc.mono fun e w' h'=>?_;rcases h' with ⟨hb,h1,h2,h3⟩|h';·exact .inl ⟨by rw[J,hb];rfl,v,h1,rfl,h2,h3,fun d j I=>absurd I (R d j)⟩
  exact .inr h',fun w C _=>⟨v,w,rfl,C,fun _ _ _ h=>h,fun d j I=>absurd I (R d j)⟩⟩),fun _ e=>by subst e;rw[J];exact hk⟩
theorem O8 {v:Value}{Y:Act}{C:World→Prop}{f:FuncId}{args:Array Value}(g:∀w,S w→C w)(h:∀w,S w→Calls P f args w fun e w'=>e=.returned v∧S w'∧∀t∈T,∀v,F t v w→F t v w')(hk:oC P ops S T F L D X Q rest (k+1) dead Y)(he:∀w,S w→C w→ij ops T F o a w→(execOp a.eval o).run P w=.ok (.enter f args) w:=by intro wn hk I j;(try dsimp only at I);(repeat obtain⟨_,I⟩:=I);go_simp<;>first|with_reducible rfl|exact⟨rfl,rfl⟩|rfl)(hw:Region.wanted o (yielded ops a.tmps)=true:=by rfl)(hl:L k=some (·=v):=by rfl)(J:D k=false:=by rfl)(ht:∀d,o.dst=some d→d∉T:=by intro d J;first|(intro hT;cases hT;done)|(cases J;decide))(j:a.put o.dst v=Y:=by conv=>lhs;simp only[PS]):oC P ops S T F L D X Q (o::rest) k dead a:=tW hw hl J ht (fun w R j=>⟨f,args,he w R (g w R) j,h w R⟩) (by rw[j];exact hk)
theorem O9 (b:Bool){v:Value}{Y:Act}{C:World→Prop}{f:FuncId}{args:Array Value}(g:∀w,S w→C w)(h:∀w,S w→Calls P f args w fun e w'=>(b=true∧e=.returned v∧S w'∧∀t∈T,∀v,F t v w→F t v w')∨∃ch,e=.panicked ch∧X ch w')(hk:oC P ops S T F L D X Q rest (k+1) (dead||!b) Y)(he:∀w,S w→C w→ij ops T F o a w→(execOp a.eval o).run P w=.ok (.enter f args) w:=by intro wn hk I j;(try dsimp only at I);(repeat obtain⟨_,I⟩:=I);go_simp<;>first|with_reducible rfl|exact⟨rfl,rfl⟩|rfl)(hw:Region.wanted o (yielded ops a.tmps)=true:=by rfl)(hl:L k=some (·=v):=by rfl)(J:D k=!b:=by rfl)(ht:∀d,o.dst=some d→d∉T:=by intro d J;first|(intro hT;cases hT;done)|(cases J;decide))(j:a.put o.dst v=Y:=by conv=>lhs;simp only[PS]):oC P ops S T F L D X Q (o::rest) k dead a:=qaf b hw hl J ht (fun w R j=>⟨f,args,he w R (g w R) j,h w R⟩) (by rw[j];exact hk)
theorem ZS {Q:Act→Prop}(h:dead=false→Q a):oC P ops S T F L D X Q [] k dead a:=h
theorem OB {Q':Exit→Act→World→Prop}{W:World}{j:Tmp}{e:TypeId}{cs:Array Value}{dr R:List Oper}{J:Nat→Act}(hk:∀g wt,dead=false→aa All W wt→W.heap.size≤g→al wt g e cs→wpList P ops Q' R (J g) wt)
 (h:∀w,aa All W w→ij ops [j] (fun _ v wn=>∃g,v=.slice (some ⟨g,0,none⟩) 1 1∧W.heap.size≤g∧al wn g e cs) o a w→(execOp a.eval o).run P w=.ok (.value (.slice (some ⟨w.heap.size,0,none⟩) 1 1)) (w.alloc (.cells cs e)):=by intro wn hk hp;go_simp<;>with_reducible rfl) (hw:Region.wanted o (yielded ops a.tmps)=true:=by rfl) (hl:L k=some (fun v=>∃g,v=.slice (some ⟨g,0,none⟩) 1 1):=by rfl) (hd:D k=false:=by rfl) (Y:o.dst=some j:=by rfl)
 (hp:∀g,a.put (some j) (.slice (some ⟨g,0,none⟩) 1 1)=J g:=by intro g;conv=>lhs;simp only[PS]) (ht:∀g,(J g).tmps[j]? =some (.slice (some ⟨g,0,none⟩) 1 1):=by intro g;rfl) (a6:dr=R:=by conv=>lhs;simp only[dK]):
 oC P ops (aa All W) [j] (fun _ v wn=>∃g,v=.slice (some ⟨g,0,none⟩) 1 1∧W.heap.size≤g∧al wn g e cs) L D X (fun J=>∀w',aa All W w'→(∀t∈[j],∀v,J.tmps[t]? =some v→∃g,v=.slice (some ⟨g,0,none⟩) 1 1∧W.heap.size≤g∧al w' g e cs)→wpList P ops Q' dr J w') [o] k dead a:=by
 have good:∀w,aa All W w→om (aa All W) [j] (fun _ v wn=>∃g,v=.slice (some ⟨g,0,none⟩) 1 1∧W.heap.size≤g∧al wn g e cs) o w (w.alloc (.cells cs e)) (.slice (some ⟨w.heap.size,0,none⟩) 1 1):=fun w C=>⟨C.alloc _,fun t _ v ⟨g,e,h1,h2⟩=>⟨g,e,h1,h2.alloc _⟩,fun d hd hT=>⟨_,rfl,C.size,al.new _ _ _⟩⟩;refine Ey hw hl hd (fun w C a1=>?_) (fun w C a1=>⟨_,_,⟨_,rfl⟩,good w C⟩) ?_
 ·rw[h w C a1]
  exact⟨rfl,⟨_,rfl⟩,good w C⟩
 rintro v ⟨g,rfl⟩;rw[Y,hp g];refine ZS fun a7 wt a8 hF=>?_;obtain⟨g',I,h1,h2⟩:=hF j (by simp) _ (ht g);injection I with I;injection I with I;injection I with I;subst I;rw[a6];exact hk g wt a7 a8 h1 h2
theorem R3 {id:Nat}{Q':Exit→Act→World→Prop}{a:Act}{w:World}{l I:List Oper}(n:Nat)(W:World)(T:List Tmp)(F:Tmp→Value→World→Prop)(L:Nat→Option (Value→Prop))(D:Nat→Bool)(X:List PanicEntry→World→Prop)(R:∀j J w,X J w→j.defers=a.defers→Q' (.panic J) j w)(h:oC P l.toArray (aa All W) T F L D X (fun j=>∀w',aa All W w'→(∀t∈T,∀v,j.tmps[t]? =some v→F t v w')→wpList P l.toArray Q' (l.drop n) j w') I 0 false a)(hm:P.follows .mixedOrders=true:=by kernel_rfl)(Y:yZ .any l.toArray n=true:=by kernel_rfl)(hT:ns .any l.toArray T=true:=by kernel_rfl)(C:pM l.toArray T n=true:=by kernel_rfl)(hS:aa All W w.drew:=by exact(aa.refl _ _).drew)(ht:l.take n=I:=by conv=>lhs;simp only[tK]):(Code.region id l.toArray true).wp P Q' a w:=bq n (aa All W) T F L D X hm Y hT C hS R (by rw[ht];exact h)
theorem R2 {id:Nat}{Q':Exit→Act→World→Prop}{a:Act}{w:World}{l I:List Oper}(n:Nat)(W:World)(L:Nat→Option (Value→Prop))(D:Nat→Bool)(X:List PanicEntry→World→Prop)(R:∀j J w,X J w→j.defers=a.defers→Q' (.panic J) j w)(h:oC P l.toArray (aa All W) [] (fun _ _ _=>True) L D X (fun j=>∀w',aa All W w'→(∀t∈([]:List Tmp),∀v,j.tmps[t]? =some v→True)→wpList P l.toArray Q' (l.drop n) j w') I 0 false a)(hm:P.follows .mixedOrders=true:=by kernel_rfl)(Y:yZ .any l.toArray n=true:=by kernel_rfl)(hT:ns .any l.toArray []=true:=by kernel_rfl)(C:pM l.toArray [] n=true:=by kernel_rfl)(hS:aa All W w.drew:=by exact(aa.refl _ _).drew)(ht:l.take n=I:=by conv=>lhs;simp only[tK]):(Code.region id l.toArray true).wp P Q' a w:=R3 n W [] (fun _ _ _=>True) L D X R h hm Y hT C hS ht
theorem R1 {id:Nat}{Q':Exit→Act→World→Prop}{a:Act}{w:World}{l C:List Oper}(n:Nat)(W:World)(T:List Tmp)(F:Tmp→Value→World→Prop)(L:Nat→Option (Value→Prop))(h:oC P l.toArray (aa All W) T F L (fun _=>false) (fun _ _=>False) (fun I=>∀w',aa All W w'→(∀t∈T,∀v,I.tmps[t]? =some v→F t v w')→wpList P l.toArray Q' (l.drop n) I w') C 0 false a)(hm:P.follows .mixedOrders=true:=by kernel_rfl)(J:yZ .any l.toArray n=true:=by kernel_rfl)(R:ns .any l.toArray T=true:=by kernel_rfl)(j:pM l.toArray T n=true:=by kernel_rfl)(Y:aa All W w.drew:=by exact(aa.refl _ _).drew)(ht:l.take n=C:=by conv=>lhs;simp only[tK]):(Code.region id l.toArray true).wp P Q' a w:=R3 n W T F L (fun _=>false) (fun _ _=>False) (fun _ _ _ h=>False.elim h) h hm J R j Y ht
theorem R0 {id:Nat}{Q':Exit→Act→World→Prop}{a:Act}{w:World}{l C:List Oper}(n:Nat)(W:World)(L:Nat→Option (Value→Prop))(h:oC P l.toArray (aa All W) [] (fun _ _ _=>True) L (fun _=>false) (fun _ _=>False) (fun I=>∀w',aa All W w'→(∀t∈([]:List Tmp),∀v,I.tmps[t]? =some v→True)→wpList P l.toArray Q' (l.drop n) I w') C 0 false a)(hm:P.follows .mixedOrders=true:=by kernel_rfl)(J:yZ .any l.toArray n=true:=by kernel_rfl)(R:ns .any l.toArray []=true:=by kernel_rfl)(j:pM l.toArray [] n=true:=by kernel_rfl)(Y:aa All W w.drew:=by exact(aa.refl _ _).drew)(ht:l.take n=C:=by conv=>lhs;simp only[tK]):(Code.region id l.toArray true).wp P Q' a w:=R1 n W [] (fun _ _ _=>True) L h hm J R j Y ht
end
end
section
namespace Q
inductive MK|i (k:IntKind) (n:Int)|s (b:ByteArray)
 deriving DecidableEq
def MK.val:MK→Value
 |.i k n=>.int k n
 |.s b=>.string b
def qbk:TypeDesc→MK→Bool
 |.int k,.i j _=>k=j
 |.string,.s _=>true
 |_,_=>false
inductive V where
 |s (v:Value)|any
 |agg (cs:List V)|tup (cs:List V)
 |ifc (t:TypeId) (v:V)
 |fn (f:Fn) (cs:List V)
 |row (k bw:Nat) (es:List (List V)) (tok:Option Nat)
 |rp (e:List V) (off:Nat)
 |ptr (i off:Nat)|sl (i off len cap:Nat)|mp (i:Nat)
 |rmap (d:TypeDesc) (es:List (MK×V))
structure Gh where
 ι:Nat→Option Nat
 fz:Nat→Nat→Prop
 tk:Nat→Option (Value×Nat)
inductive VR (g:Gh) (w:World):V→Value→Prop
 |s (v:Value):VR g w (.s v) v
 |any (v:Value):VR g w .any v
 |agg (cs:List V) (vs:List Value) (hl:cs.length=vs.length) (h:∀(i:Nat) c v,cs[i]? =some c→vs[i]? =some v→VR g w c v):VR g w (.agg cs) (.agg vs.toArray)
 |tup (cs:List V) (vs:List Value) (hl:cs.length=vs.length) (h:∀(i:Nat) c v,cs[i]? =some c→vs[i]? =some v→VR g w c v):VR g w (.tup cs) (.tuple vs.toArray)
 |ifc (t:TypeId) (x:V) (v:Value) (h:VR g w x v):VR g w (.ifc t x) (.iface t v)
 |fn (f:Fn) (cs:List V) (vs:List Value) (hl:cs.length=vs.length) (h:∀(i:Nat) c v,cs[i]? =some c→vs[i]? =some v→VR g w c v):VR g w (.fn f cs) (.func f #[] vs.toArray)
 |row (k bw:Nat) (es:List (List V)) (tok:Option Nat) (a:Option Addr) (c:Nat) (f:Nat→Nat→Value) (h1:es.length≤c) (h2:c≤maxLen) (h3:es.length*bw≤140737488355328) (hk:∀e∈es,e.length=k)
  (ha:0<es.length→∃b off,a=some ⟨b,off,none⟩∧∀i<es.length,∀j<k,g.fz b (off+i*k+j)∧w.cell? ⟨b,off+i*k+j,none⟩=some (f i j))
  (hr:∀(i:Nat) e (j:Nat) x,es[i]? =some e→e[j]? =some x→VR g w x (f i j))
  (ht:∀t,tok=some t→∃u n,g.tk t=some (u,n)∧es.length≤n∧(es.length=n→u=.slice a es.length c)):VR g w (.row k bw es tok) (.slice a es.length c)
 |rp (e:List V) (off:Nat) (b o:Nat) (f:Nat→Value) (hc:∀j<e.length,g.fz b (o+j)∧w.cell? ⟨b,o+j,none⟩=some (f j)) (hr:∀(j:Nat) x,e[j]? =some x→VR g w x (f j)):VR g w (.rp e off) (.pointer (some ⟨b,o+off,none⟩))
 |ptr (i off b:Nat) (h:g.ι i=some b):VR g w (.ptr i off) (.pointer (some ⟨b,off,none⟩))
 |sl (i off len cap b:Nat) (h:g.ι i=some b) (hc:len≤cap) (hm:cap≤maxLen):VR g w (.sl i off len cap) (.slice (some ⟨b,off,none⟩) len cap)
 |mp (i b:Nat) (h:g.ι i=some b):VR g w (.mp i) (.map (some b))
 |rmap (d:TypeDesc) (es:List (MK×V)) (b:Nat) (ents:Array MapEntry) (clock:Nat) (hb:∀o,g.fz b o) (hh:w.heap[b]? =some (.map ents clock)) (hl:es.length=ents.toList.length) (hk:∀(i:Nat) x e,es[i]? =some x→ents.toList[i]? =some e→x.1.val=e.key) (ho:∀x∈es,qbk d x.1=true)
  (hr:∀(i:Nat) x e,es[i]? =some x→ents.toList[i]? =some e→VR g w x.2 e.val):VR g w (.rmap d es) (.map (some b))
def Gh.own (g:Gh)(i b:Nat):Prop:=g.ι i=some b∨∃v n,g.tk i=some (v,n)∧v.ownBlock=some b
structure Le (g:Gh)(w:World)(g':Gh)(w':World):Prop where
 os:w'.os=w.os
 output:w'.output=w.output
 size:w.heap.size≤w'.heap.size
 fz:∀b o,g.fz b o→g'.fz b o∧w'.cell? ⟨b,o,none⟩=w.cell? ⟨b,o,none⟩
 ι:∀i b,g.ι i=some b→g'.ι i=some b
 tk:∀i u n,g.tk i=some (u,n)→∃u' n',g'.tk i=some (u',n')∧(n<n'∨u=u'∧n=n')
 fzb:∀b,(∀o,g.fz b o)→w'.heap[b]? =w.heap[b]?
 kept:∀b,b<w.heap.size→(∀i,¬g.own i b)→w'.heap[b]? =w.heap[b]?
 own:∀i b,g'.own i b→g.own i b∨w.heap.size≤b
 fzn:∀b o,g'.fz b o→g.fz b o∨w.heap.size≤b∨∃i,g.own i b
section
variable {g g' h:Gh} {w w' u:World}
theorem Le.refl (g:Gh)(w:World):Le g w g w:=⟨rfl,rfl,cf _,fun _ _ h=>⟨h,rfl⟩,fun _ _ h=>h,fun _ u n h=>⟨u,n,h,.inr ⟨rfl,rfl⟩⟩,fun _ _=>rfl,fun _ _ _=>rfl,fun _ _ h=>.inl h,fun _ _ h=>.inl h⟩
theorem Le.trans (j:Le g w g' w')(I:Le g' w' h u):Le g w h u:=by
 refine⟨I.os.trans j.os,I.output.trans j.output,fR j.size I.size,fun b o C=>?_,fun i b hi=>I.ι _ _ (j.ι _ _ hi),fun i v n hi=>?_,fun b C=>(I.fzb b fun o=>(j.fz b o (C o)).1).trans (j.fzb b C),fun b C ho=>?_,fun i b C=>?_,fun b o C=>?_⟩
 ·obtain⟨Y,J⟩:=j.fz b o C
  obtain⟨k3,R⟩:=I.fz b o Y;exact⟨k3,R.trans J⟩
 ·obtain⟨u1,n1,Y,J⟩:=j.tk i v n hi;obtain⟨u2,n2,k3,R⟩:=I.tk i u1 n1 Y;refine⟨u2,n2,k3,?_⟩;rcases J with J|⟨rfl,rfl⟩
  ·rcases R with R|⟨rfl,rfl⟩
   ·exact .inl (by omega)
   exact .inl J
  exact R
 ·refine(I.kept b (Nat.lt_of_lt_of_le C j.size) fun i hi=>?_).trans (j.kept b C ho)
  rcases j.own i b hi with h|h;·exact ho i h
  omega
 ·rcases I.own i b C with h|h
  ·exact j.own i b h
  exact .inr (fR j.size h)
 rcases I.fzn b o C with h|h|⟨i,h⟩;·exact j.fzn b o h
 ·exact .inr (.inl (fR j.size h))
 rcases j.own i b h with h|h;·exact .inr (.inr ⟨i,h⟩)
 exact .inr (.inl h)
structure Le0 (g:Gh)(w:World)(g':Gh)(w':World):Prop where
 fz:∀b o,g.fz b o→g'.fz b o∧w'.cell? ⟨b,o,none⟩=w.cell? ⟨b,o,none⟩
 ι:∀i b,g.ι i=some b→g'.ι i=some b
 tk:∀i u n,g.tk i=some (u,n)→∃u' n',g'.tk i=some (u',n')∧(n<n'∨u=u'∧n=n')
 fzb:∀b,(∀o,g.fz b o)→w'.heap[b]? =w.heap[b]?
theorem Le.zero (h:Le g w g' w'):Le0 g w g' w':=⟨h.fz,h.ι,h.tk,h.fzb⟩
theorem VR.le0 {x:V}{v:Value}(hl:Le0 g w g' w')(hv:VR g w x v):VR g' w' x v:=by
 induction hv with
 |s v=>exact .s v
 |any v=>exact .any v
 |agg cs Y I _ C=>exact .agg cs Y I C
 |tup cs Y I _ C=>exact .tup cs Y I C
 |ifc t x v _ C=>exact .ifc t x v C
 |fn f cs Y I _ C=>exact .fn f cs Y I C
 |row k bw es tok a c f I h2 h3 hk ha _ ht C=>
  refine .row k bw es tok a c f I h2 h3 hk (fun x=>?_) C fun t e=>?_
  ·obtain⟨b,off,e,J⟩:=ha x
   exact⟨b,off,e,fun i hi j R=>⟨(hl.fz _ _ (J i hi j R).1).1,(hl.fz _ _ (J i hi j R).1).2.trans (J i hi j R).2⟩⟩
  obtain⟨u,n,e1,e2,e3⟩:=ht t e;obtain⟨u',n',k1,k2⟩:=hl.tk _ _ _ e1;refine⟨u',n',k1,?_⟩;rcases k2 with k2|⟨rfl,rfl⟩;·exact⟨by omega,fun _=>by omega⟩
  exact⟨e2,e3⟩
 |rp e off b o f J _ C=>exact .rp e off b o f (fun j R=>⟨(hl.fz _ _ (J j R).1).1,(hl.fz _ _ (J j R).1).2.trans (J j R).2⟩) C
 |ptr i off b hi=>exact .ptr i off b (hl.ι _ _ hi)
 |sl i off len cap b hi I h2=>exact .sl i off len cap b (hl.ι _ _ hi) I h2
 |mp i b hi=>exact .mp i b (hl.ι _ _ hi)
 |rmap d es b a1 c hb hh I hk ho _ C=>exact .rmap d es b a1 c (fun o=>(hl.fz b o (hb o)).1) ((hl.fzb b hb).trans hh) I hk ho C
theorem VR.le {x:V}{v:Value}(hl:Le g w g' w')(j:VR g w x v):VR g' w' x v:=j.le0 hl.zero
end
def VRs (g:Gh)(w:World)(cs:List V)(j:List Value):Prop:=cs.length=j.length∧∀(i:Nat) c v,cs[i]? =some c→j[i]? =some v→VR g w c v
theorem VRs.le0 {g g':Gh}{w w':World}{cs:List V}{j:List Value}(hl:Le0 g w g' w')(h:VRs g w cs j):VRs g' w' cs j:=⟨h.1,fun i c v o C=>(h.2 i c v o C).le0 hl⟩
theorem VRs.le {g g':Gh}{w w':World}{cs:List V}{j:List Value}(hl:Le g w g' w')(h:VRs g w cs j):VRs g' w' cs j:=h.le0 hl.zero
theorem VRs.nil {g:Gh}{w:World}:VRs g w [] []:=⟨rfl,fun i c v h=>by simp at h⟩
theorem VRs.cons {g:Gh}{w:World}{c:V}{v:Value}{cs:List V}{C:List Value}(h:VR g w c v)(I:VRs g w cs C):VRs g w (c::cs) (v::C):=by
 refine⟨by simp[I.1],fun i x y j o=>?_⟩;cases i with
 |zero=>simp at j o;subst j o;exact h
 |succ i=>simp at j o;exact I.2 i x y j o
theorem VRs.append {g:Gh}{w:World}{cs C:List V}{I us:List Value}(h:VRs g w cs I)(J:VRs g w C us):VRs g w (cs++C) (I++us):=by
 refine⟨by simp[J.1,h.1],fun i x y j o=>?_⟩;rcases Nat.lt_or_ge i cs.length with hi|hi
 ·rw[ma hi] at j
  rw[ma (h.1▸hi)] at o;exact h.2 i x y j o
 rw[kH hi] at j;rw[kH (h.1▸hi),←h.1] at o;exact J.2 _ x y j o
theorem VRs.get {g:Gh}{w:World}{cs:List V}{o:List Value}(h:VRs g w cs o){i:Nat}{c:V}(C:cs[i]? =some c):∃v,o[i]? =some v∧VR g w c v:=by obtain⟨hi,_⟩:=lS.1 C;have j:=h.1▸hi;exact⟨o[i],lG j,h.2 i c _ C (lG j)⟩
theorem VRs.set {g:Gh}{w:World}{cs:List V}{I:List Value}(h:VRs g w cs I){x:V}{v:Value}(J:VR g w x v)(i:Nat):VRs g w (cs.set i x) (I.set i v):=by
 refine⟨by simp[h.1],fun j c u o C=>?_⟩;rw[List.getElem?_set] at o C;by_cases e:i=j
 ·rw[ap e] at o C;split at o
  ·split at C
   ·cases o;cases C;exact J
   cases C
  cases o
 rw[ae e] at o C;exact h.2 j c u o C
theorem VRs.drop {g:Gh}{w:World}{cs:List V}{j:List Value}(h:VRs g w cs j)(n:Nat):VRs g w (cs.drop n) (j.drop n):=⟨by simp[h.1],fun i c v o C=>h.2 (n+i) c v (by simpa using o) (by simpa using C)⟩
theorem VRs.take {g:Gh}{w:World}{cs:List V}{C:List Value}(h:VRs g w cs C)(n:Nat):VRs g w (cs.take n) (C.take n):=by
 refine⟨by simp[h.1],fun i c v j o=>?_⟩;rw[List.getElem?_take] at j o;split at j;·rename_i hi;rw[ap hi] at o;exact h.2 i c v j o
 cases j
inductive Lt (N:Nat):V→Prop
 |s (v:Value):Lt N (.s v)
 |any:Lt N .any
 |agg (cs:List V) (h:∀c∈cs,Lt N c):Lt N (.agg cs)
 |tup (cs:List V) (h:∀c∈cs,Lt N c):Lt N (.tup cs)
 |ifc (t:TypeId) (x:V) (h:Lt N x):Lt N (.ifc t x)
 |fn (f:Fn) (cs:List V) (h:∀c∈cs,Lt N c):Lt N (.fn f cs)
 |row (k bw:Nat) (es:List (List V)) (tok:Option Nat) (h:∀e∈es,∀c∈e,Lt N c) (ht:∀t,tok=some t→t<N):Lt N (.row k bw es tok)
 |rp (e:List V) (off:Nat) (h:∀c∈e,Lt N c):Lt N (.rp e off)
 |ptr (i off:Nat) (h:i<N):Lt N (.ptr i off)
 |sl (i off len cap:Nat) (h:i<N):Lt N (.sl i off len cap)
 |mp (i:Nat) (h:i<N):Lt N (.mp i)
 |rmap (d:TypeDesc) (es:List (MK×V)) (h:∀e∈es,Lt N e.2):Lt N (.rmap d es)
def Gh.cut (g:Gh)(N:Nat):Gh:=⟨fun i=>if i<N then g.ι i else none,g.fz,fun i=>if i<N then g.tk i else none⟩
theorem VR.cut {g:Gh}{w:World}{x:V}{v:Value}{N:Nat}(h:VR g w x v):Lt N x→VR (g.cut N) w x v:=by
 induction h with
 |s v=>exact fun _=>.s v
 |any v=>exact fun _=>.any v
 |agg cs Y I _ C=>exact fun hl=>by cases hl with|agg _ h=>exact .agg cs Y I fun i c v J hv=>C i c v J hv (h c (mG J))
 |tup cs Y I _ C=>exact fun hl=>by cases hl with|tup _ h=>exact .tup cs Y I fun i c v J hv=>C i c v J hv (h c (mG J))
 |ifc t x v _ C=>exact fun hl=>by cases hl with|ifc _ _ h=>exact .ifc t x v (C h)
 |fn f cs Y I _ C=>exact fun hl=>by cases hl with|fn _ _ h=>exact .fn f cs Y I fun i c v J hv=>C i c v J hv (h c (mG J))
 |row k bw es tok a c f I h2 h3 hk ha _ ht C=>
  intro hl;cases hl with
  |row _ _ _ _ h a6=>refine .row k bw es tok a c f I h2 h3 hk ha (fun i e j x he R=>C i e j x he R (h e (mG he) x (mG R))) fun t e=>?_;obtain⟨u,n,e1,e2,e3⟩:=ht t e;exact⟨u,n,by simp[Gh.cut,a6 t e,e1],e2,e3⟩
 |rp e off b o f J _ C=>exact fun hl=>by cases hl with|rp _ _ h=>exact .rp e off b o f J fun j x R=>C j x R (h x (mG R))
 |ptr i off b hi=>exact fun hl=>by cases hl with|ptr _ _ h=>exact .ptr i off b (by simp[Gh.cut,h,hi])
 |sl i off len cap b hi I h2=>exact fun hl=>by cases hl with|sl _ _ _ _ h=>exact .sl i off len cap b (by simp[Gh.cut,h,hi]) I h2
 |mp i b hi=>exact fun hl=>by cases hl with|mp _ h=>exact .mp i b (by simp[Gh.cut,h,hi])
 |rmap d es b a1 c hb hh I hk ho _ C=>exact fun hl=>by cases hl with|rmap _ _ h=>exact .rmap d es b a1 c hb hh I hk ho fun i x e R he=>C i x e R he (h x (mG R))
theorem VRs.cut {g:Gh}{w:World}{cs:List V}{j:List Value}{N:Nat}(h:VRs g w cs j)(hl:∀c∈cs,Lt N c):VRs (g.cut N) w cs j:=⟨h.1,fun i c v o C=>(h.2 i c v o C).cut (hl c (mG o))⟩
inductive HO|cells (ty:TypeId) (cs:List V)|map (d:TypeDesc) (es:List (MK×V))|tok (ty:TypeId) (k n:Nat)|gone
def qil (g:Gh)(w:World)(es:List (MK×V))(j:List MapEntry)(clock:Nat):Prop:=
 es.length=j.length∧(∀(i:Nat) x e,es[i]? =some x→j[i]? =some e→x.1.val=e.key∧VR g w x.2 e.val)∧(∀e∈j,e.born<clock)∧j.Pairwise fun a b=>a.born<b.born
def HOR (g:Gh)(w:World)(i:Nat):HO→Prop
 |.cells ty cs=>∃(b:Nat) (us:List Value),(g.ι i=some b∧g.tk i=none)∧al w b ty us.toArray∧VRs g w cs us∧∀o,¬g.fz b o
 |.map d es=>∃(b:Nat) (j:Array MapEntry) (clock:Nat),(g.ι i=some b∧g.tk i=none)∧w.heap[b]? =some (.map j clock)∧(qil g w es j.toList clock∧∀x∈es,qbk d x.1=true)∧∀o,¬g.fz b o
 |.tok ty k n=>∃(v:Value) (xs:List Value),g.ι i=none∧g.tk i=some (v,n)∧w.ownsRow 0 ty k v n xs∧∀b,v.ownBlock=some b→∀o,n*k≤o→¬g.fz b o
 |.gone=>∃b:Nat,(g.ι i=some b∧g.tk i=none)∧b<w.heap.size
structure HR (g:Gh)(w:World)(H:List HO):Prop where
 objs:∀(i:Nat) o,H[i]? =some o→HOR g w i o
 nil:∀i,H.length≤i→g.ι i=none∧g.tk i=none
 inj:∀i j b,g.own i b→g.own j b→i=j
 lt:∀b o,g.fz b o→b<w.heap.size
end Q
end
section
namespace Q
abbrev VT:=List (Nat×V)
def Oo:VT→Nat→Option V
 | [],_=>none
 |(u,x)::T,t=>if u=t then some x else Oo T t
structure Cx where
 P:Program
 g:Gh
 w:World
 D:List Deferred
 n:Nat
 N:Nat
structure SR (C:Cx)(g:Gh)(w:World)(a:Act)(T:VT)(H:List HO):Prop where
 le:Le C.g C.w g w
 tmps:∀t x,Oo T t=some x→∃v,a.tmps[t]? =some v∧VR g w x v
 hr:HR g w H
 defers:a.defers=C.D
 size:a.tmps.size=C.n
 nil:∀i,C.N≤i→C.g.ι i=none∧C.g.tk i=none
abbrev VQ:=Exit→VT→List HO→Prop
def Up (C:Cx)(Q:VQ):Exit→Act→World→Prop:=fun e a w=>∃g T H,SR C g w a T H∧Q e T H
structure VW (C:Cx)(c:Code)(Q:VQ)(T:VT)(H:List HO):Prop where
 out:∀g a w,SR C g w a T H→c.wp C.P (Up C Q) a w
def VL (C:Cx)(ops:Array Oper)(Q:VQ)(l:List Oper)(T:VT)(H:List HO):Prop:=∀g a w,SR C g w a T H→wpList C.P ops (Up C Q) l a w
def qco (K:VT→List HO→Prop)(Q:VQ):VQ
 |.normal,T,H=>K T H
 |e,T,H=>Q e T H
def qfG (id:Nat)(Q:VQ):VQ
 |.exit i,T,H=>if i=id then Q .normal T H else Q (.exit i) T H
 |e,T,H=>Q e T H
def ev (T:VT):Operand→Option V
 |.tmp t=>Oo T t
 |.const v=>some (.s v)
 |.global g=>some (.s (.pointer (some ⟨g,0,none⟩)))
 |.func f=>some (.s (.func (.func f) #[] #[]))
section
variable {C:Cx} {Q Q':VQ} {T:VT} {H:List HO} {g:Gh} {w:World} {a:Act}
theorem SR.ev (h:SR C g w a T H){o:Operand}{x:V}(j:ev T o=some x):VR g w x (a.eval o):=by
 cases o with
 |tmp t=>
  obtain⟨v,I,J⟩:=h.tmps t x j;have:a.eval (.tmp t)=v:=by simp[Act.eval,Array.getD_eq_getD_getElem?,I]
  rw[this];exact J
 |const v=>cases j;exact .s _
 |global g=>cases j;exact .s _
 |func f=>cases j;exact .s _
theorem SR.put (h:SR C g w a T H){o:Gh}{w':World}{H':List HO}(hl:Le g w o w')(hr:HR o w' H'){t:Nat}{x:V}{v:Value}(I:VR o w' x v)(J:t<C.n):SR C o w' (a.put (some t) v) ((t,x)::T) H':=by
 refine⟨h.le.trans hl,fun u y j=>?_,hr,h.defers,by simpa [Act.put] using h.size,h.nil⟩;simp only[Oo] at j;by_cases e:t=u
 ·subst e
  rw[ap rfl] at j;cases j;exact⟨v,by simp[Act.put,h.size,J],I⟩
 rw[ae e] at j;obtain⟨R,Y,h2⟩:=h.tmps u y j;exact⟨R,by simp[Act.put,Array.getElem?_setIfInBounds_ne e,Y],h2.le hl⟩
theorem SR.still (h:SR C g w a T H){j:Gh}{w':World}{H':List HO}(hl:Le g w j w')(hr:HR j w' H'):SR C j w' a T H':=
 ⟨h.le.trans hl,fun u y o=>by obtain⟨v,I,J⟩:=h.tmps u y o;exact⟨v,I,J.le hl⟩,hr,h.defers,h.size,h.nil⟩
theorem qiy {x y:Code}(h:VW C x (qco (VW C y Q) Q) T H):VW C (.seq x y) Q T H:=⟨fun g a w J=>wp_seq (wp_mono (h.out g a w J) fun e R w' hu=>by
 obtain⟨j,Y,H',o,I⟩:=hu;cases e with
 |normal=>exact I.out j R w' o
 |_=>exact⟨j,Y,H',o,I⟩)⟩
theorem qia (h:Q .normal T H):VW C .skip Q T H:=⟨fun g _ _ j=>wp_skip ⟨g,T,H,j,h⟩⟩
theorem qaw (h:Q .ret T H):VW C .ret Q T H:=⟨fun g _ _ j=>wp_ret ⟨g,T,H,j,h⟩⟩
theorem qbL {id:Nat}(h:Q (.exit id) T H):VW C (.exit id) Q T H:=⟨fun g _ _ j=>wp_exit ⟨g,T,H,j,h⟩⟩
theorem qhm {id:Nat}{c:Code}(h:VW C c (qfG id Q) T H):VW C (.block id c) Q T H:=⟨fun g a w R=>wp_block (wp_mono (h.out g a w R) fun e Y w' hu=>by
 obtain⟨o,I,H',J,j⟩:=hu;cases e with
 |exit i=>simp only[qfG] at j;simp only[Exit.inBlock];split<;>(rename_i hi;simp only[hi,if_true,if_false] at j;exact⟨o,I,H',J,j⟩)
 |_=>exact⟨o,I,H',J,j⟩)⟩
theorem qdq {c:Operand}{x y:Code}{b:Bool}(J:ev T c=some (.s (.bool b)))(R:b=true→VW C x Q T H)(Y:b=false→VW C y Q T H):VW C (.cond c x y) Q T H:=⟨fun g a w o=>by have I:=o.ev J;cases j:a.eval c<;>rw[j] at I<;>cases I;exact wp_cond_split j (fun e=>(R e).out g a w o) fun e=>(Y e).out g a w o⟩
theorem qgy {id:Nat}{l:List Oper}(h:VL C l.toArray (qco (fun T H=>Q .normal T H) Q) l T H):VW C (.region id l.toArray false) Q T H:=⟨fun g a w j=>wp_region_lit (by refine cast (congrArg (fun q=>wpList C.P l.toArray q l a w) ?_) (h g a w j);funext e o w';refine congrArg (fun q=>Up C q e o w') ?_;funext e;cases e<;>rfl)⟩
theorem qiw {ops:Array Oper}(h:Q .normal T H):VL C ops Q [] T H:=fun g _ _ j=>⟨g,T,H,j,h⟩
end
def OpS (C:Cx)(o:Oper)(T:VT)(H:List HO)(x:V)(H':List HO):Prop:=∀g a w,SR C g w a T H→∃v w' j,((execOp a.eval o).run C.P w=.ok (.value v) w'∨(execOp a.eval o).run C.P w=.ok .skip w'∧v=undef)∧Le g w j w'∧VR j w' x v∧HR j w' H'
section
variable {C:Cx} {Q:VQ} {T:VT} {H H':List HO} {ops:Array Oper} {o:Oper} {l:List Oper}
theorem qaS (j:o.guard=none){f:Nat→Option Bool}:Region.wanted o f=true:=by simp[Region.wanted,j]
theorem qeD {x:V}{t:Nat}(h:OpS C o T H x H')(k:VL C ops Q l ((t,x)::T) H')(I:o.guard=none:=by rfl)(J:o.dst=some t:=by rfl)(R:t<C.n:=by decide):VL C ops Q (o::l) T H:=fun g a w j=>by obtain⟨v,w',Y,hr,hl,hx,hh⟩:=h g a w j;have hk:=k Y (a.put (some t) v) w' (j.put hl hh hx R);simp only[wpList,qaS I,if_true];left;unfold Oper.wp;rcases hr with hr|⟨hr,rfl⟩<;>rw[hr]<;>simp only[Oper.upon,J]<;>exact hk
theorem qgx {x:V}(h:OpS C o T H x H')(k:VL C ops Q l T H')(I:o.guard=none:=by rfl)(J:o.dst=none:=by rfl):VL C ops Q (o::l) T H:=fun g a w j=>by obtain⟨v,w',R,hr,hl,hx,Y⟩:=h g a w j;have hk:=k R a w' (j.still hl Y);simp only[wpList,qaS I,if_true];left;unfold Oper.wp;rcases hr with hr|⟨hr,rfl⟩<;>rw[hr]<;>simp only[Oper.upon,J,Act.put]<;>exact hk
theorem qcB {dst:Option Tmp}{op:Op}{ty:TypeId}{pos:String}{after:Array Edge}{j u:Nat}{want:Bool}{gv:Value}{tmps:Array Value}(I:(ops[j]?).bind (·.dst)=some u)(hu:tmps[u]? =some gv):Region.wanted ⟨dst,op,ty,pos,after,some (j,want)⟩ (yielded ops tmps)=true↔gv=.bool want:=by cases gv<;>simp[Region.wanted,yielded,I,hu]
theorem qfb {j:Nat}{want:Bool}{gv:Value}{u:Nat}{dst:Option Tmp}{op:Op}{ty:TypeId}{pos:String}{after:Array Edge}(J:Oo T u=some (.s gv))(R:(ops[j]?).bind (·.dst)=some u){t:Nat}(Y:dst=some t)(ht:t<C.n)
 (hy:gv=.bool want→VL C ops Q (⟨dst,op,ty,pos,after,none⟩::l) T H) (hn:gv≠.bool want→VL C ops Q l ((t,.s undef)::T) H):VL C ops Q (⟨dst,op,ty,pos,after,some (j,want)⟩::l) T H:=fun g a w I=>by
 obtain⟨v,h1,h2⟩:=I.tmps u _ J;cases h2;have hw:=qcB (dst:=dst) (op:=op) (ty:=ty) (pos:=pos) (after:=after) (want:=want) R h1;simp only[wpList];by_cases e:gv=.bool want
 ·have:=hy e g a w I
  simp only[wpList,Region.wanted,if_true] at this;rw[ap (hw.2 e)];exact this
 rw[ae fun h=>e (hw.1 h)];subst Y;exact hn e g _ w (I.put (Le.refl _ _) I.hr (.s _) ht)
end
end Q
end
end Go.Proofs.YtgdlhckhpolnnaaGreatDoor
