/- Part 2 of the proof (its last part says what is proved). No condition. -/
import Derived.WalkSpells
import Derived.WalkLawsBesides
import Derived.BigQuiet
import Derived.Deep.LoopGhost
import Derived.Test.YtgdlhckhpolnnaaGreatDoorK0
namespace Go.Proofs.YtgdlhckhpolnnaaGreatDoor
set_option maxRecDepth 100000
set_option maxHeartbeats 8000000
open Go.RowKit Go.Proofs.Tryz
section
def All:Nat→Prop:=fun _=>True
structure aa (S:Nat→Prop)(w w':World):Prop where
 os:w'.os=w.os
 output:w'.output=w.output
 size:w.heap.size≤w'.heap.size
 block:∀k,k<w.heap.size→S k→w'.heap[k]? =w.heap[k]?
section
variable {S T:Nat→Prop} {w w' a b c:World}
theorem aa.refl (S:Nat→Prop)(w:World):aa S w w:=⟨rfl,rfl,cf _,fun _ _ _=>rfl⟩
theorem aa.trans (h:aa S a b)(k:aa S b c):aa S a c:=
 ⟨k.os.trans h.os,k.output.trans h.output,fR h.size k.size,fun i hi j=>(k.block i (Nat.lt_of_lt_of_le hi h.size) j).trans (h.block i hi j)⟩
theorem aa.mono (h:aa S w w')(j:∀k,T k→S k):aa T w w':=⟨h.os,h.output,h.size,fun k o C=>h.block k o (j k C)⟩
theorem aa.all (h:aa All w w'):aa S w w':=h.mono fun _ _=>trivial
theorem aa.drew (h:aa S a w):aa S a w.drew:=⟨h.os,h.output,h.size,h.block⟩
theorem aa.drewN (h:aa S a w)(n:Nat):aa S a (w.drewN n):=⟨h.os,h.output,h.size,h.block⟩
theorem aa.alloc (h:aa S a w)(o:Obj):aa S a (w.alloc o):=
 h.trans ⟨rfl,rfl,by simp,fun k j _=>by rw[World.alloc];show(w.heap.push o)[k]? =_;rw[Array.getElem?_push,ae (by omega)]⟩
theorem pI (w:World)(p:Addr)(u:Value)(k:Nat)(h:k≠p.block):(w.setCell p u).heap[k]? =w.heap[k]?:=by simp only[World.setCell,Array.getElem?_modify];rw[ae (by omega)]
theorem aa.setCell (h:aa S a w){p:Addr}(j:¬S p.block∨a.heap.size≤p.block)(u:Value):aa S a (w.setCell p u):=by refine⟨h.os,h.output,by simpa using h.size,fun k C o=>?_⟩;rw[pI _ _ _ _ (fun e=>by subst e;rcases j with j|j;exact j o;omega)];exact h.block k C o
theorem aa.grown (h:aa S a w){row:Option Nat}(g:w.grownBy w' row)(hr:∀k,row=some k→¬S k∨a.heap.size≤k):aa S a w':=by refine⟨g.os.trans h.os,g.output.trans h.output,fR h.size g.size,fun k j o=>?_⟩;rw[g.block k (Nat.lt_of_lt_of_le j h.size) (fun e=>by rcases hr k e.symm with C|C;exact C o;omega)];exact h.block k j o
theorem aa.cell (h:aa S w w'){p:Addr}{v:Value}(o:S p.block)(j:w.cell? p=some v):w'.cell? p=some v:=by have C:=jy w _ j;rw[World.cell?_of_block (h.block _ C o)];exact j
end
def al (w:World)(g:Nat)(t:TypeId)(cs:Array Value):Prop:=w.heap[g]? =some (.cells cs t (0,0))
section
variable {S:Nat→Prop} {w w':World} {g:Nat} {t:TypeId} {cs:Array Value}
theorem al.lt (h:al w g t cs):g<w.heap.size:=by
 rcases Nat.lt_or_ge g w.heap.size with j|o;·exact j
 unfold al at h;rw[jK o] at h;cases h
theorem al.cell (h:al w g t cs)(i:Nat):w.cell? ⟨g,i,none⟩=cs[i]?:=by unfold al at h;simp[World.cell?,h]
theorem al.free (h:al w g t cs)(i:Nat):w.frozen? ⟨g,i,none⟩=false:=by unfold al at h;simp[World.frozen?,h]
theorem al.new (w:World)(t:TypeId)(cs:Array Value):al (w.alloc (.cells cs t)) w.heap.size t cs:=by show(w.heap.push _)[w.heap.size]? =_;simp
theorem al.set (h:al w g t cs)(i:Nat)(u:Value):al (w.setCell ⟨g,i,none⟩ u) g t (cs.setIfInBounds i u):=by unfold al at h⊢;simp[World.setCell,Array.getElem?_modify,h]
theorem al.far (h:al w g t cs){p:Addr}(j:g≠p.block)(u:Value):al (w.setCell p u) g t cs:=(pI w p u g j).trans h
theorem al.alloc (h:al w g t cs)(o:Obj):al (w.alloc o) g t cs:=by have:=h.lt;show(w.heap.push o)[g]? =_;rw[Array.getElem?_push,ae (by omega)];exact h
theorem al.drew (h:al w g t cs):al w.drew g t cs:=h
theorem al.kept (h:al w g t cs)(k:aa S w w')(j:S g):al w' g t cs:=(k.block g h.lt j).trans h
theorem al.grown {row:Option Nat}(h:al w g t cs)(j:w.grownBy w' row)(o:some g≠row):al w' g t cs:=(j.block g h.lt o).trans h
theorem al.ne {C:Nat}{I:TypeId}{j:Array Value}(h:al w g t cs)(h':al w C I j)(o:t≠I):g≠C:=by rintro rfl;unfold al at h h';rw[h] at h';injection h' with h';injection h' with _ J;exact o J
end
def az (N:Nat)(p:Nat→Bool):Array Value:=((List.range N).map fun i=>Value.bool (p i)).toArray
theorem bj {N:Nat}{p:Nat→Bool}{i:Nat}(h:i<N):(az N p)[i]? =some (.bool (p i)):=by simp[az,h]
theorem im (N:Nat)(p:Nat→Bool):(az N p).size=N:=by simp[az]
theorem dg {N:Nat}{p q:Nat→Bool}{i:Nat}{b:Bool}(hi:q i=b)(C:∀j,j<N→j≠i→q j=p j):(az N p).setIfInBounds i (.bool b)=az N q:=by
 apply Array.ext_getElem?;intro j;rw[Array.getElem?_setIfInBounds];by_cases o:j<N
 ·rw[bj o,bj o,im]
  by_cases e:i=j;·subst e;simp[o,hi]
  rw[ae e,C j o (fun x=>e x.symm)]
 have I:(az N p)[j]? =none:=by rw[jK];rw[im];omega
 have J:(az N q)[j]? =none:=by rw[jK];rw[im];omega
 rw[I,J];split;·rw[ae (by rw[im];omega)]
 rfl
abbrev bT (α:Type):=(Nat→Prop)→World→Value→α→Prop
def rQ:bT Int:=fun _ _ c n=>c=.int .i64 n∧(Lit.int .i64 n).wf=true
def xC:bT Bool:=fun _ _ c b=>c=.bool b
def Sl {α:Type}(bw:Nat)(E:bT α):bT (List α):=fun S w v l=>
 ∃a cap,v=.slice a l.length cap∧l.length≤cap∧cap≤maxLen∧l.length*bw≤140737488355328∧∀(i:Nat) (x:α),l[i]? =some x→∃b off c,a=some ⟨b,off,none⟩∧S b∧w.cell? ⟨b,off+i,none⟩=some c∧E S w c x
abbrev aK:=Sl 8 rQ
abbrev gD:=Sl 1 xC
abbrev Rows:=Sl 24 (Sl 8 rQ)
structure bT.Good {α:Type}(E:bT α):Prop where
 keep:∀ {S w w' c x},aa S w w'→E S w c x→E S w' c x
 wide:∀ {S T:Nat→Prop} {w c x},(∀k,S k→T k)→E S w c x→E T w c x
theorem Jf:bT.Good rQ:=⟨fun _ h=>h,fun _ h=>h⟩
theorem FL:bT.Good xC:=⟨fun _ h=>h,fun _ h=>h⟩
theorem oR {α:Type}{bw:Nat}{E:bT α}(g:bT.Good E):bT.Good (Sl bw E):=by
 constructor;·intro S w w' v l k h;obtain⟨a,cap,o,h1,C,I,h⟩:=h;refine⟨a,cap,o,h1,C,I,fun i x J=>?_⟩;obtain⟨b,off,c,e,j,R,he⟩:=h i x J;exact⟨b,off,c,e,j,k.cell (p:=⟨b,off+i,none⟩) j R,g.keep k he⟩
 intro S T w v l k h;obtain⟨a,cap,o,h1,C,I,h⟩:=h;refine⟨a,cap,o,h1,C,I,fun i x J=>?_⟩;obtain⟨b,off,c,e,j,R,he⟩:=h i x J;exact⟨b,off,c,e,k b j,R,g.wide k he⟩
theorem ah:bT.Good aK:=oR Jf
theorem cR:bT.Good gD:=oR FL
theorem aq:bT.Good Rows:=oR ah
theorem rs {n:Int}(h:(Lit.int .i64 n).wf=true): -9223372036854775808≤n∧n≤9223372036854775807:=by simp only[Lit.wf,IntKind.min,IntKind.max,IntKind.signed,IntKind.bits,gE,qal,if_true] at h;omega
theorem Sl.of_blk {α:Type}{bw:Nat}{E:bT α}{S:Nat→Prop}{w:World}{g:Nat}{t:TypeId}{cs:Array Value}{l:List α}{cap:Nat}(h:al w g t cs)(j:S g)(h1:l.length≤cap)(o:cap≤maxLen)(C:l.length*bw≤140737488355328)
 (he:∀(i:Nat) (x:α),l[i]? =some x→∃c,cs[i]? =some c∧E S w c x):Sl bw E S w (.slice (some ⟨g,0,none⟩) l.length cap) l:=by
 refine⟨_,_,rfl,h1,o,C,fun i x I=>?_⟩;obtain⟨c,J,R⟩:=he i x I;exact⟨g,0,c,rfl,j,by rw[cN,h.cell];exact J,R⟩
theorem Sl.nil {α:Type}{bw:Nat}{E:bT α}{S:Nat→Prop}{w:World}:Sl bw E S w (.slice none 0 0) []:=by refine⟨none,0,rfl,cf _,Nat.zero_le _,by simp,fun i x j=>?_⟩;simp at j
theorem Sl.of_own {α:Type}{bw:Nat}{E:bT α}{S:Nat→Prop}{w:World}{base:Nat}{e:TypeId}{v:Value}{vs:List Value}{l:List α}(h:w.ownsRow base e 1 v l.length vs)(C:l.length*bw≤140737488355328)
 (I:∀g,v.ownBlock=some g→S g) (he:∀(i:Nat) (x:α),l[i]? =some x→∃c,vs[i]? =some c∧E S w c x):Sl bw E S w v l:=by
 obtain⟨hl,h⟩:=h;rcases h with ⟨rfl,J⟩|⟨g,cap,cur,rfl,hb,R,Y,hm,a1,o⟩
 ·have:l=[]:=oD J
  subst this;exact Sl.nil
 refine⟨_,_,rfl,Y,hm,C,fun i x hx=>?_⟩;obtain⟨c,j,hE⟩:=he i x hx;refine⟨g,0,c,rfl,I g rfl,?_,hE⟩;rw[cN,al.cell (w:=w) (t:=e) (cs:=cur) R];rw[←o] at j;have hi:i<l.length*1:=by
  rcases Nat.lt_or_ge i (l.length*1) with h|h;·exact h
  rw[jz (by rw[fN];omega)] at j;cases j
 rw[rY hi] at j;simpa using j
theorem aU {w:World}{base:Nat}{e:TypeId}{size n:Nat}{v:Value}{xs:List Value}(h:w.ownsRow base e size v n xs):∃A c,v=.slice A n c:=by
 rcases h.2 with ⟨rfl,rfl⟩|⟨g,cap,cur,rfl,_⟩;·exact⟨_,_,rfl⟩
 exact⟨_,_,rfl⟩
theorem aD {w:World}{base:Nat}{e:TypeId}{size n:Nat}{v:Value}{xs:List Value}(h:w.ownsRow base e size v n xs){g:Nat}(j:v.ownBlock=some g):base≤g∧g<w.heap.size:=by
 rcases h.2 with ⟨rfl,rfl⟩|⟨I,cap,cur,rfl,o,C,_⟩;·cases j
 cases j;exact⟨o,al.lt (w:=w) (t:=e) (cs:=cur) C⟩
theorem be {S:Nat→Prop}{w w':World}{base:Nat}{e:TypeId}{size n:Nat}{v:Value}{xs:List Value}(h:w.ownsRow base e size v n xs)(k:aa S w w')(j:∀g,v.ownBlock=some g→S g):w'.ownsRow base e size v n xs:=by
 refine⟨h.1,?_⟩;rcases h.2 with o|⟨g,cap,cur,rfl,C,I,r⟩;·exact .inl o
 exact .inr ⟨g,cap,cur,rfl,C,al.kept (w:=w) (t:=e) (cs:=cur) I k (j g rfl),r⟩
section
variable {P:Program} (w:World)
theorem JL (base:Nat)(t ty e:TypeId)(i:TypeInfo)(z:Value)(size bytes:Nat)(ht:P.underlying t=some (.slice e))(hi:P.info? e=some i)(hz:i.zero=some z)
 (I:i.size=size) (a1:i.bytes=bytes) (a6:z.cells.size=size) (a7:0<size)
 (v:Value) (n:Nat) (xs:List Value) (o:w.ownsRow base e size v n xs)
 (A:Option Addr) (m c:Nat) (news:List Value) (hl:news.length=m*size) (hA:0<m→∃b off,A=some ⟨b,off,none⟩∧∀(j:Nat) u,news[j]? =some u→w.cell? ⟨b,off+j,none⟩=some u)
 (h1:∀u∈news,u.oneCell'=true) (a8:n+m≤maxLen) (C:(n+m)*bytes≤140737488355328) (J:base≤w.heap.size):
 ∃Y w',(Builtin.append_ #[t,t] ty #[v,.slice A m c]).run P w=.ok Y w'∧w'.ownsRow base e size Y (n+m) (xs++news)∧w.grownBy w' v.ownBlock∧
  (Y.ownBlock=v.ownBlock∨Y.ownBlock=some w.heap.size):=by
 rcases Nat.eq_zero_or_pos m with h0|h0
 ·subst h0;have hn:news=[]:=oD (by simpa using hl);subst hn;cases A with
  |none=>
   refine⟨v,w,?_,by simpa using o,World.grownBy.refl w _,.inl rfl⟩;rcases o.2 with ⟨rfl,rfl⟩|⟨g,cap,cur,rfl,_,_,b0,_⟩;·simp[Builtin.append_,run_underlying ht,sizeOf,typeInfo,hi,Builtin.lenOf,Builtin.firstCells]
   simp[Builtin.append_,run_underlying ht,sizeOf,typeInfo,hi,Builtin.lenOf,Builtin.firstCells,b0,storeCells]
  |some ad=>obtain⟨Y,w',R,h2,h3,_,h5⟩:=run_append_own_at (P:=P) w base t ty e i z size bytes ht hi hz I a1 a6 a7 v n xs o ad 0 c [] (by simp) (fun j u hu=>by simp at hu) h1 a8 C J;exact⟨Y,w',R,h2,h3,h5⟩
 obtain⟨b,off,rfl,hc⟩:=hA h0;obtain⟨Y,w',R,h2,h3,_,h5⟩:=run_append_own_at (P:=P) w base t ty e i z size bytes ht hi hz I a1 a6 a7 v n xs o ⟨b,off,none⟩ m c news hl (fun j u hu=>by
  have:=hc j u hu;unfold Addr.add;split;·rename_i h;subst h;exact this
  exact this) h1 a8 C J
 exact⟨Y,w',R,h2,h3,h5⟩
theorem aR {ops:Array Oper}{rest:List Oper}{o:Oper}{a:Act}{Q:Exit→Act→World→Prop}(a6:o.guard=none)(s x:Operand)(t:TypeId)
 (ho:o.op=.call {callee:=.builtin .append,args:=#[s,x],argTypes:=#[t,t]})
 (base:Nat) (e:TypeId) (i:TypeInfo) (z:Value) (size bytes:Nat) (ht:P.underlying t=some (.slice e)) (hi:P.info? e=some i) (hz:i.zero=some z)
 (I:i.size=size) (a7:i.bytes=bytes) (a8:z.cells.size=size) (b0:0<size)
 (v:Value) (n:Nat) (xs:List Value) (hs:a.eval s=v) (Y:w.ownsRow base e size v n xs)
 (A:Option Addr) (m c:Nat) (news:List Value) (hx:a.eval x=.slice A m c) (hl:news.length=m*size) (hA:0<m→∃b off,A=some ⟨b,off,none⟩∧∀(j:Nat) u,news[j]? =some u→w.cell? ⟨b,off+j,none⟩=some u)
 (h1:∀u∈news,u.oneCell'=true) (b1:n+m≤maxLen) (C:(n+m)*bytes≤140737488355328) (J:base≤w.heap.size)
 (h:∀R w',w'.ownsRow base e size R (n+m) (xs++news)→w.grownBy w' v.ownBlock→(R.ownBlock=v.ownBlock∨R.ownBlock=some w.heap.size)→wpList P ops Q rest (a.put o.dst R) w'):wpList P ops Q (o::rest) a w:=by
 refine wpList_plain a6 fun K hK=>?_;obtain⟨R,w',a1,h2,h3,h4⟩:=JL (P:=P) w base t o.type e i z size bytes ht hi hz I a7 a8 b0 v n xs Y A m c news hl hA h1 b1 C J;unfold Oper.wp execOp;simp only[ho,resolve,invoke,builtin,Sem.run_bind,Sem.run_pure,Result.andThen_ok,List.map_toArray,List.map_cons,List.map_nil,hs,hx,a1];exact hK _ _ (h R w' h2 h3 h4)
end
theorem kR {S:Nat→Prop}{w:World}:aa S w w:=aa.refl S w
theorem bT.Good.la {α:Type}{E:bT α}(g:bT.Good E){S:Nat→Prop}{w:World}{v:Value}{x:α}(h:E S w v x):∀wn,aa All w wn→E S wn v x:=fun _ j=>g.keep j.all h
theorem iH {P:Program}{e:TypeId}{z:Value}{size bytes:Nat}(h:(P.info? e).map (fun i=>(i.zero,i.size,i.bytes))=some (some z,size,bytes)):∃i,Hid (P.info? e=some i∧i.zero=some z∧i.size=size∧i.bytes=bytes):=info_parts h
theorem al.cl {w:World}{g:Nat}{t:TypeId}{cs:Array Value}(h:al w g t cs)(i:Nat){v:Value}(e:cs[i]? =some v:=by conv=>lhs;simp only[gc]):w.cell? ⟨g,i,none⟩=some v:=(h.cell i).trans e
section
variable {X W:World} {c:Array Value} {t:TypeId} {b:Nat} {S:Nat→Prop} {o1 o2 o3 o4 o5 o6 o7 o8 o9:Obj}
theorem yv (h:W=X.alloc (.cells c t)):al W X.heap.size t c:=h▸al.new _ _ _
theorem zo (h:W=X.alloc (.cells c t))(j:X.heap.size=b):al W b t c:=j▸yv h
theorem aA1 (h:W=(X.alloc (.cells c t)).alloc o1):al W X.heap.size t c:=h▸(yv rfl).alloc _
theorem aB1 (h:W=(X.alloc (.cells c t)).alloc o1)(j:X.heap.size=b):al W b t c:=j▸aA1 h
theorem aA2 (h:W=((X.alloc (.cells c t)).alloc o1).alloc o2):al W X.heap.size t c:=h▸(aA1 rfl).alloc _
theorem aB2 (h:W=((X.alloc (.cells c t)).alloc o1).alloc o2)(j:X.heap.size=b):al W b t c:=j▸aA2 h
theorem aA3 (h:W=(((X.alloc (.cells c t)).alloc o1).alloc o2).alloc o3):al W X.heap.size t c:=h▸(aA2 rfl).alloc _
theorem aB3 (h:W=(((X.alloc (.cells c t)).alloc o1).alloc o2).alloc o3)(j:X.heap.size=b):al W b t c:=j▸aA3 h
theorem aA4 (h:W=((((X.alloc (.cells c t)).alloc o1).alloc o2).alloc o3).alloc o4):al W X.heap.size t c:=h▸(aA3 rfl).alloc _
theorem aB4 (h:W=((((X.alloc (.cells c t)).alloc o1).alloc o2).alloc o3).alloc o4)(j:X.heap.size=b):al W b t c:=j▸aA4 h
theorem aA5 (h:W=(((((X.alloc (.cells c t)).alloc o1).alloc o2).alloc o3).alloc o4).alloc o5):al W X.heap.size t c:=h▸(aA4 rfl).alloc _
theorem aB5 (h:W=(((((X.alloc (.cells c t)).alloc o1).alloc o2).alloc o3).alloc o4).alloc o5)(j:X.heap.size=b):al W b t c:=j▸aA5 h
theorem aA6 (h:W=((((((X.alloc (.cells c t)).alloc o1).alloc o2).alloc o3).alloc o4).alloc o5).alloc o6):al W X.heap.size t c:=h▸(aA5 rfl).alloc _
theorem vI:(X.alloc o1).heap.size=X.heap.size+1:=by simp
theorem yf (h:W=X.alloc o1):aa All X W:=h▸(aa.refl _ _).alloc _
theorem aD1 (h:W=X.alloc o1):W.heap.size=X.heap.size+1:=h▸vI
theorem aE2:((X.alloc o1).alloc o2).heap.size=X.heap.size+1+1:=vI.trans (congrArg (·+1) vI)
theorem zy (h:W=(X.alloc o1).alloc o2):aa All X W:=h▸(yf rfl).alloc _
theorem aD2 (h:W=(X.alloc o1).alloc o2):W.heap.size=X.heap.size+2:=h▸aE2
theorem aE3:(((X.alloc o1).alloc o2).alloc o3).heap.size=X.heap.size+1+1+1:=vI.trans (congrArg (·+1) aE2)
theorem aC3 (h:W=((X.alloc o1).alloc o2).alloc o3):aa All X W:=h▸(zy rfl).alloc _
theorem aD3 (h:W=((X.alloc o1).alloc o2).alloc o3):W.heap.size=X.heap.size+3:=h▸aE3
theorem aE4:((((X.alloc o1).alloc o2).alloc o3).alloc o4).heap.size=X.heap.size+1+1+1+1:=vI.trans (congrArg (·+1) aE3)
theorem aC4 (h:W=(((X.alloc o1).alloc o2).alloc o3).alloc o4):aa All X W:=h▸(aC3 rfl).alloc _
theorem aD4 (h:W=(((X.alloc o1).alloc o2).alloc o3).alloc o4):W.heap.size=X.heap.size+4:=h▸aE4
theorem aE5:(((((X.alloc o1).alloc o2).alloc o3).alloc o4).alloc o5).heap.size=X.heap.size+1+1+1+1+1:=vI.trans (congrArg (·+1) aE4)
theorem aC5 (h:W=((((X.alloc o1).alloc o2).alloc o3).alloc o4).alloc o5):aa All X W:=h▸(aC4 rfl).alloc _
theorem aD5 (h:W=((((X.alloc o1).alloc o2).alloc o3).alloc o4).alloc o5):W.heap.size=X.heap.size+5:=h▸aE5
theorem aE6:((((((X.alloc o1).alloc o2).alloc o3).alloc o4).alloc o5).alloc o6).heap.size=X.heap.size+1+1+1+1+1+1:=vI.trans (congrArg (·+1) aE5)
theorem aC6 (h:W=(((((X.alloc o1).alloc o2).alloc o3).alloc o4).alloc o5).alloc o6):aa All X W:=h▸(aC5 rfl).alloc _
theorem aE7:(((((((X.alloc o1).alloc o2).alloc o3).alloc o4).alloc o5).alloc o6).alloc o7).heap.size=X.heap.size+1+1+1+1+1+1+1:=vI.trans (congrArg (·+1) aE6)
theorem aC7 (h:W=((((((X.alloc o1).alloc o2).alloc o3).alloc o4).alloc o5).alloc o6).alloc o7):aa All X W:=h▸(aC6 rfl).alloc _
theorem aD7 (h:W=((((((X.alloc o1).alloc o2).alloc o3).alloc o4).alloc o5).alloc o6).alloc o7):W.heap.size=X.heap.size+7:=h▸aE7
end
theorem al.c2 {w:World}{g:Nat}{t:TypeId}{a0 j:Value}{xs:List Value}(h:al w g t (a0::j::xs).toArray):w.cell? ⟨g,0,none⟩=some a0∧w.cell? ⟨g,1,none⟩=some j:=⟨h.cell 0,h.cell 1⟩
theorem al.c3 {w:World}{g:Nat}{t:TypeId}{a0 j a2:Value}{xs:List Value}(h:al w g t (a0::j::a2::xs).toArray):w.cell? ⟨g,0,none⟩=some a0∧w.cell? ⟨g,1,none⟩=some j∧w.cell? ⟨g,2,none⟩=some a2:=⟨h.cell 0,h.cell 1,h.cell 2⟩
theorem al.c4 {w:World}{g:Nat}{t:TypeId}{a0 j a2 a3:Value}{xs:List Value}(h:al w g t (a0::j::a2::a3::xs).toArray):w.cell? ⟨g,0,none⟩=some a0∧w.cell? ⟨g,1,none⟩=some j∧w.cell? ⟨g,2,none⟩=some a2∧w.cell? ⟨g,3,none⟩=some a3:=⟨h.cell 0,h.cell 1,h.cell 2,h.cell 3⟩
theorem al.c5 {w:World}{g:Nat}{t:TypeId}{a0 j a2 a3 a4:Value}{xs:List Value}(h:al w g t (a0::j::a2::a3::a4::xs).toArray):w.cell? ⟨g,0,none⟩=some a0∧w.cell? ⟨g,1,none⟩=some j∧w.cell? ⟨g,2,none⟩=some a2∧w.cell? ⟨g,3,none⟩=some a3∧w.cell? ⟨g,4,none⟩=some a4:=⟨h.cell 0,h.cell 1,h.cell 2,h.cell 3,h.cell 4⟩
theorem al.c6 {w:World}{g:Nat}{t:TypeId}{a0 j a2 a3 a4 a5:Value}{xs:List Value}(h:al w g t (a0::j::a2::a3::a4::a5::xs).toArray):w.cell? ⟨g,0,none⟩=some a0∧w.cell? ⟨g,1,none⟩=some j∧w.cell? ⟨g,2,none⟩=some a2∧w.cell? ⟨g,3,none⟩=some a3∧w.cell? ⟨g,4,none⟩=some a4∧w.cell? ⟨g,5,none⟩=some a5:=⟨h.cell 0,h.cell 1,h.cell 2,h.cell 3,h.cell 4,h.cell 5⟩
theorem al.c7 {w:World}{g:Nat}{t:TypeId}{a0 j a2 a3 a4 a5 o:Value}{xs:List Value}(h:al w g t (a0::j::a2::a3::a4::a5::o::xs).toArray):w.cell? ⟨g,0,none⟩=some a0∧w.cell? ⟨g,1,none⟩=some j∧w.cell? ⟨g,2,none⟩=some a2∧w.cell? ⟨g,3,none⟩=some a3∧w.cell? ⟨g,4,none⟩=some a4∧w.cell? ⟨g,5,none⟩=some a5∧w.cell? ⟨g,6,none⟩=some o:=⟨h.cell 0,h.cell 1,h.cell 2,h.cell 3,h.cell 4,h.cell 5,h.cell 6⟩
theorem al.c8 {w:World}{g:Nat}{t:TypeId}{a0 j a2 a3 a4 a5 o C:Value}{xs:List Value}(h:al w g t (a0::j::a2::a3::a4::a5::o::C::xs).toArray):w.cell? ⟨g,0,none⟩=some a0∧w.cell? ⟨g,1,none⟩=some j∧w.cell? ⟨g,2,none⟩=some a2∧w.cell? ⟨g,3,none⟩=some a3∧w.cell? ⟨g,4,none⟩=some a4∧w.cell? ⟨g,5,none⟩=some a5∧w.cell? ⟨g,6,none⟩=some o∧w.cell? ⟨g,7,none⟩=some C:=⟨h.cell 0,h.cell 1,h.cell 2,h.cell 3,h.cell 4,h.cell 5,h.cell 6,h.cell 7⟩
theorem al.c9 {w:World}{g:Nat}{t:TypeId}{a0 j a2 a3 a4 a5 o C I:Value}{xs:List Value}(h:al w g t (a0::j::a2::a3::a4::a5::o::C::I::xs).toArray):w.cell? ⟨g,0,none⟩=some a0∧w.cell? ⟨g,1,none⟩=some j∧w.cell? ⟨g,2,none⟩=some a2∧w.cell? ⟨g,3,none⟩=some a3∧w.cell? ⟨g,4,none⟩=some a4∧w.cell? ⟨g,5,none⟩=some a5∧w.cell? ⟨g,6,none⟩=some o∧w.cell? ⟨g,7,none⟩=some C∧w.cell? ⟨g,8,none⟩=some I:=⟨h.cell 0,h.cell 1,h.cell 2,h.cell 3,h.cell 4,h.cell 5,h.cell 6,h.cell 7,h.cell 8⟩
end
section
def eV (n:Nat)(row:List Int):Prop:=(∀k∈row,0≤k∧k<n)∧row.Nodup
def aP (ll:List (List Int)):Prop:=1≤ll.length∧ll.length≤256∧∀row∈ll,eV ll.length row
instance (n:Nat) (row:List Int):Decidable (eV n row):=by unfold eV;infer_instance
instance (ll:List (List Int)):Decidable (aP ll):=by unfold aP;infer_instance
theorem tG {n m:Nat}{row:List Int}(hm:m<row.length)(h:eV n (row.take m)):eV n (row.take (m+1))↔(0≤row[m]∧row[m]<n)∧row[m]∉row.take m:=by
 have e:row.take (m+1)=row.take m++[row[m]]:=by rw[cU,lG hm];rfl
 unfold eV at*;rw[e];simp only[eD,cx,List.nodup_append,List.nodup_cons,List.not_mem_nil,not_false_eq_true,List.nodup_nil,true_and];constructor
 ·rintro⟨h1,C,I⟩
  exact⟨h1 _ (.inr rfl),fun J=>I _ J _ rfl rfl⟩
 rintro⟨h1,C⟩;refine⟨fun k j=>?_,h.2,fun a R b Y o=>?_⟩
 ·rcases j with j|rfl
  ·exact h.1 k j
  exact h1
 exact C (Y▸o▸R)
theorem tH {n m:Nat}{row:List Int}(h:eV n row):eV n (row.take m):=
 ⟨fun k j=>h.1 k (List.mem_of_mem_take j),h.2.sublist (List.take_sublist _ _)⟩
theorem xK {ll:List (List Int)}{p:List Int→Prop}{k:Nat}(j:k<ll.length)(h:∀row∈ll.take k,p row)(h1:p ll[k]):∀row∈ll.take (k+1),p row:=by
 have e:ll.take (k+1)=ll.take k++[ll[k]]:=by rw[cU,lG j];rfl
 rw[e];intro row hr;rcases eD.1 hr with hr|hr;·exact h row hr
 rw[cx.1 hr];exact h1
def tY:Array Value:=az 256 fun _=>false
theorem qiZ:Tryz.zeroCells285=tY:=by kernel_rfl
attribute [local go_sem] qiZ
theorem gt (S:Nat→Prop)(v:Value)(ll:List (List Int))(w:World)(hv:Rows S w v ll):
 Calls prog 166 #[v] w fun e w'=>e=.returned (.bool (decide (aP ll)))∧aa All w w':=by
 obtain⟨a,cap,rfl,h1,h2,_,h⟩:=hv;unfold maxLen at h2;have H:=oH h;have hl:ll.length≤9223372036854775807:=by omega
 clear h h1 h2;by_cases e7:ll.length<1;·(
 have hR:¬aP ll:=fun h=>by have:=h.1;omega
 rw[cI hR];go_enter func166,ntmps166;go_wp2
 go_step3
 go_wp2
 (first|go_ret|(rw[Exit.noGoto_ret];go_ret))
 exact⟨rfl,kR⟩)
 by_cases e8:256<ll.length;·(
 have hR:¬aP ll:=fun h=>by have:=h.2.1;omega
 rw[cI hR];go_enter func166,ntmps166;go_wp2
 go_step3
 go_wp2
 (first|go_ret|(rw[Exit.noGoto_ret];go_ret))
 exact⟨rfl,kR⟩)
 have d1:decide ((ll.length:Int)<1)=false:=by simp;omega
 have d2:decide ((256:Int)<(ll.length:Int))=false:=by simp;omega
 have hle:ll.length≤256:=by omega
 go_enter func166,ntmps166;go_wp2
 go_step3
 go_wp2
 go_step3
 go_wp2;go_loopg [18] ll.length (fun g i wr=>∃k:Nat,k≤ll.length∧g=ll.length-k∧i=.int .i64 k∧(∀row∈ll.take k,eV ll.length row)∧aa All w wr);·exact⟨0,by omega,by omega,rfl,by simp,kR⟩
 obtain⟨k,hk,rfl,rfl,Y,C⟩:=hrel;by_cases b8:k<ll.length;·(
 obtain⟨b1,o1,c1,rfl,e9,c0,he⟩:=H.out k ll[k] (lG b8);obtain⟨ra,e6,rfl,r1,r2,_,rh⟩:=he;have e1:=C.cell (p:=⟨b1,o1+k,none⟩) trivial c0;have RH:=oH rh;have a1:eV ll.length ll[k]→∀row∈ll.take (k+1),eV ll.length row:=fun h=>xK b8 Y h;have b4:¬eV ll.length ll[k]→¬aP ll:=fun h h'=>h (h'.2.2 _ (eL b8));have a6:=oH a1;have c4:=oH b4;unfold maxLen at r2;have hr:ll[k].length≤9223372036854775807:=by omega
 clear c0 rh Y a1 b4 r1 r2;generalize ll[k]=row at*;go_wp2;have hB:w.heap.size≤wr.heap.size:=C.size;have c5:aa All w (wr.alloc (.cells tY 285)):=C.alloc _;have c6:al (wr.alloc (.cells tY 285)) wr.heap.size 285 tY:=al.new _ _ _;obtain⟨wo,rfl⟩:=eQ wr;go_loopg [24] row.length (fun g i wr=>∃m:Nat,m≤row.length∧g=row.length-m∧i=.int .i64 m∧eV ll.length (row.take m)∧aa All w wr∧al wr wo.heap.size 285 (az 256 fun x=>decide ((x:Int)∈row.take m)));·exact⟨0,by omega,by omega,rfl,⟨by simp,by simp⟩,c5,by simpa [tY] using c6⟩
 obtain⟨m,hm,rfl,rfl,I,o,a7⟩:=hrel;clear e1 c5 c6;by_cases a8:m<row.length;·(
 obtain⟨b2,o2,c2,rfl,h0,c7,rfl,e2⟩:=RH.out m row[m] (lG a8);have h3:=o.cell (p:=⟨b2,o2+m,none⟩) trivial c7;have c8:=tG a8 I;have c9:row.take (m+1)=row.take m++[row[m]]:=by rw[cU,lG a8];rfl
 have d7:eV ll.length row→eV ll.length (row.take (m+1)):=tH;have HF:=J3 c8 c9 d7;clear c8 c9 d7 c7;obtain⟨y1,y2⟩:=rs e2;generalize row[m]=y at*;have b0:¬((0≤y∧y<(ll.length:Int))∧y∉row.take m)→¬aP ll:=fun h=>c4.out fun hr=>h (HF.1.1 (HF.2.2 hr));have J:=oH b0;have b5:=oH I;clear b0 I;have b9:decide ((m:Int)=(row.length:Int)-1)=decide (m+1=row.length):=by rw[decide_eq_decide];omega
 clear b9;by_cases h4:y<0
 ·go_wp2
  (first|go_ret|(rw[Exit.noGoto_ret];go_ret))
  exact⟨by rw[cI (J.out (by omega))];rfl,o⟩
 by_cases h5:(ll.length:Int)≤y
 ·go_wp2
  (first|go_ret|(rw[Exit.noGoto_ret];go_ret))
  exact⟨by rw[cI (J.out (by omega))];rfl,o⟩
 obtain⟨q,rfl⟩:∃q:Nat,y=q:=⟨y.toNat,by omega⟩;have hq:q<256:=by omega
 have b3:wr.cell? ⟨wo.heap.size,q,none⟩=some (.bool (decide ((q:Int)∈row.take m))):=by rw[a7.cell,bj hq]
 have e3:=a7.free q;by_cases R:(q:Int)∈row.take m
 ·rw[bL R] at b3;have d8:=oH R;clear R;go_wp2
  (first|go_ret|(rw[Exit.noGoto_ret];go_ret))
  exact⟨by rw[cI (J.out (fun h=>h.2 d8.out))];rfl,o⟩
 rw[cI R] at b3;have b6:eV ll.length (row.take (m+1)):=HF.1.2 ⟨by omega,R⟩;have d8:=oH R;have b7:=oH b6;clear R b6;by_cases hl:m+1=row.length
 ·have e4:((m:Int)==(row.length:Int)-1)=true:=by rw[cy];omega
  have Hl:=oH hl;clear hl;go_wp2;go_roundg (ll.length-(k+1));·exact⟨k+1,by omega,rfl,by go_num,a6.out (by have:=b7.out;rwa [Hl.out,dZ] at this),o⟩
  omega
 have e4:((m:Int)==(row.length:Int)-1)=false:=by rw[bE];omega
 have Hl:=oH hl;clear hl;go_wp2;go_roundg (row.length-(m+1))
 case measure=>omega
 case rel=>exact⟨m+1,by omega,rfl,by go_num,b7.out,o.setCell (p:=⟨wo.heap.size,q,none⟩) (.inr hB) _,by
  rw[←dg (p:=fun x=>decide ((x:Int)∈row.take m)) (i:=q) (b:=true)];·exact a7.set q _
  ·rw[HF.2.1];simp
  intro j _ hj;have:¬(j:Int)=(q:Int):=by omega
  rw[HF.2.1];simp[this]⟩)
 have d9:m=row.length:=by omega
 have b5:=oH I;have e5:=oH d9;clear I d9;go_wp2;go_roundg (ll.length-(k+1));·exact⟨k+1,by omega,rfl,by go_num,a6.out (by have:=b5.out;rwa [e5.out,dZ] at this),o⟩
 omega)
 have e0:k=ll.length:=by omega
 have hR:aP ll:=⟨by omega,by omega,by rw[e0,dZ] at Y;exact Y⟩;have HR:=oH hR;clear hR Y e0;go_wp2
 (first|go_ret|(rw[Exit.noGoto_ret];go_ret))
 exact⟨by rw[bL HR.out];rfl,C⟩
end
theorem Dx (n:Nat):∀(row:List Int),(∀k∈row,0≤k∧k<n)→row.Nodup→row.length≤n:=by
 induction n with
 |zero=>intro row h _;cases row with
        |nil=>simp
        |cons x l=>have:=h x (by simp);omega
 |succ n C=>
  intro row h o;by_cases hm:(n:Int)∈row;·have h1:=C (row.erase n) (fun k j=>by have I:=(List.Nodup.mem_erase_iff o).1 j;have:=h k I.2;have:k≠n:=I.1;omega) (o.erase _);have:=List.length_erase_of_mem hm;omega
  have:=C row (fun k j=>by have h1:=h k j;have:k≠n:=fun e=>hm (e▸j);omega) o;omega
theorem du {row:List Int}{n:Nat}(h:eV n row):row.length≤n:=Dx n row h.1 h.2
theorem yw:(prog.info? 3).map (fun i=>(i.zero,i.size,i.bytes))=some (some (.int .i64 0),1,8):=by kernel_rfl
theorem qhY:(prog.info? 54).map (fun i=>(i.zero,i.size,i.bytes))=some (some (.slice none 0 0),1,24):=by kernel_rfl
def aI (l:List Int):List Value:=l.map fun x=>Value.int .i64 x
theorem jr {S:Nat→Prop}{w:World}{base:Nat}{e:TypeId}{v:Value}{n:Nat}{l:List Int}(h:w.ownsRow base e 1 v n (aI l))(o:n=l.length)(C:l.length*8≤140737488355328)
 (I:∀g,v.ownBlock=some g→S g) (hw:∀x∈l,(Lit.int .i64 x).wf=true):aK S w v l:=by
 subst o;refine Sl.of_own h C I (fun i x j=>⟨.int .i64 x,by simp[aI,j],rfl,hw x (mG j)⟩)
theorem Jq {S:Nat→Prop}{w:World}{v:Value}{l:List Int}(h:aK S w v l):∀x∈l,(Lit.int .i64 x).wf=true:=by obtain⟨a,cap,o,h1,C,_,h⟩:=h;intro x j;obtain⟨i,hi,rfl⟩:=List.getElem_of_mem j;obtain⟨_,_,_,_,_,_,_,hw⟩:=h i _ (lG hi);exact hw
section
def dH (ll:List (List Int))(a b:Nat):Prop:=∃row,ll[a]? =some row∧(b:Int)∈row
inductive aQ (ll:List (List Int)) (a:Nat):Nat→Prop
 |refl:aQ ll a a
 |step {b c:Nat}:aQ ll a b→dH ll b c→aQ ll a c
theorem aQ.trans {ll:List (List Int)}{a b c:Nat}(h:aQ ll a b)(k:aQ ll b c):aQ ll a c:=by
 induction k with
 |refl=>exact h
 |step _ e j=>exact .step j e
theorem aQ.head {ll:List (List Int)}{a b c:Nat}(e:dH ll a b)(k:aQ ll b c):aQ ll a c:=aQ.trans (.step .refl e) k
theorem mq {ll:List (List Int)}{a:Nat}{p:Nat→Bool}(o:p a=true)(C:∀i,p i=true→∀j,dH ll i j→p j=true):∀k,aQ ll a k→p k=true:=by
 intro k h;induction h with
 |refl=>exact o
 |step _ e I=>exact C _ I _ e
open Classical in
noncomputable def ay (ll:List (List Int))(a k:Nat):Bool:=decide (aQ ll a k)
theorem aY {ll:List (List Int)}{a k:Nat}:ay ll a k=true↔aQ ll a k:=by simp[ay]
theorem nT {ll:List (List Int)}{a:Nat}{p:Nat→Bool}{k:Nat}(h:p k=true↔aQ ll a k):p k=ay ll a k:=by rw[Bool.eq_iff_iff,h,aY]
def nX (p:Nat→Bool)(i:Nat):Nat→Bool:=fun k=>if k=i then true else p k
theorem dF (p:Nat→Bool)(i:Nat):nX p i i=true:=by simp[nX]
theorem je (p:Nat→Bool)(i k:Nat)(h:p k=true):nX p i k=true:=by unfold nX;split<;>first|rfl|exact h
theorem fd {p:Nat→Bool}{i k:Nat}(h:k≠i):nX p i k=p k:=by simp[nX,h]
def unv:Nat→(Nat→Bool)→Nat
 |0,_=>0
 |n+1,p=>unv n p+if p n then 0 else 1
theorem ly {p q:Nat→Bool}:∀n,(∀k,k<n→p k=true→q k=true)→unv n q≤unv n p
 |0,_=>cf _
 |n+1,h=>by(
 have h1:=ly n (fun k C=>h k (by omega));have j:=h n (by omega);unfold unv;cases o:p n with
 |true=>rw[j o];simp;exact h1
 |false=>cases q n<;>simp<;>omega)
theorem jj {p:Nat→Bool}{i:Nat}:∀n,i<n→p i=false→unv n (nX p i)<unv n p
 |0,h,_=>by omega
 |n+1,h,j=>by(
 unfold unv;by_cases e:i=n
 ·subst e
  have h1:=ly (p:=p) (q:=nX p i) i (fun k _ h=>je p i k h);rw[dF,j];simp;omega
 have h1:=jj n (by omega) j;rw[fd (fun o=>e o.symm)];omega)
end
theorem Mp:(prog.info? 4).map (fun i=>(i.zero,i.size,i.bytes))=some (some (.bool false),1,1):=by kernel_rfl
theorem iy (n:Nat)(Y:n≤281474976710656)(w:World):(Instr.makeSlice 209 (.int .i64 n) (.int .i64 n)).run prog w=.ok (.slice (some ⟨w.heap.size,0,none⟩) n n) (w.alloc (.cells (az n fun _=>false) 4)):=by
 obtain⟨i4,o,C,I,J⟩:=info_parts Mp;rw[run_make (P:=prog) w 209 4 i4 (.bool false) underlying209 o C .i64 .i64 n n (by omega) (by omega) (by rw[J];omega) (by omega)];have e:madeCells (Value.bool false).cells ((n:Int).toNat*i4.size)=az n fun _=>false:=by(
 rw[I,dP,Nat.mul_one];apply Array.ext_getElem?;intro j;by_cases R:j<n;·rw[bj R];simp[madeCells,R,Value.cells,Nat.mod_one]
 rw[jK (by rw[size_madeCells];omega),jK (by rw[im];omega)])
 rw[e,dP]
noncomputable def en (ll:List (List Int))(f:Nat):List Bool:=(List.range ll.length).map (ay ll f)
theorem iT {S:Nat→Prop}{w:World}{g n:Nat}{t:TypeId}{p q:Nat→Bool}(h:al w g t (az n p))(R:S g)(hn:n≤256)(Y:∀k,k<n→p k=q k):gD S w (.slice (some ⟨g,0,none⟩) n n) ((List.range n).map q):=by
 have e:((List.range n).map q).length=n:=by simp
 have:=Sl.of_blk (bw:=1) (E:=xC) (S:=S) (l:=(List.range n).map q) (cap:=n) h R (by omega) (by unfold maxLen;omega) (by omega) (fun i x I=>by
  simp only[cL,oE] at I;obtain⟨j,o,rfl⟩:=I;have hi:i<n:=by(
 rcases Nat.lt_or_ge i n with h|h;·exact h
 rw[jz (by simp;omega)] at o;cases o)
  have C:j=i:=by
   have J:(List.range n)[i]? =some i:=by simp[hi]
   rw[o] at J;exact kJ J
  subst C;exact⟨.bool (p j),bj hi,by rw[Y j hi];rfl⟩)
 rwa [e] at this
theorem gw {ll:List (List Int)}(h:aP ll){k:Nat}(j:k<ll.length):∀x∈ll[k],0≤x∧x<ll.length:=(h.2.2 _ (eL j)).1
theorem kQ {ll:List (List Int)}{k j:Nat}(o:k<ll.length):dH ll k j↔(j:Int)∈ll[k]:=by
 constructor
 ·rintro⟨row,hr,hm⟩
  rw[lG o] at hr;cases hr;exact hm
 intro h;exact⟨_,lG o,h⟩
theorem tB {ll:List (List Int)}(h:aP ll){a b:Nat}(o:a<ll.length)(hr:aQ ll a b):b<ll.length:=by
 induction hr with
 |refl=>exact o
 |step _ e j=>have:=gw h j _ ((kQ j).1 e);omega
end Go.Proofs.YtgdlhckhpolnnaaGreatDoor
