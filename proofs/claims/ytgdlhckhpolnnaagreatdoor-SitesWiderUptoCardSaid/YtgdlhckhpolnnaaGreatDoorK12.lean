/- Part 13 of the proof (its last part says what is proved). No condition. -/
import Derived.Test.YtgdlhckhpolnnaaGreatDoorK11
namespace Go.Proofs.YtgdlhckhpolnnaaGreatDoor
set_option maxRecDepth 100000
set_option maxHeartbeats 8000000
open Go.RowKit Go.Proofs.Tryz
section
namespace Q
def qem:Value→Option MK
 |.int k n=>some (.i k n)
 |.string b=>some (.s b)
 |_=>none
def qbn (es:List (MK×V))(k:MK):Option V:=(es.find? fun x=>x.1=k).map (·.2)
def qbt:List (MK×V)→MK→V→List (MK×V)
 | [],k,x=>[(k,x)]
 |e::es,k,x=>if e.1=k then(k,x)::es else e::qbt es k x
def ofV:Value→V
 |.agg cs=>.agg (cs.toList.map .s)
 |v=>.s v
theorem qcF {u:Value}{k:MK}(h:qem u=some k):u=k.val:=by cases u<;>simp[qem] at h<;>subst h<;>rfl
theorem qfk {g:Gh}{w:World}(v:Value):VR g w (ofV v) v:=by
 cases v with
 |agg cs=>have:=qdB (g:=g) (w:=w) cs.toList;exact .agg _ _ this.1 this.2
 |_=>exact .s _
theorem qcP (a b:ByteArray):(a==b)=decide (a=b):=by
 rw[Bool.eq_iff_iff];show(a.data==b.data)=true↔_;rw[decide_eq_true_iff];constructor;·intro h;exact ByteArray.ext (by simpa using h)
 rintro rfl;simp
section
variable {g:Gh} {w:World} {d:TypeDesc} {k:MK}
theorem qgD {j:MK}(h1:qbo d k=true)(o:qbo d j=true):Instr.sameNow d k.val j.val=some (decide (j=k)):=by
 cases d<;>cases k<;>cases j<;>first|(simp[qbo] at h1;done)|(simp[qbo] at o;done)|skip
 ·simp only[qbo,qal] at h1 o;subst h1 o;simp only[Instr.sameNow,MK.val,if_true,Option.some.injEq];rw[Bool.eq_iff_iff,cy,decide_eq_true_iff,MK.i.injEq];exact⟨fun h=>⟨rfl,h.symm⟩,fun h=>h.2.symm⟩
 simp only[Instr.sameNow,MK.val,Option.some.injEq];rw[qcP,decide_eq_decide,MK.s.injEq];exact eq_comm
theorem qbP (R:qbo d k=true):∀(es:List (MK×V)) (j:List MapEntry) (n:Nat),es.length=j.length→(∀(i:Nat) x e,es[i]? =some x→j[i]? =some e→x.1.val=e.key∧VR g w x.2 e.val)→(∀x∈es,qbo d x.1=true)→
 (qbn es k=none∧Instr.findNow d k.val j n=some none∧∀x,qbt es k x=es++[(k,x)])∨∃i x e,es[i]? =some (k,x)∧j[i]? =some e∧qbn es k=some x∧Instr.findNow d k.val j n=some (some (n+i,e.val))∧∀y,qbt es k y=es.set i (k,y)
 | [],[],n,_,_,_=>.inl ⟨rfl,rfl,fun _=>rfl⟩
 | [],_::_,_,h,_,_=>by simp at h
 |_::_,[],_,h,_,_=>by simp at h
 |x::es,e::j,n,hl,hr,Y=>by(
 have h0:=hr 0 x e rfl rfl;have C:=qgD R (Y x (List.mem_cons_self ..));rw[h0.1] at C;by_cases o:x.1=k;·refine .inr ⟨0,x.2,e,by simp[←o],rfl,by simp[qbn,o],by simp[Instr.findNow,C,o],fun y=>by simp[qbt,o]⟩
 rcases qbP R es j (n+1) (by simpa using hl) (fun i x e h1 I=>hr (i+1) x e (by simpa using h1) (by simpa using I)) (fun x C=>Y x (List.mem_cons_of_mem _ C)) with ⟨h1,I,J⟩|⟨i,y,e',h1,I,J,h4,h5⟩;·exact .inl ⟨by simpa [qbn,o] using h1,by simp[Instr.findNow,C,o,I],fun y=>by simp[qbt,o,J]⟩
 exact .inr ⟨i+1,y,e',by simpa using h1,by simpa using I,by simpa [qbn,o] using J,by simp[Instr.findNow,C,o,h4];omega,fun y=>by simp[qbt,o,h5]⟩)
theorem qbx {P:Program}{kt:TypeId}{b:Bool}(j:qbo d k=true)(hu:∀w,(underlying kt).run P w=.ok d w)(n:Nat)(w:World):(Instr.checkKey b (n+1) kt k.val).run P w=.ok () w:=by cases d<;>cases k<;>first|(simp[qbo] at j;done)|(simp only[Instr.checkKey,Sem.run_bind,hu,Result.andThen_ok,MK.val];rfl)
theorem qfN (k:MK)(n:Nat):Instr.sameBits n k.val k.val=true:=by cases k<;>cases n<;>simp[Instr.sameBits,MK.val,qcP]
end
section
variable {C:Cx} {T:VT} {H H':List HO} {dst:Option Tmp} {ty:TypeId} {pos:String} {af:Array Edge} {gd:Option (Nat×Bool)} {x y z:Operand} {p q r:V}
theorem qeJ {t kt et:TypeId}{d:TypeDesc}(hu:∀w,(underlying t).run C.P w=.ok (.map kt et) w)(I:∀w,(underlying kt).run C.P w=.ok d w):OpS C ⟨dst,.makeMap t none,ty,pos,af,gd⟩ T H (.mp H.length) (H++[.map d []]):=fun g a w j=>by
 have _:=hu w;have _:=I w;refine⟨.map (some w.heap.size),w.alloc (.map #[] 0),_,.inl ?_,Le.new j.hr,.mp _ _ (by simp[Gh.put]),j.hr.put (kR.alloc _) (cf _) ⟨w.heap.size,#[],0,⟨by simp[Gh.put],(j.hr.nil _ (cf _)).2⟩,?_,⟨⟨rfl,fun i x e h=>by simp at h,fun e h=>by simp at h,List.Pairwise.nil⟩,fun x h=>by cases h⟩,fun o e=>by have:=qaP j.hr e;omega⟩⟩
 ·have:=@run_makeMap C.P t w
  simp[execOp,this]
 show(w.heap.push _)[w.heap.size]? =_;simp
def qcV (H:List HO):V→Option (TypeDesc×List (MK×V))
 |.mp i=>match H[i]? with
  |some (.map d es)=>some (d,es)
  |_=>none
 |.rmap d es=>some (d,es)
 |_=>none
theorem qff {g:Gh}{w:World}{v:Value}{d:TypeDesc}{es:List (MK×V)}(hr:HR g w H)(I:VR g w p v)(o:qcV H p=some (d,es)):∃(b:Nat) (j:Array MapEntry) (clock:Nat),v=.map (some b)∧w.heap[b]? =some (.map j clock)∧es.length=j.toList.length∧(∀(i:Nat) x e,es[i]? =some x→j.toList[i]? =some e→x.1.val=e.key∧VR g w x.2 e.val)∧∀x∈es,qbo d x.1=true:=by
 cases I with
 |mp i b R=>
  simp only[qcV] at o;split at o;·rename_i Y J hi;cases o;obtain⟨b',j,clock,⟨h1,_⟩,h2,⟨⟨m1,m2,m3,m4⟩,m5⟩,_⟩:=hr.objs i _ hi;rw[R] at h1;cases h1;exact⟨b,j,clock,rfl,h2,m1,m2,m5⟩
  cases o
 |rmap Y J b j c R hh h1 hk ho hr=>cases o;exact⟨b,j,c,rfl,hh,h1,fun i x e I he=>⟨hk i x e I he,hr i x e I he⟩,ho⟩
 |_=>cases o
theorem qfH {t kt et:TypeId}{d:TypeDesc}{es:List (MK×V)}{u zv:Value}{k:MK}(hx:ev T x=some p)(hi:qcV H p=some (d,es))(hy:ev T y=some (.s u))(hk:qem u=some k)(Y:qbo d k=true)
 (hu:∀w,(underlying t).run C.P w=.ok (.map kt et) w) (J:∀w,(underlying kt).run C.P w=.ok d w) (hz:∀w,(zeroValue et).run C.P w=.ok zv w):za C ⟨dst,.lookup t x y false,ty,pos,af,gd⟩ T H ((qbn es k).getD (ofV zv)):=fun g a w R=>by
 have hv:=R.ev hx;have e2:=(R.ev hy).of_s;obtain⟨b,o,clock,I,h2,m1,m2,m5⟩:=qff R.hr hv hi;have e3:=qcF hk;subst e3;have hg:(getObj b).run C.P w=.ok (.map o clock) w:=by simp[getObj,Sem.run,h2]
 have hc:=fun bb=>qbx (P:=C.P) (kt:=kt) (b:=bb) Y J 9999 w;rcases qbP Y es o.toList 0 m1 m2 m5 with ⟨f1,f2,_⟩|⟨j,xx,e,f0,f1,f2,f3,_⟩;·exact⟨zv,by simp[execOp,I,e2,Instr.lookup,hu,hg,hc,Instr.findKey,J,f2,hz],by rw[f1];exact qfk zv⟩
 exact⟨e.val,by simp[execOp,I,e2,Instr.lookup,hu,hg,hc,Instr.findKey,J,f3],by rw[f2];exact(m2 j _ e f0 f1).2⟩
theorem qeI {t kt et:TypeId}{d:TypeDesc}{es:List (MK×V)}{u zv:Value}{k:MK}(hx:ev T x=some p)(hi:qcV H p=some (d,es))(hy:ev T y=some (.s u))(hk:qem u=some k)(ho:qbo d k=true)
 (hu:∀w,(underlying t).run C.P w=.ok (.map kt et) w) (R:∀w,(underlying kt).run C.P w=.ok d w) (hz:∀w,(zeroValue et).run C.P w=.ok zv w):za C ⟨dst,.lookup t x y true,ty,pos,af,gd⟩ T H (.tup [(qbn es k).getD (ofV zv),.s (.bool (qbn es k).isSome)]):=fun g a w Y=>by
 have hv:=Y.ev hx;have e2:=(Y.ev hy).of_s;obtain⟨b,o,clock,I,h2,m1,m2,m5⟩:=qff Y.hr hv hi;have e3:=qcF hk;subst e3;have hg:(getObj b).run C.P w=.ok (.map o clock) w:=by simp[getObj,Sem.run,h2]
 have hc:=fun bb=>qbx (P:=C.P) (kt:=kt) (b:=bb) ho R 9999 w;rcases qbP ho es o.toList 0 m1 m2 m5 with ⟨f1,f2,_⟩|⟨j,xx,e,f0,f1,f2,f3,_⟩
 ·have J:=da.cons (g:=g) (w:=w) (qfk zv) (da.cons (.s (.bool false)) da.nil)
  exact⟨.tuple [zv,.bool false].toArray,by simp[execOp,I,e2,Instr.lookup,hu,hg,hc,Instr.findKey,R,f2,hz],by rw[f1];exact .tup _ _ J.1 J.2⟩
 have J:=da.cons (m2 j _ e f0 f1).2 (da.cons (.s (.bool true)) da.nil);exact⟨.tuple [e.val,.bool true].toArray,by simp[execOp,I,e2,Instr.lookup,hu,hg,hc,Instr.findKey,R,f3],by rw[f2];exact .tup _ _ J.1 J.2⟩
theorem qdr {t kt et:TypeId}{d:TypeDesc}{i:Nat}{es:List (MK×V)}{u:Value}{k:MK}(R:ev T x=some (.mp i))(hi:H[i]? =some (.map d es))(hy:ev T y=some (.s u))(hk:qem u=some k)(ho:qbo d k=true)(hq:ev T z=some q)
 (hu:∀w,(underlying t).run C.P w=.ok (.map kt et) w) (hd:∀w,(underlying kt).run C.P w=.ok d w):OpS C ⟨dst,.mapUpdate t x y z,ty,pos,af,gd⟩ T H .any (H.set i (.map d (qbt es k q))):=fun g a w hs=>by
 have hv:=hs.ev R;have e2:=(hs.ev hy).of_s;have hz:=hs.ev hq;generalize a7:Act.eval _ x=v at hv;generalize a8:Act.eval _ z=zv at hz;cases hv with
 |mp _ b hb=>
  obtain⟨b',J,clock,⟨h1,b3⟩,h2,⟨⟨m1,m2,m3,m4⟩,m5⟩,m6⟩:=hs.hr.objs i _ hi;rw[hb] at h1;cases h1;have e3:=qcF hk;subst e3;have hg:(getObj b).run C.P w=.ok (.map J clock) w:=by simp[getObj,Sem.run,h2]
  have hc:=fun bb=>qbx (P:=C.P) (kt:=kt) (b:=bb) ho hd 9999 w;have b0:=(mV.1 h2).1;have a1:∀o:Array MapEntry×Nat,(setObj b (.map o.1 o.2)).run C.P w=.ok () {w with heap:=w.heap.setIfInBounds b (.map o.1 o.2)}:=by intro o;simp[setObj,Sem.run,h2]
  have fin:∀(I:Array MapEntry) (c':Nat),qiE g w (qbt es k q) I.toList c'→(∀x∈qbt es k q,qbo d x.1=true)→(Instr.mapUpdate t (.map (some b)) k.val zv).run C.P w=.ok () {w with heap:=w.heap.setIfInBounds b (.map I c')}→
   ∃v w' g',((execOp a.eval ⟨dst,.mapUpdate t x y z,ty,pos,af,gd⟩).run C.P w=.ok (.value v) w'∨(execOp a.eval ⟨dst,.mapUpdate t x y z,ty,pos,af,gd⟩).run C.P w=.ok .skip w'∧v=undef)∧Le g w g' w'∧VR g' w' .any v∧HR g' w' (H.set i (.map d (qbt es k q))):=by
   intro I c' k1 k2 b1;have a6:g.own i b:=.inl hb;have ho:∀c,c≠b→(w.heap.setIfInBounds b (.map I c'))[c]? =w.heap[c]?:=fun c hc=>Array.getElem?_setIfInBounds_ne (Ne.symm hc);have hle:Le g w g {w with heap:=w.heap.setIfInBounds b (.map I c')}:=Le.turn a6 m6 rfl rfl (by simp) ho;refine⟨undef,{w with heap:=w.heap.setIfInBounds b (.map I c')},g,.inr ⟨?_,rfl⟩,hle,.any _,hs.hr.turn (w':= {w with heap:=w.heap.setIfInBounds b (.map I c')}) a6 m6 rfl rfl (by simp) ho ⟨b,I,c',⟨hb,b3⟩,by simp[b0],⟨⟨k1.1,fun j x e R he=>⟨(k1.2.1 j x e R he).1,(k1.2.1 j x e R he).2.le hle⟩,k1.2.2⟩,k2⟩,m6⟩⟩;simp[execOp,a7,e2,a8,b1]
  rcases qbP ho es J.toList 0 m1 m2 m5 with ⟨f1,f2,f3⟩|⟨j,xx,e,f0,f1,f2,f3,f4⟩;·(
 refine fin (J.push ⟨k.val,zv,clock⟩) (clock+1) ?_ ?_ ?_;·(
 rw[f3];refine⟨by simp[m1],fun j x e R he=>?_,fun e he=>?_,?_⟩
 ·simp only[Array.toList_push] at he;rcases Nat.lt_or_ge j es.length with hj|hj
  ·rw[ma hj] at R
   rw[ma (m1▸hj)] at he;exact m2 j x e R he
  have:j=es.length:=by have:=(lS.1 R).1;simp at this;omega
  subst this;rw[m1,List.getElem?_concat_length] at he;simp at R;cases R;cases he;exact⟨rfl,hz⟩
 ·simp only[Array.toList_push,eD,cx] at he
  rcases he with he|rfl;·have:=m3 e he;omega
  show clock<clock+1;omega
 rw[Array.toList_push,List.pairwise_append];exact⟨m4,List.pairwise_singleton ..,fun a ha b hb=>by rw[cx.1 hb];exact m3 a ha⟩)
 ·rw[f3];intro x R;rcases eD.1 R with R|R;·exact m5 x R
  rw[cx.1 R];exact ho
 have:=a1 (J.push ⟨k.val,zv,clock⟩,clock+1);simp[Instr.mapUpdate,hu,hg,hc,Instr.findKey,hd,f2,this])
  have b4:=(m2 j _ e f0 f1).1;have b2:J[j]? =some e:=by simpa using f1
  refine fin (J.modify j fun e=> {e with key:=k.val,val:=zv}) clock ?_ ?_ ?_;·(
 rw[f4];have Y:∀(m:Nat) (e':MapEntry),(J.modify j fun e=> {e with key:=k.val,val:=zv}).toList[m]? =some e'→∃e0,J.toList[m]? =some e0∧e'.born=e0.born∧(m=j→e'.key=k.val∧e'.val=zv)∧(m≠j→e'=e0):=by(
 intro m e' he;rw[Array.getElem?_toList,Array.getElem?_modify] at he;by_cases hm:j=m
 ·subst hm
  rw[ap rfl,b2] at he;cases he;exact⟨e,f1,rfl,fun _=>⟨rfl,rfl⟩,fun h=>absurd rfl h⟩
 rw[ae hm] at he;exact⟨e',by simpa using he,rfl,fun h=>absurd h.symm hm,fun _=>rfl⟩)
 refine⟨by simp[m1],fun m x e' R he=>?_,fun e' he=>?_,?_⟩;·(
 obtain⟨e0,g1,g2,g3,g4⟩:=Y m e' he;rw[List.getElem?_set] at R;by_cases hm:j=m
 ·subst hm;rw[ap rfl] at R;split at R
  ·cases R
   obtain⟨g5,g6⟩:=g3 rfl;exact⟨g5.symm,by rw[g6];exact hz⟩
  cases R
 rw[ae hm] at R;rw[g4 (Ne.symm hm)];exact m2 m x e0 R g1)
 ·obtain⟨m,hm⟩:=cY.1 he
  obtain⟨e0,g1,g2,_⟩:=Y m e' hm;rw[g2];exact m3 e0 (mG g1)
 rw[List.pairwise_iff_getElem] at m4⊢;intro a b ha hb b5;obtain⟨ea,g1,g2,_⟩:=Y a _ (lG ha);obtain⟨eb,g3,g4,_⟩:=Y b _ (lG hb);obtain⟨ka,rfl⟩:=lS.1 g1;obtain⟨kb,rfl⟩:=lS.1 g3;rw[g2,g4];exact m4 a b ka kb b5)
  ·rw[f4];intro x R;rcases List.mem_or_eq_of_mem_set R with R|rfl;·exact m5 x R
   exact ho
  have:=a1 (J.modify j fun e=> {e with key:=k.val,val:=zv},clock);simp[Instr.mapUpdate,hu,hg,hc,Instr.findKey,hd,f3,b2,←b4,Instr.keyThatStays,qfN,this]
end
end Q
end
section
namespace Q
section
variable {P:Program} {f:FuncId} {xs:List V} {H:List HO}
end
def qdz:V→Option (FuncId×List V)
 |.fn (.func f) cs=>some (f,cs)
 |.s (.func (.func f) first cs)=>if first.size=0∧cs.size=0 then some (f,[]) else none
 |_=>none
section
variable {C:Cx} {Q:VQ} {T:VT} {H H':List HO} {ops:Array Oper} {l:List Oper} {t:Nat} {ty:TypeId} {pos:String} {af:Array Edge} {gd:Option (Nat×Bool)} {x y z:Operand} {p q r:V}
theorem qfc {g:Gh}{w:World}{u:Value}{f:FuncId}{cs:List V}(h:VR g w p u)(j:qdz p=some (f,cs)):∃us,da g w cs us∧u=.func (.func f) #[] us.toArray:=by
 cases h with
 |fn o I us hl h=>cases o<;>simp[qdz] at j;obtain⟨rfl,rfl⟩:=j;exact⟨us,⟨hl,h⟩,rfl⟩
 |s=>cases u<;>simp only[qdz,reduceCtorEq] at j;rename_i fn a b;cases fn<;>simp at j;obtain⟨⟨h1,J⟩,rfl,rfl⟩:=j;subst h1 J;exact⟨[],da.nil,rfl⟩
 |_=>cases j
end
end Q
end
section
namespace Q
def qcB (j:List Tmp)(T:VT):VT:=j.filterMap fun t=>(Oo T t).map fun x=>(t,x)
def OpD (C:Cx)(o:Oper)(T:VT)(H:List HO)(x:V):Prop:=∀g a w,SR C g w a T H→
 (∃v w',(execOp a.eval o).run C.P w=.ok (.value v) w'∧aa All w w'∧VR (g.frz w.heap.size w') w' x v)∨
 ∃f args,(execOp a.eval o).run C.P w=.ok (.enter f args) w∧Calls C.P f args w fun e w'=>∃v,e=.returned v∧aa All w w'∧VR (g.frz w.heap.size w') w' x v
inductive Kd|fr|al (ty:TypeId) (zs:List Value)
abbrev KT:=List (Tmp×Kd)
def qaD:KT→Tmp→Option Kd
 | [],_=>none
 |(u,k)::K,t=>if u=t then some k else qaD K t
def qdX:Option Kd→Bool
 |some (.al _ _)=>true
 |_=>false
def qbQ (K:KT)(T:VT):VT:=K.map (fun x=>(x.1,.any))++T
def fin (K:KT)(T:VT)(H:List HO):VT×List HO:=match K.filter fun x=>qdX (some x.2) with
 | [(t,.al ty zs)]=>((t,.ptr H.length 0)::qbQ K T,H++[.cells ty (zs.map .s)])
 |al=>(qbQ al T,H)
def opl (o:Oper):List Tmp:=o.op.operands.toList.filterMap fun|.tmp t=>some t|_=>none
def VXm (C:Cx)(H:List HO)(o:Oper)(T:VT)(K:KT)(p:V)(t:Nat)(j:KT):Prop:=
 (j=K∧((opl o).all fun u=>(qaD K u).isNone)=true∧za C o (qcB (opl o) T) H p)∨
 (j=(t,.fr)::K∧((opl o).all fun u=>!qdX (qaD K u))=true∧OpD C o (qcB (opl o) T) H p)∨
 ∃ty zs,j=(t,.al ty zs)::K∧p=.any∧∀(a:Act) (w:World),(execOp a.eval o).run C.P w=.ok (.value (.pointer (some ⟨w.heap.size,0,none⟩))) (w.alloc (.cells (List.toArray zs) ty))
def VXo (C:Cx)(H:List HO)(ops:Array Oper)(o:Oper)(T:VT)(K:KT)(p:V)(t:Tmp)(I:KT):Prop:=o.dst=some t∧t<C.n∧
 ((o.guard=none∧VXm C H o T K p t I)∨∃j want gv u,o.guard=some (j,want)∧(ops[j]?).bind (·.dst)=some u∧Oo T u=some (.s gv)∧(gv=.bool want→VXm C H o T K p t I)∧(gv≠.bool want→p=.s undef∧I=K))
def VX (C:Cx)(H:List HO)(ops:Array Oper)(R:VT→List HO→Prop):List Oper→VT→KT→Prop
 | [],T,K=>∃j,(∀t,Oo j t=Oo T t)∧R (fin K j H).1 (fin K j H).2
 |o::l,T,K=>∃p t I,VXo C H ops o T K p t I∧VX C H ops R l ((t,p)::T) I
def qat (l:List Oper):List Tmp:=l.filterMap (·.dst)
def qcR (ops:Array Oper)(l:List Oper):Bool:=decide (qat l).Nodup&&(List.range l.length).all fun i=>match l[i]? with
 |some o=>(o.looksAt ops).all fun t=>!(qat l).contains t||(qat (l.take i)).contains t
 |none=>true
def VXc (C:Cx)(H:List HO)(ops:Array Oper):List Oper→List V→VT→KT→VT→KT→Prop
 | [],[],T,K,j,I=>T=j∧K=I
 |o::l,p::ps,T,K,j,I=>∃t J,VXo C H ops o T K p t J∧VXc C H ops l ps ((t,p)::T) J j I
 |_,_,_,_,_,_=>False
def exV (p:V)(v:Value):Prop:=match p with
 |.s u=>v=u
 |_=>True
section
variable {C:Cx} {H:List HO} {ops:Array Oper}
theorem qiR {R:VT→List HO→Prop}:∀ {l:List Oper} {T:VT} {K:KT},VX C H ops R l T K→∃ps I j,VXc C H ops l ps T K I j∧∃J,(∀t,Oo J t=Oo I t)∧R (fin j J H).1 (fin j J H).2
 | [],T,K,h=>⟨[],T,K,⟨rfl,rfl⟩,h⟩
 |o::l,T,K,⟨p,t,Y,h1,h2⟩=>by obtain⟨ps,I,j,h3,h4⟩:=qiR h2;exact⟨p::ps,I,j,⟨t,Y,h1,h3⟩,h4⟩
theorem qht {T j:VT}(h:∀t,Oo T t=Oo j t)(o:List Tmp):qcB o T=qcB o j:=by unfold qcB;congr 1;funext t;rw[h t]
theorem qgO {R:VT→List HO→Prop}:∀ {l:List Oper} {T J:VT} {K:KT},(∀t,Oo T t=Oo J t)→VX C H ops R l T K→VX C H ops R l J K
 | [],_,_,_,h,⟨T1,h1,Y⟩=>⟨T1,fun t=>(h1 t).trans (h t),Y⟩
 |o::l,T,J,K,h,⟨p,t,K1,⟨h1,Y,I⟩,h4⟩=>by(
 refine⟨p,t,K1,⟨h1,Y,?_⟩,qgO (fun u=>by simp only[Oo];rw[h u]) h4⟩;unfold VXm at I⊢;rw[←qht h];rcases I with I|⟨j,want,b,u,k1,k2,k3,k4⟩;·exact .inl I
 exact .inr ⟨j,want,b,u,k1,k2,by rw[←h u];exact k3,k4⟩)
theorem qiS {R o:VT→List HO→Prop}(I:∀T H,R T H→o T H):∀ {l:List Oper} {T:VT} {K:KT},VX C H ops R l T K→VX C H ops o l T K
 | [],_,_,⟨J,h1,j⟩=>⟨J,h1,I _ _ j⟩
 |_::_,_,_,⟨p,t,Y,h1,j⟩=>⟨p,t,Y,h1,qiS I j⟩
theorem qbR {o:Oper}{T:VT}{K I:KT}{p:V}{t:Tmp}(h:VXo C H ops o T K p t I):∀u,u≠t→qaD I u=qaD K u:=by
 intro u hu;have key:VXm C H o T K p t I→qaD I u=qaD K u:=by
  rintro(⟨rfl,_⟩|⟨rfl,_⟩|⟨ty,zs,rfl,_⟩);·rfl
  ·simp[qaD,Ne.symm hu]
  simp[qaD,Ne.symm hu]
 rcases h.2.2 with ⟨_,h⟩|⟨j,want,gv,v,_,_,_,h1,J⟩;·exact key h
 by_cases e:gv=.bool want;·exact key (h1 e)
 rw[(J e).2]
theorem qbX:∀ {l:List Oper} {ps:List V} {T I:VT} {K J:KT},VXc C H ops l ps T K I J→∀t,t∉qat l→Oo I t=Oo T t∧qaD J t=qaD K t
 | [],[],_,_,_,_,⟨rfl,rfl⟩,_,_=>⟨rfl,rfl⟩
 |o::l,p::ps,T,I,K,J,⟨t,K1,h1,R⟩,u,hu=>by(
 have e:qat (o::l)=t::qat l:=by simp[qat,h1.1]
 rw[e] at hu;have j:t≠u:=fun e=>hu (e▸List.mem_cons_self ..);obtain⟨Y,k2⟩:=qbX R u fun h=>hu (List.mem_cons_of_mem _ h);exact⟨by rw[Y,Oo,ae j],by rw[k2,qbR h1 u (Ne.symm j)]⟩)
theorem qgP:∀ {l:List Oper} {ps:List V} {T j:VT} {K I:KT},VXc C H ops l ps T K j I→∀t∈qat l,t<C.n
 | [],[],_,_,_,_,_,t,J=>by cases J
 |o::l,p::ps,T,j,K,I,⟨t,Y,h1,R⟩,u,hu=>by(
 have e:qat (o::l)=t::qat l:=by simp[qat,h1.1]
 rw[e] at hu;rcases fX.1 hu with rfl|hu;·exact h1.2.1
 exact qgP R u hu)
theorem qgk {j:List Tmp}{T:VT}:∀ {t:Nat} {x:V},Oo (qcB j T) t=some x→t∈j∧Oo T t=some x:=by
 induction j with
 |nil=>intro t x h;cases h
 |cons u j o=>
  intro t x h;unfold qcB at h;rw[List.filterMap_cons] at h;cases hu:Oo T u with
  |none=>rw[hu] at h;exact⟨List.mem_cons_of_mem _ (o h).1,(o h).2⟩
  |some y=>
   rw[hu] at h;simp only[Option.map_some,Oo] at h;split at h;·rename_i e;subst e;cases h;exact⟨List.mem_cons_self ..,hu⟩
   exact⟨List.mem_cons_of_mem _ (o h).1,(o h).2⟩
theorem qdU {g:Gh}{J w w':World}(hr:HR g J H)(Y:aa All J w)(h:aa All w w'):Le0 (g.frz J.heap.size w) w (g.frz J.heap.size w') w':=by
 have I:∀b o,b<w.heap.size→w'.cell? ⟨b,o,none⟩=w.cell? ⟨b,o,none⟩:=fun b o j=>World.cell?_of_block (h.block b j trivial);have R:∀ {b o},(g.frz J.heap.size w).fz b o→b<w.heap.size:=by
  rintro b o (j|⟨_,j⟩);·have:=qaP hr j;have:=Y.size;omega
  exact j
 refine⟨fun b o j=>?_,fun _ _ h=>h,fun _ u n h=>⟨u,n,h,.inr ⟨rfl,rfl⟩⟩,fun b j=>h.block b (R (j 0)) trivial⟩;exact⟨j.imp id fun j=>⟨j.1,by have:=h.size;omega⟩,I b o (R j)⟩
theorem Le0.frz' {g:Gh}{w:World}{n:Nat}:Le0 g w (g.frz n w) w:=⟨fun _ _ h=>⟨.inl h,rfl⟩,fun _ _ h=>h,fun _ u n h=>⟨u,n,h,.inr ⟨rfl,rfl⟩⟩,fun _ _=>rfl⟩
theorem Le0.old {g:Gh}{J w w':World}(hr:HR g J H)(R:aa All J w)(h:aa All w w'):Le0 g w g w':=by
 have I:∀ {b o},g.fz b o→b<w.heap.size:=fun j=>by have:=qaP hr j;have:=R.size;omega
 exact⟨fun b o j=>⟨j,World.cell?_of_block (h.block b (I j) trivial)⟩,fun _ _ h=>h,fun _ u n h=>⟨u,n,h,.inr ⟨rfl,rfl⟩⟩,fun b j=>h.block b (I (j 0)) trivial⟩
def FX (g:Gh)(w:World)(j:VT)(o:KT)(t:Tmp)(v:Value)(w':World):Prop:=match qaD o t with
 |none=>VR g w' ((Oo j t).getD .any) v
 |some .fr=>VR (g.frz w.heap.size w') w' ((Oo j t).getD .any) v
 |some (.al ty zs)=>∃b,v=.pointer (some ⟨b,0,none⟩)∧w.heap.size≤b∧al w' b ty (List.toArray zs)
theorem FX.keep {g:Gh}{w o I:World}{J:VT}{R:KT}{t:Tmp}{v:Value}(hr:HR g w H)(Y:aa All w o)(h:aa All o I)(j:FX g w J R t v o):FX g w J R t v I:=by
 unfold FX at j⊢;split at j;·exact j.le0 (Le0.old hr Y h)
 ·exact j.le0 (qdU hr Y h)
 obtain⟨b,h1,h2,h3⟩:=j;exact⟨b,h1,h2,h3.kept h trivial⟩
theorem qgW {g:Gh}{a:Act}{w:World}{T T':VT}{K':KT}{l0:List Oper}{b2:List V}{R:Act→Prop}(hs:SR C g w a T H)(hD:qcR ops l0=true)(c5:∀t∈qat l0,t<C.n)
 (hK:∀a',a'.tmps.size=C.n→a'.defers=C.D→(∀t,t∉qat l0→Oo T' t=Oo T t∧qaD K' t=none∧a'.tmps[t]? =a.tmps[t]?)→R a'):
 ∀(l:List Oper) (ps:List V) (k:Nat) (Tk:VT) (Kk:KT) (ak:Act),l0.drop k=l→b2.drop k=ps→VXc C H ops l ps Tk Kk T' K'→ak.tmps.size=C.n→ak.defers=C.D→(∀t,t∉qat l0→Oo Tk t=Oo T t∧qaD Kk t=none∧ak.tmps[t]? =a.tmps[t]?)→(∀t∈qat l,qaD Kk t=none)→(∀t u,Oo Tk t=some (.s u)→ak.tmps[t]? =some u)→
  oC C.P ops (aa All w) (qat l0) (FX g w T' K') (fun k=>(b2[k]?).map exV) (fun _=>false) (fun _ _=>False) R l k false ak
 | [],[],k,Tk,Kk,ak,hl,hp,hc,h1,h2,h3,_,_=>aG (hK ak h1 h2 fun t ht=>by obtain⟨rfl,rfl⟩:=hc;exact h3 t ht)
 |o::l,p::ps,k,Tk,Kk,ak,hl,hp,⟨t,K1,ho,hc⟩,h1,h2,h3,h5,h4=>by(
 have b6:(qat l0).Nodup:=by simp only[qcR,gE,qal] at hD;exact hD.1
 have c6:l0[k]? =some o:=by have:=congrArg (·[0]?) hl;simpa using this
 have b9:b2[k]? =some p:=by have:=congrArg (·[0]?) hp;simpa using this
 have b3:qat l0=qat (l0.take k)++t::qat l:=by
  conv=>lhs;rw[←List.take_append_drop k l0,hl]
  simp[qat,List.filterMap_append,ho.1]
 have e4:t∈qat l0:=by rw[b3];simp
 have c7:qat (o::l)=t::qat l:=by simp[qat,ho.1]
 have c8:qaD Kk t=none:=h5 t (by rw[c7];exact List.mem_cons_self ..);have c0:t∉qat l:=by rw[b3,List.nodup_append] at b6;exact(List.nodup_cons.1 b6.2.1).1
 have c1:Oo T' t=some p:=by rw[(qbX hc t c0).1];simp[Oo]
 have b7:qaD K' t=qaD K1 t:=(qbX hc t c0).2;have a8:∀u∈o.looksAt ops,u∈qat l0→Oo T' u=Oo Tk u∧qaD K' u=qaD Kk u:=by(
 intro u hu hM;simp only[qcR,gE,List.all_eq_true,fg] at hD;have:=hD.2 k (lS.1 c6).1;rw[c6] at this;have:=List.all_eq_true.1 this u hu;simp only[Bool.or_eq_true,Bool.not_eq_true',List.contains_eq_mem,decide_eq_false_iff_not,qal,hM,not_true_eq_false,false_or] at this;have c9:u∉t::qat l:=by rw[b3,List.nodup_append] at b6;intro h;exact b6.2.2 u this u h rfl
 have b0:t≠u:=fun e=>c9 (e▸List.mem_cons_self ..);obtain⟨k1,k2⟩:=qbX hc u fun h=>c9 (List.mem_cons_of_mem _ h);exact⟨by rw[k1,Oo,ae b0],by rw[k2,qbR ho u (Ne.symm b0)]⟩)
 have d7:∀(G:World→Gh) I,aa All w I→Le g w (G I) I→HR (G I) I H→(∀u v,u∈opl o→u∈qat l0→FX g w T' K' u v I→VR (G I) I ((Oo T' u).getD .any) v)→ij ops (qat l0) (FX g w T' K') o ak I→SR C (G I) I ak (qcB (opl o) Tk) H:=by(
 intro G I Y hle e5 hf J;refine⟨hs.le.trans hle,fun u x hx=>?_,e5,h2,h1,hs.nil⟩;obtain⟨k0,k2⟩:=qgk hx;have k1:u∈o.looksAt ops:=List.mem_append_left _ k0;by_cases hM:u∈qat l0
 ·have d8:u<ak.tmps.size:=by rw[h1];exact c5 u hM
  refine⟨ak.tmps[u],Array.getElem?_eq_getElem d8,?_⟩;have:=hf u _ k0 hM (J u k1 hM _ (Array.getElem?_eq_getElem d8));rw[(a8 u k1 hM).1,k2] at this;exact this
 obtain⟨e1,_,e2⟩:=h3 u hM;rw[e1] at k2;obtain⟨v,k3,k4⟩:=hs.tmps u x k2;exact⟨v,e2.trans k3,k4.le hle⟩)
 have a7:∀v,exV p v→oC C.P ops (aa All w) (qat l0) (FX g w T' K') (fun k=>(b2[k]?).map exV) (fun _=>false) (fun _ _=>False) R l (k+1) false (ak.put o.dst v):=by(
 intro v hv;refine qgW hs hD c5 hK l ps (k+1) ((t,p)::Tk) K1 _ (by rw[←List.drop_drop,hl];rfl) (by rw[←List.drop_drop,hp];rfl) hc ?_ (by rw[tA];exact h2) (fun u hu=>?_) (fun u hu=>by rw[qbR ho u fun e=>c0 (e▸hu)];exact h5 u (by rw[c7];exact List.mem_cons_of_mem _ hu)) fun u x hx=>?_;·rw[ho.1];simpa [Act.put] using h1
 ·have b0:t≠u:=fun e=>hu (e▸e4)
  obtain⟨e1,e0,e2⟩:=h3 u hu;exact⟨by rw[Oo,ae b0,e1],by rw[qbR ho u (Ne.symm b0),e0],by rw[ho.1];simp[Act.put,Array.getElem?_setIfInBounds_ne b0,e2]⟩
 rw[ho.1];simp only[Oo] at hx;by_cases e:t=u;·subst e;rw[ap rfl] at hx;cases hx;have e:v=x:=hv;subst e;simp[Act.put,h1,ho.2.1]
 rw[ae e] at hx;simp[Act.put,Array.getElem?_setIfInBounds_ne e,h4 u x hx])
 have a1:∀I w2 v,aa All w I→aa All I w2→FX g w T' K' t v w2→om (aa All w) (qat l0) (FX g w T' K') o I w2 v:=by intro I w2 v k1 k2 hv;refine⟨k1.trans k2,fun u _ x hx=>hx.keep hs.hr k1 k2,fun d hd hT=>?_⟩;rw[ho.1] at hd;cases hd;exact hv
 have hex:∀ {g':Gh} {w':World} {v:Value},VR g' w' p v→exV p v:=by intro g' w' v hv;cases hv<;>trivial
 have main:Region.wanted o (yielded ops ak.tmps)=true→VXm C H o Tk Kk p t K1→oC C.P ops (aa All w) (qat l0) (FX g w T' K') (fun k=>(b2[k]?).map exV) (fun _=>false) (fun _ _=>False) R (o::l) k false ak:=by(
 intro hw a6;rcases a6 with ⟨e,c4,a6⟩|⟨e,c4,a6⟩|⟨ty,zs,e,b4,a6⟩;·(
 have b1:∀v I,VR g I p v→FX g w T' K' t v I:=fun v I h=>by unfold FX;rw[b7,e,c8,c1];exact h
 have b5:∀I,aa All w I→ij ops (qat l0) (FX g w T' K') o ak I→SR C g I ak (qcB (opl o) Tk) H:=fun I Y J=>d7 (fun _=>g) I Y (Le.kept0 hs.hr Y) (hs.hr.kept0 Y) (fun u v hu hM hf=>by
  have ha:=List.all_eq_true.1 c4 u hu;unfold FX at hf;rw[(a8 u (List.mem_append_left _ hu) hM).2] at hf;split at hf;·exact hf
  ·rename_i h;rw[h] at ha;cases ha
  rename_i h;rw[h] at ha;cases ha) J
 refine Ey (V:=exV p) hw (by rw[b9];rfl) rfl (fun I Y J=>?_) (fun I Y J=>?_) a7
 ·obtain⟨v,e1,e3⟩:=a6 _ ak I (b5 I Y J)
  rw[e1];exact⟨rfl,hex e3,a1 I I v Y kR (b1 v I e3)⟩
 obtain⟨v,e1,e3⟩:=a6 _ ak I (b5 I Y J);exact⟨v,I,hex e3,a1 I I v Y kR (b1 v I e3)⟩)
 ·(
 have b1:∀v I,VR (g.frz w.heap.size I) I p v→FX g w T' K' t v I:=fun v I h=>by unfold FX;rw[b7,e,qaD,ap rfl,c1];exact h
 have b5:∀I,aa All w I→ij ops (qat l0) (FX g w T' K') o ak I→SR C (g.frz w.heap.size I) I ak (qcB (opl o) Tk) H:=fun I Y J=>d7 (fun I=>g.frz w.heap.size I) I Y (Le.frz hs.hr Y) (HR.frz hs.hr Y) (fun u v hu hM hf=>by
  have ha:=List.all_eq_true.1 c4 u hu;unfold FX at hf;rw[(a8 u (List.mem_append_left _ hu) hM).2] at hf;split at hf;·exact hf.le0 Le0.frz'
  ·exact hf
  rename_i h;rw[h] at ha;cases ha) J
 have b8:∀ {I w2:World} {v:Value},aa All w I→aa All I w2→VR ((g.frz w.heap.size I).frz I.heap.size w2) w2 p v→FX g w T' K' t v w2:=by(
 intro I w2 v k1 k2 hv;refine b1 v w2 (VR.le0 (g:=(g.frz w.heap.size I).frz I.heap.size w2) (w:=w2) (w':=w2) ⟨fun b o' hb=>⟨?_,rfl⟩,fun _ _ h=>h,fun _ u n h=>⟨u,n,h,.inr ⟨rfl,rfl⟩⟩,fun _ _=>rfl⟩ hv);rcases hb with hb|⟨hb,hc⟩;·exact((qdU hs.hr k1 k2).fz b o' hb).1
 exact .inr ⟨by have:=k1.size;omega,hc⟩)
 refine Ey (V:=exV p) hw (by rw[b9];rfl) rfl (fun I Y J=>?_) (fun I Y J=>?_) a7
 ·rcases a6 _ ak I (b5 I Y J) with ⟨v,w2,e1,e2,e3⟩|⟨f,args,e1,e2⟩;·rw[e1];exact⟨rfl,hex e3,a1 I w2 v Y e2 (b8 Y e2 e3)⟩
  rw[e1];refine e2.mono ?_;rintro e w2 ⟨v,rfl,e2,e3⟩;exact .inl ⟨rfl,v,rfl,hex e3,a1 I w2 v Y e2 (b8 Y e2 e3)⟩
 rcases a6 _ ak I (b5 I Y J) with ⟨v,w2,e1,e2,e3⟩|⟨f,args,e1,e2⟩;·exact⟨v,w2,hex e3,a1 I w2 v Y e2 (b8 Y e2 e3)⟩
 obtain⟨e,w2,_,⟨v,rfl,e2,e3⟩,_⟩:=e2 [];exact⟨v,w2,hex e3,a1 I w2 v Y e2 (b8 Y e2 e3)⟩)
 have b1:∀I,aa All w I→FX g w T' K' t (.pointer (some ⟨I.heap.size,0,none⟩)) (I.alloc (.cells (List.toArray zs) ty)):=fun I Y=>by unfold FX;rw[b7,e,qaD,ap rfl];exact⟨I.heap.size,rfl,Y.size,al.new _ _ _⟩
 have d9:∀I,aa All w I→om (aa All w) (qat l0) (FX g w T' K') o I (I.alloc (.cells (List.toArray zs) ty)) (.pointer (some ⟨I.heap.size,0,none⟩)):=fun I Y=>a1 I _ _ Y (kR.alloc _) (b1 I Y);refine Ey (V:=exV p) hw (by rw[b9];rfl) rfl (fun I Y J=>?_) (fun I Y J=>⟨_,_,by rw[b4];trivial,d9 I Y⟩) a7;rw[a6 ak I];exact⟨rfl,by rw[b4];trivial,d9 I Y⟩)
 rcases ho.2.2 with ⟨hg,a6⟩|⟨j,want,b,u,hg,hj,hu,hy,hn⟩;·exact main (qaK hg) a6
 obtain⟨dst,op,ty,pos,after,gd⟩:=o;have hg:gd=some (j,want):=hg;subst hg;have hw:=qcG (dst:=dst) (op:=op) (ty:=ty) (pos:=pos) (after:=after) (want:=want) hj (h4 u _ hu);by_cases e:b=.bool want;·exact main (hw.2 e) (hy e)
 obtain⟨b4,e6⟩:=hn e;refine⟨_,.inr (.inr ⟨by rw[←Bool.not_eq_true];exact fun h=>e (hw.1 h),rfl,rfl,fun I Y _ d hd hT=>?_⟩),fun v hv=>?_⟩
 ·rw[ho.1] at hd;cases hd
  unfold FX;rw[b7,e6,c8,c1,b4];exact .s _
 subst hv;exact a7 undef (by rw[b4];rfl))
end
section
variable {C:Cx} {Q:VQ} {T:VT} {H:List HO} {ops:Array Oper} {o:Oper} {l:List Oper} {p:V}
theorem za.d (h:za C o T H p):OpD C o T H p:=fun g a w j=>by obtain⟨v,h1,I⟩:=h g a w j;exact .inl ⟨v,w,h1,kR,I.le0 ⟨fun _ _ h=>⟨.inl h,rfl⟩,fun _ _ h=>h,fun _ u n h=>⟨u,n,h,.inr ⟨rfl,rfl⟩⟩,fun _ _=>rfl⟩⟩
theorem qiP {t:Nat}(h:OpD C o T H p)(k:VL C ops Q l ((t,p)::T) H)(Y:o.guard=none)(hd:o.dst=some t)(R:t<C.n):VL C ops Q (o::l) T H:=fun g a w j=>by
 simp only[wpList,qaK Y,if_true];left;unfold Oper.wp;rcases h g a w j with ⟨v,w',hr,I,J⟩|⟨f,args,hr,hc⟩<;>rw[hr]<;>simp only[Oper.upon,hd];·exact k _ _ _ (j.put (Le.frz j.hr I) (HR.frz j.hr I) J R)
 refine hc.mono ?_;rintro e w' ⟨v,rfl,I,J⟩;exact k _ _ _ (j.put (Le.frz j.hr I) (HR.frz j.hr I) J R)
def VFw (w:World)(P:Program)(f:FuncId)(xs:List V)(Q:V→Prop):Prop:=∀g vs,HR g w []→da g w xs vs→Calls P f vs.toArray w fun e w'=>∃v x j H',e=.returned v∧(Q x∧H'=[])∧VR j w' x v∧Le g w j w'∧HR j w' H'
theorem VF.at {P:Program}{f:FuncId}{xs:List V}{R:V→Prop}(h:VF P f xs R)(w:World):VFw w P f xs R:=fun g vs=>h g w vs
theorem VFw.pure {P:Program}{f:FuncId}{xs:List V}{R:V→Prop}{w:World}(h:VFw w P f xs R)(hl:∀x∈xs,Lt 0 x){g:Gh}{vs:List Value}(Y:HR g w H)(hv:da g w xs vs):Calls P f vs.toArray w fun e w'=>∃v x,e=.returned v∧R x∧aa All w w'∧VR (g.frz w.heap.size w') w' x v:=by
 have h0:HR (g.cut 0) w []:=⟨fun i o h=>by simp at h,fun i _=>by simp[Gh.cut],fun i j b hi=>by rcases hi with hi|⟨v,n,hi,_⟩<;>simp[Gh.cut] at hi,Y.lt⟩;refine(h (g.cut 0) vs h0 (hv.cut hl)).mono ?_;rintro e w' ⟨v,x,g',H',rfl,⟨hq,rfl⟩,hx,hle,hr⟩;have I:∀i b,¬(g.cut 0).own i b:=fun i b hi=>by rcases hi with hi|⟨v,n,hi,_⟩<;>simp[Gh.cut] at hi
 refine⟨v,x,rfl,hq,⟨hle.os,hle.output,hle.size,fun b J _=>hle.kept b J fun i=>I i b⟩,VR.le0 (g:=g') (w:=w') (w':=w') ⟨fun b o J=>⟨?_,rfl⟩,fun i b hi=>?_,fun i u n hi=>?_,fun _ _=>rfl⟩ hx⟩
 ·rcases hle.fzn b o J with h|h|⟨i,h⟩
  ·exact .inl h
  ·exact .inr ⟨h,hr.lt b o J⟩
  exact absurd h (I i b)
 ·rw[(hr.nil i (Nat.zero_le _)).1] at hi;cases hi
 rw[(hr.nil i (Nat.zero_le _)).2] at hi;cases hi
theorem qec {dst:Option Tmp}{ty:TypeId}{pos:String}{R:Array Edge}{gd:Option (Nat×Bool)}{c:Operand}{q:V}{f:FuncId}{cs I:List V}{args:Array Operand}{J:Array TypeId}(Y:ev T c=some q)(hp:qdz q=some (f,cs))(ha:args.toList.mapM (ev T)=some I)(hf:∀zs w,(callFunc f zs).run C.P w=.ok (.enter f zs) w)(hg:∀g w,Le C.g C.w g w→VFw w C.P f (I++cs) (·=p))(hl:∀x∈I++cs,Lt 0 x):OpD C ⟨dst,.call {callee:=.value c,args:=args,argTypes:=J},ty,pos,R,gd⟩ T H p:=fun g a w j=>by
 right;obtain⟨us,h1,h2⟩:=qfc (j.ev Y) hp;have h3:=qbk j _ _ ha;refine⟨f,((args.toList.map a.eval)++us).toArray,?_,((hg g w j.le).pure hl j.hr (h3.append h1)).mono ?_⟩
 ·simp only[execOp,resolve,h2,Deferred.ofValue,Sem.run_bind,Sem.run_pure,Result.andThen_ok,invoke,hf]
  simp
 rintro e w' ⟨v,x,rfl,rfl,hk,hv⟩;exact⟨v,rfl,hk,hv⟩
theorem qhi {dst:Option Tmp}{ty:TypeId}{pos:String}{J:Array Edge}{gd:Option (Nat×Bool)}{c:Operand}{q:V}{f:FuncId}{cs j:List V}{args:Array Operand}{I:Array TypeId}(R:ev T c=some q)(Y:qdz q=some (f,cs))(ha:args.toList.mapM (ev T)=some j)(hf:∀zs w,(callFunc f zs).run C.P w=.ok (.enter f zs) w)(hg:VF C.P f (j++cs) (·=p))(hl:∀x∈j++cs,Lt 0 x):OpD C ⟨dst,.call {callee:=.value c,args:=args,argTypes:=I},ty,pos,J,gd⟩ T H p:=qec R Y ha hf (fun _ w _=>hg.at w) hl
end
theorem qcS {K:KT}{T:VT}{t:Tmp}(h:qaD K t=none):Oo (qbQ K T) t=Oo T t:=by
 induction K with
 |nil=>rfl
 |cons x K j=>
  obtain⟨u,k⟩:=x;simp only[qaD] at h;split at h;·cases h
  rename_i e;show Oo ((u,.any)::qbQ K T) t=_;rw[Oo,ae e];exact j h
theorem qcT {K:KT}{T:VT}{t:Tmp}(h:qaD K t≠none):Oo (qbQ K T) t=some .any:=by
 induction K with
 |nil=>exact absurd rfl h
 |cons x K j=>
  obtain⟨u,k⟩:=x;show Oo ((u,.any)::qbQ K T) t=_;rw[Oo];split;·rfl
  rename_i e;rw[qaD,ae e] at h;exact j h
theorem qcU {K:KT}{t:Tmp}{k:Kd}(h:(t,k)∈K):qaD K t≠none:=by
 induction K with
 |nil=>cases h
 |cons x K j=>
  obtain⟨u,k'⟩:=x;rw[qaD];split;·simp
  rename_i e;rcases fX.1 h with h|h;·cases h;exact absurd rfl e
  exact j h
theorem qgi {K:KT}{t:Tmp}{k:Kd}:qaD K t=some k→(t,k)∈K:=by
 induction K with
 |nil=>intro h;cases h
 |cons x K j=>
  obtain⟨u,k'⟩:=x;intro h;simp only[qaD] at h;split at h;·rename_i e;cases h;subst e;exact List.mem_cons_self ..
  exact List.mem_cons_of_mem _ (j h)
theorem qen {C:Cx}{H:List HO}{ops:Array Oper}:∀ {l:List Oper} {ps:List V} {T T':VT} {K Y:KT},VXc C H ops l ps T K T' Y→(∀t k,(t,k)∈K→t∉qat l∧qaD K t=some k)→(qat l).Nodup→∀t k,(t,k)∈Y→qaD Y t=some k
 | [],[],_,_,_,_,⟨rfl,rfl⟩,h,_,t,k,hm=>(h t k hm).2
 |o::l,p::ps,T,T',K,Y,⟨t,K1,h1,h2⟩,h,R,u,k,hm=>by(
 have e:qat (o::l)=t::qat l:=by simp[qat,h1.1]
 rw[e] at R;obtain⟨n1,n2⟩:=List.nodup_cons.1 R;refine qen h2 (fun v k' J=>?_) n2 u k hm;have old:∀ {v k'},(v,k')∈K→v∉qat l∧qaD K1 v=some k':=fun {v k'} J=>by obtain⟨a1,a2⟩:=h v k' J;rw[e] at a1;exact⟨fun hh=>a1 (List.mem_cons_of_mem _ hh),by rw[qbR h1 v fun e=>a1 (e▸List.mem_cons_self ..)];exact a2⟩
 have key:VXm C H o T K p t K1→v∉qat l∧qaD K1 v=some k':=by(
 rintro(⟨rfl,_⟩|⟨rfl,_⟩|⟨ty,zs,rfl,_⟩);·exact old J
 ·rcases fX.1 J with I|I
  ·cases I;exact⟨n1,by simp[qaD]⟩
  exact old I
 rcases fX.1 J with I|I;·cases I;exact⟨n1,by simp[qaD]⟩
 exact old I)
 rcases h1.2.2 with ⟨_,hh⟩|⟨j,want,gv,x,_,_,_,hy,hn⟩;·exact key hh
 by_cases eg:gv=.bool want;·exact key (hy eg)
 rw[(hn eg).2] at J;exact old J)
theorem qir {C:Cx}{Q:VQ}{T:VT}{H:List HO}{id:Nat}{l:List Oper}(n:Nat)(h:VX C H l.toArray (fun T' H'=>VL C l.toArray (qcd (fun T H=>Q .normal T H) Q) (l.drop n) T' H') (l.take n) T [])
 (hm:C.P.follows .mixedOrders=true) (hB:yZ .any l.toArray n=true) (hT:ns .any l.toArray (qat (l.take n))=true) (b4:pM l.toArray (qat (l.take n)) n=true) (hD:qcR l.toArray (l.take n)=true):VW C (.region id l.toArray true) Q T H:=.mk fun g a w J=>by
 obtain⟨ps,T',R,hc,T1,a8,hK⟩:=qiR h;have a6:=qgP hc;have b5:(qat (l.take n)).Nodup:=by simp only[qcR,gE,qal] at hD;exact hD.1
 have a7:=qen hc (fun t k h=>by cases h) b5;refine bq n (aa All w) (qat (l.take n)) (FX g w T' R) (fun k=>(ps[k]?).map exV) (fun _=>false) (fun _ _=>False) hm hB hT b4 kR.drew (fun _ _ _ h=>h.elim) ?_;refine qgW J hD a6 (fun Y k1 k2 k3 w' hk hf=>?_) (l.take n) ps 0 T [] a rfl rfl hc J.size J.defers (fun _ _=>⟨rfl,rfl,rfl⟩) (fun _ _=>rfl) fun t u hu=>?_;·(
 have a1:∀ {g'' T2 H2},SR C g'' w' Y T2 H2→VL C l.toArray (qcd (fun T H=>Q .normal T H) Q) (l.drop n) T2 H2→wpList C.P l.toArray (Up C Q) (l.drop n) Y w':=by intro g'' T2 H2 b6 hv;refine cast (congrArg (fun q=>wpList C.P l.toArray q (l.drop n) Y w') ?_) (hv g'' Y w' b6);funext e Y w';refine congrArg (fun q=>Up C q e Y w') ?_;funext e;cases e<;>rfl
 have pure:∀t x,Oo T' t=some x→qaD R t=none→∃v,Y.tmps[t]? =some v∧VR g w' x v:=by(
 intro t x I hn;by_cases hM:t∈qat (l.take n)
 ·have j:t<Y.tmps.size:=by rw[k1];exact a6 t hM
  refine⟨Y.tmps[t],Array.getElem?_eq_getElem j,?_⟩;have:=hf t hM _ (Array.getElem?_eq_getElem j);unfold FX at this;rw[hn,I] at this;exact this
 obtain⟨e1,_,e2⟩:=k3 t hM;rw[e1] at I;obtain⟨v,e3,e4⟩:=J.tmps t x I;exact⟨v,e2.trans e3,e4.le (Le.kept0 J.hr hk)⟩)
 have told:∀t,qaD R t≠none→t∈qat (l.take n)∧∃j:t<Y.tmps.size,FX g w T' R t Y.tmps[t] w':=by
  intro t hn;have hM:t∈qat (l.take n):=Classical.byContradiction fun hM=>hn (k3 t hM).2.1;have j:t<Y.tmps.size:=by rw[k1];exact a6 t hM
  exact⟨hM,j,hf t hM _ (Array.getElem?_eq_getElem j)⟩
 have plain:fin R T1 H=(qbQ (R.filter fun x=>qdX (some x.2)) T1,H)→wpList C.P l.toArray (Up C Q) (l.drop n) Y w':=by(
 intro e;rw[e] at hK;refine a1 (g'':=g.frz w.heap.size w') ⟨J.le.trans (Le.frz J.hr hk),fun t x I=>?_,HR.frz J.hr hk,k2,k1,J.nil⟩ hK;cases hz:qaD (R.filter fun x=>qdX (some x.2)) t with
 |some k=>rw[qcT (by rw[hz];simp)] at I;cases I;have hm:=(List.mem_filter.1 (qgi hz)).1;obtain⟨_,j,_⟩:=told t (qcU hm);exact⟨_,Array.getElem?_eq_getElem j,.any _⟩
 |none=>
  rw[qcS hz,a8 t] at I;cases hn:qaD R t with
  |none=>obtain⟨v,e1,e2⟩:=pure t x I hn;exact⟨v,e1,e2.le0 Le0.frz'⟩
  |some k=>
   obtain⟨_,j,hF⟩:=told t (by rw[hn];simp);refine⟨_,Array.getElem?_eq_getElem j,?_⟩;unfold FX at hF;rw[hn] at hF;cases k with
   |fr=>rw[I] at hF;exact hF
   |al ty zs=>exact absurd hz (qcU (List.mem_filter.2 ⟨qgi hn,rfl⟩)))
 have b0:fin R T1 H=(qbQ (R.filter fun x=>qdX (some x.2)) T1,H)∨∃t ty zs,(R.filter fun x=>qdX (some x.2))=[(t,.al ty zs)]∧fin R T1 H=((t,.ptr H.length 0)::qbQ R T1,H++[.cells ty (zs.map .s)]):=by
  unfold fin;split;·rename_i t ty zs e;exact .inr ⟨t,ty,zs,e,rfl⟩
  exact .inl rfl
 rcases b0 with e|⟨t,ty,zs,e1,e2⟩;·exact plain e
 rw[e2] at hK;have b1:(t,Kd.al ty zs)∈R:=by
  have:(t,Kd.al ty zs)∈R.filter fun x=>qdX (some x.2):=by rw[e1];simp
  exact(List.mem_filter.1 this).1
 have b2:=a7 t _ b1;obtain⟨_,j,hF⟩:=told t (by rw[b2];simp);unfold FX at hF;rw[b2] at hF;obtain⟨b,h1,h2,h3⟩:=hF;have b3:=J.hr.put hk h2 (o:=.cells ty (zs.map .s)) ⟨b,zs,⟨by simp[Gh.put],(J.hr.nil _ (cf _)).2⟩,h3,qdB zs,fun o e=>by have:=qaP J.hr e;omega⟩;have hle:=Le.put J.hr hk h2;refine a1 (g'':=g.put H.length b) ⟨J.le.trans hle,fun u x I=>?_,b3,k2,k1,J.nil⟩ hK;simp only[Oo] at I;split at I
 ·rename_i e;subst e
  cases I;exact⟨_,Array.getElem?_eq_getElem j,by rw[h1];exact .ptr _ _ _ (by simp[Gh.put])⟩
 cases hn:qaD R u with
 |some k=>rw[qcT (by rw[hn];simp)] at I;cases I;obtain⟨_,j,_⟩:=told u (by rw[hn];simp);exact⟨_,Array.getElem?_eq_getElem j,.any _⟩
 |none=>rw[qcS hn,a8 u] at I;obtain⟨v,e3,e4⟩:=pure u x I hn;exact⟨v,e3,VR.le0 (g:=g) (w:=w') (w':=w') ⟨fun b o h=>⟨h,rfl⟩,fun i c hi=>hle.ι i c hi,fun i u n h=>⟨u,n,h,.inr ⟨rfl,rfl⟩⟩,fun _ _=>rfl⟩ e4⟩)
 obtain⟨v,e1,e2⟩:=J.tmps t _ hu;cases e2;exact e1
end Q
end
end Go.Proofs.YtgdlhckhpolnnaaGreatDoor
