/- Part 16 of the proof (its last part says what is proved). No condition. -/
import Derived.Test.YtgdlhckhpolnnaaGreatDoorK14
namespace Go.Proofs.YtgdlhckhpolnnaaGreatDoor
set_option maxRecDepth 100000
set_option maxHeartbeats 8000000
open Go.RowKit Go.Proofs.Tryz
section
namespace Q
def qdY:Value→Option MK
 |.int k n=>some (.i k n)
 |.string b=>some (.s b)
 |_=>none
def qbj (es:List (MK×V))(k:MK):Option V:=(es.find? fun x=>x.1=k).map (·.2)
def qbs:List (MK×V)→MK→V→List (MK×V)
 | [],k,x=>[(k,x)]
 |e::es,k,x=>if e.1=k then(k,x)::es else e::qbs es k x
def ofV:Value→V
 |.agg cs=>.agg (cs.toList.map .s)
 |v=>.s v
theorem qcA {u:Value}{k:MK}(h:qdY u=some k):u=k.val:=by cases u<;>simp[qdY] at h<;>subst h<;>rfl
theorem qeU {g:Gh}{w:World}(v:Value):VR g w (ofV v) v:=by
 cases v with
 |agg cs=>have:=qds (g:=g) (w:=w) cs.toList;exact .agg _ _ this.1 this.2
 |_=>exact .s _
theorem qcH (a b:ByteArray):(a==b)=decide (a=b):=by
 rw[Bool.eq_iff_iff];show(a.data==b.data)=true↔_;rw[decide_eq_true_iff];constructor;·intro h;exact ByteArray.ext (by simpa using h)
 rintro rfl;simp
section
variable {g:Gh} {w:World} {d:TypeDesc} {k:MK}
theorem qgr {j:MK}(o:qbk d k=true)(C:qbk d j=true):Instr.sameNow d k.val j.val=some (decide (j=k)):=by
 cases d<;>cases k<;>cases j<;>first|(simp[qbk] at o;done)|(simp[qbk] at C;done)|skip
 ·simp only[qbk,qal] at o C;subst o C;simp only[Instr.sameNow,MK.val,if_true,Option.some.injEq];rw[Bool.eq_iff_iff,cy,decide_eq_true_iff,MK.i.injEq];exact⟨fun h=>⟨rfl,h.symm⟩,fun h=>h.2.symm⟩
 simp only[Instr.sameNow,MK.val,Option.some.injEq];rw[qcH,decide_eq_decide,MK.s.injEq];exact eq_comm
theorem qbP (Y:qbk d k=true):∀(es:List (MK×V)) (j:List MapEntry) (n:Nat),es.length=j.length→(∀(i:Nat) x e,es[i]? =some x→j[i]? =some e→x.1.val=e.key∧VR g w x.2 e.val)→(∀x∈es,qbk d x.1=true)→
 (qbj es k=none∧Instr.findNow d k.val j n=some none∧∀x,qbs es k x=es++[(k,x)])∨∃i x e,es[i]? =some (k,x)∧j[i]? =some e∧qbj es k=some x∧Instr.findNow d k.val j n=some (some (n+i,e.val))∧∀y,qbs es k y=es.set i (k,y)
 | [],[],n,_,_,_=>.inl ⟨rfl,rfl,fun _=>rfl⟩
 | [],_::_,_,h,_,_=>by simp at h
 |_::_,[],_,h,_,_=>by simp at h
 |x::es,e::j,n,hl,hr,ho=>by(
 have h0:=hr 0 x e rfl rfl;have C:=qgr Y (ho x (List.mem_cons_self ..));rw[h0.1] at C;by_cases o:x.1=k;·refine .inr ⟨0,x.2,e,by simp[←o],rfl,by simp[qbj,o],by simp[Instr.findNow,C,o],fun y=>by simp[qbs,o]⟩
 rcases qbP Y es j (n+1) (by simpa using hl) (fun i x e I J=>hr (i+1) x e (by simpa using I) (by simpa using J)) (fun x C=>ho x (List.mem_cons_of_mem _ C)) with ⟨I,J,R⟩|⟨i,y,e',I,J,R,h4,h5⟩;·exact .inl ⟨by simpa [qbj,o] using I,by simp[Instr.findNow,C,o,J],fun y=>by simp[qbs,o,R]⟩
 exact .inr ⟨i+1,y,e',by simpa using I,by simpa using J,by simpa [qbj,o] using R,by simp[Instr.findNow,C,o,h4];omega,fun y=>by simp[qbs,o,h5]⟩)
theorem qbu {P:Program}{kt:TypeId}{b:Bool}(j:qbk d k=true)(hu:∀w,(underlying kt).run P w=.ok d w)(n:Nat)(w:World):(Instr.checkKey b (n+1) kt k.val).run P w=.ok () w:=by cases d<;>cases k<;>first|(simp[qbk] at j;done)|(simp only[Instr.checkKey,Sem.run_bind,hu,Result.andThen_ok,MK.val];rfl)
theorem qfy (k:MK)(n:Nat):Instr.sameBits n k.val k.val=true:=by cases k<;>cases n<;>simp[Instr.sameBits,MK.val,qcH]
end
section
variable {C:Cx} {T:VT} {H H':List HO} {dst:Option Tmp} {ty:TypeId} {pos:String} {af:Array Edge} {gd:Option (Nat×Bool)} {x y z:Operand} {p q r:V}
theorem qev {t kt et:TypeId}{d:TypeDesc}(hu:∀w,(underlying t).run C.P w=.ok (.map kt et) w)(I:∀w,(underlying kt).run C.P w=.ok d w):OpS C ⟨dst,.makeMap t none,ty,pos,af,gd⟩ T H (.mp H.length) (H++[.map d []]):=fun g a w j=>by
 have _:=hu w;have _:=I w;refine⟨.map (some w.heap.size),w.alloc (.map #[] 0),_,.inl ?_,Le.new j.hr,.mp _ _ (by simp[Gh.put]),j.hr.put (kR.alloc _) (cf _) ⟨w.heap.size,#[],0,⟨by simp[Gh.put],(j.hr.nil _ (cf _)).2⟩,?_,⟨⟨rfl,fun i x e h=>by simp at h,fun e h=>by simp at h,List.Pairwise.nil⟩,fun x h=>by cases h⟩,fun o e=>by have:=qaX j.hr e;omega⟩⟩
 ·have:=@run_makeMap C.P t w
  simp[execOp,this]
 show(w.heap.push _)[w.heap.size]? =_;simp
def qcN (H:List HO):V→Option (TypeDesc×List (MK×V))
 |.mp i=>match H[i]? with
  |some (.map d es)=>some (d,es)
  |_=>none
 |.rmap d es=>some (d,es)
 |_=>none
theorem qeP {g:Gh}{w:World}{v:Value}{d:TypeDesc}{es:List (MK×V)}(hr:HR g w H)(I:VR g w p v)(o:qcN H p=some (d,es)):∃(b:Nat) (j:Array MapEntry) (clock:Nat),v=.map (some b)∧w.heap[b]? =some (.map j clock)∧es.length=j.toList.length∧(∀(i:Nat) x e,es[i]? =some x→j.toList[i]? =some e→x.1.val=e.key∧VR g w x.2 e.val)∧∀x∈es,qbk d x.1=true:=by
 cases I with
 |mp i b Y=>
  simp only[qcN] at o;split at o;·rename_i d' R hi;cases o;obtain⟨b',j,clock,⟨J,_⟩,h2,⟨⟨m1,m2,m3,m4⟩,m5⟩,_⟩:=hr.objs i _ hi;rw[Y] at J;cases J;exact⟨b,j,clock,rfl,h2,m1,m2,m5⟩
  cases o
 |rmap d' R b j c Y hh J hk ho hr=>cases o;exact⟨b,j,c,rfl,hh,J,fun i x e I he=>⟨hk i x e I he,hr i x e I he⟩,ho⟩
 |_=>cases o
theorem qfs {t kt et:TypeId}{d:TypeDesc}{es:List (MK×V)}{u zv:Value}{k:MK}(hx:ev T x=some p)(hi:qcN H p=some (d,es))(hy:ev T y=some (.s u))(hk:qdY u=some k)(Y:qbk d k=true)
 (hu:∀w,(underlying t).run C.P w=.ok (.map kt et) w) (J:∀w,(underlying kt).run C.P w=.ok d w) (hz:∀w,(zeroValue et).run C.P w=.ok zv w):OpP C ⟨dst,.lookup t x y false,ty,pos,af,gd⟩ T H ((qbj es k).getD (ofV zv)):=fun g a w R=>by
 have hv:=R.ev hx;have e2:=(R.ev hy).of_s;obtain⟨b,o,clock,I,h2,m1,m2,m5⟩:=qeP R.hr hv hi;have e3:=qcA hk;subst e3;have hg:(getObj b).run C.P w=.ok (.map o clock) w:=by simp[getObj,Sem.run,h2]
 have hc:=fun bb=>qbu (P:=C.P) (kt:=kt) (b:=bb) Y J 9999 w;rcases qbP Y es o.toList 0 m1 m2 m5 with ⟨f1,f2,_⟩|⟨j,xx,e,f0,f1,f2,f3,_⟩;·exact⟨zv,by simp[execOp,I,e2,Instr.lookup,hu,hg,hc,Instr.findKey,J,f2,hz],by rw[f1];exact qeU zv⟩
 exact⟨e.val,by simp[execOp,I,e2,Instr.lookup,hu,hg,hc,Instr.findKey,J,f3],by rw[f2];exact(m2 j _ e f0 f1).2⟩
theorem qeu {t kt et:TypeId}{d:TypeDesc}{es:List (MK×V)}{u zv:Value}{k:MK}(hx:ev T x=some p)(hi:qcN H p=some (d,es))(hy:ev T y=some (.s u))(hk:qdY u=some k)(ho:qbk d k=true)
 (hu:∀w,(underlying t).run C.P w=.ok (.map kt et) w) (R:∀w,(underlying kt).run C.P w=.ok d w) (hz:∀w,(zeroValue et).run C.P w=.ok zv w):OpP C ⟨dst,.lookup t x y true,ty,pos,af,gd⟩ T H (.tup [(qbj es k).getD (ofV zv),.s (.bool (qbj es k).isSome)]):=fun g a w Y=>by
 have hv:=Y.ev hx;have e2:=(Y.ev hy).of_s;obtain⟨b,o,clock,I,h2,m1,m2,m5⟩:=qeP Y.hr hv hi;have e3:=qcA hk;subst e3;have hg:(getObj b).run C.P w=.ok (.map o clock) w:=by simp[getObj,Sem.run,h2]
 have hc:=fun bb=>qbu (P:=C.P) (kt:=kt) (b:=bb) ho R 9999 w;rcases qbP ho es o.toList 0 m1 m2 m5 with ⟨f1,f2,_⟩|⟨j,xx,e,f0,f1,f2,f3,_⟩
 ·have J:=VRs.cons (g:=g) (w:=w) (qeU zv) (VRs.cons (.s (.bool false)) VRs.nil)
  exact⟨.tuple [zv,.bool false].toArray,by simp[execOp,I,e2,Instr.lookup,hu,hg,hc,Instr.findKey,R,f2,hz],by rw[f1];exact .tup _ _ J.1 J.2⟩
 have J:=VRs.cons (m2 j _ e f0 f1).2 (VRs.cons (.s (.bool true)) VRs.nil);exact⟨.tuple [e.val,.bool true].toArray,by simp[execOp,I,e2,Instr.lookup,hu,hg,hc,Instr.findKey,R,f3],by rw[f2];exact .tup _ _ J.1 J.2⟩
theorem qdg {t kt et:TypeId}{d:TypeDesc}{i:Nat}{es:List (MK×V)}{u:Value}{k:MK}(R:ev T x=some (.mp i))(hi:H[i]? =some (.map d es))(hy:ev T y=some (.s u))(hk:qdY u=some k)(ho:qbk d k=true)(hq:ev T z=some q)
 (hu:∀w,(underlying t).run C.P w=.ok (.map kt et) w) (hd:∀w,(underlying kt).run C.P w=.ok d w):OpS C ⟨dst,.mapUpdate t x y z,ty,pos,af,gd⟩ T H .any (H.set i (.map d (qbs es k q))):=fun g a w hs=>by
 have hv:=hs.ev R;have e2:=(hs.ev hy).of_s;have hz:=hs.ev hq;generalize a7:Act.eval _ x=v at hv;generalize a8:Act.eval _ z=zv at hz;cases hv with
 |mp _ b hb=>
  obtain⟨b',J,clock,⟨h1,b3⟩,h2,⟨⟨m1,m2,m3,m4⟩,m5⟩,m6⟩:=hs.hr.objs i _ hi;rw[hb] at h1;cases h1;have e3:=qcA hk;subst e3;have hg:(getObj b).run C.P w=.ok (.map J clock) w:=by simp[getObj,Sem.run,h2]
  have hc:=fun bb=>qbu (P:=C.P) (kt:=kt) (b:=bb) ho hd 9999 w;have b0:=(mV.1 h2).1;have a1:∀o:Array MapEntry×Nat,(setObj b (.map o.1 o.2)).run C.P w=.ok () {w with heap:=w.heap.setIfInBounds b (.map o.1 o.2)}:=by intro o;simp[setObj,Sem.run,h2]
  have fin:∀(I:Array MapEntry) (c':Nat),qil g w (qbs es k q) I.toList c'→(∀x∈qbs es k q,qbk d x.1=true)→(Instr.mapUpdate t (.map (some b)) k.val zv).run C.P w=.ok () {w with heap:=w.heap.setIfInBounds b (.map I c')}→
   ∃v w' g',((execOp a.eval ⟨dst,.mapUpdate t x y z,ty,pos,af,gd⟩).run C.P w=.ok (.value v) w'∨(execOp a.eval ⟨dst,.mapUpdate t x y z,ty,pos,af,gd⟩).run C.P w=.ok .skip w'∧v=undef)∧Le g w g' w'∧VR g' w' .any v∧HR g' w' (H.set i (.map d (qbs es k q))):=by
   intro I c' k1 k2 b1;have a6:g.own i b:=.inl hb;have ho:∀c,c≠b→(w.heap.setIfInBounds b (.map I c'))[c]? =w.heap[c]?:=fun c hc=>Array.getElem?_setIfInBounds_ne (Ne.symm hc);have hle:Le g w g {w with heap:=w.heap.setIfInBounds b (.map I c')}:=Le.turn a6 m6 rfl rfl (by simp) ho;refine⟨undef,{w with heap:=w.heap.setIfInBounds b (.map I c')},g,.inr ⟨?_,rfl⟩,hle,.any _,hs.hr.turn (w':= {w with heap:=w.heap.setIfInBounds b (.map I c')}) a6 m6 rfl rfl (by simp) ho ⟨b,I,c',⟨hb,b3⟩,by simp[b0],⟨⟨k1.1,fun j x e R he=>⟨(k1.2.1 j x e R he).1,(k1.2.1 j x e R he).2.le hle⟩,k1.2.2⟩,k2⟩,m6⟩⟩;simp[execOp,a7,e2,a8,b1]
  rcases qbP ho es J.toList 0 m1 m2 m5 with ⟨f1,f2,f3⟩|⟨j,xx,e,f0,f1,f2,f3,f4⟩;·(
 refine fin (J.push ⟨k.val,zv,clock⟩) (clock+1) ?_ ?_ ?_;·(
 rw[f3];refine⟨by simp[m1],fun j x e R he=>?_,fun e he=>?_,?_⟩
 ·simp only[Array.toList_push] at he;rcases Nat.lt_or_ge j es.length with hj|hj
  ·rw[ma hj] at R
   rw[ma (m1▸hj)] at he;exact m2 j x e R he
  have:j=es.length:=by have:=(lS.1 R).1;simp at this;omega
  subst this;rw[m1,List.getElem?_concat_length] at he;simp at R;cases R;cases he;exact⟨rfl,hz⟩
 ·simp only[Array.toList_push,eD,cx] at he
  rcases he with he|rfl;·have:=m3 e he;omega
  show clock<clock+1;omega
 rw[Array.toList_push,List.pairwise_append];exact⟨m4,List.pairwise_singleton ..,fun a ha b hb=>by rw[cx.1 hb];exact m3 a ha⟩)
 ·rw[f3];intro x R;rcases eD.1 R with R|R;·exact m5 x R
  rw[cx.1 R];exact ho
 have:=a1 (J.push ⟨k.val,zv,clock⟩,clock+1);simp[Instr.mapUpdate,hu,hg,hc,Instr.findKey,hd,f2,this])
  have b4:=(m2 j _ e f0 f1).1;have b2:J[j]? =some e:=by simpa using f1
  refine fin (J.modify j fun e=> {e with key:=k.val,val:=zv}) clock ?_ ?_ ?_;·(
 rw[f4];have Y:∀(m:Nat) (e':MapEntry),(J.modify j fun e=> {e with key:=k.val,val:=zv}).toList[m]? =some e'→∃e0,J.toList[m]? =some e0∧e'.born=e0.born∧(m=j→e'.key=k.val∧e'.val=zv)∧(m≠j→e'=e0):=by(
 intro m e' he;rw[Array.getElem?_toList,Array.getElem?_modify] at he;by_cases hm:j=m
 ·subst hm
  rw[ap rfl,b2] at he;cases he;exact⟨e,f1,rfl,fun _=>⟨rfl,rfl⟩,fun h=>absurd rfl h⟩
 rw[ae hm] at he;exact⟨e',by simpa using he,rfl,fun h=>absurd h.symm hm,fun _=>rfl⟩)
 refine⟨by simp[m1],fun m x e' R he=>?_,fun e' he=>?_,?_⟩;·(
 obtain⟨e0,g1,g2,g3,g4⟩:=Y m e' he;rw[List.getElem?_set] at R;by_cases hm:j=m
 ·subst hm;rw[ap rfl] at R;split at R
  ·cases R
   obtain⟨g5,g6⟩:=g3 rfl;exact⟨g5.symm,by rw[g6];exact hz⟩
  cases R
 rw[ae hm] at R;rw[g4 (Ne.symm hm)];exact m2 m x e0 R g1)
 ·obtain⟨m,hm⟩:=cY.1 he
  obtain⟨e0,g1,g2,_⟩:=Y m e' hm;rw[g2];exact m3 e0 (mG g1)
 rw[List.pairwise_iff_getElem] at m4⊢;intro a b ha hb b5;obtain⟨ea,g1,g2,_⟩:=Y a _ (lG ha);obtain⟨eb,g3,g4,_⟩:=Y b _ (lG hb);obtain⟨ka,rfl⟩:=lS.1 g1;obtain⟨kb,rfl⟩:=lS.1 g3;rw[g2,g4];exact m4 a b ka kb b5)
  ·rw[f4];intro x R;rcases List.mem_or_eq_of_mem_set R with R|rfl;·exact m5 x R
   exact ho
  have:=a1 (J.modify j fun e=> {e with key:=k.val,val:=zv},clock);simp[Instr.mapUpdate,hu,hg,hc,Instr.findKey,hd,f3,b2,←b4,Instr.keyThatStays,qfy,this]
end
end Q
end
section
namespace Q
section
variable {P:Program} {f:FuncId} {xs:List V} {H:List HO}
end
def qdr:V→Option (FuncId×List V)
 |.fn (.func f) cs=>some (f,cs)
 |.s (.func (.func f) first cs)=>if first.size=0∧cs.size=0 then some (f,[]) else none
 |_=>none
section
variable {C:Cx} {Q:VQ} {T:VT} {H H':List HO} {ops:Array Oper} {l:List Oper} {t:Nat} {ty:TypeId} {pos:String} {af:Array Edge} {gd:Option (Nat×Bool)} {x y z:Operand} {p q r:V}
theorem qeM {g:Gh}{w:World}{u:Value}{f:FuncId}{cs:List V}(h:VR g w p u)(j:qdr p=some (f,cs)):∃us,VRs g w cs us∧u=.func (.func f) #[] us.toArray:=by
 cases h with
 |fn o I us hl h=>cases o<;>simp[qdr] at j;obtain⟨rfl,rfl⟩:=j;exact⟨us,⟨hl,h⟩,rfl⟩
 |s=>cases u<;>simp only[qdr,reduceCtorEq] at j;rename_i fn a b;cases fn<;>simp at j;obtain⟨⟨J,R⟩,rfl,rfl⟩:=j;subst J R;exact⟨[],VRs.nil,rfl⟩
 |_=>cases j
end
end Q
end
end Go.Proofs.YtgdlhckhpolnnaaGreatDoor
