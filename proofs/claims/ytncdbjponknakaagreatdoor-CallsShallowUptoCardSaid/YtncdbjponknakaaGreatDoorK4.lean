/- Part 5 of the proof of CallsShallow (its last part says what is proved). No condition. -/
import Derived.Test.YtncdbjponknakaaGreatDoorK3
namespace Go.Proofs.YtncdbjponknakaaGreatDoor
set_option maxRecDepth 100000
set_option maxHeartbeats 8000000
open Go.RowKit Go.Proofs.Tryz
structure bz where
 kind:Nat
 op:Nat
 dst:Int
 ref:Int
 Ni:Int
 args:List Int
 Nh:List Int
 num:Int
 Nj:Int
structure aw where
 params:Int
 vars:Int
 Ng:List (List bz)
structure aE where
 Nd:List (Int×Int)
 Nf:List aw
 main:Int
structure cX where
 kind:Nat
 op:Nat
 dst:ByteArray
 ref:ByteArray
 Ni:ByteArray
 args:List ByteArray
 Nh:List ByteArray
 num:Int
 Nj:Int
structure eS where
 name:ByteArray
 code:List cX
 Nj:Int
structure cD where
 name:ByteArray
 params:List ByteArray
 Ng:List eS
 Nj:Int
structure EL where
 name:ByteArray
 size:Int
 level:ByteArray
 Nj:Int
structure dN where
 Nd:List EL
 Nf:List cD
def gR:ByteArray:=⟨#[]⟩
def fO:ByteArray:=⟨#[109,97,105,110]⟩
def aO (l:List ByteArray)(s:ByteArray):Int:=gJ (fun x=>x.toList==s.toList) l
theorem cM {x y:ByteArray}:(x.toList==y.toList)=true↔x=y:=by
 rw[cy];constructor;·(
 intro h;have o:∀z:ByteArray,z.toList=z.data.toList:=fun z=>by
  have:∀(i:Nat) (r:List UInt8),i≤z.size→ByteArray.toList.loop z i r=r.reverse++z.data.toList.drop i:=by(
 intro i;induction J:z.size-i generalizing i with
 |zero=>
  intro r hi;rw[ByteArray.toList.loop];have e:¬i<z.size:=by omega
  rw[ae e,List.drop_of_length_le (by simp only[Array.length_toList];show z.size≤i;omega)];simp
 |succ n C=>
  intro r hi;have j:i<z.size:=by omega
  have l:i<z.data.toList.length:=by simpa using j
  rw[ByteArray.toList.loop,ap j,C (i+1) (by omega) _ (by omega),List.drop_eq_getElem_cons l];simp[ByteArray.get!,j])
  unfold ByteArray.toList;rw[this 0 [] (by omega)];simp
 rw[o,o] at h;cases x;cases y;congr 1;exact Array.toList_inj.1 h)
 rintro rfl;rfl
theorem vL {l:List ByteArray}{k:Nat}{s:ByteArray}(C:l[k]? =some s)(J:l.Nodup):aO l s=k:=by
 refine lL C (cM.2 rfl) fun y R=>?_;cases Y:(y.toList==s.toList) with
 |false=>rfl
 |true=>have e:=cM.1 Y;subst e;exfalso;obtain⟨i,hi,rfl⟩:=List.mem_take_iff_getElem.1 R;obtain⟨j,o⟩:=lS.1 C;exact(List.pairwise_iff_getElem.1 J) i k (by omega) j (by omega) o.symm
theorem jb {l:List ByteArray}{s:ByteArray}(h:s∉l):aO l s= -1:=by
 refine lM fun y j=>?_;cases o:(y.toList==s.toList) with
 |false=>rfl
 |true=>exact absurd (cM.1 o▸j) h
theorem cm {l:List ByteArray}{s:ByteArray}:0≤aO l s↔s∈l:=by
 constructor
 ·intro h
  by_cases hm:s∈l;·exact hm
  rw[jb hm] at h;omega
 intro h;unfold aO gJ;rw[ap (mW.2 ⟨s,h,cM.2 rfl⟩)];omega
theorem yS {l:List ByteArray}{s:ByteArray}(h:s∈l):∃k:Nat,aO l s=k∧l[k]? =some s:=by unfold aO gJ;have o:l.any (fun x=>x.toList==s.toList)=true:=mW.2 ⟨s,h,cM.2 rfl⟩;rw[ap o];refine⟨_,rfl,?_⟩;have j:=List.findIdx_lt_length_of_exists (p:=fun x:ByteArray=>x.toList==s.toList) (xs:=l) (mW.1 o);rw[lG j];have:=List.findIdx_getElem (w:=j);rw[cM.1 this]
def dD (p:aH):Prop:=p.MZ.length=p.up.length∧ue p.up∧1≤p.Nc∧p.Nc≤64∧(∀(i:Nat) s,p.MZ[i]? =some s→aB s=true∧eZ p s=i)∧cE p p.Nb∧cE p p.Na
structure rT where
 args:Int
 dst:Bool
 ref:Bool
 Ni:Bool
def cJ:Nat→Option rT
 |1=>some ⟨0,true,false,false⟩
 |2=>some ⟨2,true,false,false⟩
 |4=>some ⟨1,true,true,false⟩
 |5=>some ⟨1,true,true,false⟩
 |6=>some ⟨2,false,true,false⟩
 |7=>some ⟨-1,true,true,false⟩
 |8=>some ⟨0,true,true,false⟩
 |9=>some ⟨1,false,true,false⟩
 |10=>some ⟨1,true,true,false⟩
 |11=>some ⟨0,false,true,false⟩
 |12=>some ⟨1,false,true,true⟩
 |13=>some ⟨1,false,false,false⟩
 |_=>none
def fS (s:ByteArray)(wanted:Bool):Prop:=if wanted=true then aB s=true else s=gR
def fj (x:cX):Prop:=(x.op≠0↔x.kind=2)∧x.op≤12∧(x.num≠0→x.kind=1)∧(∀a∈x.args,aB a=true)∧(∀a∈x.Nh,aB a=true)∧
 (x.kind=3→aB x.dst=true∧x.ref=gR∧x.Ni=gR∧x.Nh.length=x.args.length∧1≤x.Nh.length∧x.Nh.length≤64)∧
 (x.kind≠3→∃s,cJ x.kind=some s∧x.Nh=[]∧(0≤s.args→(x.args.length:Int)=s.args)∧x.args.length≤6∧fS x.dst s.dst∧fS x.ref s.ref∧fS x.Ni s.Ni)
def fT (f:cD):Prop:=aB f.name=true∧(∀a∈f.params,aB a=true)∧f.params.length≤6∧1≤f.Ng.length∧f.Ng.length≤64∧∀b∈f.Ng,aB b.name=true∧∀x∈b.code,fj x
def gl (f:cD):Nat:=(f.Ng.map fun b=>b.code.length).sum
def xA (a:EL):Prop:=aB a.name=true∧aB a.level=true∧1≤a.size∧a.size≤256
def fV (q:dN):Prop:=q.Nd.length≤16∧q.Nf.length≤64∧(∀a∈q.Nd,xA a)∧(∀f∈q.Nf,fT f)∧(q.Nf.map gl).sum≤4096
def dx (p:aH)(x:bz):Prop:=(x.kind=8→0≤x.ref∧x.ref<p.Nb.length)∧(x.kind=9→0≤x.ref∧x.ref<p.Na.length)∧(x.kind=10→0≤x.ref∧x.ref<p.MZ.length)
def lX (p:aH)(b:aw):Prop:=0≤b.params∧b.params≤6∧∀l∈b.Ng,∀x∈l,dx p x
def pi (p:aH)(c:aE):Prop:=(∀a∈c.Nd,0≤a.2∧a.2<p.MZ.length)∧∀b∈c.Nf,lX p b
def qY (main i:Int):ByteArray:=if i=main then fO else aL 102 i
def gW (p:aH)(main:Int)(x:bz):ByteArray:=
 if x.kind=4∨x.kind=5∨x.kind=6 then aL 97 x.ref
 else if x.kind=7 then qY main x.ref
 else if x.kind=8 then(p.Nb.getD x.ref.toNat (gR,0)).1
 else if x.kind=9 then(p.Na.getD x.ref.toNat (gR,0)).1
 else if x.kind=10 then p.MZ.getD x.ref.toNat gR
 else if x.kind=11∨x.kind=12 then aL 98 x.ref
 else gR
def jC (p:aH)(main:Int)(x:bz):cX:=
 {kind:=x.kind,op:=x.op,dst:=if 0≤x.dst then aL 118 x.dst else gR,ref:=gW p main x,Ni:=if x.kind=12 then aL 98 x.Ni else gR,
  args:=x.args.map (aL 118),Nh:=x.Nh.map (aL 98),num:=x.num,Nj:=x.Nj}
def eh (p:aH)(main:Int)(k:Nat)(l:List bz):eS:= {name:=aL 98 k,code:=l.map (jC p main),Nj:=0}
def bU (p:aH)(main:Int)(i:Nat)(b:aw):cD:=
 {name:=qY main i,params:=(List.range b.params.toNat).map fun(k:Nat)=>aL 118 k,Ng:=b.Ng.mapIdx (eh p main),Nj:=0}
def sa (p:aH)(i:Nat)(a:Int×Int):EL:= {name:=aL 97 i,size:=a.1,level:=p.MZ.getD a.2.toNat gR,Nj:=0}
def cP (p:aH)(c:aE):dN:= {Nd:=c.Nd.mapIdx (sa p),Nf:=c.Nf.mapIdx (bU p c.main)}
def sx (f:cD):List ByteArray:=(f.Ng.flatMap fun b=>b.code.map fun x=>x.dst).filter fun s=>decide (s≠gR)
def bh (f:cD):List ByteArray:=f.params++sx f
def cn (f:cD):List ByteArray:=f.Ng.map fun b=>b.name
def fh (q:dN):List ByteArray:=q.Nf.map fun f=>f.name
def dz (q:dN):List ByteArray:=q.Nd.map fun a=>a.name
def dv (p:aH)(q:dN)(f:cD)(x:cX):Int:=
 if x.kind=4∨x.kind=5∨x.kind=6 then aO (dz q) x.ref
 else if x.kind=7 then aO (fh q) x.ref
 else if x.kind=8 then fD p.Nb x.ref
 else if x.kind=9 then fD p.Na x.ref
 else if x.kind=10 then eZ p x.ref
 else if x.kind=11∨x.kind=12 then aO (cn f) x.ref
 else 0
def dy (f:cD)(x:cX):Int:=if x.kind=12 then aO (cn f) x.Ni else 0
def pg (p:aH)(q:dN)(f:cD)(x:cX):bz:=
 {kind:=x.kind,op:=x.op,dst:=if x.dst=gR then-1 else aO (bh f) x.dst,ref:=dv p q f x,Ni:=dy f x,
  args:=x.args.map (aO (bh f)),Nh:=x.Nh.map (aO (cn f)),num:=x.num,Nj:=x.Nj}
def il (p:aH)(q:dN)(f:cD):aw:= {params:=f.params.length,vars:=(bh f).length,Ng:=f.Ng.map fun b=>b.code.map (pg p q f)}
def qV (p:aH)(q:dN):aE:= {Nd:=q.Nd.map fun a=>(a.size,eZ p a.level),Nf:=q.Nf.map (il p q),main:=aO (fh q) fO}
def mO (p:aH)(q:dN)(f:cD)(x:cX):Prop:=0≤dv p q f x∧0≤dy f x∧(∀a∈x.args,a∈bh f)∧(∀a∈x.Nh,a∈cn f)∧
 (x.kind=7→∀g,q.Nf[(dv p q f x).toNat]? =some g→x.args.length=g.params.length)
def mQ (kinds:List Nat):Prop:=kinds≠[]∧(∀(i:Nat) k,kinds[i]? =some k→(11≤k↔i+1=kinds.length))∧∀(i:Nat),kinds[i+1]? =some 3→kinds[i]? =some 3
def pj (p:aH)(q:dN)(f:cD):Prop:=(bh f).Nodup∧(cn f).Nodup∧∀b∈f.Ng,mQ (b.code.map fun x=>x.kind)∧∀x∈b.code,mO p q f x
def BG (p:aH)(q:dN):Prop:=(dz q).Nodup∧(∀a∈q.Nd,a.level∈p.MZ)∧(fh q).Nodup∧fO∈fh q∧(∀f∈q.Nf,f.name=fO→f.params=[])∧∀f∈q.Nf,pj p q f
def iE (x:bz):bz:= {x with Nj:=0}
def jD (x y:bz):Prop:=iE x=iE y
def Mc (a b:aE):Prop:=a.main=b.main∧a.Nd=b.Nd∧a.Nf.map (fun f=>(f.params,f.vars,f.Ng.map fun l=>l.map iE))=b.Nf.map (fun f=>(f.params,f.vars,f.Ng.map fun l=>l.map iE))
def eM (p:aH)(c:aE):Prop:=dD p∧c.Nf.length≤64∧c.Nd.length≤16∧pi p c∧fV (cP p c)∧BG p (cP p c)∧Mc (qV p (cP p c)) c
def cw:Nat→Option (Int×Bool×Bool×Bool)
 |1=>some (0,true,false,false)
 |2=>some (2,true,false,false)
 |3=>some (8,true,false,false)
 |4=>some (1,true,true,false)
 |5=>some (1,true,true,false)
 |6=>some (2,false,true,false)
 |7=>some (9,true,true,false)
 |8=>some (0,true,true,false)
 |9=>some (1,false,true,false)
 |10=>some (1,true,true,false)
 |11=>some (0,false,true,false)
 |12=>some (1,false,true,true)
 |13=>some (1,false,false,false)
 |_=>none
def cW (p:aH)(c:aE)(b:aw)(kind:Nat):Nat:=
 if kind=4∨kind=5∨kind=6 then c.Nd.length else if kind=7 then c.Nf.length else if kind=8 then p.Nb.length else if kind=9 then p.Na.length else if kind=10 then p.MZ.length else b.Ng.length
def aT (p:aH)(c:aE)(b:aw)(next:Int)(x:bz):Prop:=∃n dst ref Ni,cw x.kind=some (n,dst,ref,Ni)∧x.dst=(if dst=true then next else-1)∧(ref=false→x.ref=0)∧(Ni=false→x.Ni=0)∧
 (x.kind≠1→x.num=0)∧(x.kind≠2→x.op=0)∧(x.kind=2→1≤x.op∧x.op≤12)∧(ref=true→0≤x.ref∧x.ref<cW p c b x.kind)∧(Ni=true→0≤x.Ni∧x.Ni<b.Ng.length)∧
 (if x.kind=3 then x.Nh.length=x.args.length∧1≤x.Nh.length∧x.Nh.length≤64 else x.Nh=[]∧(x.args.length:Int)=if x.kind=7 then(c.Nf.getD x.ref.toNat ⟨0,0,[]⟩).params else n)∧
 (∀a∈x.args,0≤a∧a<b.vars)∧∀a∈x.Nh,0≤a∧a<b.Ng.length
def cj (l:List bz):Nat:=(l.filter fun x=>match cw x.kind with|some (_,d,_,_)=>d|none=>false).length
def qi (p:aH)(c:aE)(b:aw):Prop:=0≤b.params∧b.params≤6∧1≤b.Ng.length∧b.Ng.length≤64∧(∀l∈b.Ng,mQ (l.map fun x=>x.kind))∧
 (∀(k:Nat) x,b.Ng.flatten[k]? =some x→aT p c b (b.params+cj (b.Ng.flatten.take k)) x)∧b.vars=b.params+cj b.Ng.flatten
def ft (b:aw):Nat:=b.Ng.flatten.length
def bJ (p:aH)(c:aE):Prop:=dD p∧c.Nd.length≤16∧c.Nf.length≤64∧0≤c.main∧c.main<c.Nf.length∧(c.Nf.getD c.main.toNat ⟨0,0,[]⟩).params=0∧
 (∀a∈c.Nd,1≤a.1∧a.1≤256∧0≤a.2∧a.2<p.MZ.length)∧(∀b∈c.Nf,qi p c b)∧(c.Nf.map ft).sum≤4096
section
open Go.RowKit Go.WideMaps Go.Maps
theorem Gm:Keyed prog 9:=string_keyed underlying9
theorem Gn (w:World):(zeroValue 3).run prog w=.ok (.int .i64 0) w:=by kernel_rfl
def wW (s:ByteArray):Lit:=.string s.data.toList
theorem yB {s t:ByteArray}(h:wW s=wW t):s=t:=by unfold wW at h;injection h with h;cases s;cases t;congr 1;exact Array.toList_inj.1 h
theorem sT (s:ByteArray):WideAt.IsKeyLit (wW s):=trivial
theorem mC {l:List ByteArray}{s:ByteArray}(h:s∉l):aO (l++[s]) s=l.length:=by
 refine lL (k:=l.length) (x:=s) (by rw[kH (cf _),Nat.sub_self];rfl) (cM.2 rfl) fun y j=>?_;rw[List.take_left] at j;cases o:(y.toList==s.toList) with
 |false=>rfl
 |true=>exact absurd (cM.1 o▸j) h
theorem oz {l:List ByteArray}{s t:ByteArray}(h:t≠s):aO (l++[s]) t=aO l t:=by
 by_cases j:t∈l;·have J:l.any (fun x=>x.toList==t.toList)=true:=mW.2 ⟨t,j,cM.2 rfl⟩;have o:(l++[s]).any (fun x=>x.toList==t.toList)=true:=mW.2 ⟨t,eD.2 (.inl j),cM.2 rfl⟩;have C:=List.findIdx_lt_length_of_exists (p:=fun x:ByteArray=>x.toList==t.toList) (xs:=l) (mW.1 J);unfold aO gJ;rw[ap J,ap o,List.findIdx_append,ap C]
 rw[jb j,jb fun h'=>?_];rcases eD.1 h' with h'|h';·exact j h'
 exact h (cx.1 h')
structure KB (D:DataW Unit)(l:List ByteArray):Prop where
 tidy:Tidy D
 size:Maps.size D=l.length
 has:∀s,Maps.has D (wW s)=decide (0≤aO l s)
 val:∀s,D.atKey (wW s) (.lit (.int .i64 0))=.lit (.int .i64 (max (aO l s) 0))
theorem KB.nil:KB (.map []) []:=by
 refine⟨tidy_empty,rfl,fun s=>?_,fun s=>?_⟩;·rw[jb (by simp)];rfl
 rw[jb (by simp)];rfl
theorem KB.put {D:DataW Unit}{l:List ByteArray}(h:KB D l){s:ByteArray}(C:aO l s<0):KB (D.put (wW s) (.lit (.int .i64 l.length))) (l++[s]):=by
 have o:s∉l:=fun hm=>by have:=cm.2 hm;omega
 refine⟨h.tidy.put (sT s) _,?_,fun t=>?_,fun t=>?_⟩;·rw[size_put h.tidy,h.has s,cI (by omega),h.size];simp
 ·by_cases e:t=s
  ·subst e;rw[has_put_same h.tidy.isMap (sT t),mC o];exact(bL (by omega)).symm
  rw[has_put_other fun j=>e (yB j),oz e,h.has t]
 by_cases e:t=s
 ·subst e
  rw[atKey_put_same h.tidy.isMap (sT t),mC o];congr 2;omega
 rw[atKey_put_other fun j=>e (yB j),oz e,h.val t]
def cK (w:World)(b:Nat)(l:List ByteArray):Prop:=∃D,w.ownsMap prog 9 (plainElem prog 3) b l.length D∧KB D l
section
variable {w w':World} {b:Nat} {l:List ByteArray}
theorem cK.new (w:World):cK (w.alloc (.map #[] 0)) w.heap.size []:=⟨_,World.ownsMap_made _ _ _ _,KB.nil⟩
theorem cK.lt (h:cK w b l):b<w.heap.size:=by obtain⟨D,h,_⟩:=h;exact h.lt
theorem cK.keep {S:Nat→Prop}(h:cK w b l)(k:aa S w w')(o:S b):cK w' b l:=by obtain⟨D,h,C⟩:=h;have j:=h.lt;obtain⟨es,clock,J,r⟩:=h;exact⟨D,⟨es,clock,(k.block b j o).trans J,r⟩,C⟩
theorem cK.look (h:cK w b l){s:ByteArray}(Y:s.size≤maxLen):(Instr.lookup 239 (.map (some b)) (.string s) true).run prog w=.ok (.tuple #[.int .i64 (max (aO l s) 0),.bool (decide (0≤aO l s))]) w:=by obtain⟨D,h,C⟩:=h;obtain⟨v,ps,o,Z⟩:=h.look_ok Gm underlying239 (Gn w) (plainElem_int underlying3 (by decide)) (keyOf_string_mk underlying9 Y);obtain⟨c,rfl,hc,_⟩:=plainElem_int_inv underlying3 Z;have j:=congrArg Prod.fst hc;have J:=C.val s;have R:=C.has s;unfold wW at J R;rw[J] at j;rw[R] at o;injection j with j;injection j with _ j;rw[←j] at o;exact o
theorem cK.get (h:cK w b l){s:ByteArray}(J:s.size≤maxLen):(Instr.lookup 239 (.map (some b)) (.string s) false).run prog w=.ok (.int .i64 (max (aO l s) 0)) w:=by obtain⟨D,h,R⟩:=h;obtain⟨c,j,o,_⟩:=h.lookup_int Gm underlying239 underlying3 (Gn w) (keyOf_string_mk underlying9 J);have C:=R.val s;unfold wW at C;rw[C] at o;injection o with o;injection o with _ o;rw[←o] at j;exact j
theorem cK.len (h:cK w b l)(ty:TypeId):(Builtin.len_ #[239] ty #[.map (some b)]).run prog w=.ok (.int .i64 l.length) w:=by obtain⟨D,h,j⟩:=h;rw[h.len underlying239,j.size]
theorem gN {ops:Array Oper}{rest:List Oper}{o:Oper}{a:Act}{Q:Exit→Act→World→Prop}(C:o.guard=none)(m x v:Operand)(j:o.op=Op.mapUpdate 239 m x v)
 (b:Nat) (l:List ByteArray) (hm:a.eval m=.map (some b)) (h:cK w b l) (hl:l.length<1000000) (s:ByteArray) (J:a.eval x=.string s) (R:a.eval v=.int .i64 l.length) (Y:s.size≤maxLen) (Z:aO l s<0)
 (hK:∀w',cK w' b (l++[s])→w.grownBy w' (some b)→wpList prog ops Q rest (a.put o.dst undef) w'):wpList prog ops Q (o::rest) a w:=by
 obtain⟨D,hD,hd⟩:=h
 refine wpList_mapUpdate_own (H:=Unit) w C m x v 239 j 9 3 Gm underlying239 _ b l.length D hm hD (by unfold maxLen;omega) _ _ _ J R (keyOf_string_mk underlying9 Y) _ []
  (plainElem_int underlying3 (by simp[Lit.wf,IntKind.min,IntKind.max,IntKind.signed,IntKind.bits];omega)) fun w' h1 h2=>hK w' ⟨_,by rw[iQ];exact h1,hd.put Z⟩ h2
end
end
structure jx (x:bz):Prop where
 kind:x.kind<256
 op:x.op<256
 dst:aV x.dst
 ref:aV x.ref
 Ni:aV x.Ni
 num:aV x.num
 Nj:aV x.Nj
def KD:cO bz:=fun S w cs x=>∃a f,cs=[.int .u8 x.kind,.int .u8 x.op,.int .i64 x.dst,.int .i64 x.ref,.int .i64 x.Ni,a,f,.int .i64 x.num,.int .i64 x.Nj]∧aK S w a x.args∧aK S w f x.Nh∧jx x
theorem sH:cO.Good KD:=by
 constructor
 ·rintro S w C cs x k ⟨a,f,e,j,l,o⟩
  exact⟨a,f,e,ah.keep k j,ah.keep k l,o⟩
 rintro S T w cs x k ⟨a,f,e,j,l,o⟩;exact⟨a,f,e,ah.wide k j,ah.wide k l,o⟩
abbrev tZ:=rx 9 96 KD
theorem cT:bT.Good tZ:=cH sH
abbrev bW:=Sl 24 tZ
theorem bg:bT.Good bW:=oR cT
def qO:cO aw:=fun S w cs b=>∃v,cs=[.int .i64 b.params,.int .i64 b.vars,v]∧bW S w v b.Ng∧aV b.params∧aV b.vars
theorem gI:cO.Good qO:=by
 constructor
 ·rintro S w o cs x k ⟨v,e,j,l⟩
  exact⟨v,e,bg.keep k j,l⟩
 rintro S T w cs x k ⟨v,e,j,l⟩;exact⟨v,e,bg.wide k j,l⟩
abbrev mL:=rx 3 40 qO
theorem bV:bT.Good mL:=cH gI
def rI:cO (Int×Int):=fun _ _ cs x=>cs=[.int .i64 x.1,.int .i64 x.2]∧aV x.1∧aV x.2
theorem jq:cO.Good rI:=⟨fun _ h=>h,fun _ h=>h⟩
abbrev ev:=rx 2 16 rI
theorem bu:bT.Good ev:=cH jq
def cQ (S:Nat→Prop)(w:World)(v:Value)(c:aE):Prop:=∃a f,v=.agg #[a,f,.int .i64 c.main]∧ev S w a c.Nd∧mL S w f c.Nf∧aV c.main
theorem dc:bT.Good cQ:=by
 constructor
 ·rintro S w C v c k ⟨a,f,e,j,l,o⟩
  exact⟨a,f,e,bu.keep k j,bV.keep k l,o⟩
 rintro S T w v c k ⟨a,f,e,j,l,o⟩;exact⟨a,f,e,bu.wide k j,bV.wide k l,o⟩
structure uB (x:cX):Prop where
 kind:x.kind<256
 op:x.op<256
 num:aV x.num
 Nj:aV x.Nj
 dst:x.dst.size≤140737488355328
 ref:x.ref.size≤140737488355328
 Ni:x.Ni.size≤140737488355328
 args:∀s∈x.args,s.size≤140737488355328
 Nh:∀s∈x.Nh,s.size≤140737488355328
def zH:cO cX:=fun S w cs x=>∃a f,cs=[.int .u8 x.kind,.int .u8 x.op,.string x.dst,.string x.ref,.string x.Ni,a,f,.int .i64 x.num,.int .i64 x.Nj]∧gB S w a x.args∧gB S w f x.Nh∧uB x
theorem nM:cO.Good zH:=by
 constructor
 ·rintro S w C cs x k ⟨a,f,e,j,l,o⟩
  exact⟨a,f,e,ax.keep k j,ax.keep k l,o⟩
 rintro S T w cs x k ⟨a,f,e,j,l,o⟩;exact⟨a,f,e,ax.wide k j,ax.wide k l,o⟩
abbrev Im:=rx 9 120 zH
theorem it:bT.Good Im:=cH nM
def qh:cO eS:=fun S w cs b=>∃v,cs=[.string b.name,v,.int .i64 b.Nj]∧Im S w v b.code∧aV b.Nj∧b.name.size≤140737488355328
theorem lK:cO.Good qh:=by
 constructor
 ·rintro S w o cs x k ⟨v,e,j,l⟩
  exact⟨v,e,it.keep k j,l⟩
 rintro S T w cs x k ⟨v,e,j,l⟩;exact⟨v,e,it.wide k j,l⟩
abbrev mJ:=rx 3 48 qh
theorem eH:bT.Good mJ:=cH lK
def uA:cO cD:=fun S w cs f=>∃p v,cs=[.string f.name,p,v,.int .i64 f.Nj]∧gB S w p f.params∧mJ S w v f.Ng∧aV f.Nj∧f.name.size≤140737488355328∧∀s∈f.params,s.size≤140737488355328
theorem nj:cO.Good uA:=by
 constructor
 ·rintro S w C cs x k ⟨p,v,e,j,l,o⟩
  exact⟨p,v,e,ax.keep k j,eH.keep k l,o⟩
 rintro S T w cs x k ⟨p,v,e,j,l,o⟩;exact⟨p,v,e,ax.wide k j,eH.wide k l,o⟩
abbrev BC:=rx 4 72 uA
theorem iX:bT.Good BC:=cH nj
def EB:cO EL:=fun _ _ cs a=>cs=[.string a.name,.int .i64 a.size,.string a.level,.int .i64 a.Nj]∧aV a.size∧aV a.Nj∧a.name.size≤140737488355328∧a.level.size≤140737488355328
theorem pH:cO.Good EB:=⟨fun _ h=>h,fun _ h=>h⟩
abbrev Kx:=rx 4 48 EB
theorem lJ:bT.Good Kx:=cH pH
def BF (S:Nat→Prop)(w:World)(v:Value)(q:dN):Prop:=∃a f,v=.agg #[a,f]∧Kx S w a q.Nd∧BC S w f q.Nf
theorem sI:bT.Good BF:=by
 constructor
 ·rintro S w o v c k ⟨a,f,e,j,l⟩
  exact⟨a,f,e,lJ.keep k j,iX.keep k l⟩
 rintro S T w v c k ⟨a,f,e,j,l⟩;exact⟨a,f,e,lJ.wide k j,iX.wide k l⟩
theorem aZ {α:Type}{n bw:Nat}{E:cO α}{S:Nat→Prop}{w:World}{A:Option Addr}{m c:Nat}{l:List α}(h:rx n bw E S w (.slice A m c) l){i:Nat}{x:α}(hi:l[i]? =some x):
 ∃b o cs,A=some ⟨b,o,none⟩∧S b∧cs.length=n∧(∀(j:Nat) c,cs[j]? =some c→w.cell? ⟨b,o+i*n+j,none⟩=some c)∧E S w cs x:=by
 obtain⟨a,cap,C,_,_,_,h⟩:=h;injection C with J R Y;subst J;exact h i _ hi
theorem bn {α:Type}{bw:Nat}{E:bT α}{S:Nat→Prop}{w:World}{A:Option Addr}{m c:Nat}{l:List α}(h:Sl bw E S w (.slice A m c) l){i:Nat}{x:α}(hi:l[i]? =some x):
 ∃b o v,A=some ⟨b,o,none⟩∧S b∧w.cell? ⟨b,o+i,none⟩=some v∧E S w v x:=by
 obtain⟨a,cap,j,_,_,_,h⟩:=h;injection j with C J R;subst C;exact h i _ hi
theorem sh {w wn:World}{t:TypeId}{cs:Array Value}(h:aa All (w.alloc (.cells cs t)) wn)(i:Nat):wn.cell? ⟨w.heap.size,i,none⟩=cs[i]?:=((al.new w t cs).kept h trivial).cell i
def KG (e:Ending):Prop:=∃a n:Int,n≠0∧aV a∧aV n∧e=.panicked [{v:=.iface 236 (.agg #[.int .i64 a,.int .i64 n]),recovered:=false}]
def ql (C:Prop)(R:Ending→World→Prop)(w:World)(e:Ending)(w':World):Prop:=(C∧R e w')∨(¬C∧KG e∧aa All w w')
theorem dX (a n:Int)(w:World):Calls prog 137 #[.bool true,.int .i64 a,.int .i64 n] w fun e j=>e=.returned (.tuple #[])∧w=j:=by
 go_enter func137,ntmps137;go_wp2
 go_end0
 exact⟨rfl,rfl⟩
theorem fP (a n:Int)(w:World):Calls prog 137 #[.bool false,.int .i64 a,.int .i64 n] w fun e j=>e=.panicked [{v:=.iface 236 (.agg #[.int .i64 a,.int .i64 n]),recovered:=false}]∧w=j:=by go_enter func137,ntmps137;go_wp2;exact⟨rfl,rfl,rfl⟩
theorem nQ (r a:Int)(w:World):Calls prog 138 #[.int .i64 r,.bool true,.int .i64 a] w fun e j=>e=.returned (.int .i64 r)∧w=j:=by go_enter func138,ntmps138;go_wp2_with (go_at_call 137;refine(dX _ _ _).mono ?_;rintro e j ⟨rfl,rfl⟩);go_ret;exact⟨rfl,rfl⟩
theorem pK (r a:Int)(w:World)(l:aV a):Calls prog 138 #[.int .i64 r,.bool false,.int .i64 a] w fun e j=>KG e∧w=j:=by go_enter func138,ntmps138;go_wp2_with (go_at_call 137;refine(fP _ _ _).mono ?_;rintro e j ⟨rfl,rfl⟩);exact⟨rfl,⟨a,10,by decide,l,by unfold aV;omega,rfl⟩,rfl⟩
theorem lQ (b:Nat)(l:List ByteArray)(s:ByteArray)(a:Int)(w:World)(hm:cK w b l)(J:s.size≤140737488355328)(C:aV a):
 Calls prog 185 #[.map (some b),.string s,.int .i64 a] w fun e j=>ql (0≤aO l s) (fun e j=>e=.returned (.int .i64 (aO l s))∧w=j) w e j:=by
 have o:=hm.look (s:=s) (by unfold maxLen;omega);generalize aO l s=r at*;by_cases h:0≤r;·rw[Int.max_eq_left h,bL h] at o;have H:=oH h;clear h;go_enter func185,ntmps185;go_wp2_with (go_at_call 137;refine(dX _ _ _).mono ?_;rintro e j ⟨rfl,rfl⟩);go_ret;exact .inl ⟨H.out,rfl,rfl⟩
 rw[cI h] at o;have H:=oH h;clear h;go_enter func185,ntmps185;go_wp2_with (go_at_call 137;refine(fP _ _ _).mono ?_;rintro e j ⟨rfl,rfl⟩);exact⟨rfl,.inr ⟨by have:=H.out;omega,⟨a,10,by decide,C,by unfold aV;omega,rfl⟩,kR⟩⟩
section
def dR {α:Type}(n:Nat)(e:TypeId)(E:cO α)(B:Nat)(w:World)(v:Value)(l:List α):Prop:=
 ∃(css:List (List Value)) (P:Nat→Prop),w.ownsRow B e n v l.length css.flatten∧css.length=l.length∧(∀cs∈css,cs.length=n)∧(∀b,P b→B≤b∧b<w.heap.size∧v.ownBlock≠some b)∧
  ∀(i:Nat) x,l[i]? =some x→∃cs,css[i]? =some cs∧E P w cs x
section
variable {α:Type} {n:Nat} {e:TypeId} {E:cO α} {B:Nat} {w w':World} {v:Value} {l:List α}
theorem dR.nil:dR n e E B w (.slice none 0 0) ([]:List α):=
 ⟨[],fun _=>False,⟨by simp,.inl ⟨rfl,rfl⟩⟩,rfl,(fun _ h=>by cases h),fun _ h=>h.elim,fun i x h=>by simp at h⟩
theorem dR.form (h:dR n e E B w v l):∃A c,v=.slice A l.length c:=by
 obtain⟨j,P,o,_⟩:=h;rcases o.2 with ⟨rfl,C⟩|⟨g,cap,cur,rfl,_⟩;·exact⟨none,0,by rw[C]⟩
 exact⟨_,_,rfl⟩
theorem dR.own (h:dR n e E B w v l):∃xs,w.ownsRow B e n v l.length xs:=by obtain⟨j,P,o,_⟩:=h;exact⟨_,o⟩
theorem dR.keep (g:cO.Good E){S:Nat→Prop}(h:dR n e E B w v l)(k:aa S w w')(J:∀b,B≤b→b<w.heap.size→S b):dR n e E B w' v l:=by
 obtain⟨C,P,R,Y,Z,o,h5⟩:=h;refine⟨C,P,be R k fun b j=>?_,Y,Z,fun b j=>?_,fun i x hx=>?_⟩
 ·have:=aD R j
  exact J b this.1 this.2
 ·have:=o b j
  have:=k.size;exact⟨by omega,by omega,(o b j).2.2⟩
 obtain⟨cs,hc,he⟩:=h5 i x hx;exact⟨cs,hc,g.keep (k.mono fun b j=>J b (o b j).1 (o b j).2.1) he⟩
theorem dR.app (g:cO.Good E){o:List (List Value)}{R:Value}{cs:List Value}{x:α}{Q:Nat→Prop}
 (hl:o.length=l.length) (hn:∀c∈o,c.length=n) (Y:cs.length=n)
 (P:Nat→Prop) (hP:∀b,P b→B≤b∧b<w.heap.size∧v.ownBlock≠some b) (hE:∀(i:Nat) x,l[i]? =some x→∃cs,o[i]? =some cs∧E P w cs x)
 (hQ:∀b,Q b→B≤b∧b<w.heap.size∧v.ownBlock≠some b) (hx:E Q w cs x)
 (Z:w'.ownsRow B e n R (l.length+1) (o.flatten++cs)) (hg:w.grownBy w' v.ownBlock) (a7:R.ownBlock=v.ownBlock∨R.ownBlock=some w.heap.size):dR n e E B w' R (l++[x]):=by
 have a1:aa P w w':=(aa.refl _ w).grown hg fun b j=>.inl fun h=>(hP b h).2.2 j;have a8:aa Q w w':=(aa.refl _ w).grown hg fun b j=>.inl fun h=>(hQ b h).2.2 j;have a6:∀b,B≤b∧b<w.heap.size∧v.ownBlock≠some b→B≤b∧b<w'.heap.size∧R.ownBlock≠some b:=by(
 intro b j;have:=a1.size;refine⟨j.1,by omega,?_⟩;rcases a7 with h|h;·rw[h];exact j.2.2
 rw[h];intro h';injection h' with h';omega)
 refine⟨o++[cs],fun b=>P b∨Q b,?_,by simp[hl],fun c C=>?_,fun b j=>?_,fun i y J=>?_⟩
 ·rw[List.flatten_append,List.flatten_singleton,iQ,List.length_singleton]
  exact Z
 ·rcases eD.1 C with C|C
  ·exact hn c C
  rw[cx.1 C];exact Y
 ·rcases j with j|j
  ·exact a6 b (hP b j)
  exact a6 b (hQ b j)
 by_cases hi:i<l.length
 ·rw[ma hi] at J
  obtain⟨c,C,he⟩:=hE i y J;exact⟨c,by rw[ma (by omega)];exact C,g.wide (fun b j=>.inl j) (g.keep a1 he)⟩
 rw[kH (by omega)] at J;have hz:i-l.length=0:=by have:=(lS.1 J).1;simp at this;omega
 rw[hz] at J;cases J;exact⟨cs,by rw[kH (by omega),hl,hz];rfl,g.wide (fun b j=>.inr j) (g.keep a8 hx)⟩
theorem wN:∀(o:List (List Value)),(∀c∈o,c.length=n)→∀(i:Nat) cs,o[i]? =some cs→∀(j:Nat) u,cs[j]? =some u→o.flatten[i*n+j]? =some u
 | [],_,i,cs,h,_,_,_=>by simp at h
 |c::o,C,0,cs,h,j,u,hu=>by cases h;rw[List.flatten_cons,Nat.zero_mul,cN,ma (lS.1 hu).1];exact hu
 |c::o,C,i+1,cs,h,j,u,hu=>by have J:=C c (List.mem_cons_self ..);have R:=wN o (fun d Y=>C d (List.mem_cons_of_mem _ Y)) i cs (by simpa using h) j u hu;rw[List.flatten_cons,kH (by rw[J,Nat.succ_mul];omega),J,show(i+1)*n+j-n=i*n+j by rw[Nat.succ_mul];omega];exact R
theorem dR.read {bw:Nat}(g:cO.Good E)(h:dR n e E B w v l)(J:l.length*bw≤140737488355328):rx n bw E (fun b=>B≤b∧b<w.heap.size) w v l:=by
 obtain⟨Y,P,Z,h2,h3,h4,h5⟩:=h;obtain⟨a8,Z⟩:=Z;rcases Z with ⟨rfl,h0⟩|⟨gb,cap,cur,rfl,a1,hh,hc,hm,b0,a6⟩
 ·have:l=[]:=oD h0
  subst this;exact rx.nil
 refine⟨_,_,rfl,hc,hm,J,fun i x hx=>?_⟩;obtain⟨cs,C,hE⟩:=h5 i x hx;have o:∀(j:Nat) u,cs[j]? =some u→w.cell? ⟨gb,0+i*n+j,none⟩=some u:=by(
 intro j u hu;have R:=wN Y h3 i cs C j u hu;rw[cN,al.cell (w:=w) (t:=e) (cs:=cur) hh,←Array.getElem?_toList];rw[←a6] at R;have a7:i*n+j<l.length*n:=by have:=(lS.1 R).1;rw[fN] at this;omega
 rw[rY a7] at R;exact R)
 refine⟨gb,0,cs,rfl,⟨a1,(mV.1 hh).1⟩,h3 cs (mG C),o,g.wide (fun b J=>⟨(h4 b J).1,(h4 b J).2.1⟩) hE⟩
theorem bN {P:Program}(w:World){ops:Array Oper}{rest:List Oper}{o:Oper}{a:Act}{Q:Exit→Act→World→Prop}(g:cO.Good E)(a8:o.guard=none)(s x:Operand)(t:TypeId)
 (ho:o.op=.call {callee:=.builtin .append,args:=#[s,x],argTypes:=#[t,t]})
 (i:TypeInfo) (z:Value) (bytes:Nat) (ht:P.underlying t=some (.slice e)) (hi:P.info? e=some i) (hz:i.zero=some z)
 (R:i.size=n) (b0:i.bytes=bytes) (b1:z.cells.size=n) (b2:0<n)
 (v:Value) (l:List α) (hs:a.eval s=v) (a6:dR n e E B w v l) (b off c:Nat) (hx:a.eval x=.slice (some ⟨b,off,none⟩) 1 c) (cs:List Value) (y:α) (a7:cs.length=n)
 (Y:∀(j:Nat) u,cs[j]? =some u→w.cell? ⟨b,off+j,none⟩=some u) (h1:∀u∈cs,u.oneCell'=true) (hl:l.length≤1000000000) (C:bytes≤10000) (Z:B≤w.heap.size)
 (Qp:Nat→Prop) (hQ:∀b,Qp b→B≤b∧b<w.heap.size∧v.ownBlock≠some b) (hE:E Qp w cs y)
 (h:∀A c w',dR n e E B w' (.slice A (l.length+1) c) (l++[y])→w.grownBy w' v.ownBlock→(∀b,v.ownBlock=some b→B≤b)→wpList P ops Q rest (a.put o.dst (.slice A (l.length+1) c)) w'):wpList P ops Q (o::rest) a w:=by
 obtain⟨b3,Pp,r1,r2,r3,r4,r5⟩:=a6;have hb:(l.length+1)*bytes≤1000000001*10000:=Nat.mul_le_mul (by omega) C;refine aR w a8 s x t ho B e i z n bytes ht hi hz R b0 b1 b2 v l.length b3.flatten hs r1 (some ⟨b,off,none⟩) 1 c cs hx (by rw[a7,Nat.one_mul]) (fun _=>⟨b,off,rfl,Y⟩) h1 (by unfold maxLen;omega) (by omega) Z fun v' w' J hg b4=>?_;have a1:=dR.app g r2 r3 a7 Pp r4 r5 hQ hE J hg b4;obtain⟨A,c',rfl⟩:=aU J;exact h A c' w' a1 hg fun b hb=>(aD r1 hb).1
end
end
end Go.Proofs.YtncdbjponknakaaGreatDoor
