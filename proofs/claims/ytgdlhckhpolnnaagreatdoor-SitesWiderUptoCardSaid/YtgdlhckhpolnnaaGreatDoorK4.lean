/- Part 5 of the proof (its last part says what is proved). No condition. -/
import Derived.Test.YtgdlhckhpolnnaaGreatDoorK3
namespace Go.Proofs.YtgdlhckhpolnnaaGreatDoor
set_option maxRecDepth 100000
set_option maxHeartbeats 8000000
open Go.RowKit Go.Proofs.Tryz
structure bz where
 kind:Nat
 op:Nat
 dst:Int
 ref:Int
 Ni:Int
 args:List Int
 Nh:List Int
 num:Int
 Nj:Int
structure aw where
 params:Int
 vars:Int
 Ng:List (List bz)
structure aE where
 Nd:List (Int×Int)
 Nf:List aw
 main:Int
structure cX where
 kind:Nat
 op:Nat
 dst:ByteArray
 ref:ByteArray
 Ni:ByteArray
 args:List ByteArray
 Nh:List ByteArray
 num:Int
 Nj:Int
structure eS where
 name:ByteArray
 code:List cX
 Nj:Int
structure cD where
 name:ByteArray
 params:List ByteArray
 Ng:List eS
 Nj:Int
structure EL where
 name:ByteArray
 size:Int
 level:ByteArray
 Nj:Int
structure dN where
 Nd:List EL
 Nf:List cD
def gR:ByteArray:=⟨#[]⟩
def fO:ByteArray:=⟨#[109,97,105,110]⟩
def aO (l:List ByteArray)(s:ByteArray):Int:=gJ (fun x=>x.toList==s.toList) l
theorem cM {x y:ByteArray}:(x.toList==y.toList)=true↔x=y:=by
 rw[cy];constructor;·(
 intro h;have C:∀z:ByteArray,z.toList=z.data.toList:=fun z=>by
  have:∀(i:Nat) (r:List UInt8),i≤z.size→ByteArray.toList.loop z i r=r.reverse++z.data.toList.drop i:=by(
 intro i;induction J:z.size-i generalizing i with
 |zero=>
  intro r hi;rw[ByteArray.toList.loop];have e:¬i<z.size:=by omega
  rw[ae e,List.drop_of_length_le (by simp only[Array.length_toList];show z.size≤i;omega)];simp
 |succ n I=>
  intro r hi;have j:i<z.size:=by omega
  have o:i<z.data.toList.length:=by simpa using j
  rw[ByteArray.toList.loop,ap j,I (i+1) (by omega) _ (by omega),List.drop_eq_getElem_cons o];simp[ByteArray.get!,j])
  unfold ByteArray.toList;rw[this 0 [] (by omega)];simp
 rw[C,C] at h;cases x;cases y;congr 1;exact Array.toList_inj.1 h)
 rintro rfl;rfl
theorem vL {l:List ByteArray}{k:Nat}{s:ByteArray}(C:l[k]? =some s)(I:l.Nodup):aO l s=k:=by
 refine lL C (cM.2 rfl) fun y hy=>?_;cases J:(y.toList==s.toList) with
 |false=>rfl
 |true=>have e:=cM.1 J;subst e;exfalso;obtain⟨i,hi,rfl⟩:=List.mem_take_iff_getElem.1 hy;obtain⟨j,o⟩:=lS.1 C;exact(List.pairwise_iff_getElem.1 I) i k (by omega) j (by omega) o.symm
theorem jb {l:List ByteArray}{s:ByteArray}(h:s∉l):aO l s= -1:=by
 refine lM fun y hy=>?_;cases j:(y.toList==s.toList) with
 |false=>rfl
 |true=>exact absurd (cM.1 j▸hy) h
theorem cm {l:List ByteArray}{s:ByteArray}:0≤aO l s↔s∈l:=by
 constructor
 ·intro h
  by_cases hm:s∈l;·exact hm
  rw[jb hm] at h;omega
 intro h;unfold aO gJ;rw[ap (mW.2 ⟨s,h,cM.2 rfl⟩)];omega
theorem yS {l:List ByteArray}{s:ByteArray}(h:s∈l):∃k:Nat,aO l s=k∧l[k]? =some s:=by unfold aO gJ;have o:l.any (fun x=>x.toList==s.toList)=true:=mW.2 ⟨s,h,cM.2 rfl⟩;rw[ap o];refine⟨_,rfl,?_⟩;have j:=List.findIdx_lt_length_of_exists (p:=fun x:ByteArray=>x.toList==s.toList) (xs:=l) (mW.1 o);rw[lG j];have:=List.findIdx_getElem (w:=j);rw[cM.1 this]
def dD (p:aH):Prop:=p.MZ.length=p.up.length∧ue p.up∧1≤p.Nc∧p.Nc≤64∧(∀(i:Nat) s,p.MZ[i]? =some s→aB s=true∧eZ p s=i)∧cE p p.Nb∧cE p p.Na
structure rT where
 args:Int
 dst:Bool
 ref:Bool
 Ni:Bool
def cJ:Nat→Option rT
 |1=>some ⟨0,true,false,false⟩
 |2=>some ⟨2,true,false,false⟩
 |4=>some ⟨1,true,true,false⟩
 |5=>some ⟨1,true,true,false⟩
 |6=>some ⟨2,false,true,false⟩
 |7=>some ⟨-1,true,true,false⟩
 |8=>some ⟨0,true,true,false⟩
 |9=>some ⟨1,false,true,false⟩
 |10=>some ⟨1,true,true,false⟩
 |11=>some ⟨0,false,true,false⟩
 |12=>some ⟨1,false,true,true⟩
 |13=>some ⟨1,false,false,false⟩
 |_=>none
def fS (s:ByteArray)(wanted:Bool):Prop:=if wanted=true then aB s=true else s=gR
def fj (x:cX):Prop:=(x.op≠0↔x.kind=2)∧x.op≤12∧(x.num≠0→x.kind=1)∧(∀a∈x.args,aB a=true)∧(∀a∈x.Nh,aB a=true)∧
 (x.kind=3→aB x.dst=true∧x.ref=gR∧x.Ni=gR∧x.Nh.length=x.args.length∧1≤x.Nh.length∧x.Nh.length≤64)∧
 (x.kind≠3→∃s,cJ x.kind=some s∧x.Nh=[]∧(0≤s.args→(x.args.length:Int)=s.args)∧x.args.length≤6∧fS x.dst s.dst∧fS x.ref s.ref∧fS x.Ni s.Ni)
def fT (f:cD):Prop:=aB f.name=true∧(∀a∈f.params,aB a=true)∧f.params.length≤6∧1≤f.Ng.length∧f.Ng.length≤64∧∀b∈f.Ng,aB b.name=true∧∀x∈b.code,fj x
def gl (f:cD):Nat:=(f.Ng.map fun b=>b.code.length).sum
def xA (a:EL):Prop:=aB a.name=true∧aB a.level=true∧1≤a.size∧a.size≤256
def fV (q:dN):Prop:=q.Nd.length≤16∧q.Nf.length≤64∧(∀a∈q.Nd,xA a)∧(∀f∈q.Nf,fT f)∧(q.Nf.map gl).sum≤4096
def dx (p:aH)(x:bz):Prop:=(x.kind=8→0≤x.ref∧x.ref<p.Nb.length)∧(x.kind=9→0≤x.ref∧x.ref<p.Na.length)∧(x.kind=10→0≤x.ref∧x.ref<p.MZ.length)
def lX (p:aH)(b:aw):Prop:=0≤b.params∧b.params≤6∧∀l∈b.Ng,∀x∈l,dx p x
def pi (p:aH)(c:aE):Prop:=(∀a∈c.Nd,0≤a.2∧a.2<p.MZ.length)∧∀b∈c.Nf,lX p b
def qY (main i:Int):ByteArray:=if i=main then fO else aL 102 i
def gW (p:aH)(main:Int)(x:bz):ByteArray:=
 if x.kind=4∨x.kind=5∨x.kind=6 then aL 97 x.ref
 else if x.kind=7 then qY main x.ref
 else if x.kind=8 then(p.Nb.getD x.ref.toNat (gR,0)).1
 else if x.kind=9 then(p.Na.getD x.ref.toNat (gR,0)).1
 else if x.kind=10 then p.MZ.getD x.ref.toNat gR
 else if x.kind=11∨x.kind=12 then aL 98 x.ref
 else gR
def jC (p:aH)(main:Int)(x:bz):cX:=
 {kind:=x.kind,op:=x.op,dst:=if 0≤x.dst then aL 118 x.dst else gR,ref:=gW p main x,Ni:=if x.kind=12 then aL 98 x.Ni else gR,
  args:=x.args.map (aL 118),Nh:=x.Nh.map (aL 98),num:=x.num,Nj:=x.Nj}
def eh (p:aH)(main:Int)(k:Nat)(l:List bz):eS:= {name:=aL 98 k,code:=l.map (jC p main),Nj:=0}
def bU (p:aH)(main:Int)(i:Nat)(b:aw):cD:=
 {name:=qY main i,params:=(List.range b.params.toNat).map fun(k:Nat)=>aL 118 k,Ng:=b.Ng.mapIdx (eh p main),Nj:=0}
def sa (p:aH)(i:Nat)(a:Int×Int):EL:= {name:=aL 97 i,size:=a.1,level:=p.MZ.getD a.2.toNat gR,Nj:=0}
def cP (p:aH)(c:aE):dN:= {Nd:=c.Nd.mapIdx (sa p),Nf:=c.Nf.mapIdx (bU p c.main)}
def sx (f:cD):List ByteArray:=(f.Ng.flatMap fun b=>b.code.map fun x=>x.dst).filter fun s=>decide (s≠gR)
def bh (f:cD):List ByteArray:=f.params++sx f
def cn (f:cD):List ByteArray:=f.Ng.map fun b=>b.name
def fh (q:dN):List ByteArray:=q.Nf.map fun f=>f.name
def dz (q:dN):List ByteArray:=q.Nd.map fun a=>a.name
def dv (p:aH)(q:dN)(f:cD)(x:cX):Int:=
 if x.kind=4∨x.kind=5∨x.kind=6 then aO (dz q) x.ref
 else if x.kind=7 then aO (fh q) x.ref
 else if x.kind=8 then fD p.Nb x.ref
 else if x.kind=9 then fD p.Na x.ref
 else if x.kind=10 then eZ p x.ref
 else if x.kind=11∨x.kind=12 then aO (cn f) x.ref
 else 0
def dy (f:cD)(x:cX):Int:=if x.kind=12 then aO (cn f) x.Ni else 0
def pg (p:aH)(q:dN)(f:cD)(x:cX):bz:=
 {kind:=x.kind,op:=x.op,dst:=if x.dst=gR then-1 else aO (bh f) x.dst,ref:=dv p q f x,Ni:=dy f x,
  args:=x.args.map (aO (bh f)),Nh:=x.Nh.map (aO (cn f)),num:=x.num,Nj:=x.Nj}
def il (p:aH)(q:dN)(f:cD):aw:= {params:=f.params.length,vars:=(bh f).length,Ng:=f.Ng.map fun b=>b.code.map (pg p q f)}
def qV (p:aH)(q:dN):aE:= {Nd:=q.Nd.map fun a=>(a.size,eZ p a.level),Nf:=q.Nf.map (il p q),main:=aO (fh q) fO}
def mO (p:aH)(q:dN)(f:cD)(x:cX):Prop:=0≤dv p q f x∧0≤dy f x∧(∀a∈x.args,a∈bh f)∧(∀a∈x.Nh,a∈cn f)∧
 (x.kind=7→∀g,q.Nf[(dv p q f x).toNat]? =some g→x.args.length=g.params.length)
def mQ (kinds:List Nat):Prop:=kinds≠[]∧(∀(i:Nat) k,kinds[i]? =some k→(11≤k↔i+1=kinds.length))∧∀(i:Nat),kinds[i+1]? =some 3→kinds[i]? =some 3
def pj (p:aH)(q:dN)(f:cD):Prop:=(bh f).Nodup∧(cn f).Nodup∧∀b∈f.Ng,mQ (b.code.map fun x=>x.kind)∧∀x∈b.code,mO p q f x
def BG (p:aH)(q:dN):Prop:=(dz q).Nodup∧(∀a∈q.Nd,a.level∈p.MZ)∧(fh q).Nodup∧fO∈fh q∧(∀f∈q.Nf,f.name=fO→f.params=[])∧∀f∈q.Nf,pj p q f
def iE (x:bz):bz:= {x with Nj:=0}
def jD (x y:bz):Prop:=iE x=iE y
def Mc (a b:aE):Prop:=a.main=b.main∧a.Nd=b.Nd∧a.Nf.map (fun f=>(f.params,f.vars,f.Ng.map fun l=>l.map iE))=b.Nf.map (fun f=>(f.params,f.vars,f.Ng.map fun l=>l.map iE))
def eM (p:aH)(c:aE):Prop:=dD p∧c.Nf.length≤64∧c.Nd.length≤16∧pi p c∧fV (cP p c)∧BG p (cP p c)∧Mc (qV p (cP p c)) c
def cw:Nat→Option (Int×Bool×Bool×Bool)
 |1=>some (0,true,false,false)
 |2=>some (2,true,false,false)
 |3=>some (8,true,false,false)
 |4=>some (1,true,true,false)
 |5=>some (1,true,true,false)
 |6=>some (2,false,true,false)
 |7=>some (9,true,true,false)
 |8=>some (0,true,true,false)
 |9=>some (1,false,true,false)
 |10=>some (1,true,true,false)
 |11=>some (0,false,true,false)
 |12=>some (1,false,true,true)
 |13=>some (1,false,false,false)
 |_=>none
def cW (p:aH)(c:aE)(b:aw)(kind:Nat):Nat:=
 if kind=4∨kind=5∨kind=6 then c.Nd.length else if kind=7 then c.Nf.length else if kind=8 then p.Nb.length else if kind=9 then p.Na.length else if kind=10 then p.MZ.length else b.Ng.length
def aT (p:aH)(c:aE)(b:aw)(next:Int)(x:bz):Prop:=∃n dst ref Ni,cw x.kind=some (n,dst,ref,Ni)∧x.dst=(if dst=true then next else-1)∧(ref=false→x.ref=0)∧(Ni=false→x.Ni=0)∧
 (x.kind≠1→x.num=0)∧(x.kind≠2→x.op=0)∧(x.kind=2→1≤x.op∧x.op≤12)∧(ref=true→0≤x.ref∧x.ref<cW p c b x.kind)∧(Ni=true→0≤x.Ni∧x.Ni<b.Ng.length)∧
 (if x.kind=3 then x.Nh.length=x.args.length∧1≤x.Nh.length∧x.Nh.length≤64 else x.Nh=[]∧(x.args.length:Int)=if x.kind=7 then(c.Nf.getD x.ref.toNat ⟨0,0,[]⟩).params else n)∧
 (∀a∈x.args,0≤a∧a<b.vars)∧∀a∈x.Nh,0≤a∧a<b.Ng.length
def cj (l:List bz):Nat:=(l.filter fun x=>match cw x.kind with|some (_,d,_,_)=>d|none=>false).length
def qi (p:aH)(c:aE)(b:aw):Prop:=0≤b.params∧b.params≤6∧1≤b.Ng.length∧b.Ng.length≤64∧(∀l∈b.Ng,mQ (l.map fun x=>x.kind))∧
 (∀(k:Nat) x,b.Ng.flatten[k]? =some x→aT p c b (b.params+cj (b.Ng.flatten.take k)) x)∧b.vars=b.params+cj b.Ng.flatten
def ft (b:aw):Nat:=b.Ng.flatten.length
def bJ (p:aH)(c:aE):Prop:=dD p∧c.Nd.length≤16∧c.Nf.length≤64∧0≤c.main∧c.main<c.Nf.length∧(c.Nf.getD c.main.toNat ⟨0,0,[]⟩).params=0∧
 (∀a∈c.Nd,1≤a.1∧a.1≤256∧0≤a.2∧a.2<p.MZ.length)∧(∀b∈c.Nf,qi p c b)∧(c.Nf.map ft).sum≤4096
section
open Go.RowKit Go.WideMaps Go.Maps
theorem Gm:Keyed prog 9:=string_keyed underlying9
theorem Gn (w:World):(zeroValue 3).run prog w=.ok (.int .i64 0) w:=by kernel_rfl
def wW (s:ByteArray):Lit:=.string s.data.toList
theorem yB {s t:ByteArray}(h:wW s=wW t):s=t:=by unfold wW at h;injection h with h;cases s;cases t;congr 1;exact Array.toList_inj.1 h
theorem sT (s:ByteArray):WideAt.IsKeyLit (wW s):=trivial
theorem mC {l:List ByteArray}{s:ByteArray}(h:s∉l):aO (l++[s]) s=l.length:=by
 refine lL (k:=l.length) (x:=s) (by rw[kH (cf _),Nat.sub_self];rfl) (cM.2 rfl) fun y hy=>?_;rw[List.take_left] at hy;cases j:(y.toList==s.toList) with
 |false=>rfl
 |true=>exact absurd (cM.1 j▸hy) h
theorem oz {l:List ByteArray}{s t:ByteArray}(h:t≠s):aO (l++[s]) t=aO l t:=by
 by_cases j:t∈l;·have I:l.any (fun x=>x.toList==t.toList)=true:=mW.2 ⟨t,j,cM.2 rfl⟩;have o:(l++[s]).any (fun x=>x.toList==t.toList)=true:=mW.2 ⟨t,eD.2 (.inl j),cM.2 rfl⟩;have C:=List.findIdx_lt_length_of_exists (p:=fun x:ByteArray=>x.toList==t.toList) (xs:=l) (mW.1 I);unfold aO gJ;rw[ap I,ap o,List.findIdx_append,ap C]
 rw[jb j,jb fun h'=>?_];rcases eD.1 h' with h'|h';·exact j h'
 exact h (cx.1 h')
structure KB (D:DataW Unit)(l:List ByteArray):Prop where
 tidy:Tidy D
 size:Maps.size D=l.length
 has:∀s,Maps.has D (wW s)=decide (0≤aO l s)
 val:∀s,D.atKey (wW s) (.lit (.int .i64 0))=.lit (.int .i64 (max (aO l s) 0))
theorem KB.nil:KB (.map []) []:=by
 refine⟨tidy_empty,rfl,fun s=>?_,fun s=>?_⟩;·rw[jb (by simp)];rfl
 rw[jb (by simp)];rfl
theorem KB.put {D:DataW Unit}{l:List ByteArray}(h:KB D l){s:ByteArray}(C:aO l s<0):KB (D.put (wW s) (.lit (.int .i64 l.length))) (l++[s]):=by
 have o:s∉l:=fun hm=>by have:=cm.2 hm;omega
 refine⟨h.tidy.put (sT s) _,?_,fun t=>?_,fun t=>?_⟩;·rw[size_put h.tidy,h.has s,cI (by omega),h.size];simp
 ·by_cases e:t=s
  ·subst e;rw[has_put_same h.tidy.isMap (sT t),mC o];exact(bL (by omega)).symm
  rw[has_put_other fun j=>e (yB j),oz e,h.has t]
 by_cases e:t=s
 ·subst e
  rw[atKey_put_same h.tidy.isMap (sT t),mC o];congr 2;omega
 rw[atKey_put_other fun j=>e (yB j),oz e,h.val t]
def cK (w:World)(b:Nat)(l:List ByteArray):Prop:=∃D,w.ownsMap prog 9 (plainElem prog 3) b l.length D∧KB D l
section
variable {w w':World} {b:Nat} {l:List ByteArray}
theorem cK.new (w:World):cK (w.alloc (.map #[] 0)) w.heap.size []:=⟨_,World.ownsMap_made _ _ _ _,KB.nil⟩
theorem cK.lt (h:cK w b l):b<w.heap.size:=by obtain⟨D,h,_⟩:=h;exact h.lt
theorem cK.keep {S:Nat→Prop}(h:cK w b l)(k:aa S w w')(o:S b):cK w' b l:=by obtain⟨D,h,C⟩:=h;have j:=h.lt;obtain⟨es,clock,I,r⟩:=h;exact⟨D,⟨es,clock,(k.block b j o).trans I,r⟩,C⟩
theorem cK.look (h:cK w b l){s:ByteArray}(R:s.size≤maxLen):(Instr.lookup 119 (.map (some b)) (.string s) true).run prog w=.ok (.tuple #[.int .i64 (max (aO l s) 0),.bool (decide (0≤aO l s))]) w:=by obtain⟨D,h,C⟩:=h;obtain⟨v,ps,o,Y⟩:=h.look_ok Gm underlying119 (Gn w) (plainElem_int underlying3 (by decide)) (keyOf_string_mk underlying9 R);obtain⟨c,rfl,hc,_⟩:=plainElem_int_inv underlying3 Y;have j:=congrArg Prod.fst hc;have I:=C.val s;have J:=C.has s;unfold wW at I J;rw[I] at j;rw[J] at o;injection j with j;injection j with _ j;rw[←j] at o;exact o
theorem cK.get (h:cK w b l){s:ByteArray}(I:s.size≤maxLen):(Instr.lookup 119 (.map (some b)) (.string s) false).run prog w=.ok (.int .i64 (max (aO l s) 0)) w:=by obtain⟨D,h,J⟩:=h;obtain⟨c,j,o,_⟩:=h.lookup_int Gm underlying119 underlying3 (Gn w) (keyOf_string_mk underlying9 I);have C:=J.val s;unfold wW at C;rw[C] at o;injection o with o;injection o with _ o;rw[←o] at j;exact j
theorem cK.len (h:cK w b l)(ty:TypeId):(Builtin.len_ #[119] ty #[.map (some b)]).run prog w=.ok (.int .i64 l.length) w:=by obtain⟨D,h,j⟩:=h;rw[h.len underlying119,j.size]
theorem gN {ops:Array Oper}{rest:List Oper}{o:Oper}{a:Act}{Q:Exit→Act→World→Prop}(C:o.guard=none)(m x v:Operand)(j:o.op=Op.mapUpdate 119 m x v)
 (b:Nat) (l:List ByteArray) (hm:a.eval m=.map (some b)) (h:cK w b l) (hl:l.length<1000000) (s:ByteArray) (I:a.eval x=.string s) (J:a.eval v=.int .i64 l.length) (R:s.size≤maxLen) (Y:aO l s<0)
 (hK:∀w',cK w' b (l++[s])→w.grownBy w' (some b)→wpList prog ops Q rest (a.put o.dst undef) w'):wpList prog ops Q (o::rest) a w:=by
 obtain⟨D,hD,hd⟩:=h
 refine wpList_mapUpdate_own (H:=Unit) w C m x v 119 j 9 3 Gm underlying119 _ b l.length D hm hD (by unfold maxLen;omega) _ _ _ I J (keyOf_string_mk underlying9 R) _ []
  (plainElem_int underlying3 (by simp[Lit.wf,IntKind.min,IntKind.max,IntKind.signed,IntKind.bits];omega)) fun w' h1 h2=>hK w' ⟨_,by rw[iQ];exact h1,hd.put Y⟩ h2
end
end
structure jx (x:bz):Prop where
 kind:x.kind<256
 op:x.op<256
 dst:aV x.dst
 ref:aV x.ref
 Ni:aV x.Ni
 num:aV x.num
 Nj:aV x.Nj
def KD:cO bz:=fun S w cs x=>∃a f,cs=[.int .u8 x.kind,.int .u8 x.op,.int .i64 x.dst,.int .i64 x.ref,.int .i64 x.Ni,a,f,.int .i64 x.num,.int .i64 x.Nj]∧aK S w a x.args∧aK S w f x.Nh∧jx x
theorem sH:cO.Good KD:=by
 constructor
 ·rintro S w w' cs x k ⟨a,f,e,h1,j,o⟩
  exact⟨a,f,e,ah.keep k h1,ah.keep k j,o⟩
 rintro S T w cs x k ⟨a,f,e,h1,j,o⟩;exact⟨a,f,e,ah.wide k h1,ah.wide k j,o⟩
abbrev tZ:=rx 9 96 KD
theorem cT:bT.Good tZ:=cH sH
abbrev bW:=Sl 24 tZ
theorem bg:bT.Good bW:=oR cT
def qO:cO aw:=fun S w cs b=>∃v,cs=[.int .i64 b.params,.int .i64 b.vars,v]∧bW S w v b.Ng∧aV b.params∧aV b.vars
theorem gI:cO.Good qO:=by
 constructor
 ·rintro S w w' cs x k ⟨v,e,h1,j⟩
  exact⟨v,e,bg.keep k h1,j⟩
 rintro S T w cs x k ⟨v,e,h1,j⟩;exact⟨v,e,bg.wide k h1,j⟩
abbrev mL:=rx 3 40 qO
theorem bV:bT.Good mL:=cH gI
def rI:cO (Int×Int):=fun _ _ cs x=>cs=[.int .i64 x.1,.int .i64 x.2]∧aV x.1∧aV x.2
theorem jq:cO.Good rI:=⟨fun _ h=>h,fun _ h=>h⟩
abbrev qay:=rx 2 16 rI
theorem bu:bT.Good qay:=cH jq
def cQ (S:Nat→Prop)(w:World)(v:Value)(c:aE):Prop:=∃a f,v=.agg #[a,f,.int .i64 c.main]∧qay S w a c.Nd∧mL S w f c.Nf∧aV c.main
theorem dc:bT.Good cQ:=by
 constructor
 ·rintro S w w' v c k ⟨a,f,e,h1,j,o⟩
  exact⟨a,f,e,bu.keep k h1,bV.keep k j,o⟩
 rintro S T w v c k ⟨a,f,e,h1,j,o⟩;exact⟨a,f,e,bu.wide k h1,bV.wide k j,o⟩
structure uB (x:cX):Prop where
 kind:x.kind<256
 op:x.op<256
 num:aV x.num
 Nj:aV x.Nj
 dst:x.dst.size≤140737488355328
 ref:x.ref.size≤140737488355328
 Ni:x.Ni.size≤140737488355328
 args:∀s∈x.args,s.size≤140737488355328
 Nh:∀s∈x.Nh,s.size≤140737488355328
def zH:cO cX:=fun S w cs x=>∃a f,cs=[.int .u8 x.kind,.int .u8 x.op,.string x.dst,.string x.ref,.string x.Ni,a,f,.int .i64 x.num,.int .i64 x.Nj]∧gB S w a x.args∧gB S w f x.Nh∧uB x
theorem nM:cO.Good zH:=by
 constructor
 ·rintro S w w' cs x k ⟨a,f,e,h1,j,o⟩
  exact⟨a,f,e,ax.keep k h1,ax.keep k j,o⟩
 rintro S T w cs x k ⟨a,f,e,h1,j,o⟩;exact⟨a,f,e,ax.wide k h1,ax.wide k j,o⟩
abbrev Im:=rx 9 120 zH
theorem it:bT.Good Im:=cH nM
def qh:cO eS:=fun S w cs b=>∃v,cs=[.string b.name,v,.int .i64 b.Nj]∧Im S w v b.code∧aV b.Nj∧b.name.size≤140737488355328
theorem lK:cO.Good qh:=by
 constructor
 ·rintro S w w' cs x k ⟨v,e,h1,j⟩
  exact⟨v,e,it.keep k h1,j⟩
 rintro S T w cs x k ⟨v,e,h1,j⟩;exact⟨v,e,it.wide k h1,j⟩
abbrev mJ:=rx 3 48 qh
theorem eH:bT.Good mJ:=cH lK
def uA:cO cD:=fun S w cs f=>∃p v,cs=[.string f.name,p,v,.int .i64 f.Nj]∧gB S w p f.params∧mJ S w v f.Ng∧aV f.Nj∧f.name.size≤140737488355328∧∀s∈f.params,s.size≤140737488355328
theorem nj:cO.Good uA:=by
 constructor
 ·rintro S w w' cs x k ⟨p,v,e,h1,j,o⟩
  exact⟨p,v,e,ax.keep k h1,eH.keep k j,o⟩
 rintro S T w cs x k ⟨p,v,e,h1,j,o⟩;exact⟨p,v,e,ax.wide k h1,eH.wide k j,o⟩
abbrev BC:=rx 4 72 uA
theorem iX:bT.Good BC:=cH nj
def EB:cO EL:=fun _ _ cs a=>cs=[.string a.name,.int .i64 a.size,.string a.level,.int .i64 a.Nj]∧aV a.size∧aV a.Nj∧a.name.size≤140737488355328∧a.level.size≤140737488355328
theorem pH:cO.Good EB:=⟨fun _ h=>h,fun _ h=>h⟩
abbrev Kx:=rx 4 48 EB
theorem lJ:bT.Good Kx:=cH pH
def BF (S:Nat→Prop)(w:World)(v:Value)(q:dN):Prop:=∃a f,v=.agg #[a,f]∧Kx S w a q.Nd∧BC S w f q.Nf
theorem sI:bT.Good BF:=by
 constructor
 ·rintro S w w' v c k ⟨a,f,e,h1,j⟩
  exact⟨a,f,e,lJ.keep k h1,iX.keep k j⟩
 rintro S T w v c k ⟨a,f,e,h1,j⟩;exact⟨a,f,e,lJ.wide k h1,iX.wide k j⟩
theorem aZ {α:Type}{n bw:Nat}{E:cO α}{S:Nat→Prop}{w:World}{A:Option Addr}{m c:Nat}{l:List α}(h:rx n bw E S w (.slice A m c) l){i:Nat}{x:α}(hi:l[i]? =some x):
 ∃b o cs,A=some ⟨b,o,none⟩∧S b∧cs.length=n∧(∀(j:Nat) c,cs[j]? =some c→w.cell? ⟨b,o+i*n+j,none⟩=some c)∧E S w cs x:=by
 obtain⟨a,cap,C,_,_,_,h⟩:=h;injection C with I J R;subst I;exact h i _ hi
theorem bn {α:Type}{bw:Nat}{E:bT α}{S:Nat→Prop}{w:World}{A:Option Addr}{m c:Nat}{l:List α}(h:Sl bw E S w (.slice A m c) l){i:Nat}{x:α}(hi:l[i]? =some x):
 ∃b o v,A=some ⟨b,o,none⟩∧S b∧w.cell? ⟨b,o+i,none⟩=some v∧E S w v x:=by
 obtain⟨a,cap,j,_,_,_,h⟩:=h;injection j with C I J;subst C;exact h i _ hi
theorem sh {w wn:World}{t:TypeId}{cs:Array Value}(h:aa All (w.alloc (.cells cs t)) wn)(i:Nat):wn.cell? ⟨w.heap.size,i,none⟩=cs[i]?:=((al.new w t cs).kept h trivial).cell i
def KG (e:Ending):Prop:=∃a n:Int,n≠0∧aV a∧aV n∧e=.panicked [{v:=.iface 116 (.agg #[.int .i64 a,.int .i64 n]),recovered:=false}]
def ql (C:Prop)(R:Ending→World→Prop)(w:World)(e:Ending)(w':World):Prop:=(C∧R e w')∨(¬C∧KG e∧aa All w w')
theorem dX (a n:Int)(w:World):Calls prog 48 #[.bool true,.int .i64 a,.int .i64 n] w fun e w'=>e=.returned (.tuple #[])∧w=w':=by
 go_enter func48,ntmps48;go_wp2
 go_end0
 exact⟨rfl,rfl⟩
theorem fP (a n:Int)(w:World):Calls prog 48 #[.bool false,.int .i64 a,.int .i64 n] w fun e w'=>e=.panicked [{v:=.iface 116 (.agg #[.int .i64 a,.int .i64 n]),recovered:=false}]∧w=w':=by go_enter func48,ntmps48;go_wp2;exact⟨rfl,rfl,rfl⟩
theorem nQ (r a:Int)(w:World):Calls prog 50 #[.int .i64 r,.bool true,.int .i64 a] w fun e w'=>e=.returned (.int .i64 r)∧w=w':=by go_enter func50,ntmps50;go_wp2_with (go_at_call 48;refine(dX _ _ _).mono ?_;rintro e w' ⟨rfl,rfl⟩);go_ret;exact⟨rfl,rfl⟩
theorem pK (r a:Int)(w:World)(j:aV a):Calls prog 50 #[.int .i64 r,.bool false,.int .i64 a] w fun e w'=>KG e∧w=w':=by go_enter func50,ntmps50;go_wp2_with (go_at_call 48;refine(fP _ _ _).mono ?_;rintro e w' ⟨rfl,rfl⟩);exact⟨rfl,⟨a,10,by decide,j,by unfold aV;omega,rfl⟩,rfl⟩
theorem lQ (b:Nat)(l:List ByteArray)(s:ByteArray)(a:Int)(w:World)(hm:cK w b l)(C:s.size≤140737488355328)(o:aV a):
 Calls prog 157 #[.map (some b),.string s,.int .i64 a] w fun e w'=>ql (0≤aO l s) (fun e w'=>e=.returned (.int .i64 (aO l s))∧w=w') w e w':=by
 have j:=hm.look (s:=s) (by unfold maxLen;omega);generalize aO l s=r at*;by_cases h:0≤r;·rw[Int.max_eq_left h,bL h] at j;have H:=oH h;clear h;go_enter func157,ntmps157;go_wp2_with (go_at_call 48;refine(dX _ _ _).mono ?_;rintro e w' ⟨rfl,rfl⟩);go_ret;exact .inl ⟨H.out,rfl,rfl⟩
 rw[cI h] at j;have H:=oH h;clear h;go_enter func157,ntmps157;go_wp2_with (go_at_call 48;refine(fP _ _ _).mono ?_;rintro e w' ⟨rfl,rfl⟩);exact⟨rfl,.inr ⟨by have:=H.out;omega,⟨a,10,by decide,o,by unfold aV;omega,rfl⟩,kR⟩⟩
end Go.Proofs.YtgdlhckhpolnnaaGreatDoor
