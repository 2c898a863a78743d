/- Part 5 of the proof (its last part says what is proved). No condition. -/
import Derived.Test.YtccbbkopmlnkpaaGreatDoorK3
namespace Go.Proofs.YtccbbkopmlnkpaaGreatDoor
set_option maxRecDepth 100000
set_option maxHeartbeats 8000000
open Go.RowKit Go.Proofs.Tryz
structure bI where
 kind:Nat
 op:Nat
 dst:Int
 ref:Int
 No:Int
 args:List Int
 Nn:List Int
 num:Int
 Np:Int
structure av where
 params:Int
 vars:Int
 Nm:List (List bI)
structure aU where
 Nk:List (Int×Int)
 Nl:List av
 main:Int
structure aB where
 kind:Nat
 op:Nat
 dst:ByteArray
 ref:ByteArray
 No:ByteArray
 args:List ByteArray
 Nn:List ByteArray
 num:Int
 Np:Int
structure bM where
 name:ByteArray
 code:List aB
 Np:Int
structure aR where
 name:ByteArray
 params:List ByteArray
 Nm:List bM
 Np:Int
structure Cm where
 name:ByteArray
 size:Int
 level:ByteArray
 Np:Int
structure cf where
 Nk:List Cm
 Nl:List aR
def dQ:ByteArray:=⟨#[]⟩
def eO:ByteArray:=⟨#[109,97,105,110]⟩
def aH (l:List ByteArray)(s:ByteArray):Int:=gt (fun x=>x.toList==s.toList) l
theorem bn {x y:ByteArray}:(x.toList==y.toList)=true↔x=y:=by
 rw[cX];constructor;·(
 intro h;have C:∀z:ByteArray,z.toList=z.data.toList:=fun z=>by
  have:∀(i:Nat) (r:List UInt8),i≤z.size→ByteArray.toList.loop z i r=r.reverse++z.data.toList.drop i:=by(
 intro i;induction J:z.size-i generalizing i with
 |zero=>
  intro r hi;rw[ByteArray.toList.loop];have e:¬i<z.size:=by omega
  rw[ah e,List.drop_of_length_le (by simp only[Array.length_toList];show z.size≤i;omega)];simp
 |succ n I=>
  intro r hi;have j:i<z.size:=by omega
  have o:i<z.data.toList.length:=by simpa using j
  rw[ByteArray.toList.loop,am j,I (i+1) (by omega) _ (by omega),List.drop_eq_getElem_cons o];simp[ByteArray.get!,j])
  unfold ByteArray.toList;rw[this 0 [] (by omega)];simp
 rw[C,C] at h;cases x;cases y;congr 1;exact Array.toList_inj.1 h)
 rintro rfl;rfl
theorem vC {l:List ByteArray}{k:Nat}{s:ByteArray}(C:l[k]? =some s)(I:l.Nodup):aH l s=k:=by
 refine pJ C (bn.2 rfl) fun y J=>?_;cases R:(y.toList==s.toList) with
 |false=>rfl
 |true=>have e:=bn.1 R;subst e;exfalso;obtain⟨i,hi,rfl⟩:=List.mem_take_iff_getElem.1 J;obtain⟨j,o⟩:=lS.1 C;exact(List.pairwise_iff_getElem.1 I) i k (by omega) j (by omega) o.symm
theorem gW {l:List ByteArray}{s:ByteArray}(h:s∉l):aH l s= -1:=by
 refine qs fun y j=>?_;cases o:(y.toList==s.toList) with
 |false=>rfl
 |true=>exact absurd (bn.1 o▸j) h
theorem aY {l:List ByteArray}{s:ByteArray}:0≤aH l s↔s∈l:=by
 constructor
 ·intro h
  by_cases hm:s∈l;·exact hm
  rw[gW hm] at h;omega
 intro h;unfold aH gt;rw[am (od.2 ⟨s,h,bn.2 rfl⟩)];omega
theorem yI {l:List ByteArray}{s:ByteArray}(h:s∈l):∃k:Nat,aH l s=k∧l[k]? =some s:=by unfold aH gt;have o:l.any (fun x=>x.toList==s.toList)=true:=od.2 ⟨s,h,bn.2 rfl⟩;rw[am o];refine⟨_,rfl,?_⟩;have j:=List.findIdx_lt_length_of_exists (p:=fun x:ByteArray=>x.toList==s.toList) (xs:=l) (od.1 o);rw[lG j];have:=List.findIdx_getElem (w:=j);rw[bn.1 this]
def dZ (p:aI):Prop:=p.Ng.length=p.up.length∧vY p.up∧1≤p.Nj∧p.Nj≤64∧(∀(i:Nat) s,p.Ng[i]? =some s→ax s=true∧cH p s=i)∧dG p p.Ni∧dG p p.Nh
structure rY where
 args:Int
 dst:Bool
 ref:Bool
 No:Bool
def bJ:Nat→Option rY
 |1=>some ⟨0,true,false,false⟩
 |2=>some ⟨2,true,false,false⟩
 |4=>some ⟨1,true,true,false⟩
 |5=>some ⟨1,true,true,false⟩
 |6=>some ⟨2,false,true,false⟩
 |7=>some ⟨-1,true,true,false⟩
 |8=>some ⟨0,true,true,false⟩
 |9=>some ⟨1,false,true,false⟩
 |10=>some ⟨1,true,true,false⟩
 |11=>some ⟨0,false,true,false⟩
 |12=>some ⟨1,false,true,true⟩
 |13=>some ⟨1,false,false,false⟩
 |_=>none
def eS (s:ByteArray)(wanted:Bool):Prop:=if wanted=true then ax s=true else s=dQ
def dy (x:aB):Prop:=(x.op≠0↔x.kind=2)∧x.op≤12∧(x.num≠0→x.kind=1)∧(∀a∈x.args,ax a=true)∧(∀a∈x.Nn,ax a=true)∧
 (x.kind=3→ax x.dst=true∧x.ref=dQ∧x.No=dQ∧x.Nn.length=x.args.length∧1≤x.Nn.length∧x.Nn.length≤64)∧
 (x.kind≠3→∃s,bJ x.kind=some s∧x.Nn=[]∧(0≤s.args→(x.args.length:Int)=s.args)∧x.args.length≤6∧eS x.dst s.dst∧eS x.ref s.ref∧eS x.No s.No)
def el (f:aR):Prop:=ax f.name=true∧(∀a∈f.params,ax a=true)∧f.params.length≤6∧1≤f.Nm.length∧f.Nm.length≤64∧∀b∈f.Nm,ax b.name=true∧∀x∈b.code,dy x
def fe (f:aR):Nat:=(f.Nm.map fun b=>b.code.length).sum
def rQ (a:Cm):Prop:=ax a.name=true∧ax a.level=true∧1≤a.size∧a.size≤256
def dr (q:cf):Prop:=q.Nk.length≤16∧q.Nl.length≤64∧(∀a∈q.Nk,rQ a)∧(∀f∈q.Nl,el f)∧(q.Nl.map fe).sum≤4096
def cQ (p:aI)(x:bI):Prop:=(x.kind=8→0≤x.ref∧x.ref<p.Ni.length)∧(x.kind=9→0≤x.ref∧x.ref<p.Nh.length)∧(x.kind=10→0≤x.ref∧x.ref<p.Ng.length)
def ly (p:aI)(b:av):Prop:=0≤b.params∧b.params≤6∧∀l∈b.Nm,∀x∈l,cQ p x
def pi (p:aI)(c:aU):Prop:=(∀a∈c.Nk,0≤a.2∧a.2<p.Ng.length)∧∀b∈c.Nl,ly p b
def qZ (main i:Int):ByteArray:=if i=main then eO else aG 102 i
def fZ (p:aI)(main:Int)(x:bI):ByteArray:=
 if x.kind=4∨x.kind=5∨x.kind=6 then aG 97 x.ref
 else if x.kind=7 then qZ main x.ref
 else if x.kind=8 then(p.Ni.getD x.ref.toNat (dQ,0)).1
 else if x.kind=9 then(p.Nh.getD x.ref.toNat (dQ,0)).1
 else if x.kind=10 then p.Ng.getD x.ref.toNat dQ
 else if x.kind=11∨x.kind=12 then aG 98 x.ref
 else dQ
def iP (p:aI)(main:Int)(x:bI):aB:=
 {kind:=x.kind,op:=x.op,dst:=if 0≤x.dst then aG 118 x.dst else dQ,ref:=fZ p main x,No:=if x.kind=12 then aG 98 x.No else dQ,
  args:=x.args.map (aG 118),Nn:=x.Nn.map (aG 98),num:=x.num,Np:=x.Np}
def du (p:aI)(main:Int)(k:Nat)(l:List bI):bM:= {name:=aG 98 k,code:=l.map (iP p main),Np:=0}
def aV (p:aI)(main:Int)(i:Nat)(b:av):aR:=
 {name:=qZ main i,params:=(List.range b.params.toNat).map fun(k:Nat)=>aG 118 k,Nm:=b.Nm.mapIdx (du p main),Np:=0}
def sn (p:aI)(i:Nat)(a:Int×Int):Cm:= {name:=aG 97 i,size:=a.1,level:=p.Ng.getD a.2.toNat dQ,Np:=0}
def cg (p:aI)(c:aU):cf:= {Nk:=c.Nk.mapIdx (sn p),Nl:=c.Nl.mapIdx (aV p c.main)}
def sx (f:aR):List ByteArray:=(f.Nm.flatMap fun b=>b.code.map fun x=>x.dst).filter fun s=>decide (s≠dQ)
def aO (f:aR):List ByteArray:=f.params++sx f
def bg (f:aR):List ByteArray:=f.Nm.map fun b=>b.name
def ee (q:cf):List ByteArray:=q.Nl.map fun f=>f.name
def cS (q:cf):List ByteArray:=q.Nk.map fun a=>a.name
def cK (p:aI)(q:cf)(f:aR)(x:aB):Int:=
 if x.kind=4∨x.kind=5∨x.kind=6 then aH (cS q) x.ref
 else if x.kind=7 then aH (ee q) x.ref
 else if x.kind=8 then gA p.Ni x.ref
 else if x.kind=9 then gA p.Nh x.ref
 else if x.kind=10 then cH p x.ref
 else if x.kind=11∨x.kind=12 then aH (bg f) x.ref
 else 0
def cR (f:aR)(x:aB):Int:=if x.kind=12 then aH (bg f) x.No else 0
def pg (p:aI)(q:cf)(f:aR)(x:aB):bI:=
 {kind:=x.kind,op:=x.op,dst:=if x.dst=dQ then-1 else aH (aO f) x.dst,ref:=cK p q f x,No:=cR f x,
  args:=x.args.map (aH (aO f)),Nn:=x.Nn.map (aH (bg f)),num:=x.num,Np:=x.Np}
def gy (p:aI)(q:cf)(f:aR):av:= {params:=f.params.length,vars:=(aO f).length,Nm:=f.Nm.map fun b=>b.code.map (pg p q f)}
def iu (p:aI)(q:cf):aU:= {Nk:=q.Nk.map fun a=>(a.size,cH p a.level),Nl:=q.Nl.map (gy p q),main:=aH (ee q) eO}
def kM (p:aI)(q:cf)(f:aR)(x:aB):Prop:=0≤cK p q f x∧0≤cR f x∧(∀a∈x.args,a∈aO f)∧(∀a∈x.Nn,a∈bg f)∧
 (x.kind=7→∀g,q.Nl[(cK p q f x).toNat]? =some g→x.args.length=g.params.length)
def kv (kinds:List Nat):Prop:=kinds≠[]∧(∀(i:Nat) k,kinds[i]? =some k→(11≤k↔i+1=kinds.length))∧∀(i:Nat),kinds[i+1]? =some 3→kinds[i]? =some 3
def lz (p:aI)(q:cf)(f:aR):Prop:=(aO f).Nodup∧(bg f).Nodup∧∀b∈f.Nm,kv (b.code.map fun x=>x.kind)∧∀x∈b.code,kM p q f x
def lA (p:aI)(q:cf):Prop:=(cS q).Nodup∧(∀a∈q.Nk,a.level∈p.Ng)∧(ee q).Nodup∧eO∈ee q∧(∀f∈q.Nl,f.name=eO→f.params=[])∧∀f∈q.Nl,lz p q f
def gI (x:bI):bI:= {x with Np:=0}
def iQ (x y:bI):Prop:=gI x=gI y
def LM (a b:aU):Prop:=a.main=b.main∧a.Nk=b.Nk∧a.Nl.map (fun f=>(f.params,f.vars,f.Nm.map fun l=>l.map gI))=b.Nl.map (fun f=>(f.params,f.vars,f.Nm.map fun l=>l.map gI))
def eN (p:aI)(c:aU):Prop:=dZ p∧c.Nl.length≤64∧c.Nk.length≤16∧pi p c∧dr (cg p c)∧lA p (cg p c)∧LM (iu p (cg p c)) c
def mX:Nat→Option (Int×Bool×Bool×Bool)
 |1=>some (0,true,false,false)
 |2=>some (2,true,false,false)
 |3=>some (8,true,false,false)
 |4=>some (1,true,true,false)
 |5=>some (1,true,true,false)
 |6=>some (2,false,true,false)
 |7=>some (9,true,true,false)
 |8=>some (0,true,true,false)
 |9=>some (1,false,true,false)
 |10=>some (1,true,true,false)
 |11=>some (0,false,true,false)
 |12=>some (1,false,true,true)
 |13=>some (1,false,false,false)
 |_=>none
def jE (p:aI)(c:aU)(b:av)(kind:Nat):Nat:=
 if kind=4∨kind=5∨kind=6 then c.Nk.length else if kind=7 then c.Nl.length else if kind=8 then p.Ni.length else if kind=9 then p.Nh.length else if kind=10 then p.Ng.length else b.Nm.length
def ul (p:aI)(c:aU)(b:av)(next:Int)(x:bI):Prop:=∃n dst ref No,mX x.kind=some (n,dst,ref,No)∧x.dst=(if dst=true then next else-1)∧(ref=false→x.ref=0)∧(No=false→x.No=0)∧
 (x.kind≠1→x.num=0)∧(x.kind≠2→x.op=0)∧(x.kind=2→1≤x.op∧x.op≤12)∧(ref=true→0≤x.ref∧x.ref<jE p c b x.kind)∧(No=true→0≤x.No∧x.No<b.Nm.length)∧
 (if x.kind=3 then x.Nn.length=x.args.length∧1≤x.Nn.length∧x.Nn.length≤64 else x.Nn=[]∧(x.args.length:Int)=if x.kind=7 then(c.Nl.getD x.ref.toNat ⟨0,0,[]⟩).params else n)∧
 (∀a∈x.args,0≤a∧a<b.vars)∧∀a∈x.Nn,0≤a∧a<b.Nm.length
def gL (l:List bI):Nat:=(l.filter fun x=>match mX x.kind with|some (_,d,_,_)=>d|none=>false).length
def ox (p:aI)(c:aU)(b:av):Prop:=0≤b.params∧b.params≤6∧1≤b.Nm.length∧b.Nm.length≤64∧(∀l∈b.Nm,kv (l.map fun x=>x.kind))∧
 (∀(k:Nat) x,b.Nm.flatten[k]? =some x→ul p c b (b.params+gL (b.Nm.flatten.take k)) x)∧b.vars=b.params+gL b.Nm.flatten
def nA (b:av):Nat:=b.Nm.flatten.length
def eT (p:aI)(c:aU):Prop:=dZ p∧c.Nk.length≤16∧c.Nl.length≤64∧0≤c.main∧c.main<c.Nl.length∧(c.Nl.getD c.main.toNat ⟨0,0,[]⟩).params=0∧
 (∀a∈c.Nk,1≤a.1∧a.1≤256∧0≤a.2∧a.2<p.Ng.length)∧(∀b∈c.Nl,ox p c b)∧(c.Nl.map nA).sum≤4096
def dN (s:ByteArray)(i:Nat):Nat:=(s.get! i).toNat
def ql (c:Nat):Bool:=c==32||c==9||c==10
def gm (s:ByteArray):Nat→Nat→Nat
 |0,p=>p
 |f+1,p=>if p<s.size then(if ql (dN s p) then gm s f (p+1) else p) else p
def wV (s:ByteArray):Nat→Nat→Nat
 |0,p=>p
 |f+1,p=>if p<s.size then(if fj (Utf8.decode s p).1||ey (Utf8.decode s p).1 then wV s f (p+(Utf8.decode s p).2) else p) else s.size
def oT (s:ByteArray):Nat:=wV s (s.size+1) 0
def mj (s:ByteArray):Nat→Nat→Nat→Option Nat
 |0,_,_=>none
 |f+1,p,n=>if p<s.size then(if ey (Utf8.decode s p).1 then mj s f (p+(Utf8.decode s p).2) (10*n+((Utf8.decode s p).1-48)) else none) else some n
def fM (s:ByteArray):Option Nat:=if s.size=0∨19<s.size∨(dN s 0=48∧1<s.size) then none else(mj s (s.size+1) 0 0).filter fun n=>decide (n<9223372036854775808)
def zX (c:Nat):Bool:=c==40||c==41||c==123||c==125||c==91||c==93||c==44||c==58||c==61
def ml (s:ByteArray):Nat:=if fu s then 2 else if gE s then 1 else if(fM s).isSome then 3 else 0
structure pj where
 kind:Nat
 beg:Nat
 fin:Nat
def wN (s:ByteArray)(at':Nat):Option (Option pj):=
 let p:=gm s (s.size+1) at'
 if p<s.size then
  if zX (dN s p) then some (some ⟨4,p,p+1⟩)
  else if dN s p=45 then none
  else
   let n:=oT (s.extract p s.size)
   if ml (s.extract p (p+n))=0 then none else some (some ⟨ml (s.extract p (p+n)),p,p+n⟩)
 else some none
def fO (s:ByteArray):Nat→Nat→Option (List pj)
 |0,_=>none
 |f+1,at'=>match wN s at' with
  |none=>none
  |some none=>some []
  |some (some t)=>(fO s f t.fin).map fun l=>t::l
def dD (s:ByteArray):Bool:=s.data.toList.all fun b=>decide (b.toNat<128)&&b !=35
structure aL where
 s:ByteArray
 l:List pj
def aL.txt (p:aL)(k:Nat):ByteArray:=match p.l[k]? with|some t=>p.s.extract t.beg t.fin|none=>dQ
def aL.is (p:aL)(k kind:Nat):Bool:=match p.l[k]? with|some t=>t.kind==kind|none=>false
def aL.pos (p:aL)(k:Nat):Nat:=match p.l[k]? with|some t=>t.beg|none=>p.s.size
def bs (l:List UInt8):ByteArray:=⟨l.toArray⟩
def MB:ByteArray:=bs [40]
def LS:ByteArray:=bs [41]
def MK:ByteArray:=bs [123]
def Hy:ByteArray:=bs [125]
def MC:ByteArray:=bs [91]
def MD:ByteArray:=bs [93]
def LR:ByteArray:=bs [44]
def Kb:ByteArray:=bs [58]
def MJ:ByteArray:=bs [61]
def sq:ByteArray:=bs [99,111,110,115,116]
def EY:ByteArray:=bs [112,104,105]
def Kc:ByteArray:=bs [106,117,109,112]
def BA:ByteArray:=bs [98,114,97,110,99,104]
def BB:ByteArray:=bs [114,101,116,117,114,110]
def MX:ByteArray:=bs [102,110]
def jJ (p:aL)(kind k:Nat):Option (ByteArray×Nat):=if p.is k kind then some (p.txt k,k+1) else none
def mn (p:aL)(s:ByteArray)(k:Nat):Option Nat:=if p.txt k=s then some (k+1) else none
def ry (p:aL):Nat→Nat→Nat→List ByteArray→List ByteArray→Option (List ByteArray×List ByteArray×Nat)
 |0,_,_,_,_=>none
 |f+1,n,k,fr,ar=>if p.is k 1=true∧64≤n then none else do
  let(a,k)←jJ p 1 k
  let k←mn p Kb k
  let(b,k)←jJ p 1 k
  if p.txt k=LR then ry p f (n+1) (k+1) (fr++[a]) (ar++[b]) else some (fr++[a],ar++[b],k)
def ui:aB:=⟨0,0,dQ,dQ,dQ,[],[],0,0⟩
def qI (p:aL)(x:aB)(k:Nat):Option (aB×Nat):=
 if p.txt k=sq then do
  let(s,k)←jJ p 3 (k+1)
  let n←fM s
  some ({x with kind:=1,num:=n},k)
 else if p.txt k=EY then do
  let k←mn p MC (k+1)
  let(fr,ar,k)←ry p 65 0 k [] []
  let k←mn p MD k
  some ({x with kind:=3,Nn:=fr,args:=ar},k)
 else none
def LP (p:aL)(x:aB)(k:Nat):Option (aB×Nat):=
 if p.txt k=Kc then do
  let(s,k)←jJ p 1 (k+1)
  some ({x with kind:=11,ref:=s},k)
 else if p.txt k=BA then do
  let(a,k)←jJ p 1 (k+1)
  let(s,k)←jJ p 1 k
  let(t,k)←jJ p 1 k
  some ({x with kind:=12,args:=[a],ref:=s,No:=t},k)
 else if p.txt k=BB then do
  let(a,k)←jJ p 1 (k+1)
  some ({x with kind:=13,args:=[a]},k)
 else none
def mP (p:aL)(k:Nat):Option (aB×Nat):=
 if p.is k 1 then(if p.txt (k+1)=MJ then qI p {ui with dst:=p.txt k,Np:=p.pos k} (k+2) else none)
 else LP p {ui with Np:=p.pos k} k
def ig (p:aL)(k:Nat):Bool:=p.is k 1&&decide (p.txt (k+1)=Kb)
def qX (p:aL):Nat→Nat→List aB→Option (List aB×Nat)
 |0,_,_=>none
 |f+1,k,l=>if p.txt k=Hy∨ig p k=true then some (l,k) else do
  let(x,k)←mP p k
  qX p f k (l++[x])
def lF (p:aL)(k:Nat):Option (bM×Nat):=do
 let(s,j)←jJ p 1 k
 let j←mn p Kb j
 let(l,j)←qX p (p.l.length+1) j []
 some (⟨s,l,p.pos k⟩,j)
def jV (p:aL):Nat→Nat→List bM→Option (List bM×Nat)
 |0,_,_=>none
 |f+1,k,l=>if ig p k=true then(if 64≤l.length then none else do
   let(b,k)←lF p k
   jV p f k (l++[b])) else some (l,k)
def uY (p:aL)(k:Nat):Option (aR×Nat):=do
 let(s,j)←jJ p 1 (k+1)
 let j←mn p MB j
 let j←mn p LS j
 let j←mn p MK j
 let(b,j)←lF p j
 let(l,j)←jV p (p.l.length+1) j [b]
 let j←mn p Hy j
 some (⟨s,[],l,p.pos k⟩,j)
def mM (p:aL):Nat→Nat→List aR→Option (List aR)
 |0,_,_=>none
 |f+1,k,l=>if k<p.l.length then(if p.txt k=MX∧l.length<64 then do
   let(x,k)←uY p k
   mM p f k (l++[x]) else none) else some l
def rl (s:ByteArray):Option cf:=if s.size≤65536∧dD s=true then do
    let l←fO s (s.size+1) 0
    let fs←mM ⟨s,l⟩ (l.length+1) 0 []
    some ⟨[],fs⟩
 else none
theorem jB (s:ByteArray)(i:Nat)(h:i<s.size):dN s i=(s[i]' h).toNat:=by unfold dN;rw[show s.get! i=s[i]' h by simpa using get_at s i h]
theorem lm {s:ByteArray}(h:dD s=true){i:Nat}(hi:i<s.size):dN s i<128∧dN s i≠35∧Utf8.decode s i=(dN s i,1):=by have j:=List.all_eq_true.1 h (s[i]' hi) (by show s.data[i]∈_;exact Array.getElem_mem_toList hi);simp only[dX,eq,bne_iff_ne] at j;rw[jB s i hi];refine⟨j.1,fun e=>j.2 ?_,decode_ascii s i hi j.1⟩;exact UInt8.toNat_inj.1 (by rw[e];rfl)
theorem yS {s:ByteArray}{f p:Nat}(h:¬p<s.size):wV s (f+1) p=s.size:=by simp[wV,h]
theorem vK {s:ByteArray}{f p:Nat}(h:p<s.size):wV s (f+1) p=if fj (Utf8.decode s p).1||ey (Utf8.decode s p).1 then wV s f (p+(Utf8.decode s p).2) else p:=by simp[wV,h]
theorem Hk (s:ByteArray)(w:World):Calls prog 191 #[.string s] w fun e w'=>e=.returned (.int .i64 (oT s))∧aa All w w':=by
 have hit:(w.iter s 0).heap[w.heap.size]? =some (.stringIter s 0):=World.iter_heap w s 0;have a8:aa All w (w.iter s 0):=(aa.refl _ w).alloc _;have H0:=J2 hit a8;clear hit a8;go_enter func191,ntmps191;go_wp2;go_loopg [] (s.size+1) (fun g wr=>∃pos f:Nat,g=s.size+1-pos∧s.size+1≤pos+f∧1≤f∧wr.heap[w.heap.size]? =some (.stringIter s pos)∧aa All w wr∧wV s f pos=oT s);·exact⟨0,s.size+1,by omega,by omega,by omega,H0.1,H0.2,rfl⟩
 obtain⟨pos,f,rfl,hf,b4,I,o,C⟩:=hrel;by_cases J:pos<s.size;·(
 obtain⟨f,rfl⟩:∃f',f=f'+1:=⟨f-1,by omega⟩;rw[vK J] at C;have b0:=fun ty=>pR (P:=prog) wr w.heap.size s pos ty I J;have b3:=sv s pos J;have hB:w.heap.size<wr.heap.size:=by
  rcases Nat.lt_or_ge w.heap.size wr.heap.size with h|h;·exact h
  rw[gT h] at I;cases I
 have b1:aa All w (dI wr w.heap.size s (pos+(Utf8.decode s pos).2)):=gG o (.inr (bj _));have a1:=jH (W:=wr) (s:=s) (p:=pos+(Utf8.decode s pos).2) hB;have b2:(dI wr w.heap.size s (pos+(Utf8.decode s pos).2)).heap.size=wr.heap.size:=by simp[dI]
 have HQ:=J3 b1 a1 b2;clear b1 a1 b2 I o;generalize Utf8.decode s pos=rk at*;obtain⟨r,k⟩:=rk;have a6:=fun W=>sN (r:Int) W;have a7:=fun W=>nE (r:Int) W;simp only at C b0 b3 HQ⊢;generalize fj (r:Int)=L at*;generalize ey (r:Int)=D at*;have HC:=J2 a6 a7;clear a6 a7;cases L with
 |true=>
  go_wp2_with (go_at_call 211;refine(HC.1 _).mono ?_;rintro e w1 ⟨rfl,j⟩;have R:=(show w1.heap[w.heap.size]? =some (.stringIter s (pos+k)) by rw[j.block w.heap.size (by have:=HQ.2.2;omega) trivial];exact HQ.2.1);have Y:=J2 (HQ.1.trans j) R;clear j R);go_roundg (s.size+1-(pos+k));·exact⟨pos+k,f,rfl,by omega,by omega,Y.2,Y.1,by simpa using C⟩
  omega
 |false=>
  cases D with
  |true=>
   go_wp2_with first
    |(go_at_call 211;refine(HC.1 _).mono ?_;rintro e w1 ⟨rfl,j⟩;have R:=(show w1.heap[w.heap.size]? =some (.stringIter s (pos+k)) by rw[j.block w.heap.size (by have:=HQ.2.2;omega) trivial];exact HQ.2.1);have Y:=J2 (HQ.1.trans j) R;clear j R)
    |(go_at_call 183;refine(HC.2 _).mono ?_;rintro e w2 ⟨rfl,rfl⟩)
   go_roundg (s.size+1-(pos+k));·exact⟨pos+k,f,rfl,by omega,by omega,Y.2,Y.1,by simpa using C⟩
   omega
  |false=>
   go_wp2_with first
    |(go_at_call 211;refine(HC.1 _).mono ?_;rintro e w1 ⟨rfl,j⟩;have Y:=oH (HQ.1.trans j);clear j)
    |(go_at_call 183;refine(HC.2 _).mono ?_;rintro e w2 ⟨rfl,rfl⟩)
   go_ret;exact⟨by rw[←C];simp,Y.out⟩)
 obtain⟨f,rfl⟩:∃f',f=f'+1:=⟨f-1,by omega⟩;rw[yS J] at C;have b0:=fun ty=>mT (P:=prog) wr w.heap.size s pos ty I J;have Y:=oH o;clear o I;go_wp2;go_ret;exact⟨by rw[←C];rfl,Y.out⟩
theorem zg (s:ByteArray)(w:World)(hp:dD s=true):Calls prog 67 #[.string s] w fun e w'=>e=.returned (.int .i64 (-1))∧aa All w w':=by
 have hit:(w.iter s 0).heap[w.heap.size]? =some (.stringIter s 0):=World.iter_heap w s 0;have R:aa All w (w.iter s 0):=(aa.refl _ w).alloc _;have H0:=J2 hit R;clear hit R;go_enter func67,ntmps67;go_wp2;go_loopg [] (s.size+1) (fun g wr=>∃pos:Nat,g=s.size+1-pos∧wr.heap[w.heap.size]? =some (.stringIter s pos)∧aa All w wr);·exact⟨0,by omega,H0.1,H0.2⟩
 obtain⟨pos,rfl,o,j⟩:=hrel;by_cases I:pos<s.size;·(
 have J:=fun ty=>pR (P:=prog) wr w.heap.size s pos ty o I;obtain⟨h1,_,h3⟩:=lm hp I;have hB:w.heap.size<wr.heap.size:=by
  rcases Nat.lt_or_ge w.heap.size wr.heap.size with h|h;·exact h
  rw[gT h] at o;cases o
 rw[h3] at J;simp only at J;have Y:aa All w (dI wr w.heap.size s (pos+1)):=gG j (.inr (bj _));have C:=jH (W:=wr) (s:=s) (p:=pos+1) hB;have HQ:=J2 Y C;clear Y C o j h3 hp;generalize dN s pos=r at*;have hr:((r:Int)==65533)=false:=by rw[bE];omega
 go_wp2;go_roundg (s.size+1-(pos+1));·exact⟨pos+1,rfl,HQ.2,HQ.1⟩
 omega)
 have J:=fun ty=>mT (P:=prog) wr w.heap.size s pos ty o I;have HK:=oH j;clear j o;go_wp2;go_ret;exact⟨rfl,HK.out⟩
theorem vQ {s:ByteArray}{f p:Nat}(h:¬p<s.size):gm s (f+1) p=p:=by simp[gm,h]
theorem tM {s:ByteArray}{f p:Nat}(h:p<s.size):gm s (f+1) p=if ql (dN s p) then gm s f (p+1) else p:=by simp[gm,h]
theorem zc {s:ByteArray}:∀ {f p:Nat},p≤s.size→gm s f p≤s.size
 |0,_,h=>h
 |f+1,p,h=>by
  by_cases j:p<s.size
  ·rw[tM j];split;·exact zc j
   exact h
  rw[vQ j];exact h
theorem Ei (s:ByteArray)(p:Nat)(w:World)(R:dD s=true)(a1:p≤s.size)(hs:s.size≤65536):Calls prog 189 #[.string s,.int .i64 p] w fun e w'=>e=.returned (.int .i64 (gm s (s.size+1) p))∧w=w':=by
 go_enter func189,ntmps189;go_wp2;go_loopg [1] (s.size+1-p) (fun g m wr=>∃q f:Nat,g=s.size+1-q∧m=.int .i64 q∧q≤s.size∧s.size+1≤q+f∧w=wr∧gm s f q=gm s (s.size+1) p);·exact⟨p,s.size+1,rfl,rfl,a1,by omega,rfl,rfl⟩
 obtain⟨q,f,rfl,rfl,hq,hf,rfl,o⟩:=hrel;obtain⟨f,rfl⟩:∃f',f=f'+1:=⟨f-1,by omega⟩;by_cases j:q<s.size;·(
 obtain⟨Y,h2,_⟩:=lm R j;rw[tM j] at o;rw[jB s q j] at Y h2 o;have go:∀b:Nat,ql b=true→(if ql b=true then gm s f (q+1) else q)=gm s (s.size+1) p→gm s f (q+1)=gm s (s.size+1) p:=fun b hb h=>by rwa [am hb] at h
 have HG:=oH go;clear go;have e0:((((s[q]' j).toNat:Nat):Int)==35)=false:=by rw[bE];omega
 by_cases C:(s[q]' j).toNat=32
 ·have J:=oH (HG.out _ (by rw[C];rfl) o);have e1:((((s[q]' j).toNat:Nat):Int)==32)=true:=by rw[cX];omega
  clear o C Y h2 R;go_wp2;go_roundg (s.size+1-(q+1));·exact⟨q+1,f,rfl,by go_num,by omega,by omega,rfl,J.out⟩
  omega
 have e1:((((s[q]' j).toNat:Nat):Int)==32)=false:=by rw[bE];omega
 by_cases h9:(s[q]' j).toNat=9
 ·have J:=oH (HG.out _ (by rw[h9];rfl) o);have e2:((((s[q]' j).toNat:Nat):Int)==9)=true:=by rw[cX];omega
  clear o C h9 Y h2 R;go_wp2;go_roundg (s.size+1-(q+1));·exact⟨q+1,f,rfl,by go_num,by omega,by omega,rfl,J.out⟩
  omega
 have e2:((((s[q]' j).toNat:Nat):Int)==9)=false:=by rw[bE];omega
 by_cases I:(s[q]' j).toNat=10
 ·have J:=oH (HG.out _ (by rw[I];rfl) o);have e3:((((s[q]' j).toNat:Nat):Int)==10)=true:=by rw[cX];omega
  clear o C h9 I Y h2 R;go_wp2;go_roundg (s.size+1-(q+1));·exact⟨q+1,f,rfl,by go_num,by omega,by omega,rfl,J.out⟩
  omega
 have e3:((((s[q]' j).toNat:Nat):Int)==10)=false:=by rw[bE];omega
 have hn:¬ql (s[q]' j).toNat=true:=by simp[ql,C,h9,I]
 rw[ah hn] at o;have J:=oH o;clear o C h9 I Y h2 R hn;go_wp2;go_ret;exact⟨by rw[←J.out];rfl,rfl⟩)
 rw[vQ j] at o;go_wp2;go_ret;exact⟨by rw[←o];rfl,rfl⟩
section
open Go.RowKit Go.WideMaps Go.Maps
theorem sV:Keyed prog 9:=string_keyed underlying9
theorem Gl (w:World):(zeroValue 3).run prog w=.ok (.int .i64 0) w:=by kernel_rfl
def wI (s:ByteArray):Lit:=.string s.data.toList
theorem yr {s t:ByteArray}(h:wI s=wI t):s=t:=by unfold wI at h;injection h with h;cases s;cases t;congr 1;exact Array.toList_inj.1 h
theorem sP (s:ByteArray):WideAt.IsKeyLit (wI s):=trivial
theorem mp {l:List ByteArray}{s:ByteArray}(h:s∉l):aH (l++[s]) s=l.length:=by
 refine pJ (k:=l.length) (x:=s) (by rw[jQ (bj _),Nat.sub_self];rfl) (bn.2 rfl) fun y j=>?_;rw[List.take_left] at j;cases o:(y.toList==s.toList) with
 |false=>rfl
 |true=>exact absurd (bn.1 o▸j) h
theorem ov {l:List ByteArray}{s t:ByteArray}(h:t≠s):aH (l++[s]) t=aH l t:=by
 by_cases j:t∈l;·have I:l.any (fun x=>x.toList==t.toList)=true:=od.2 ⟨t,j,bn.2 rfl⟩;have o:(l++[s]).any (fun x=>x.toList==t.toList)=true:=od.2 ⟨t,dV.2 (.inl j),bn.2 rfl⟩;have C:=List.findIdx_lt_length_of_exists (p:=fun x:ByteArray=>x.toList==t.toList) (xs:=l) (od.1 I);unfold aH gt;rw[am I,am o,List.findIdx_append,am C]
 rw[gW j,gW fun h'=>?_];rcases dV.1 h' with h'|h';·exact j h'
 exact h (ce.1 h')
structure Kt (D:DataW Unit)(l:List ByteArray):Prop where
 tidy:Tidy D
 size:Maps.size D=l.length
 has:∀s,Maps.has D (wI s)=decide (0≤aH l s)
 val:∀s,D.atKey (wI s) (.lit (.int .i64 0))=.lit (.int .i64 (max (aH l s) 0))
theorem Kt.nil:Kt (.map []) []:=by
 refine⟨tidy_empty,rfl,fun s=>?_,fun s=>?_⟩;·rw[gW (by simp)];rfl
 rw[gW (by simp)];rfl
theorem Kt.put {D:DataW Unit}{l:List ByteArray}(h:Kt D l){s:ByteArray}(C:aH l s<0):Kt (D.put (wI s) (.lit (.int .i64 l.length))) (l++[s]):=by
 have o:s∉l:=fun hm=>by have:=aY.2 hm;omega
 refine⟨h.tidy.put (sP s) _,?_,fun t=>?_,fun t=>?_⟩;·rw[size_put h.tidy,h.has s,cN (by omega),h.size];simp
 ·by_cases e:t=s
  ·subst e;rw[has_put_same h.tidy.isMap (sP t),mp o];exact(be (by omega)).symm
  rw[has_put_other fun j=>e (yr j),ov e,h.has t]
 by_cases e:t=s
 ·subst e
  rw[atKey_put_same h.tidy.isMap (sP t),mp o];congr 2;omega
 rw[atKey_put_other fun j=>e (yr j),ov e,h.val t]
def bN (w:World)(b:Nat)(l:List ByteArray):Prop:=∃D,w.ownsMap prog 9 (plainElem prog 3) b l.length D∧Kt D l
section
variable {w w':World} {b:Nat} {l:List ByteArray}
theorem bN.new (w:World):bN (w.alloc (.map #[] 0)) w.heap.size []:=⟨_,World.ownsMap_made _ _ _ _,Kt.nil⟩
theorem bN.lt (h:bN w b l):b<w.heap.size:=by obtain⟨D,h,_⟩:=h;exact h.lt
theorem bN.keep {S:Nat→Prop}(h:bN w b l)(k:aa S w w')(o:S b):bN w' b l:=by obtain⟨D,h,C⟩:=h;have j:=h.lt;obtain⟨es,clock,I,r⟩:=h;exact⟨D,⟨es,clock,(k.block b j o).trans I,r⟩,C⟩
theorem bN.look (h:bN w b l){s:ByteArray}(R:s.size≤maxLen):(Instr.lookup 156 (.map (some b)) (.string s) true).run prog w=.ok (.tuple #[.int .i64 (max (aH l s) 0),.bool (decide (0≤aH l s))]) w:=by obtain⟨D,h,C⟩:=h;obtain⟨v,ps,o,Y⟩:=h.look_ok sV underlying156 (Gl w) (plainElem_int underlying3 (by decide)) (keyOf_string_mk underlying9 R);obtain⟨c,rfl,hc,_⟩:=plainElem_int_inv underlying3 Y;have j:=congrArg Prod.fst hc;have I:=C.val s;have J:=C.has s;unfold wI at I J;rw[I] at j;rw[J] at o;injection j with j;injection j with _ j;rw[←j] at o;exact o
theorem bN.get (h:bN w b l){s:ByteArray}(I:s.size≤maxLen):(Instr.lookup 156 (.map (some b)) (.string s) false).run prog w=.ok (.int .i64 (max (aH l s) 0)) w:=by obtain⟨D,h,J⟩:=h;obtain⟨c,j,o,_⟩:=h.lookup_int sV underlying156 underlying3 (Gl w) (keyOf_string_mk underlying9 I);have C:=J.val s;unfold wI at C;rw[C] at o;injection o with o;injection o with _ o;rw[←o] at j;exact j
theorem bN.len (h:bN w b l)(ty:TypeId):(Builtin.len_ #[156] ty #[.map (some b)]).run prog w=.ok (.int .i64 l.length) w:=by obtain⟨D,h,j⟩:=h;rw[h.len underlying156,j.size]
theorem fR {ops:Array Oper}{rest:List Oper}{o:Oper}{a:Act}{Q:Exit→Act→World→Prop}(C:o.guard=none)(m x v:Operand)(j:o.op=Op.mapUpdate 156 m x v)
 (b:Nat) (l:List ByteArray) (hm:a.eval m=.map (some b)) (h:bN w b l) (hl:l.length<1000000) (s:ByteArray) (I:a.eval x=.string s) (J:a.eval v=.int .i64 l.length) (R:s.size≤maxLen) (Y:aH l s<0)
 (hK:∀w',bN w' b (l++[s])→w.grownBy w' (some b)→wpList prog ops Q rest (a.put o.dst undef) w'):wpList prog ops Q (o::rest) a w:=by
 obtain⟨D,hD,hd⟩:=h
 refine wpList_mapUpdate_own (H:=Unit) w C m x v 156 j 9 3 sV underlying156 _ b l.length D hm hD (by unfold maxLen;omega) _ _ _ I J (keyOf_string_mk underlying9 R) _ []
  (plainElem_int underlying3 (by simp[Lit.wf,IntKind.min,IntKind.max,IntKind.signed,IntKind.bits];omega)) fun w' h1 h2=>hK w' ⟨_,by rw[eV];exact h1,hd.put Y⟩ h2
end
end
structure Cp (x:bI):Prop where
 kind:x.kind<256
 op:x.op<256
 dst:aS x.dst
 ref:aS x.ref
 No:aS x.No
 num:aS x.num
 Np:aS x.Np
def Kw:aT bI:=fun S w cs x=>∃a f,cs=[.int .u8 x.kind,.int .u8 x.op,.int .i64 x.dst,.int .i64 x.ref,.int .i64 x.No,a,f,.int .i64 x.num,.int .i64 x.Np]∧bu S w a x.args∧bu S w f x.Nn∧Cp x
theorem sD:aT.Good Kw:=by
 constructor
 ·rintro S w I cs x k ⟨a,f,e,j,o,C⟩
  exact⟨a,f,e,ae.keep k j,ae.keep k o,C⟩
 rintro S T w cs x k ⟨a,f,e,j,o,C⟩;exact⟨a,f,e,ae.wide k j,ae.wide k o,C⟩
abbrev xn:=qT 9 96 Kw
theorem ez:cM.Good xn:=ii sD
abbrev fz:=Sl 24 xn
theorem cu:cM.Good fz:=qp ez
def uz:aT av:=fun S w cs b=>∃v,cs=[.int .i64 b.params,.int .i64 b.vars,v]∧fz S w v b.Nm∧aS b.params∧aS b.vars
theorem ld:aT.Good uz:=by
 constructor
 ·rintro S w C cs x k ⟨v,e,j,o⟩
  exact⟨v,e,cu.keep k j,o⟩
 rintro S T w cs x k ⟨v,e,j,o⟩;exact⟨v,e,cu.wide k j,o⟩
abbrev qd:=qT 3 40 uz
theorem cE:cM.Good qd:=ii ld
def xt:aT (Int×Int):=fun _ _ cs x=>cs=[.int .i64 x.1,.int .i64 x.2]∧aS x.1∧aS x.2
theorem iv:aT.Good xt:=⟨fun _ h=>h,fun _ h=>h⟩
abbrev dJ:=qT 2 16 xt
theorem cr:cM.Good dJ:=ii iv
def mu (S:Nat→Prop)(w:World)(v:Value)(c:aU):Prop:=∃a f,v=.agg #[a,f,.int .i64 c.main]∧dJ S w a c.Nk∧qd S w f c.Nl∧aS c.main
theorem fJ:cM.Good mu:=by
 constructor
 ·rintro S w I v c k ⟨a,f,e,j,o,C⟩
  exact⟨a,f,e,cr.keep k j,cE.keep k o,C⟩
 rintro S T w v c k ⟨a,f,e,j,o,C⟩;exact⟨a,f,e,cr.wide k j,cE.wide k o,C⟩
structure qR (x:aB):Prop where
 kind:x.kind<256
 op:x.op<256
 num:aS x.num
 Np:aS x.Np
 dst:x.dst.size≤140737488355328
 ref:x.ref.size≤140737488355328
 No:x.No.size≤140737488355328
 args:∀s∈x.args,s.size≤140737488355328
 Nn:∀s∈x.Nn,s.size≤140737488355328
def rV:aT aB:=fun S w cs x=>∃a f,cs=[.int .u8 x.kind,.int .u8 x.op,.string x.dst,.string x.ref,.string x.No,a,f,.int .i64 x.num,.int .i64 x.Np]∧cC S w a x.args∧cC S w f x.Nn∧qR x
theorem fS:aT.Good rV:=by
 constructor
 ·rintro S w I cs x k ⟨a,f,e,j,o,C⟩
  exact⟨a,f,e,ap.keep k j,ap.keep k o,C⟩
 rintro S T w cs x k ⟨a,f,e,j,o,C⟩;exact⟨a,f,e,ap.wide k j,ap.wide k o,C⟩
abbrev Ii:=qT 9 120 rV
theorem fK:cM.Good Ii:=ii fS
def gO:aT bM:=fun S w cs b=>∃v,cs=[.string b.name,v,.int .i64 b.Np]∧Ii S w v b.code∧aS b.Np∧b.name.size≤140737488355328
theorem cn:aT.Good gO:=by
 constructor
 ·rintro S w C cs x k ⟨v,e,j,o⟩
  exact⟨v,e,fK.keep k j,o⟩
 rintro S T w cs x k ⟨v,e,j,o⟩;exact⟨v,e,fK.wide k j,o⟩
abbrev ms:=qT 3 48 gO
theorem dg:cM.Good ms:=ii cn
def mw:aT aR:=fun S w cs f=>∃p v,cs=[.string f.name,p,v,.int .i64 f.Np]∧cC S w p f.params∧ms S w v f.Nm∧aS f.Np∧f.name.size≤140737488355328∧∀s∈f.params,s.size≤140737488355328
theorem eE:aT.Good mw:=by
 constructor
 ·rintro S w I cs x k ⟨p,v,e,j,o,C⟩
  exact⟨p,v,e,ap.keep k j,dg.keep k o,C⟩
 rintro S T w cs x k ⟨p,v,e,j,o,C⟩;exact⟨p,v,e,ap.wide k j,dg.wide k o,C⟩
abbrev Br:=qT 4 72 mw
theorem gd:cM.Good Br:=ii eE
def Ey:aT Cm:=fun _ _ cs a=>cs=[.string a.name,.int .i64 a.size,.string a.level,.int .i64 a.Np]∧aS a.size∧aS a.Np∧a.name.size≤140737488355328∧a.level.size≤140737488355328
theorem pH:aT.Good Ey:=⟨fun _ h=>h,fun _ h=>h⟩
abbrev Ko:=qT 4 48 Ey
theorem kZ:cM.Good Ko:=ii pH
def xw (S:Nat→Prop)(w:World)(v:Value)(q:cf):Prop:=∃a f,v=.agg #[a,f]∧Ko S w a q.Nk∧Br S w f q.Nl
theorem lf:cM.Good xw:=by
 constructor
 ·rintro S w C v c k ⟨a,f,e,j,o⟩
  exact⟨a,f,e,kZ.keep k j,gd.keep k o⟩
 rintro S T w v c k ⟨a,f,e,j,o⟩;exact⟨a,f,e,kZ.wide k j,gd.wide k o⟩
theorem bh {α:Type}{n bw:Nat}{E:aT α}{S:Nat→Prop}{w:World}{A:Option Addr}{m c:Nat}{l:List α}(h:qT n bw E S w (.slice A m c) l){i:Nat}{x:α}(hi:l[i]? =some x):
 ∃b o cs,A=some ⟨b,o,none⟩∧S b∧cs.length=n∧(∀(j:Nat) c,cs[j]? =some c→w.cell? ⟨b,o+i*n+j,none⟩=some c)∧E S w cs x:=by
 obtain⟨a,cap,C,_,_,_,h⟩:=h;injection C with I J R;subst I;exact h i _ hi
theorem de {α:Type}{bw:Nat}{E:cM α}{S:Nat→Prop}{w:World}{A:Option Addr}{m c:Nat}{l:List α}(h:Sl bw E S w (.slice A m c) l){i:Nat}{x:α}(hi:l[i]? =some x):
 ∃b o v,A=some ⟨b,o,none⟩∧S b∧w.cell? ⟨b,o+i,none⟩=some v∧E S w v x:=by
 obtain⟨a,cap,j,_,_,_,h⟩:=h;injection j with C I J;subst C;exact h i _ hi
theorem sr {w wn:World}{t:TypeId}{cs:Array Value}(h:aa All (w.alloc (.cells cs t)) wn)(i:Nat):wn.cell? ⟨w.heap.size,i,none⟩=cs[i]?:=((al.new w t cs).kept h trivial).cell i
def Ky (e:Ending):Prop:=∃a n:Int,n≠0∧aS a∧aS n∧e=.panicked [{v:=.iface 153 (.agg #[.int .i64 a,.int .i64 n]),recovered:=false}]
def qi (C:Prop)(R:Ending→World→Prop)(w:World)(e:Ending)(w':World):Prop:=(C∧R e w')∨(¬C∧Ky e∧aa All w w')
theorem dl (a n:Int)(w:World):Calls prog 83 #[.bool true,.int .i64 a,.int .i64 n] w fun e j=>e=.returned (.tuple #[])∧w=j:=by
 go_enter func83,ntmps83;go_wp2
 go_end0
 exact⟨rfl,rfl⟩
theorem eP (a n:Int)(w:World):Calls prog 83 #[.bool false,.int .i64 a,.int .i64 n] w fun e j=>e=.panicked [{v:=.iface 153 (.agg #[.int .i64 a,.int .i64 n]),recovered:=false}]∧w=j:=by go_enter func83,ntmps83;go_wp2;exact⟨rfl,rfl,rfl⟩
theorem nP (r a:Int)(w:World):Calls prog 85 #[.int .i64 r,.bool true,.int .i64 a] w fun e j=>e=.returned (.int .i64 r)∧w=j:=by go_enter func85,ntmps85;go_wp2_with (go_at_call 83;refine(dl _ _ _).mono ?_;rintro e j ⟨rfl,rfl⟩);go_ret;exact⟨rfl,rfl⟩
theorem pM (r a:Int)(w:World)(o:aS a):Calls prog 85 #[.int .i64 r,.bool false,.int .i64 a] w fun e j=>Ky e∧w=j:=by go_enter func85,ntmps85;go_wp2_with (go_at_call 83;refine(eP _ _ _).mono ?_;rintro e j ⟨rfl,rfl⟩);exact⟨rfl,⟨a,10,by decide,o,by unfold aS;omega,rfl⟩,rfl⟩
theorem li (b:Nat)(l:List ByteArray)(s:ByteArray)(a:Int)(w:World)(hm:bN w b l)(I:s.size≤140737488355328)(C:aS a):
 Calls prog 201 #[.map (some b),.string s,.int .i64 a] w fun e j=>qi (0≤aH l s) (fun e j=>e=.returned (.int .i64 (aH l s))∧w=j) w e j:=by
 have o:=hm.look (s:=s) (by unfold maxLen;omega);generalize aH l s=r at*;by_cases h:0≤r;·rw[Int.max_eq_left h,be h] at o;have H:=oH h;clear h;go_enter func201,ntmps201;go_wp2_with (go_at_call 83;refine(dl _ _ _).mono ?_;rintro e j ⟨rfl,rfl⟩);go_ret;exact .inl ⟨H.out,rfl,rfl⟩
 rw[cN h] at o;have H:=oH h;clear h;go_enter func201,ntmps201;go_wp2_with (go_at_call 83;refine(eP _ _ _).mono ?_;rintro e j ⟨rfl,rfl⟩);exact⟨rfl,.inr ⟨by have:=H.out;omega,⟨a,10,by decide,C,by unfold aS;omega,rfl⟩,kR⟩⟩
end Go.Proofs.YtccbbkopmlnkpaaGreatDoor
