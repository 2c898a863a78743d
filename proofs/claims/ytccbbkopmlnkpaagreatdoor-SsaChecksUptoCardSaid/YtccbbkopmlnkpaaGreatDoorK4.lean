/- Part 5 of the proof (its last part says what is proved). No condition. -/
import Derived.Test.YtccbbkopmlnkpaaGreatDoorK3
namespace Go.Proofs.YtccbbkopmlnkpaaGreatDoor
set_option maxRecDepth 100000
set_option maxHeartbeats 8000000
open Go.RowKit Go.Proofs.Tryz
structure bz where
 kind:Nat
 op:Nat
 dst:Int
 ref:Int
 Ni:Int
 args:List Int
 Nh:List Int
 num:Int
 Nj:Int
structure aw where
 params:Int
 vars:Int
 Ng:List (List bz)
structure aE where
 Nd:List (Int×Int)
 Nf:List aw
 main:Int
structure cX where
 kind:Nat
 op:Nat
 dst:ByteArray
 ref:ByteArray
 Ni:ByteArray
 args:List ByteArray
 Nh:List ByteArray
 num:Int
 Nj:Int
structure eS where
 name:ByteArray
 code:List cX
 Nj:Int
structure cD where
 name:ByteArray
 params:List ByteArray
 Ng:List eS
 Nj:Int
structure EL where
 name:ByteArray
 size:Int
 level:ByteArray
 Nj:Int
structure dN where
 Nd:List EL
 Nf:List cD
def gR:ByteArray:=⟨#[]⟩
def fO:ByteArray:=⟨#[109,97,105,110]⟩
def aO (l:List ByteArray)(s:ByteArray):Int:=gJ (fun x=>x.toList==s.toList) l
theorem cM {x y:ByteArray}:(x.toList==y.toList)=true↔x=y:=by
 rw[cy];constructor;·(
 intro h;have C:∀z:ByteArray,z.toList=z.data.toList:=fun z=>by
  have:∀(i:Nat) (r:List UInt8),i≤z.size→ByteArray.toList.loop z i r=r.reverse++z.data.toList.drop i:=by(
 intro i;induction J:z.size-i generalizing i with
 |zero=>
  intro r hi;rw[ByteArray.toList.loop];have e:¬i<z.size:=by omega
  rw[ae e,List.drop_of_length_le (by simp only[Array.length_toList];show z.size≤i;omega)];simp
 |succ n I=>
  intro r hi;have j:i<z.size:=by omega
  have o:i<z.data.toList.length:=by simpa using j
  rw[ByteArray.toList.loop,ap j,I (i+1) (by omega) _ (by omega),List.drop_eq_getElem_cons o];simp[ByteArray.get!,j])
  unfold ByteArray.toList;rw[this 0 [] (by omega)];simp
 rw[C,C] at h;cases x;cases y;congr 1;exact Array.toList_inj.1 h)
 rintro rfl;rfl
theorem vL {l:List ByteArray}{k:Nat}{s:ByteArray}(C:l[k]? =some s)(I:l.Nodup):aO l s=k:=by
 refine lL C (cM.2 rfl) fun y J=>?_;cases R:(y.toList==s.toList) with
 |false=>rfl
 |true=>have e:=cM.1 R;subst e;exfalso;obtain⟨i,hi,rfl⟩:=List.mem_take_iff_getElem.1 J;obtain⟨j,o⟩:=lS.1 C;exact(List.pairwise_iff_getElem.1 I) i k (by omega) j (by omega) o.symm
theorem jb {l:List ByteArray}{s:ByteArray}(h:s∉l):aO l s= -1:=by
 refine lM fun y j=>?_;cases o:(y.toList==s.toList) with
 |false=>rfl
 |true=>exact absurd (cM.1 o▸j) h
theorem cm {l:List ByteArray}{s:ByteArray}:0≤aO l s↔s∈l:=by
 constructor
 ·intro h
  by_cases hm:s∈l;·exact hm
  rw[jb hm] at h;omega
 intro h;unfold aO gJ;rw[ap (mW.2 ⟨s,h,cM.2 rfl⟩)];omega
theorem yS {l:List ByteArray}{s:ByteArray}(h:s∈l):∃k:Nat,aO l s=k∧l[k]? =some s:=by unfold aO gJ;have o:l.any (fun x=>x.toList==s.toList)=true:=mW.2 ⟨s,h,cM.2 rfl⟩;rw[ap o];refine⟨_,rfl,?_⟩;have j:=List.findIdx_lt_length_of_exists (p:=fun x:ByteArray=>x.toList==s.toList) (xs:=l) (mW.1 o);rw[lG j];have:=List.findIdx_getElem (w:=j);rw[cM.1 this]
def dD (p:aH):Prop:=p.MZ.length=p.up.length∧ue p.up∧1≤p.Nc∧p.Nc≤64∧(∀(i:Nat) s,p.MZ[i]? =some s→aB s=true∧eZ p s=i)∧cE p p.Nb∧cE p p.Na
structure rT where
 args:Int
 dst:Bool
 ref:Bool
 Ni:Bool
def cJ:Nat→Option rT
 |1=>some ⟨0,true,false,false⟩
 |2=>some ⟨2,true,false,false⟩
 |4=>some ⟨1,true,true,false⟩
 |5=>some ⟨1,true,true,false⟩
 |6=>some ⟨2,false,true,false⟩
 |7=>some ⟨-1,true,true,false⟩
 |8=>some ⟨0,true,true,false⟩
 |9=>some ⟨1,false,true,false⟩
 |10=>some ⟨1,true,true,false⟩
 |11=>some ⟨0,false,true,false⟩
 |12=>some ⟨1,false,true,true⟩
 |13=>some ⟨1,false,false,false⟩
 |_=>none
def fS (s:ByteArray)(wanted:Bool):Prop:=if wanted=true then aB s=true else s=gR
def fj (x:cX):Prop:=(x.op≠0↔x.kind=2)∧x.op≤12∧(x.num≠0→x.kind=1)∧(∀a∈x.args,aB a=true)∧(∀a∈x.Nh,aB a=true)∧
 (x.kind=3→aB x.dst=true∧x.ref=gR∧x.Ni=gR∧x.Nh.length=x.args.length∧1≤x.Nh.length∧x.Nh.length≤64)∧
 (x.kind≠3→∃s,cJ x.kind=some s∧x.Nh=[]∧(0≤s.args→(x.args.length:Int)=s.args)∧x.args.length≤6∧fS x.dst s.dst∧fS x.ref s.ref∧fS x.Ni s.Ni)
def fT (f:cD):Prop:=aB f.name=true∧(∀a∈f.params,aB a=true)∧f.params.length≤6∧1≤f.Ng.length∧f.Ng.length≤64∧∀b∈f.Ng,aB b.name=true∧∀x∈b.code,fj x
def gl (f:cD):Nat:=(f.Ng.map fun b=>b.code.length).sum
def xA (a:EL):Prop:=aB a.name=true∧aB a.level=true∧1≤a.size∧a.size≤256
def fV (q:dN):Prop:=q.Nd.length≤16∧q.Nf.length≤64∧(∀a∈q.Nd,xA a)∧(∀f∈q.Nf,fT f)∧(q.Nf.map gl).sum≤4096
def dx (p:aH)(x:bz):Prop:=(x.kind=8→0≤x.ref∧x.ref<p.Nb.length)∧(x.kind=9→0≤x.ref∧x.ref<p.Na.length)∧(x.kind=10→0≤x.ref∧x.ref<p.MZ.length)
def lX (p:aH)(b:aw):Prop:=0≤b.params∧b.params≤6∧∀l∈b.Ng,∀x∈l,dx p x
def pi (p:aH)(c:aE):Prop:=(∀a∈c.Nd,0≤a.2∧a.2<p.MZ.length)∧∀b∈c.Nf,lX p b
def qY (main i:Int):ByteArray:=if i=main then fO else aL 102 i
def gW (p:aH)(main:Int)(x:bz):ByteArray:=
 if x.kind=4∨x.kind=5∨x.kind=6 then aL 97 x.ref
 else if x.kind=7 then qY main x.ref
 else if x.kind=8 then(p.Nb.getD x.ref.toNat (gR,0)).1
 else if x.kind=9 then(p.Na.getD x.ref.toNat (gR,0)).1
 else if x.kind=10 then p.MZ.getD x.ref.toNat gR
 else if x.kind=11∨x.kind=12 then aL 98 x.ref
 else gR
def jC (p:aH)(main:Int)(x:bz):cX:=
 {kind:=x.kind,op:=x.op,dst:=if 0≤x.dst then aL 118 x.dst else gR,ref:=gW p main x,Ni:=if x.kind=12 then aL 98 x.Ni else gR,
  args:=x.args.map (aL 118),Nh:=x.Nh.map (aL 98),num:=x.num,Nj:=x.Nj}
def eh (p:aH)(main:Int)(k:Nat)(l:List bz):eS:= {name:=aL 98 k,code:=l.map (jC p main),Nj:=0}
def bU (p:aH)(main:Int)(i:Nat)(b:aw):cD:=
 {name:=qY main i,params:=(List.range b.params.toNat).map fun(k:Nat)=>aL 118 k,Ng:=b.Ng.mapIdx (eh p main),Nj:=0}
def sa (p:aH)(i:Nat)(a:Int×Int):EL:= {name:=aL 97 i,size:=a.1,level:=p.MZ.getD a.2.toNat gR,Nj:=0}
def cP (p:aH)(c:aE):dN:= {Nd:=c.Nd.mapIdx (sa p),Nf:=c.Nf.mapIdx (bU p c.main)}
def sx (f:cD):List ByteArray:=(f.Ng.flatMap fun b=>b.code.map fun x=>x.dst).filter fun s=>decide (s≠gR)
def bh (f:cD):List ByteArray:=f.params++sx f
def cn (f:cD):List ByteArray:=f.Ng.map fun b=>b.name
def fh (q:dN):List ByteArray:=q.Nf.map fun f=>f.name
def dz (q:dN):List ByteArray:=q.Nd.map fun a=>a.name
def dv (p:aH)(q:dN)(f:cD)(x:cX):Int:=
 if x.kind=4∨x.kind=5∨x.kind=6 then aO (dz q) x.ref
 else if x.kind=7 then aO (fh q) x.ref
 else if x.kind=8 then fD p.Nb x.ref
 else if x.kind=9 then fD p.Na x.ref
 else if x.kind=10 then eZ p x.ref
 else if x.kind=11∨x.kind=12 then aO (cn f) x.ref
 else 0
def dy (f:cD)(x:cX):Int:=if x.kind=12 then aO (cn f) x.Ni else 0
def pg (p:aH)(q:dN)(f:cD)(x:cX):bz:=
 {kind:=x.kind,op:=x.op,dst:=if x.dst=gR then-1 else aO (bh f) x.dst,ref:=dv p q f x,Ni:=dy f x,
  args:=x.args.map (aO (bh f)),Nh:=x.Nh.map (aO (cn f)),num:=x.num,Nj:=x.Nj}
def il (p:aH)(q:dN)(f:cD):aw:= {params:=f.params.length,vars:=(bh f).length,Ng:=f.Ng.map fun b=>b.code.map (pg p q f)}
def qV (p:aH)(q:dN):aE:= {Nd:=q.Nd.map fun a=>(a.size,eZ p a.level),Nf:=q.Nf.map (il p q),main:=aO (fh q) fO}
def mO (p:aH)(q:dN)(f:cD)(x:cX):Prop:=0≤dv p q f x∧0≤dy f x∧(∀a∈x.args,a∈bh f)∧(∀a∈x.Nh,a∈cn f)∧
 (x.kind=7→∀g,q.Nf[(dv p q f x).toNat]? =some g→x.args.length=g.params.length)
def mQ (kinds:List Nat):Prop:=kinds≠[]∧(∀(i:Nat) k,kinds[i]? =some k→(11≤k↔i+1=kinds.length))∧∀(i:Nat),kinds[i+1]? =some 3→kinds[i]? =some 3
def pj (p:aH)(q:dN)(f:cD):Prop:=(bh f).Nodup∧(cn f).Nodup∧∀b∈f.Ng,mQ (b.code.map fun x=>x.kind)∧∀x∈b.code,mO p q f x
def BG (p:aH)(q:dN):Prop:=(dz q).Nodup∧(∀a∈q.Nd,a.level∈p.MZ)∧(fh q).Nodup∧fO∈fh q∧(∀f∈q.Nf,f.name=fO→f.params=[])∧∀f∈q.Nf,pj p q f
def iE (x:bz):bz:= {x with Nj:=0}
def jD (x y:bz):Prop:=iE x=iE y
def Mc (a b:aE):Prop:=a.main=b.main∧a.Nd=b.Nd∧a.Nf.map (fun f=>(f.params,f.vars,f.Ng.map fun l=>l.map iE))=b.Nf.map (fun f=>(f.params,f.vars,f.Ng.map fun l=>l.map iE))
def eM (p:aH)(c:aE):Prop:=dD p∧c.Nf.length≤64∧c.Nd.length≤16∧pi p c∧fV (cP p c)∧BG p (cP p c)∧Mc (qV p (cP p c)) c
def cw:Nat→Option (Int×Bool×Bool×Bool)
 |1=>some (0,true,false,false)
 |2=>some (2,true,false,false)
 |3=>some (8,true,false,false)
 |4=>some (1,true,true,false)
 |5=>some (1,true,true,false)
 |6=>some (2,false,true,false)
 |7=>some (9,true,true,false)
 |8=>some (0,true,true,false)
 |9=>some (1,false,true,false)
 |10=>some (1,true,true,false)
 |11=>some (0,false,true,false)
 |12=>some (1,false,true,true)
 |13=>some (1,false,false,false)
 |_=>none
def cW (p:aH)(c:aE)(b:aw)(kind:Nat):Nat:=
 if kind=4∨kind=5∨kind=6 then c.Nd.length else if kind=7 then c.Nf.length else if kind=8 then p.Nb.length else if kind=9 then p.Na.length else if kind=10 then p.MZ.length else b.Ng.length
def aT (p:aH)(c:aE)(b:aw)(next:Int)(x:bz):Prop:=∃n dst ref Ni,cw x.kind=some (n,dst,ref,Ni)∧x.dst=(if dst=true then next else-1)∧(ref=false→x.ref=0)∧(Ni=false→x.Ni=0)∧
 (x.kind≠1→x.num=0)∧(x.kind≠2→x.op=0)∧(x.kind=2→1≤x.op∧x.op≤12)∧(ref=true→0≤x.ref∧x.ref<cW p c b x.kind)∧(Ni=true→0≤x.Ni∧x.Ni<b.Ng.length)∧
 (if x.kind=3 then x.Nh.length=x.args.length∧1≤x.Nh.length∧x.Nh.length≤64 else x.Nh=[]∧(x.args.length:Int)=if x.kind=7 then(c.Nf.getD x.ref.toNat ⟨0,0,[]⟩).params else n)∧
 (∀a∈x.args,0≤a∧a<b.vars)∧∀a∈x.Nh,0≤a∧a<b.Ng.length
def cj (l:List bz):Nat:=(l.filter fun x=>match cw x.kind with|some (_,d,_,_)=>d|none=>false).length
def qi (p:aH)(c:aE)(b:aw):Prop:=0≤b.params∧b.params≤6∧1≤b.Ng.length∧b.Ng.length≤64∧(∀l∈b.Ng,mQ (l.map fun x=>x.kind))∧
 (∀(k:Nat) x,b.Ng.flatten[k]? =some x→aT p c b (b.params+cj (b.Ng.flatten.take k)) x)∧b.vars=b.params+cj b.Ng.flatten
def ft (b:aw):Nat:=b.Ng.flatten.length
def bJ (p:aH)(c:aE):Prop:=dD p∧c.Nd.length≤16∧c.Nf.length≤64∧0≤c.main∧c.main<c.Nf.length∧(c.Nf.getD c.main.toNat ⟨0,0,[]⟩).params=0∧
 (∀a∈c.Nd,1≤a.1∧a.1≤256∧0≤a.2∧a.2<p.MZ.length)∧(∀b∈c.Nf,qi p c b)∧(c.Nf.map ft).sum≤4096
def Ai (s:ByteArray)(i:Nat):Nat:=(s.get! i).toNat
def Ut (c:Nat):Bool:=c==32||c==9||c==10
def Ht (s:ByteArray):Nat→Nat→Nat
 |0,p=>p
 |f+1,p=>if p<s.size then(if Ut (Ai s p) then Ht s f (p+1) else p) else p
def Vw (s:ByteArray):Nat→Nat→Nat
 |0,p=>p
 |f+1,p=>if p<s.size then(if ey (Utf8.decode s p).1||fY (Utf8.decode s p).1 then Vw s f (p+(Utf8.decode s p).2) else p) else s.size
def Ul (s:ByteArray):Nat:=Vw s (s.size+1) 0
def TP (s:ByteArray):Nat→Nat→Nat→Option Nat
 |0,_,_=>none
 |f+1,p,n=>if p<s.size then(if fY (Utf8.decode s p).1 then TP s f (p+(Utf8.decode s p).2) (10*n+((Utf8.decode s p).1-48)) else none) else some n
def Os (s:ByteArray):Option Nat:=if s.size=0∨19<s.size∨(Ai s 0=48∧1<s.size) then none else(TP s (s.size+1) 0 0).filter fun n=>decide (n<9223372036854775808)
def Wb (c:Nat):Bool:=c==40||c==41||c==123||c==125||c==91||c==93||c==44||c==58||c==61
def TQ (s:ByteArray):Nat:=if jv s then 2 else if dW s then 1 else if(Os s).isSome then 3 else 0
structure Um where
 kind:Nat
 beg:Nat
 fin:Nat
def Vu (s:ByteArray)(at':Nat):Option (Option Um):=
 let p:=Ht s (s.size+1) at'
 if p<s.size then
  if Wb (Ai s p) then some (some ⟨4,p,p+1⟩)
  else if Ai s p=45 then none
  else
   let n:=Ul (s.extract p s.size)
   if TQ (s.extract p (p+n))=0 then none else some (some ⟨TQ (s.extract p (p+n)),p,p+n⟩)
 else some none
def Tt (s:ByteArray):Nat→Nat→Option (List Um)
 |0,_=>none
 |f+1,at'=>match Vu s at' with
  |none=>none
  |some none=>some []
  |some (some t)=>(Tt s f t.fin).map fun l=>t::l
def Ab (s:ByteArray):Bool:=s.data.toList.all fun b=>decide (b.toNat<128)&&b !=35
structure cr where
 s:ByteArray
 l:List Um
def cr.txt (p:cr)(k:Nat):ByteArray:=match p.l[k]? with|some t=>p.s.extract t.beg t.fin|none=>gR
def cr.is (p:cr)(k kind:Nat):Bool:=match p.l[k]? with|some t=>t.kind==kind|none=>false
def cr.pos (p:cr)(k:Nat):Nat:=match p.l[k]? with|some t=>t.beg|none=>p.s.size
def bs (l:List UInt8):ByteArray:=⟨l.toArray⟩
def Yu:ByteArray:=bs [40]
def Yn:ByteArray:=bs [41]
def YB:ByteArray:=bs [123]
def XA:ByteArray:=bs [125]
def Yv:ByteArray:=bs [91]
def Yw:ByteArray:=bs [93]
def Ym:ByteArray:=bs [44]
def XW:ByteArray:=bs [58]
def YA:ByteArray:=bs [61]
def UO:ByteArray:=bs [99,111,110,115,116]
def WZ:ByteArray:=bs [112,104,105]
def XX:ByteArray:=bs [106,117,109,112]
def Ww:ByteArray:=bs [98,114,97,110,99,104]
def Wx:ByteArray:=bs [114,101,116,117,114,110]
def YH:ByteArray:=bs [102,110]
def Ty (p:cr)(kind k:Nat):Option (ByteArray×Nat):=if p.is k kind then some (p.txt k,k+1) else none
def TR (p:cr)(s:ByteArray)(k:Nat):Option Nat:=if p.txt k=s then some (k+1) else none
def UH (p:cr):Nat→Nat→Nat→List ByteArray→List ByteArray→Option (List ByteArray×List ByteArray×Nat)
 |0,_,_,_,_=>none
 |f+1,n,k,j,o=>if p.is k 1=true∧64≤n then none else do
  let(a,k)←Ty p 1 k
  let k←TR p XW k
  let(b,k)←Ty p 1 k
  if p.txt k=Ym then UH p f (n+1) (k+1) (j++[a]) (o++[b]) else some (j++[a],o++[b],k)
def Va:cX:=⟨0,0,gR,gR,gR,[],[],0,0⟩
def Uz (p:cr)(x:cX)(k:Nat):Option (cX×Nat):=
 if p.txt k=UO then do
  let(s,k)←Ty p 3 (k+1)
  let n←Os s
  some ({x with kind:=1,num:=n},k)
 else if p.txt k=WZ then do
  let k←TR p Yv (k+1)
  let(j,o,k)←UH p 65 0 k [] []
  let k←TR p Yw k
  some ({x with kind:=3,Nh:=j,args:=o},k)
 else none
def Yl (p:cr)(x:cX)(k:Nat):Option (cX×Nat):=
 if p.txt k=XX then do
  let(s,k)←Ty p 1 (k+1)
  some ({x with kind:=11,ref:=s},k)
 else if p.txt k=Ww then do
  let(a,k)←Ty p 1 (k+1)
  let(s,k)←Ty p 1 k
  let(t,k)←Ty p 1 k
  some ({x with kind:=12,args:=[a],ref:=s,Ni:=t},k)
 else if p.txt k=Wx then do
  let(a,k)←Ty p 1 (k+1)
  some ({x with kind:=13,args:=[a]},k)
 else none
def TV (p:cr)(k:Nat):Option (cX×Nat):=
 if p.is k 1 then(if p.txt (k+1)=YA then Uz p {Va with dst:=p.txt k,Nj:=p.pos k} (k+2) else none)
 else Yl p {Va with Nj:=p.pos k} k
def Tp (p:cr)(k:Nat):Bool:=p.is k 1&&decide (p.txt (k+1)=XW)
def UF (p:cr):Nat→Nat→List cX→Option (List cX×Nat)
 |0,_,_=>none
 |f+1,k,l=>if p.txt k=XA∨Tp p k=true then some (l,k) else do
  let(x,k)←TV p k
  UF p f k (l++[x])
def TK (p:cr)(k:Nat):Option (eS×Nat):=do
 let(s,j)←Ty p 1 k
 let j←TR p XW j
 let(l,j)←UF p (p.l.length+1) j []
 some (⟨s,l,p.pos k⟩,j)
def TB (p:cr):Nat→Nat→List eS→Option (List eS×Nat)
 |0,_,_=>none
 |f+1,k,l=>if Tp p k=true then(if 64≤l.length then none else do
   let(b,k)←TK p k
   TB p f k (l++[b])) else some (l,k)
def Vf (p:cr)(k:Nat):Option (cD×Nat):=do
 let(s,j)←Ty p 1 (k+1)
 let j←TR p Yu j
 let j←TR p Yn j
 let j←TR p YB j
 let(b,j)←TK p j
 let(l,j)←TB p (p.l.length+1) j [b]
 let j←TR p XA j
 some (⟨s,[],l,p.pos k⟩,j)
def TT (p:cr):Nat→Nat→List cD→Option (List cD)
 |0,_,_=>none
 |f+1,k,l=>if k<p.l.length then(if p.txt k=YH∧l.length<64 then do
   let(x,k)←Vf p k
   TT p f k (l++[x]) else none) else some l
def WD (s:ByteArray):Option dN:=if s.size≤65536∧Ab s=true then do
    let l←Tt s (s.size+1) 0
    let j←TT ⟨s,l⟩ (l.length+1) 0 []
    some ⟨[],j⟩
 else none
theorem TG (s:ByteArray)(i:Nat)(h:i<s.size):Ai s i=(s[i]' h).toNat:=by unfold Ai;rw[show s.get! i=s[i]' h by simpa using get_at s i h]
theorem TI {s:ByteArray}(h:Ab s=true){i:Nat}(hi:i<s.size):Ai s i<128∧Ai s i≠35∧Utf8.decode s i=(Ai s i,1):=by have j:=List.all_eq_true.1 h (s[i]' hi) (by show s.data[i]∈_;exact Array.getElem_mem_toList hi);simp only[gE,qal,bne_iff_ne] at j;rw[TG s i hi];refine⟨j.1,fun e=>j.2 ?_,decode_ascii s i hi j.1⟩;exact UInt8.toNat_inj.1 (by rw[e];rfl)
theorem VP {s:ByteArray}{f p:Nat}(h:¬p<s.size):Vw s (f+1) p=s.size:=by simp[Vw,h]
theorem Vk {s:ByteArray}{f p:Nat}(h:p<s.size):Vw s (f+1) p=if ey (Utf8.decode s p).1||fY (Utf8.decode s p).1 then Vw s f (p+(Utf8.decode s p).2) else p:=by simp[Vw,h]
theorem Xv (s:ByteArray)(w:World):Calls prog 191 #[.string s] w fun e w'=>e=.returned (.int .i64 (Ul s))∧aa All w w':=by
 have hit:(w.iter s 0).heap[w.heap.size]? =some (.stringIter s 0):=World.iter_heap w s 0;have a8:aa All w (w.iter s 0):=(aa.refl _ w).alloc _;have H0:=J2 hit a8;clear hit a8;go_enter func191,ntmps191;go_wp2;go_loopg [] (s.size+1) (fun g wr=>∃pos f:Nat,g=s.size+1-pos∧s.size+1≤pos+f∧1≤f∧wr.heap[w.heap.size]? =some (.stringIter s pos)∧aa All w wr∧Vw s f pos=Ul s);·exact⟨0,s.size+1,by omega,by omega,by omega,H0.1,H0.2,rfl⟩
 obtain⟨pos,f,rfl,hf,b4,I,o,C⟩:=hrel;by_cases J:pos<s.size;·(
 obtain⟨f,rfl⟩:∃f',f=f'+1:=⟨f-1,by omega⟩;rw[Vk J] at C;have b0:=fun ty=>Jw (P:=prog) wr w.heap.size s pos ty I J;have b3:=ks s pos J;have hB:w.heap.size<wr.heap.size:=by
  rcases Nat.lt_or_ge w.heap.size wr.heap.size with h|h;·exact h
  rw[jK h] at I;cases I
 have b1:aa All w (ji wr w.heap.size s (pos+(Utf8.decode s pos).2)):=xm o (.inr (cf _));have a1:=Bl (W:=wr) (s:=s) (p:=pos+(Utf8.decode s pos).2) hB;have b2:(ji wr w.heap.size s (pos+(Utf8.decode s pos).2)).heap.size=wr.heap.size:=by simp[ji]
 have HQ:=J3 b1 a1 b2;clear b1 a1 b2 I o;generalize Utf8.decode s pos=rk at*;obtain⟨r,k⟩:=rk;have a6:=fun W=>Ay (r:Int) W;have a7:=fun W=>CM (r:Int) W;simp only at C b0 b3 HQ⊢;generalize ey (r:Int)=L at*;generalize fY (r:Int)=D at*;have HC:=J2 a6 a7;clear a6 a7;cases L with
 |true=>
  go_wp2_with (go_at_call 211;refine(HC.1 _).mono ?_;rintro e w1 ⟨rfl,j⟩;have R:=(show w1.heap[w.heap.size]? =some (.stringIter s (pos+k)) by rw[j.block w.heap.size (by have:=HQ.2.2;omega) trivial];exact HQ.2.1);have Y:=J2 (HQ.1.trans j) R;clear j R);go_roundg (s.size+1-(pos+k));·exact⟨pos+k,f,rfl,by omega,by omega,Y.2,Y.1,by simpa using C⟩
  omega
 |false=>
  cases D with
  |true=>
   go_wp2_with first
    |(go_at_call 211;refine(HC.1 _).mono ?_;rintro e w1 ⟨rfl,j⟩;have R:=(show w1.heap[w.heap.size]? =some (.stringIter s (pos+k)) by rw[j.block w.heap.size (by have:=HQ.2.2;omega) trivial];exact HQ.2.1);have Y:=J2 (HQ.1.trans j) R;clear j R)
    |(go_at_call 183;refine(HC.2 _).mono ?_;rintro e w2 ⟨rfl,rfl⟩)
   go_roundg (s.size+1-(pos+k));·exact⟨pos+k,f,rfl,by omega,by omega,Y.2,Y.1,by simpa using C⟩
   omega
  |false=>
   go_wp2_with first
    |(go_at_call 211;refine(HC.1 _).mono ?_;rintro e w1 ⟨rfl,j⟩;have Y:=oH (HQ.1.trans j);clear j)
    |(go_at_call 183;refine(HC.2 _).mono ?_;rintro e w2 ⟨rfl,rfl⟩)
   go_ret;exact⟨by rw[←C];simp,Y.out⟩)
 obtain⟨f,rfl⟩:∃f',f=f'+1:=⟨f-1,by omega⟩;rw[VP J] at C;have b0:=fun ty=>Gl (P:=prog) wr w.heap.size s pos ty I J;have Y:=oH o;clear o I;go_wp2;go_ret;exact⟨by rw[←C];rfl,Y.out⟩
theorem VT (s:ByteArray)(w:World)(hp:Ab s=true):Calls prog 67 #[.string s] w fun e w'=>e=.returned (.int .i64 (-1))∧aa All w w':=by
 have hit:(w.iter s 0).heap[w.heap.size]? =some (.stringIter s 0):=World.iter_heap w s 0;have R:aa All w (w.iter s 0):=(aa.refl _ w).alloc _;have H0:=J2 hit R;clear hit R;go_enter func67,ntmps67;go_wp2;go_loopg [] (s.size+1) (fun g wr=>∃pos:Nat,g=s.size+1-pos∧wr.heap[w.heap.size]? =some (.stringIter s pos)∧aa All w wr);·exact⟨0,by omega,H0.1,H0.2⟩
 obtain⟨pos,rfl,o,j⟩:=hrel;by_cases I:pos<s.size;·(
 have J:=fun ty=>Jw (P:=prog) wr w.heap.size s pos ty o I;obtain⟨h1,_,h3⟩:=TI hp I;have hB:w.heap.size<wr.heap.size:=by
  rcases Nat.lt_or_ge w.heap.size wr.heap.size with h|h;·exact h
  rw[jK h] at o;cases o
 rw[h3] at J;simp only at J;have Y:aa All w (ji wr w.heap.size s (pos+1)):=xm j (.inr (cf _));have C:=Bl (W:=wr) (s:=s) (p:=pos+1) hB;have HQ:=J2 Y C;clear Y C o j h3 hp;generalize Ai s pos=r at*;have hr:((r:Int)==65533)=false:=by rw[bE];omega
 go_wp2;go_roundg (s.size+1-(pos+1));·exact⟨pos+1,rfl,HQ.2,HQ.1⟩
 omega)
 have J:=fun ty=>Gl (P:=prog) wr w.heap.size s pos ty o I;have HK:=oH j;clear j o;go_wp2;go_ret;exact⟨rfl,HK.out⟩
theorem Vm {s:ByteArray}{f p:Nat}(h:¬p<s.size):Ht s (f+1) p=p:=by simp[Ht,h]
theorem UU {s:ByteArray}{f p:Nat}(h:p<s.size):Ht s (f+1) p=if Ut (Ai s p) then Ht s f (p+1) else p:=by simp[Ht,h]
theorem VS {s:ByteArray}:∀ {f p:Nat},p≤s.size→Ht s f p≤s.size
 |0,_,h=>h
 |f+1,p,h=>by
  by_cases j:p<s.size
  ·rw[UU j];split;·exact VS j
   exact h
  rw[Vm j];exact h
theorem WS (s:ByteArray)(p:Nat)(w:World)(R:Ab s=true)(a1:p≤s.size)(hs:s.size≤65536):Calls prog 189 #[.string s,.int .i64 p] w fun e w'=>e=.returned (.int .i64 (Ht s (s.size+1) p))∧w=w':=by
 go_enter func189,ntmps189;go_wp2;go_loopg [1] (s.size+1-p) (fun g m wr=>∃q f:Nat,g=s.size+1-q∧m=.int .i64 q∧q≤s.size∧s.size+1≤q+f∧w=wr∧Ht s f q=Ht s (s.size+1) p);·exact⟨p,s.size+1,rfl,rfl,a1,by omega,rfl,rfl⟩
 obtain⟨q,f,rfl,rfl,hq,hf,rfl,o⟩:=hrel;obtain⟨f,rfl⟩:∃f',f=f'+1:=⟨f-1,by omega⟩;by_cases j:q<s.size;·(
 obtain⟨Y,h2,_⟩:=TI R j;rw[UU j] at o;rw[TG s q j] at Y h2 o;have go:∀b:Nat,Ut b=true→(if Ut b=true then Ht s f (q+1) else q)=Ht s (s.size+1) p→Ht s f (q+1)=Ht s (s.size+1) p:=fun b hb h=>by rwa [ap hb] at h
 have HG:=oH go;clear go;have e0:((((s[q]' j).toNat:Nat):Int)==35)=false:=by rw[bE];omega
 by_cases C:(s[q]' j).toNat=32
 ·have J:=oH (HG.out _ (by rw[C];rfl) o);have e1:((((s[q]' j).toNat:Nat):Int)==32)=true:=by rw[cy];omega
  clear o C Y h2 R;go_wp2;go_roundg (s.size+1-(q+1));·exact⟨q+1,f,rfl,by go_num,by omega,by omega,rfl,J.out⟩
  omega
 have e1:((((s[q]' j).toNat:Nat):Int)==32)=false:=by rw[bE];omega
 by_cases h9:(s[q]' j).toNat=9
 ·have J:=oH (HG.out _ (by rw[h9];rfl) o);have e2:((((s[q]' j).toNat:Nat):Int)==9)=true:=by rw[cy];omega
  clear o C h9 Y h2 R;go_wp2;go_roundg (s.size+1-(q+1));·exact⟨q+1,f,rfl,by go_num,by omega,by omega,rfl,J.out⟩
  omega
 have e2:((((s[q]' j).toNat:Nat):Int)==9)=false:=by rw[bE];omega
 by_cases I:(s[q]' j).toNat=10
 ·have J:=oH (HG.out _ (by rw[I];rfl) o);have e3:((((s[q]' j).toNat:Nat):Int)==10)=true:=by rw[cy];omega
  clear o C h9 I Y h2 R;go_wp2;go_roundg (s.size+1-(q+1));·exact⟨q+1,f,rfl,by go_num,by omega,by omega,rfl,J.out⟩
  omega
 have e3:((((s[q]' j).toNat:Nat):Int)==10)=false:=by rw[bE];omega
 have hn:¬Ut (s[q]' j).toNat=true:=by simp[Ut,C,h9,I]
 rw[ae hn] at o;have J:=oH o;clear o C h9 I Y h2 R hn;go_wp2;go_ret;exact⟨by rw[←J.out];rfl,rfl⟩)
 rw[Vm j] at o;go_wp2;go_ret;exact⟨by rw[←o];rfl,rfl⟩
section
open Go.RowKit Go.WideMaps Go.Maps
theorem Gm:Keyed prog 9:=string_keyed underlying9
theorem Gn (w:World):(zeroValue 3).run prog w=.ok (.int .i64 0) w:=by kernel_rfl
def wW (s:ByteArray):Lit:=.string s.data.toList
theorem yB {s t:ByteArray}(h:wW s=wW t):s=t:=by unfold wW at h;injection h with h;cases s;cases t;congr 1;exact Array.toList_inj.1 h
theorem sT (s:ByteArray):WideAt.IsKeyLit (wW s):=trivial
theorem mC {l:List ByteArray}{s:ByteArray}(h:s∉l):aO (l++[s]) s=l.length:=by
 refine lL (k:=l.length) (x:=s) (by rw[kH (cf _),Nat.sub_self];rfl) (cM.2 rfl) fun y j=>?_;rw[List.take_left] at j;cases o:(y.toList==s.toList) with
 |false=>rfl
 |true=>exact absurd (cM.1 o▸j) h
theorem oz {l:List ByteArray}{s t:ByteArray}(h:t≠s):aO (l++[s]) t=aO l t:=by
 by_cases j:t∈l;·have I:l.any (fun x=>x.toList==t.toList)=true:=mW.2 ⟨t,j,cM.2 rfl⟩;have o:(l++[s]).any (fun x=>x.toList==t.toList)=true:=mW.2 ⟨t,eD.2 (.inl j),cM.2 rfl⟩;have C:=List.findIdx_lt_length_of_exists (p:=fun x:ByteArray=>x.toList==t.toList) (xs:=l) (mW.1 I);unfold aO gJ;rw[ap I,ap o,List.findIdx_append,ap C]
 rw[jb j,jb fun h'=>?_];rcases eD.1 h' with h'|h';·exact j h'
 exact h (cx.1 h')
structure KB (D:DataW Unit)(l:List ByteArray):Prop where
 tidy:Tidy D
 size:Maps.size D=l.length
 has:∀s,Maps.has D (wW s)=decide (0≤aO l s)
 val:∀s,D.atKey (wW s) (.lit (.int .i64 0))=.lit (.int .i64 (max (aO l s) 0))
theorem KB.nil:KB (.map []) []:=by
 refine⟨tidy_empty,rfl,fun s=>?_,fun s=>?_⟩;·rw[jb (by simp)];rfl
 rw[jb (by simp)];rfl
theorem KB.put {D:DataW Unit}{l:List ByteArray}(h:KB D l){s:ByteArray}(C:aO l s<0):KB (D.put (wW s) (.lit (.int .i64 l.length))) (l++[s]):=by
 have o:s∉l:=fun hm=>by have:=cm.2 hm;omega
 refine⟨h.tidy.put (sT s) _,?_,fun t=>?_,fun t=>?_⟩;·rw[size_put h.tidy,h.has s,cI (by omega),h.size];simp
 ·by_cases e:t=s
  ·subst e;rw[has_put_same h.tidy.isMap (sT t),mC o];exact(bL (by omega)).symm
  rw[has_put_other fun j=>e (yB j),oz e,h.has t]
 by_cases e:t=s
 ·subst e
  rw[atKey_put_same h.tidy.isMap (sT t),mC o];congr 2;omega
 rw[atKey_put_other fun j=>e (yB j),oz e,h.val t]
def cK (w:World)(b:Nat)(l:List ByteArray):Prop:=∃D,w.ownsMap prog 9 (plainElem prog 3) b l.length D∧KB D l
section
variable {w w':World} {b:Nat} {l:List ByteArray}
theorem cK.new (w:World):cK (w.alloc (.map #[] 0)) w.heap.size []:=⟨_,World.ownsMap_made _ _ _ _,KB.nil⟩
theorem cK.lt (h:cK w b l):b<w.heap.size:=by obtain⟨D,h,_⟩:=h;exact h.lt
theorem cK.keep {S:Nat→Prop}(h:cK w b l)(k:aa S w w')(o:S b):cK w' b l:=by obtain⟨D,h,C⟩:=h;have j:=h.lt;obtain⟨es,clock,I,r⟩:=h;exact⟨D,⟨es,clock,(k.block b j o).trans I,r⟩,C⟩
theorem cK.look (h:cK w b l){s:ByteArray}(R:s.size≤maxLen):(Instr.lookup 156 (.map (some b)) (.string s) true).run prog w=.ok (.tuple #[.int .i64 (max (aO l s) 0),.bool (decide (0≤aO l s))]) w:=by obtain⟨D,h,C⟩:=h;obtain⟨v,ps,o,Y⟩:=h.look_ok Gm underlying156 (Gn w) (plainElem_int underlying3 (by decide)) (keyOf_string_mk underlying9 R);obtain⟨c,rfl,hc,_⟩:=plainElem_int_inv underlying3 Y;have j:=congrArg Prod.fst hc;have I:=C.val s;have J:=C.has s;unfold wW at I J;rw[I] at j;rw[J] at o;injection j with j;injection j with _ j;rw[←j] at o;exact o
theorem cK.get (h:cK w b l){s:ByteArray}(I:s.size≤maxLen):(Instr.lookup 156 (.map (some b)) (.string s) false).run prog w=.ok (.int .i64 (max (aO l s) 0)) w:=by obtain⟨D,h,J⟩:=h;obtain⟨c,j,o,_⟩:=h.lookup_int Gm underlying156 underlying3 (Gn w) (keyOf_string_mk underlying9 I);have C:=J.val s;unfold wW at C;rw[C] at o;injection o with o;injection o with _ o;rw[←o] at j;exact j
theorem cK.len (h:cK w b l)(ty:TypeId):(Builtin.len_ #[156] ty #[.map (some b)]).run prog w=.ok (.int .i64 l.length) w:=by obtain⟨D,h,j⟩:=h;rw[h.len underlying156,j.size]
theorem gN {ops:Array Oper}{rest:List Oper}{o:Oper}{a:Act}{Q:Exit→Act→World→Prop}(C:o.guard=none)(m x v:Operand)(j:o.op=Op.mapUpdate 156 m x v)
 (b:Nat) (l:List ByteArray) (hm:a.eval m=.map (some b)) (h:cK w b l) (hl:l.length<1000000) (s:ByteArray) (I:a.eval x=.string s) (J:a.eval v=.int .i64 l.length) (R:s.size≤maxLen) (Y:aO l s<0)
 (hK:∀w',cK w' b (l++[s])→w.grownBy w' (some b)→wpList prog ops Q rest (a.put o.dst undef) w'):wpList prog ops Q (o::rest) a w:=by
 obtain⟨D,hD,hd⟩:=h
 refine wpList_mapUpdate_own (H:=Unit) w C m x v 156 j 9 3 Gm underlying156 _ b l.length D hm hD (by unfold maxLen;omega) _ _ _ I J (keyOf_string_mk underlying9 R) _ []
  (plainElem_int underlying3 (by simp[Lit.wf,IntKind.min,IntKind.max,IntKind.signed,IntKind.bits];omega)) fun w' h1 h2=>hK w' ⟨_,by rw[iQ];exact h1,hd.put Y⟩ h2
end
end
structure jx (x:bz):Prop where
 kind:x.kind<256
 op:x.op<256
 dst:aV x.dst
 ref:aV x.ref
 Ni:aV x.Ni
 num:aV x.num
 Nj:aV x.Nj
def KD:cO bz:=fun S w cs x=>∃a f,cs=[.int .u8 x.kind,.int .u8 x.op,.int .i64 x.dst,.int .i64 x.ref,.int .i64 x.Ni,a,f,.int .i64 x.num,.int .i64 x.Nj]∧aK S w a x.args∧aK S w f x.Nh∧jx x
theorem sH:cO.Good KD:=by
 constructor
 ·rintro S w I cs x k ⟨a,f,e,j,o,C⟩
  exact⟨a,f,e,ah.keep k j,ah.keep k o,C⟩
 rintro S T w cs x k ⟨a,f,e,j,o,C⟩;exact⟨a,f,e,ah.wide k j,ah.wide k o,C⟩
abbrev tZ:=rx 9 96 KD
theorem cT:bT.Good tZ:=cH sH
abbrev bW:=Sl 24 tZ
theorem bg:bT.Good bW:=oR cT
def qO:cO aw:=fun S w cs b=>∃v,cs=[.int .i64 b.params,.int .i64 b.vars,v]∧bW S w v b.Ng∧aV b.params∧aV b.vars
theorem gI:cO.Good qO:=by
 constructor
 ·rintro S w C cs x k ⟨v,e,j,o⟩
  exact⟨v,e,bg.keep k j,o⟩
 rintro S T w cs x k ⟨v,e,j,o⟩;exact⟨v,e,bg.wide k j,o⟩
abbrev mL:=rx 3 40 qO
theorem bV:bT.Good mL:=cH gI
def rI:cO (Int×Int):=fun _ _ cs x=>cs=[.int .i64 x.1,.int .i64 x.2]∧aV x.1∧aV x.2
theorem jq:cO.Good rI:=⟨fun _ h=>h,fun _ h=>h⟩
abbrev ev:=rx 2 16 rI
theorem bu:bT.Good ev:=cH jq
def cQ (S:Nat→Prop)(w:World)(v:Value)(c:aE):Prop:=∃a f,v=.agg #[a,f,.int .i64 c.main]∧ev S w a c.Nd∧mL S w f c.Nf∧aV c.main
theorem dc:bT.Good cQ:=by
 constructor
 ·rintro S w I v c k ⟨a,f,e,j,o,C⟩
  exact⟨a,f,e,bu.keep k j,bV.keep k o,C⟩
 rintro S T w v c k ⟨a,f,e,j,o,C⟩;exact⟨a,f,e,bu.wide k j,bV.wide k o,C⟩
structure uB (x:cX):Prop where
 kind:x.kind<256
 op:x.op<256
 num:aV x.num
 Nj:aV x.Nj
 dst:x.dst.size≤140737488355328
 ref:x.ref.size≤140737488355328
 Ni:x.Ni.size≤140737488355328
 args:∀s∈x.args,s.size≤140737488355328
 Nh:∀s∈x.Nh,s.size≤140737488355328
def zH:cO cX:=fun S w cs x=>∃a f,cs=[.int .u8 x.kind,.int .u8 x.op,.string x.dst,.string x.ref,.string x.Ni,a,f,.int .i64 x.num,.int .i64 x.Nj]∧gB S w a x.args∧gB S w f x.Nh∧uB x
theorem nM:cO.Good zH:=by
 constructor
 ·rintro S w I cs x k ⟨a,f,e,j,o,C⟩
  exact⟨a,f,e,ax.keep k j,ax.keep k o,C⟩
 rintro S T w cs x k ⟨a,f,e,j,o,C⟩;exact⟨a,f,e,ax.wide k j,ax.wide k o,C⟩
abbrev Im:=rx 9 120 zH
theorem it:bT.Good Im:=cH nM
def qh:cO eS:=fun S w cs b=>∃v,cs=[.string b.name,v,.int .i64 b.Nj]∧Im S w v b.code∧aV b.Nj∧b.name.size≤140737488355328
theorem lK:cO.Good qh:=by
 constructor
 ·rintro S w C cs x k ⟨v,e,j,o⟩
  exact⟨v,e,it.keep k j,o⟩
 rintro S T w cs x k ⟨v,e,j,o⟩;exact⟨v,e,it.wide k j,o⟩
abbrev mJ:=rx 3 48 qh
theorem eH:bT.Good mJ:=cH lK
def uA:cO cD:=fun S w cs f=>∃p v,cs=[.string f.name,p,v,.int .i64 f.Nj]∧gB S w p f.params∧mJ S w v f.Ng∧aV f.Nj∧f.name.size≤140737488355328∧∀s∈f.params,s.size≤140737488355328
theorem nj:cO.Good uA:=by
 constructor
 ·rintro S w I cs x k ⟨p,v,e,j,o,C⟩
  exact⟨p,v,e,ax.keep k j,eH.keep k o,C⟩
 rintro S T w cs x k ⟨p,v,e,j,o,C⟩;exact⟨p,v,e,ax.wide k j,eH.wide k o,C⟩
abbrev BC:=rx 4 72 uA
theorem iX:bT.Good BC:=cH nj
def EB:cO EL:=fun _ _ cs a=>cs=[.string a.name,.int .i64 a.size,.string a.level,.int .i64 a.Nj]∧aV a.size∧aV a.Nj∧a.name.size≤140737488355328∧a.level.size≤140737488355328
theorem pH:cO.Good EB:=⟨fun _ h=>h,fun _ h=>h⟩
abbrev Kx:=rx 4 48 EB
theorem lJ:bT.Good Kx:=cH pH
def BF (S:Nat→Prop)(w:World)(v:Value)(q:dN):Prop:=∃a f,v=.agg #[a,f]∧Kx S w a q.Nd∧BC S w f q.Nf
theorem sI:bT.Good BF:=by
 constructor
 ·rintro S w C v c k ⟨a,f,e,j,o⟩
  exact⟨a,f,e,lJ.keep k j,iX.keep k o⟩
 rintro S T w v c k ⟨a,f,e,j,o⟩;exact⟨a,f,e,lJ.wide k j,iX.wide k o⟩
theorem aZ {α:Type}{n bw:Nat}{E:cO α}{S:Nat→Prop}{w:World}{A:Option Addr}{m c:Nat}{l:List α}(h:rx n bw E S w (.slice A m c) l){i:Nat}{x:α}(hi:l[i]? =some x):
 ∃b o cs,A=some ⟨b,o,none⟩∧S b∧cs.length=n∧(∀(j:Nat) c,cs[j]? =some c→w.cell? ⟨b,o+i*n+j,none⟩=some c)∧E S w cs x:=by
 obtain⟨a,cap,C,_,_,_,h⟩:=h;injection C with I J R;subst I;exact h i _ hi
theorem bn {α:Type}{bw:Nat}{E:bT α}{S:Nat→Prop}{w:World}{A:Option Addr}{m c:Nat}{l:List α}(h:Sl bw E S w (.slice A m c) l){i:Nat}{x:α}(hi:l[i]? =some x):
 ∃b o v,A=some ⟨b,o,none⟩∧S b∧w.cell? ⟨b,o+i,none⟩=some v∧E S w v x:=by
 obtain⟨a,cap,j,_,_,_,h⟩:=h;injection j with C I J;subst C;exact h i _ hi
theorem sh {w wn:World}{t:TypeId}{cs:Array Value}(h:aa All (w.alloc (.cells cs t)) wn)(i:Nat):wn.cell? ⟨w.heap.size,i,none⟩=cs[i]?:=((al.new w t cs).kept h trivial).cell i
def KG (e:Ending):Prop:=∃a n:Int,n≠0∧aV a∧aV n∧e=.panicked [{v:=.iface 153 (.agg #[.int .i64 a,.int .i64 n]),recovered:=false}]
def ql (C:Prop)(R:Ending→World→Prop)(w:World)(e:Ending)(j:World):Prop:=(C∧R e j)∨(¬C∧KG e∧aa All w j)
theorem dX (a n:Int)(w:World):Calls prog 83 #[.bool true,.int .i64 a,.int .i64 n] w fun e j=>e=.returned (.tuple #[])∧w=j:=by
 go_enter func83,ntmps83;go_wp2
 go_end0
 exact⟨rfl,rfl⟩
theorem fP (a n:Int)(w:World):Calls prog 83 #[.bool false,.int .i64 a,.int .i64 n] w fun e j=>e=.panicked [{v:=.iface 153 (.agg #[.int .i64 a,.int .i64 n]),recovered:=false}]∧w=j:=by go_enter func83,ntmps83;go_wp2;exact⟨rfl,rfl,rfl⟩
theorem nQ (r a:Int)(w:World):Calls prog 85 #[.int .i64 r,.bool true,.int .i64 a] w fun e j=>e=.returned (.int .i64 r)∧w=j:=by go_enter func85,ntmps85;go_wp2_with (go_at_call 83;refine(dX _ _ _).mono ?_;rintro e j ⟨rfl,rfl⟩);go_ret;exact⟨rfl,rfl⟩
theorem pK (r a:Int)(w:World)(o:aV a):Calls prog 85 #[.int .i64 r,.bool false,.int .i64 a] w fun e j=>KG e∧w=j:=by go_enter func85,ntmps85;go_wp2_with (go_at_call 83;refine(fP _ _ _).mono ?_;rintro e j ⟨rfl,rfl⟩);exact⟨rfl,⟨a,10,by decide,o,by unfold aV;omega,rfl⟩,rfl⟩
theorem lQ (b:Nat)(l:List ByteArray)(s:ByteArray)(a:Int)(w:World)(hm:cK w b l)(I:s.size≤140737488355328)(C:aV a):
 Calls prog 201 #[.map (some b),.string s,.int .i64 a] w fun e j=>ql (0≤aO l s) (fun e j=>e=.returned (.int .i64 (aO l s))∧w=j) w e j:=by
 have o:=hm.look (s:=s) (by unfold maxLen;omega);generalize aO l s=r at*;by_cases h:0≤r;·rw[Int.max_eq_left h,bL h] at o;have H:=oH h;clear h;go_enter func201,ntmps201;go_wp2_with (go_at_call 83;refine(dX _ _ _).mono ?_;rintro e j ⟨rfl,rfl⟩);go_ret;exact .inl ⟨H.out,rfl,rfl⟩
 rw[cI h] at o;have H:=oH h;clear h;go_enter func201,ntmps201;go_wp2_with (go_at_call 83;refine(fP _ _ _).mono ?_;rintro e j ⟨rfl,rfl⟩);exact⟨rfl,.inr ⟨by have:=H.out;omega,⟨a,10,by decide,C,by unfold aV;omega,rfl⟩,kR⟩⟩
end Go.Proofs.YtccbbkopmlnkpaaGreatDoor
