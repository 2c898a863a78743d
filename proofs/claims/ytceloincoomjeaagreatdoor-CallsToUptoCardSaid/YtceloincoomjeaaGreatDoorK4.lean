/- Part 5 of the proof of CallsTo (its last part says what is proved). No condition. -/
import Derived.Test.YtceloincoomjeaaGreatDoorK3
namespace Go.Proofs.YtceloincoomjeaaGreatDoor
set_option maxRecDepth 100000
set_option maxHeartbeats 8000000
open Go.RowKit Go.Proofs.Tryz
def sE (p:Nat→Bool)(n:Nat):Int:=match (List.range n).find? p with|some a=>(a:Int)|none=> -1
theorem lI {p:Nat→Bool}{n k:Nat}(o:k<n)(h:p k=true)(l:∀j,j<k→p j=false):sE p n=k:=by
 unfold sE;have:(List.range n).find? p=some k:=by rw[List.find?_range_eq_some];exact⟨h,fg.2 o,fun j C=>by rw[l j C];rfl⟩
 rw[this]
theorem jW {p:Nat→Bool}{n:Nat}(l:∀j,j<n→p j=false):sE p n= -1:=by
 unfold sE;have:(List.range n).find? p=none:=by rw[List.find?_eq_none];intro a o;rw[l a (fg.1 o)];exact oG
 rw[this]
theorem vg (p:Nat→Bool)(n:Nat):(∃k,k<n∧p k=true∧∀j,j<k→p j=false)∨∀j,j<n→p j=false:=by
 induction n with
 |zero=>exact .inr fun j o=>by omega
 |succ n C=>
  rcases C with ⟨k,R,I,J⟩|h;·exact .inl ⟨k,by omega,I,J⟩
  cases l:p n with
  |true=>exact .inl ⟨n,by omega,l,h⟩
  |false=>
   refine .inr fun j o=>?_;by_cases e:j=n;·subst e;exact l
   exact h j (by omega)
theorem sF {p q:Nat→Bool}{n m:Nat}(J:n≤m)(h:∀j,j<n→p j=q j)(h':∀j,n≤j→j<m→q j=false):sE p n=sE q m:=by
 rcases vg p n with ⟨k,C,l,I⟩|l;·rw[lI C l I,lI (p:=q) (n:=m) (k:=k) (by omega) (by rw[←h k C];exact l) fun j o=>by rw[←h j (by omega)];exact I j o]
 rw[jW l,jW fun j o=>?_];by_cases e:j<n;·rw[←h j e];exact l j e
 exact h' j (by omega) o
theorem wP (p:Nat→Bool)(n:Nat): -1≤sE p n∧sE p n<n:=by
 rcases vg p n with ⟨k,l,j,o⟩|j;·rw[lI l j o];omega
 rw[jW j];omega
def aJ (up:List (BitVec 64))(i:Nat):BitVec 64:=up.getD i 0#64
theorem JS {up:List (BitVec 64)}{i:Nat}{x:BitVec 64}(h:up[i]? =some x):aJ up i=x:=by simp[aJ,h]
theorem Hw {up:List (BitVec 64)}{i:Nat}(h:i<up.length):up[i]? =some (aJ up i):=by simp[aJ,h]
theorem pZ {x y:BitVec 64}:(x&&& ~~~y=0#64)↔∀k,k<64→x.getLsbD k=true→y.getLsbD k=true:=by
 constructor
 ·intro h k l j
  have:=congrArg (fun z=>z.getLsbD k) h;simp[l,j] at this;exact this
 intro h;apply BitVec.eq_of_getLsbD_eq;intro i hi;have:=h i hi;cases j:x.getLsbD i with
 |false=>simp[j]
 |true=>simp[j,this j]
def dI (up:List (BitVec 64)):Prop:=1≤up.length∧up.length≤64∧∀i,i<up.length→(aJ up i).getLsbD i=true∧
 ∀k,k<64→(aJ up i).getLsbD k=true→k<up.length∧(k≠i→(aJ up k).getLsbD i=false)∧aJ up k&&& ~~~(aJ up i)=0#64
def jB (up:List (BitVec 64))(set:BitVec 64)(k:Nat):Bool:=set.getLsbD k&&(set&&& ~~~(aJ up k)==0#64)
def gq (up:List (BitVec 64))(set:BitVec 64):Int:=sE (jB up set) 64
def sM (up:List (BitVec 64))(a b k:Nat):Bool:=(aJ up a).getLsbD k&&(aJ up b).getLsbD k&&(List.range up.length).all fun m=>!(aJ up a).getLsbD m||!(aJ up b).getLsbD m||(aJ up k).getLsbD m
def iY (up:List (BitVec 64))(a b:Nat):Int:=sE (sM up a b) up.length
def sV (up:List (BitVec 64))(a b k:Nat):Bool:=(aJ up k).getLsbD a&&(aJ up k).getLsbD b&&(List.range up.length).all fun m=>!(aJ up m).getLsbD a||!(aJ up m).getLsbD b||(aJ up m).getLsbD k
def iZ (up:List (BitVec 64))(a b:Nat):Int:=sE (sV up a b) up.length
def ue (up:List (BitVec 64)):Prop:=dI up∧∀a,a<up.length→∀b,b<a→0≤iY up a b∧0≤iZ up a b
def zt (f:Nat→Bool):Nat→BitVec 64
 |0=>0#64
 |n+1=>if f n then zt f n|||1#64<<<n else zt f n
theorem zu (f:Nat→Bool)(n k:Nat)(C:k<64):(zt f n).getLsbD k=(decide (k<n)&&f k):=by
 induction n with
 |zero=>simp[zt]
 |succ n o=>
  have I:(1#64<<<n).getLsbD k=decide (k=n):=by(
 rw[BitVec.getLsbD_shiftLeft];by_cases e:k=n;·subst e;simp[C]
 by_cases h:k<n;·simp[h,e]
 have J:k-n≠0:=by omega
 simp[h,J,e])
  rw[zt];by_cases j:f n=true
  ·rw[ap j,BitVec.getLsbD_or,o,I];by_cases e:k=n;·subst e;simp[j]
   have l:(k<n+1)↔(k<n):=by omega
   simp[e,l]
  rw[ae j,o];by_cases e:k=n
  ·subst e;have:f k=false:=by simpa using j
   simp[this]
  have l:(k<n+1)↔(k<n):=by omega
  simp[l]
def ow (up:List (BitVec 64))(n k:Nat):BitVec 64:=zt (fun i=>(aJ up i).getLsbD k) n
def dE (up:List (BitVec 64)):List (BitVec 64):=(List.range up.length).map (ow up up.length)
theorem kF (up:List (BitVec 64)):(dE up).length=up.length:=by simp[dE]
theorem vW {up:List (BitVec 64)}{k:Nat}(h:k<up.length):aJ (dE up) k=ow up up.length k:=by simp[aJ,dE,h]
theorem eI {up:List (BitVec 64)}{i k:Nat}(h:k<up.length)(hi:i<64):(aJ (dE up) k).getLsbD i=(decide (i<up.length)&&(aJ up i).getLsbD k):=by rw[vW h,ow,zu _ _ _ hi]
theorem nJ {n:Nat}{p:Nat→Bool}:(List.range n).all p=true↔∀m,m<n→p m=true:=by rw[List.all_eq_true];exact⟨fun h m hm=>h m (fg.2 hm),fun h m hm=>h m (fg.1 hm)⟩
theorem sQ {up:List (BitVec 64)}(R:dI up){a b:Nat}(Y:a<up.length)(_:b<up.length):gq up (aJ up a&&&aJ up b)=iY up a b:=by
 obtain⟨Z,C,h⟩:=R;have l:∀k,k<64→(aJ up a).getLsbD k=true→k<up.length:=fun k J hb=>((h a Y).2 k J hb).1;refine(sF C (fun k J=>?_) fun k Z h2=>?_).symm;·(
 unfold sM jB;rw[BitVec.getLsbD_and];congr 1;rw[Bool.eq_iff_iff,nJ,cy,pZ];constructor
 ·intro hm m o j
  rw[BitVec.getLsbD_and,gE] at j;have:=hm m (l m o j.1);simpa [j.1,j.2] using this
 intro hm m a1;cases I:(aJ up a).getLsbD m with
 |false=>rfl
 |true=>
  cases hy:(aJ up b).getLsbD m with
  |false=>rfl
  |true=>simpa using hm m (by omega) (by rw[BitVec.getLsbD_and,I,hy];rfl))
 unfold jB;rw[BitVec.getLsbD_and];cases I:(aJ up a).getLsbD k with
 |false=>rfl
 |true=>have:=l k h2 I;omega
theorem sR {up:List (BitVec 64)}(Y:dI up){a b:Nat}(C:a<up.length)(I:b<up.length):gq (dE up) (aJ (dE up) a&&&aJ (dE up) b)=iZ up a b:=by
 obtain⟨Z,J,h⟩:=Y;refine(sF J (fun k R=>?_) fun k Z h2=>?_).symm;·(
 unfold sV jB;rw[BitVec.getLsbD_and,eI C (by omega),eI I (by omega),bL R,Bool.true_and,Bool.true_and];congr 1;rw[Bool.eq_iff_iff,nJ,cy,pZ];constructor;·intro hm m j l;rw[BitVec.getLsbD_and,eI C j,eI I j,gE,gE,gE,iH] at l;have:=hm m l.1.1;rw[eI R j,bL l.1.1];simpa [l.1.2,l.2.2] using this
 intro hm m o;cases hx:(aJ up m).getLsbD a with
 |false=>rfl
 |true=>
  cases hy:(aJ up m).getLsbD b with
  |false=>rfl
  |true=>have:=hm m (by omega) (by rw[BitVec.getLsbD_and,eI C (by omega),eI I (by omega),hx,hy,bL o];rfl);rw[eI R (by omega),bL o] at this;simpa using this)
 unfold jB;rw[BitVec.getLsbD_and,eI C h2,cI (by omega)];rfl
def Aw:Nat→Nat→List UInt8
 |0,_=>[]
 |f+1,u=>UInt8.ofNat (48+u%10)::(if u/10=0 then [] else Aw f (u/10))
def kK (u:Nat):List UInt8:=(Aw 20 u).reverse
def iK (n:Int):List UInt8:=(if n<0 then [45] else [])++kK n.natAbs
def tr (c:UInt8)(n:Int):List UInt8:=c::iK n
def aL (c:UInt8)(n:Int):ByteArray:=⟨(tr c n).toArray⟩
def JT:List UInt8→Nat
 | []=>0
 |d::l=>(d.toNat-48)+10*JT l
theorem nL (u:Nat):(UInt8.ofNat (48+u%10)).toNat=48+u%10:=by rw[UInt8.toNat_ofNat'];have:u%10<10:=Nat.mod_lt _ (by decide);omega
theorem wV:∀(f u:Nat),u<10^f→JT (Aw f u)=u
 |0,u,h=>by simp at h;subst h;rfl
 |f+1,u,h=>by
  rw[Aw,JT,nL];by_cases j:u/10=0;·rw[ap j,JT];omega
  rw[ae j,wV f (u/10) (by rw[Nat.pow_succ] at h;omega)];omega
theorem sP:∀(f u:Nat),∀d∈Aw f u,48≤d.toNat∧d.toNat≤57
 |0,_,d,h=>by simp[Aw] at h
 |f+1,u,d,h=>by(
 rw[Aw] at h;rcases fX.1 h with rfl|h;·rw[nL];omega
 by_cases j:u/10=0;·rw[ap j] at h;simp at h
 rw[ae j] at h;exact sP f _ d h)
theorem Cb:∀(f u:Nat),(Aw f u).length≤f
 |0,_=>by simp[Aw]
 |f+1,u=>by
  rw[Aw];by_cases j:u/10=0;·rw[ap j];simp
  rw[ae j];have:=Cb f (u/10);simp;omega
theorem Ju (f u:Nat)(j:0<f):0<(Aw f u).length:=by
 cases f with
 |zero=>omega
 |succ f=>rw[Aw];simp
theorem xX {u v:Nat}(hu:u<10^20)(j:v<10^20)(h:kK u=kK v):u=v:=by have:=List.reverse_inj.1 h;rw[←wV 20 u hu,←wV 20 v j,this]
theorem nd (u:Nat):∀d∈kK u,48≤d.toNat∧d.toNat≤57:=fun d h=>sP 20 u d (by simpa [kK] using h)
theorem sw (u:Nat):1≤(kK u).length∧(kK u).length≤20:=by have j:=Cb 20 u;have l:=Ju 20 u (by decide);simp[kK];omega
def aV (n:Int):Prop:= -9223372036854775808≤n∧n≤9223372036854775807
theorem rZ {n:Int}(h:aV n):n.natAbs<10^20:=by unfold aV at h;omega
theorem uS (u:Nat):∀d,(kK u).head? =some d→d≠45:=by intro d h;have hm:d∈kK u:=List.mem_of_mem_head? h;have:=nd u d hm;rintro rfl;revert this;decide
theorem Eg {n m:Int}(o:aV n)(hm:aV m)(h:iK n=iK m):n=m:=by
 unfold iK at h;by_cases l:n<0
 ·by_cases j:m<0
  ·rw[ap l,ap j] at h
   have:=xX (rZ o) (rZ hm) (List.append_cancel_left h);omega
  rw[ap l,ae j] at h;exfalso;refine uS m.natAbs 45 ?_ rfl;rw[show kK m.natAbs=[45]++kK n.natAbs from by simpa using h.symm];rfl
 by_cases j:m<0
 ·rw[ae l,ap j] at h
  exfalso;refine uS n.natAbs 45 ?_ rfl;rw[show kK n.natAbs=[45]++kK m.natAbs from by simpa using h];rfl
 rw[ae l,ae j] at h;have:=xX (rZ o) (rZ hm) (List.append_cancel_left h);omega
theorem Gq {c d:UInt8}{n m:Int}(j:aV n)(hm:aV m)(h:tr c n=tr d m):c=d∧n=m:=by unfold tr at h;injection h with l o;exact⟨l,Eg j hm o⟩
theorem pQ {c d:UInt8}{n m:Int}(j:aV n)(hm:aV m)(h:aL c n=aL d m):c=d∧n=m:=by apply Gq j hm;unfold aL at h;injection h with h;simpa using congrArg Array.toList h
theorem vV (n:Int):1≤(iK n).length∧(iK n).length≤21:=by unfold iK;have:=sw n.natAbs;split<;>simp<;>omega
structure bz where
 kind:Nat
 op:Nat
 dst:Int
 ref:Int
 Ni:Int
 args:List Int
 Nh:List Int
 num:Int
 Nj:Int
structure aw where
 params:Int
 vars:Int
 Ng:List (List bz)
structure aE where
 Nd:List (Int×Int)
 Nf:List aw
 main:Int
structure cX where
 kind:Nat
 op:Nat
 dst:ByteArray
 ref:ByteArray
 Ni:ByteArray
 args:List ByteArray
 Nh:List ByteArray
 num:Int
 Nj:Int
structure eS where
 name:ByteArray
 code:List cX
 Nj:Int
structure cD where
 name:ByteArray
 params:List ByteArray
 Ng:List eS
 Nj:Int
structure EL where
 name:ByteArray
 size:Int
 level:ByteArray
 Nj:Int
structure dN where
 Nd:List EL
 Nf:List cD
def gR:ByteArray:=⟨#[]⟩
def fO:ByteArray:=⟨#[109,97,105,110]⟩
def aO (l:List ByteArray)(s:ByteArray):Int:=gJ (fun x=>x.toList==s.toList) l
theorem cM {x y:ByteArray}:(x.toList==y.toList)=true↔x=y:=by
 rw[cy];constructor;·(
 intro h;have o:∀z:ByteArray,z.toList=z.data.toList:=fun z=>by
  have:∀(i:Nat) (r:List UInt8),i≤z.size→ByteArray.toList.loop z i r=r.reverse++z.data.toList.drop i:=by(
 intro i;induction I:z.size-i generalizing i with
 |zero=>
  intro r hi;rw[ByteArray.toList.loop];have e:¬i<z.size:=by omega
  rw[ae e,List.drop_of_length_le (by simp only[Array.length_toList];show z.size≤i;omega)];simp
 |succ n C=>
  intro r hi;have j:i<z.size:=by omega
  have l:i<z.data.toList.length:=by simpa using j
  rw[ByteArray.toList.loop,ap j,C (i+1) (by omega) _ (by omega),List.drop_eq_getElem_cons l];simp[ByteArray.get!,j])
  unfold ByteArray.toList;rw[this 0 [] (by omega)];simp
 rw[o,o] at h;cases x;cases y;congr 1;exact Array.toList_inj.1 h)
 rintro rfl;rfl
theorem vL {l:List ByteArray}{k:Nat}{s:ByteArray}(C:l[k]? =some s)(I:l.Nodup):aO l s=k:=by
 refine lL C (cM.2 rfl) fun y J=>?_;cases R:(y.toList==s.toList) with
 |false=>rfl
 |true=>have e:=cM.1 R;subst e;exfalso;obtain⟨i,hi,rfl⟩:=List.mem_take_iff_getElem.1 J;obtain⟨j,o⟩:=lS.1 C;exact(List.pairwise_iff_getElem.1 I) i k (by omega) j (by omega) o.symm
theorem jb {l:List ByteArray}{s:ByteArray}(h:s∉l):aO l s= -1:=by
 refine lM fun y j=>?_;cases o:(y.toList==s.toList) with
 |false=>rfl
 |true=>exact absurd (cM.1 o▸j) h
theorem cm {l:List ByteArray}{s:ByteArray}:0≤aO l s↔s∈l:=by
 constructor
 ·intro h
  by_cases hm:s∈l;·exact hm
  rw[jb hm] at h;omega
 intro h;unfold aO gJ;rw[ap (mW.2 ⟨s,h,cM.2 rfl⟩)];omega
theorem yS {l:List ByteArray}{s:ByteArray}(h:s∈l):∃k:Nat,aO l s=k∧l[k]? =some s:=by unfold aO gJ;have o:l.any (fun x=>x.toList==s.toList)=true:=mW.2 ⟨s,h,cM.2 rfl⟩;rw[ap o];refine⟨_,rfl,?_⟩;have j:=List.findIdx_lt_length_of_exists (p:=fun x:ByteArray=>x.toList==s.toList) (xs:=l) (mW.1 o);rw[lG j];have:=List.findIdx_getElem (w:=j);rw[cM.1 this]
def dD (p:aH):Prop:=p.MZ.length=p.up.length∧ue p.up∧1≤p.Nc∧p.Nc≤64∧(∀(i:Nat) s,p.MZ[i]? =some s→aB s=true∧eZ p s=i)∧cE p p.Nb∧cE p p.Na
structure rT where
 args:Int
 dst:Bool
 ref:Bool
 Ni:Bool
def cJ:Nat→Option rT
 |1=>some ⟨0,true,false,false⟩
 |2=>some ⟨2,true,false,false⟩
 |4=>some ⟨1,true,true,false⟩
 |5=>some ⟨1,true,true,false⟩
 |6=>some ⟨2,false,true,false⟩
 |7=>some ⟨-1,true,true,false⟩
 |8=>some ⟨0,true,true,false⟩
 |9=>some ⟨1,false,true,false⟩
 |10=>some ⟨1,true,true,false⟩
 |11=>some ⟨0,false,true,false⟩
 |12=>some ⟨1,false,true,true⟩
 |13=>some ⟨1,false,false,false⟩
 |_=>none
def fS (s:ByteArray)(wanted:Bool):Prop:=if wanted=true then aB s=true else s=gR
def fj (x:cX):Prop:=(x.op≠0↔x.kind=2)∧x.op≤12∧(x.num≠0→x.kind=1)∧(∀a∈x.args,aB a=true)∧(∀a∈x.Nh,aB a=true)∧
 (x.kind=3→aB x.dst=true∧x.ref=gR∧x.Ni=gR∧x.Nh.length=x.args.length∧1≤x.Nh.length∧x.Nh.length≤64)∧
 (x.kind≠3→∃s,cJ x.kind=some s∧x.Nh=[]∧(0≤s.args→(x.args.length:Int)=s.args)∧x.args.length≤6∧fS x.dst s.dst∧fS x.ref s.ref∧fS x.Ni s.Ni)
def fT (f:cD):Prop:=aB f.name=true∧(∀a∈f.params,aB a=true)∧f.params.length≤6∧1≤f.Ng.length∧f.Ng.length≤64∧∀b∈f.Ng,aB b.name=true∧∀x∈b.code,fj x
def gl (f:cD):Nat:=(f.Ng.map fun b=>b.code.length).sum
def xA (a:EL):Prop:=aB a.name=true∧aB a.level=true∧1≤a.size∧a.size≤256
def fV (q:dN):Prop:=q.Nd.length≤16∧q.Nf.length≤64∧(∀a∈q.Nd,xA a)∧(∀f∈q.Nf,fT f)∧(q.Nf.map gl).sum≤4096
def dx (p:aH)(x:bz):Prop:=(x.kind=8→0≤x.ref∧x.ref<p.Nb.length)∧(x.kind=9→0≤x.ref∧x.ref<p.Na.length)∧(x.kind=10→0≤x.ref∧x.ref<p.MZ.length)
def lX (p:aH)(b:aw):Prop:=0≤b.params∧b.params≤6∧∀l∈b.Ng,∀x∈l,dx p x
def pi (p:aH)(c:aE):Prop:=(∀a∈c.Nd,0≤a.2∧a.2<p.MZ.length)∧∀b∈c.Nf,lX p b
def qY (main i:Int):ByteArray:=if i=main then fO else aL 102 i
def gW (p:aH)(main:Int)(x:bz):ByteArray:=
 if x.kind=4∨x.kind=5∨x.kind=6 then aL 97 x.ref
 else if x.kind=7 then qY main x.ref
 else if x.kind=8 then(p.Nb.getD x.ref.toNat (gR,0)).1
 else if x.kind=9 then(p.Na.getD x.ref.toNat (gR,0)).1
 else if x.kind=10 then p.MZ.getD x.ref.toNat gR
 else if x.kind=11∨x.kind=12 then aL 98 x.ref
 else gR
def jC (p:aH)(main:Int)(x:bz):cX:=
 {kind:=x.kind,op:=x.op,dst:=if 0≤x.dst then aL 118 x.dst else gR,ref:=gW p main x,Ni:=if x.kind=12 then aL 98 x.Ni else gR,
  args:=x.args.map (aL 118),Nh:=x.Nh.map (aL 98),num:=x.num,Nj:=x.Nj}
def eh (p:aH)(main:Int)(k:Nat)(l:List bz):eS:= {name:=aL 98 k,code:=l.map (jC p main),Nj:=0}
def bU (p:aH)(main:Int)(i:Nat)(b:aw):cD:=
 {name:=qY main i,params:=(List.range b.params.toNat).map fun(k:Nat)=>aL 118 k,Ng:=b.Ng.mapIdx (eh p main),Nj:=0}
def sa (p:aH)(i:Nat)(a:Int×Int):EL:= {name:=aL 97 i,size:=a.1,level:=p.MZ.getD a.2.toNat gR,Nj:=0}
def cP (p:aH)(c:aE):dN:= {Nd:=c.Nd.mapIdx (sa p),Nf:=c.Nf.mapIdx (bU p c.main)}
def sx (f:cD):List ByteArray:=(f.Ng.flatMap fun b=>b.code.map fun x=>x.dst).filter fun s=>decide (s≠gR)
def bh (f:cD):List ByteArray:=f.params++sx f
def cn (f:cD):List ByteArray:=f.Ng.map fun b=>b.name
def fh (q:dN):List ByteArray:=q.Nf.map fun f=>f.name
def dz (q:dN):List ByteArray:=q.Nd.map fun a=>a.name
def dv (p:aH)(q:dN)(f:cD)(x:cX):Int:=
 if x.kind=4∨x.kind=5∨x.kind=6 then aO (dz q) x.ref
 else if x.kind=7 then aO (fh q) x.ref
 else if x.kind=8 then fD p.Nb x.ref
 else if x.kind=9 then fD p.Na x.ref
 else if x.kind=10 then eZ p x.ref
 else if x.kind=11∨x.kind=12 then aO (cn f) x.ref
 else 0
def dy (f:cD)(x:cX):Int:=if x.kind=12 then aO (cn f) x.Ni else 0
def pg (p:aH)(q:dN)(f:cD)(x:cX):bz:=
 {kind:=x.kind,op:=x.op,dst:=if x.dst=gR then-1 else aO (bh f) x.dst,ref:=dv p q f x,Ni:=dy f x,
  args:=x.args.map (aO (bh f)),Nh:=x.Nh.map (aO (cn f)),num:=x.num,Nj:=x.Nj}
def il (p:aH)(q:dN)(f:cD):aw:= {params:=f.params.length,vars:=(bh f).length,Ng:=f.Ng.map fun b=>b.code.map (pg p q f)}
def qV (p:aH)(q:dN):aE:= {Nd:=q.Nd.map fun a=>(a.size,eZ p a.level),Nf:=q.Nf.map (il p q),main:=aO (fh q) fO}
def mO (p:aH)(q:dN)(f:cD)(x:cX):Prop:=0≤dv p q f x∧0≤dy f x∧(∀a∈x.args,a∈bh f)∧(∀a∈x.Nh,a∈cn f)∧
 (x.kind=7→∀g,q.Nf[(dv p q f x).toNat]? =some g→x.args.length=g.params.length)
def mQ (kinds:List Nat):Prop:=kinds≠[]∧(∀(i:Nat) k,kinds[i]? =some k→(11≤k↔i+1=kinds.length))∧∀(i:Nat),kinds[i+1]? =some 3→kinds[i]? =some 3
def pj (p:aH)(q:dN)(f:cD):Prop:=(bh f).Nodup∧(cn f).Nodup∧∀b∈f.Ng,mQ (b.code.map fun x=>x.kind)∧∀x∈b.code,mO p q f x
def BG (p:aH)(q:dN):Prop:=(dz q).Nodup∧(∀a∈q.Nd,a.level∈p.MZ)∧(fh q).Nodup∧fO∈fh q∧(∀f∈q.Nf,f.name=fO→f.params=[])∧∀f∈q.Nf,pj p q f
def iE (x:bz):bz:= {x with Nj:=0}
def jD (x y:bz):Prop:=iE x=iE y
def Mc (a b:aE):Prop:=a.main=b.main∧a.Nd=b.Nd∧a.Nf.map (fun f=>(f.params,f.vars,f.Ng.map fun l=>l.map iE))=b.Nf.map (fun f=>(f.params,f.vars,f.Ng.map fun l=>l.map iE))
def eM (p:aH)(c:aE):Prop:=dD p∧c.Nf.length≤64∧c.Nd.length≤16∧pi p c∧fV (cP p c)∧BG p (cP p c)∧Mc (qV p (cP p c)) c
def cw:Nat→Option (Int×Bool×Bool×Bool)
 |1=>some (0,true,false,false)
 |2=>some (2,true,false,false)
 |3=>some (8,true,false,false)
 |4=>some (1,true,true,false)
 |5=>some (1,true,true,false)
 |6=>some (2,false,true,false)
 |7=>some (9,true,true,false)
 |8=>some (0,true,true,false)
 |9=>some (1,false,true,false)
 |10=>some (1,true,true,false)
 |11=>some (0,false,true,false)
 |12=>some (1,false,true,true)
 |13=>some (1,false,false,false)
 |_=>none
def cW (p:aH)(c:aE)(b:aw)(kind:Nat):Nat:=
 if kind=4∨kind=5∨kind=6 then c.Nd.length else if kind=7 then c.Nf.length else if kind=8 then p.Nb.length else if kind=9 then p.Na.length else if kind=10 then p.MZ.length else b.Ng.length
def aT (p:aH)(c:aE)(b:aw)(next:Int)(x:bz):Prop:=∃n dst ref Ni,cw x.kind=some (n,dst,ref,Ni)∧x.dst=(if dst=true then next else-1)∧(ref=false→x.ref=0)∧(Ni=false→x.Ni=0)∧
 (x.kind≠1→x.num=0)∧(x.kind≠2→x.op=0)∧(x.kind=2→1≤x.op∧x.op≤12)∧(ref=true→0≤x.ref∧x.ref<cW p c b x.kind)∧(Ni=true→0≤x.Ni∧x.Ni<b.Ng.length)∧
 (if x.kind=3 then x.Nh.length=x.args.length∧1≤x.Nh.length∧x.Nh.length≤64 else x.Nh=[]∧(x.args.length:Int)=if x.kind=7 then(c.Nf.getD x.ref.toNat ⟨0,0,[]⟩).params else n)∧
 (∀a∈x.args,0≤a∧a<b.vars)∧∀a∈x.Nh,0≤a∧a<b.Ng.length
def cj (l:List bz):Nat:=(l.filter fun x=>match cw x.kind with|some (_,d,_,_)=>d|none=>false).length
def qi (p:aH)(c:aE)(b:aw):Prop:=0≤b.params∧b.params≤6∧1≤b.Ng.length∧b.Ng.length≤64∧(∀l∈b.Ng,mQ (l.map fun x=>x.kind))∧
 (∀(k:Nat) x,b.Ng.flatten[k]? =some x→aT p c b (b.params+cj (b.Ng.flatten.take k)) x)∧b.vars=b.params+cj b.Ng.flatten
def ft (b:aw):Nat:=b.Ng.flatten.length
def bJ (p:aH)(c:aE):Prop:=dD p∧c.Nd.length≤16∧c.Nf.length≤64∧0≤c.main∧c.main<c.Nf.length∧(c.Nf.getD c.main.toNat ⟨0,0,[]⟩).params=0∧
 (∀a∈c.Nd,1≤a.1∧a.1≤256∧0≤a.2∧a.2<p.MZ.length)∧(∀b∈c.Nf,qi p c b)∧(c.Nf.map ft).sum≤4096
end Go.Proofs.YtceloincoomjeaaGreatDoor
