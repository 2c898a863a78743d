/- Part 5 of the proof (its last part says what is proved). No condition. -/
import Derived.Test.YtgdlhckhpolnnaaGreatDoorK3
namespace Go.Proofs.YtgdlhckhpolnnaaGreatDoor
set_option maxRecDepth 100000
set_option maxHeartbeats 8000000
open Go.RowKit Go.Proofs.Tryz
structure bz where
 kind:Nat
 op:Nat
 dst:Int
 ref:Int
 Ni:Int
 args:List Int
 Nh:List Int
 num:Int
 Nj:Int
structure aw where
 params:Int
 vars:Int
 Ng:List (List bz)
structure aE where
 Nd:List (Int×Int)
 Nf:List aw
 main:Int
structure cX where
 kind:Nat
 op:Nat
 dst:ByteArray
 ref:ByteArray
 Ni:ByteArray
 args:List ByteArray
 Nh:List ByteArray
 num:Int
 Nj:Int
structure eS where
 name:ByteArray
 code:List cX
 Nj:Int
structure cD where
 name:ByteArray
 params:List ByteArray
 Ng:List eS
 Nj:Int
structure EL where
 name:ByteArray
 size:Int
 level:ByteArray
 Nj:Int
structure dN where
 Nd:List EL
 Nf:List cD
def gR:ByteArray:=⟨#[]⟩
def fO:ByteArray:=⟨#[109,97,105,110]⟩
def aO (l:List ByteArray)(s:ByteArray):Int:=gJ (fun x=>x.toList==s.toList) l
theorem cM {x y:ByteArray}:(x.toList==y.toList)=true↔x=y:=by
 rw[cy];constructor;·(
 intro h;have C:∀z:ByteArray,z.toList=z.data.toList:=fun z=>by
  have:∀(i:Nat) (r:List UInt8),i≤z.size→ByteArray.toList.loop z i r=r.reverse++z.data.toList.drop i:=by(
 intro i;induction J:z.size-i generalizing i with
 |zero=>
  intro r hi;rw[ByteArray.toList.loop];have e:¬i<z.size:=by omega
  rw[ae e,List.drop_of_length_le (by simp only[Array.length_toList];show z.size≤i;omega)];simp
 |succ n I=>
  intro r hi;have j:i<z.size:=by omega
  have o:i<z.data.toList.length:=by simpa using j
  rw[ByteArray.toList.loop,ap j,I (i+1) (by omega) _ (by omega),List.drop_eq_getElem_cons o];simp[ByteArray.get!,j])
  unfold ByteArray.toList;rw[this 0 [] (by omega)];simp
 rw[C,C] at h;cases x;cases y;congr 1;exact Array.toList_inj.1 h)
 rintro rfl;rfl
theorem vL {l:List ByteArray}{k:Nat}{s:ByteArray}(C:l[k]? =some s)(I:l.Nodup):aO l s=k:=by
 refine lL C (cM.2 rfl) fun y J=>?_;cases R:(y.toList==s.toList) with
 |false=>rfl
 |true=>have e:=cM.1 R;subst e;exfalso;obtain⟨i,hi,rfl⟩:=List.mem_take_iff_getElem.1 J;obtain⟨j,o⟩:=lS.1 C;exact(List.pairwise_iff_getElem.1 I) i k (by omega) j (by omega) o.symm
theorem jb {l:List ByteArray}{s:ByteArray}(h:s∉l):aO l s= -1:=by
 refine lM fun y j=>?_;cases o:(y.toList==s.toList) with
 |false=>rfl
 |true=>exact absurd (cM.1 o▸j) h
theorem cm {l:List ByteArray}{s:ByteArray}:0≤aO l s↔s∈l:=by
 constructor
 ·intro h
  by_cases hm:s∈l;·exact hm
  rw[jb hm] at h;omega
 intro h;unfold aO gJ;rw[ap (mW.2 ⟨s,h,cM.2 rfl⟩)];omega
theorem yS {l:List ByteArray}{s:ByteArray}(h:s∈l):∃k:Nat,aO l s=k∧l[k]? =some s:=by unfold aO gJ;have o:l.any (fun x=>x.toList==s.toList)=true:=mW.2 ⟨s,h,cM.2 rfl⟩;rw[ap o];refine⟨_,rfl,?_⟩;have j:=List.findIdx_lt_length_of_exists (p:=fun x:ByteArray=>x.toList==s.toList) (xs:=l) (mW.1 o);rw[lG j];have:=List.findIdx_getElem (w:=j);rw[cM.1 this]
def dD (p:aH):Prop:=p.MZ.length=p.up.length∧ue p.up∧1≤p.Nc∧p.Nc≤64∧(∀(i:Nat) s,p.MZ[i]? =some s→aB s=true∧eZ p s=i)∧cE p p.Nb∧cE p p.Na
structure rT where
 args:Int
 dst:Bool
 ref:Bool
 Ni:Bool
def cJ:Nat→Option rT
 |1=>some ⟨0,true,false,false⟩
 |2=>some ⟨2,true,false,false⟩
 |4=>some ⟨1,true,true,false⟩
 |5=>some ⟨1,true,true,false⟩
 |6=>some ⟨2,false,true,false⟩
 |7=>some ⟨-1,true,true,false⟩
 |8=>some ⟨0,true,true,false⟩
 |9=>some ⟨1,false,true,false⟩
 |10=>some ⟨1,true,true,false⟩
 |11=>some ⟨0,false,true,false⟩
 |12=>some ⟨1,false,true,true⟩
 |13=>some ⟨1,false,false,false⟩
 |_=>none
def fS (s:ByteArray)(wanted:Bool):Prop:=if wanted=true then aB s=true else s=gR
def fj (x:cX):Prop:=(x.op≠0↔x.kind=2)∧x.op≤12∧(x.num≠0→x.kind=1)∧(∀a∈x.args,aB a=true)∧(∀a∈x.Nh,aB a=true)∧
 (x.kind=3→aB x.dst=true∧x.ref=gR∧x.Ni=gR∧x.Nh.length=x.args.length∧1≤x.Nh.length∧x.Nh.length≤64)∧
 (x.kind≠3→∃s,cJ x.kind=some s∧x.Nh=[]∧(0≤s.args→(x.args.length:Int)=s.args)∧x.args.length≤6∧fS x.dst s.dst∧fS x.ref s.ref∧fS x.Ni s.Ni)
def fT (f:cD):Prop:=aB f.name=true∧(∀a∈f.params,aB a=true)∧f.params.length≤6∧1≤f.Ng.length∧f.Ng.length≤64∧∀b∈f.Ng,aB b.name=true∧∀x∈b.code,fj x
def gl (f:cD):Nat:=(f.Ng.map fun b=>b.code.length).sum
def xA (a:EL):Prop:=aB a.name=true∧aB a.level=true∧1≤a.size∧a.size≤256
def fV (q:dN):Prop:=q.Nd.length≤16∧q.Nf.length≤64∧(∀a∈q.Nd,xA a)∧(∀f∈q.Nf,fT f)∧(q.Nf.map gl).sum≤4096
def dx (p:aH)(x:bz):Prop:=(x.kind=8→0≤x.ref∧x.ref<p.Nb.length)∧(x.kind=9→0≤x.ref∧x.ref<p.Na.length)∧(x.kind=10→0≤x.ref∧x.ref<p.MZ.length)
def lX (p:aH)(b:aw):Prop:=0≤b.params∧b.params≤6∧∀l∈b.Ng,∀x∈l,dx p x
def pi (p:aH)(c:aE):Prop:=(∀a∈c.Nd,0≤a.2∧a.2<p.MZ.length)∧∀b∈c.Nf,lX p b
def qY (main i:Int):ByteArray:=if i=main then fO else aL 102 i
def gW (p:aH)(main:Int)(x:bz):ByteArray:=
 if x.kind=4∨x.kind=5∨x.kind=6 then aL 97 x.ref
 else if x.kind=7 then qY main x.ref
 else if x.kind=8 then(p.Nb.getD x.ref.toNat (gR,0)).1
 else if x.kind=9 then(p.Na.getD x.ref.toNat (gR,0)).1
 else if x.kind=10 then p.MZ.getD x.ref.toNat gR
 else if x.kind=11∨x.kind=12 then aL 98 x.ref
 else gR
def jC (p:aH)(main:Int)(x:bz):cX:=
 {kind:=x.kind,op:=x.op,dst:=if 0≤x.dst then aL 118 x.dst else gR,ref:=gW p main x,Ni:=if x.kind=12 then aL 98 x.Ni else gR,
  args:=x.args.map (aL 118),Nh:=x.Nh.map (aL 98),num:=x.num,Nj:=x.Nj}
def eh (p:aH)(main:Int)(k:Nat)(l:List bz):eS:= {name:=aL 98 k,code:=l.map (jC p main),Nj:=0}
def bU (p:aH)(main:Int)(i:Nat)(b:aw):cD:=
 {name:=qY main i,params:=(List.range b.params.toNat).map fun(k:Nat)=>aL 118 k,Ng:=b.Ng.mapIdx (eh p main),Nj:=0}
def sa (p:aH)(i:Nat)(a:Int×Int):EL:= {name:=aL 97 i,size:=a.1,level:=p.MZ.getD a.2.toNat gR,Nj:=0}
def cP (p:aH)(c:aE):dN:= {Nd:=c.Nd.mapIdx (sa p),Nf:=c.Nf.mapIdx (bU p c.main)}
def sx (f:cD):List ByteArray:=(f.Ng.flatMap fun b=>b.code.map fun x=>x.dst).filter fun s=>decide (s≠gR)
def bh (f:cD):List ByteArray:=f.params++sx f
def cn (f:cD):List ByteArray:=f.Ng.map fun b=>b.name
def fh (q:dN):List ByteArray:=q.Nf.map fun f=>f.name
def dz (q:dN):List ByteArray:=q.Nd.map fun a=>a.name
def dv (p:aH)(q:dN)(f:cD)(x:cX):Int:=
 if x.kind=4∨x.kind=5∨x.kind=6 then aO (dz q) x.ref
 else if x.kind=7 then aO (fh q) x.ref
 else if x.kind=8 then fD p.Nb x.ref
 else if x.kind=9 then fD p.Na x.ref
 else if x.kind=10 then eZ p x.ref
 else if x.kind=11∨x.kind=12 then aO (cn f) x.ref
 else 0
def dy (f:cD)(x:cX):Int:=if x.kind=12 then aO (cn f) x.Ni else 0
def pg (p:aH)(q:dN)(f:cD)(x:cX):bz:=
 {kind:=x.kind,op:=x.op,dst:=if x.dst=gR then-1 else aO (bh f) x.dst,ref:=dv p q f x,Ni:=dy f x,
  args:=x.args.map (aO (bh f)),Nh:=x.Nh.map (aO (cn f)),num:=x.num,Nj:=x.Nj}
def il (p:aH)(q:dN)(f:cD):aw:= {params:=f.params.length,vars:=(bh f).length,Ng:=f.Ng.map fun b=>b.code.map (pg p q f)}
def qV (p:aH)(q:dN):aE:= {Nd:=q.Nd.map fun a=>(a.size,eZ p a.level),Nf:=q.Nf.map (il p q),main:=aO (fh q) fO}
def mO (p:aH)(q:dN)(f:cD)(x:cX):Prop:=0≤dv p q f x∧0≤dy f x∧(∀a∈x.args,a∈bh f)∧(∀a∈x.Nh,a∈cn f)∧
 (x.kind=7→∀g,q.Nf[(dv p q f x).toNat]? =some g→x.args.length=g.params.length)
def mQ (kinds:List Nat):Prop:=kinds≠[]∧(∀(i:Nat) k,kinds[i]? =some k→(11≤k↔i+1=kinds.length))∧∀(i:Nat),kinds[i+1]? =some 3→kinds[i]? =some 3
def pj (p:aH)(q:dN)(f:cD):Prop:=(bh f).Nodup∧(cn f).Nodup∧∀b∈f.Ng,mQ (b.code.map fun x=>x.kind)∧∀x∈b.code,mO p q f x
def BG (p:aH)(q:dN):Prop:=(dz q).Nodup∧(∀a∈q.Nd,a.level∈p.MZ)∧(fh q).Nodup∧fO∈fh q∧(∀f∈q.Nf,f.name=fO→f.params=[])∧∀f∈q.Nf,pj p q f
def iE (x:bz):bz:= {x with Nj:=0}
def jD (x y:bz):Prop:=iE x=iE y
def Mc (a b:aE):Prop:=a.main=b.main∧a.Nd=b.Nd∧a.Nf.map (fun f=>(f.params,f.vars,f.Ng.map fun l=>l.map iE))=b.Nf.map (fun f=>(f.params,f.vars,f.Ng.map fun l=>l.map iE))
def eM (p:aH)(c:aE):Prop:=dD p∧c.Nf.length≤64∧c.Nd.length≤16∧pi p c∧fV (cP p c)∧BG p (cP p c)∧Mc (qV p (cP p c)) c
def cw:Nat→Option (Int×Bool×Bool×Bool)
 |1=>some (0,true,false,false)
 |2=>some (2,true,false,false)
 |3=>some (8,true,false,false)
 |4=>some (1,true,true,false)
 |5=>some (1,true,true,false)
 |6=>some (2,false,true,false)
 |7=>some (9,true,true,false)
 |8=>some (0,true,true,false)
 |9=>some (1,false,true,false)
 |10=>some (1,true,true,false)
 |11=>some (0,false,true,false)
 |12=>some (1,false,true,true)
 |13=>some (1,false,false,false)
 |_=>none
def cW (p:aH)(c:aE)(b:aw)(kind:Nat):Nat:=
 if kind=4∨kind=5∨kind=6 then c.Nd.length else if kind=7 then c.Nf.length else if kind=8 then p.Nb.length else if kind=9 then p.Na.length else if kind=10 then p.MZ.length else b.Ng.length
def aT (p:aH)(c:aE)(b:aw)(next:Int)(x:bz):Prop:=∃n dst ref Ni,cw x.kind=some (n,dst,ref,Ni)∧x.dst=(if dst=true then next else-1)∧(ref=false→x.ref=0)∧(Ni=false→x.Ni=0)∧
 (x.kind≠1→x.num=0)∧(x.kind≠2→x.op=0)∧(x.kind=2→1≤x.op∧x.op≤12)∧(ref=true→0≤x.ref∧x.ref<cW p c b x.kind)∧(Ni=true→0≤x.Ni∧x.Ni<b.Ng.length)∧
 (if x.kind=3 then x.Nh.length=x.args.length∧1≤x.Nh.length∧x.Nh.length≤64 else x.Nh=[]∧(x.args.length:Int)=if x.kind=7 then(c.Nf.getD x.ref.toNat ⟨0,0,[]⟩).params else n)∧
 (∀a∈x.args,0≤a∧a<b.vars)∧∀a∈x.Nh,0≤a∧a<b.Ng.length
def cj (l:List bz):Nat:=(l.filter fun x=>match cw x.kind with|some (_,d,_,_)=>d|none=>false).length
def qi (p:aH)(c:aE)(b:aw):Prop:=0≤b.params∧b.params≤6∧1≤b.Ng.length∧b.Ng.length≤64∧(∀l∈b.Ng,mQ (l.map fun x=>x.kind))∧
 (∀(k:Nat) x,b.Ng.flatten[k]? =some x→aT p c b (b.params+cj (b.Ng.flatten.take k)) x)∧b.vars=b.params+cj b.Ng.flatten
def ft (b:aw):Nat:=b.Ng.flatten.length
def bJ (p:aH)(c:aE):Prop:=dD p∧c.Nd.length≤16∧c.Nf.length≤64∧0≤c.main∧c.main<c.Nf.length∧(c.Nf.getD c.main.toNat ⟨0,0,[]⟩).params=0∧
 (∀a∈c.Nd,1≤a.1∧a.1≤256∧0≤a.2∧a.2<p.MZ.length)∧(∀b∈c.Nf,qi p c b)∧(c.Nf.map ft).sum≤4096
section
structure kP:Prop where
 num:∀(c:UInt8) (n:Int),c=97∨c=98∨c=102∨c=118→aV n→aB (aL c n)=decide (0≤n)
 main:aB fO=true
 no:aB gR=false
def ru (n:Nat)(r:Int):Int:=if 0≤r∧r<n then r else-1
theorem ix {n:Nat}{r:Int}:ru n r=r↔(0≤r∧r<n)∨r= -1:=by unfold ru;split<;>omega
theorem mg {n:Nat}{r:Int}:0≤ru n r↔0≤r∧r<n:=by unfold ru;split<;>omega
theorem nS (c:UInt8)(n:Int):aL c n≠gR:=by unfold aL gR tr;intro h;injection h with h;simpa using congrArg Array.toList h
theorem kZ {c:UInt8}(j:c=97∨c=98∨c=102∨c=118)(n:Int):aL c n≠fO:=by unfold aL fO tr;intro h;injection h with h;have:=congrArg Array.toList h;simp only[List.cons.injEq] at this;rcases j with rfl|rfl|rfl|rfl<;>exact absurd this.1 (by decide)
theorem wO {main i j:Int}(hi:aV i)(I:aV j)(h:qY main i=qY main j):i=j:=by
 unfold qY at h;by_cases C:i=main
 ·by_cases o:j=main
  ·omega
  rw[ap C,ae o] at h;exact absurd h.symm (kZ (.inr (.inr (.inl rfl))) _)
 by_cases o:j=main
 ·rw[ae C,ap o] at h
  exact absurd h (kZ (.inr (.inr (.inl rfl))) _)
 rw[ae C,ae o] at h;exact(pQ hi I h).2
theorem ym (L:kP){main i:Int}(hi:aV i):aB (qY main i)=true↔i=main∨0≤i:=by
 unfold qY;by_cases h:i=main;·rw[ap h];simp[L.main,h]
 rw[ae h,L.num 102 i (.inr (.inr (.inl rfl))) hi];simp[h]
theorem lT {g:Int→ByteArray}{n:Nat}(hn:n≤1000000)(C:∀i j,aV i→aV j→g i=g j→i=j){r:Int}(hr:aV r):aO ((List.range n).map fun(i:Nat)=>g i) (g r)=ru n r:=by
 have o:∀i:Nat,i<n→aV (i:Int):=fun i hi=>by unfold aV;omega
 by_cases h:0≤r∧r<n
 ·unfold ru
  rw[ap h];have:aO ((List.range n).map fun(i:Nat)=>g i) (g r)=(r.toNat:Nat):=by(
 refine vL (k:=r.toNat) ?_ ?_
 ·rw[cL,ln (by omega)]
  simp only[Option.map_some];rw[Int.toNat_of_nonneg h.1]
 rw[List.nodup_iff_pairwise_ne,List.pairwise_map];refine List.Pairwise.imp_of_mem (R:=fun a b=>a≠b) ?_ (List.nodup_iff_pairwise_ne.1 List.nodup_range);intro a b I J Y e;have:=C a b (o a (fg.1 I)) (o b (fg.1 J)) e;omega)
  rw[this];omega
 unfold ru;rw[ae h];refine jb fun hm=>?_;obtain⟨i,hi,e⟩:=dr.1 hm;have hi:=fg.1 hi;have:=C i r (o i hi) hr e;omega
theorem kY {g:Int→ByteArray}{n:Nat}(hn:n≤1000000)(C:∀i j,aV i→aV j→g i=g j→i=j):((List.range n).map fun(i:Nat)=>g i).Nodup:=by
 have o:∀i:Nat,i<n→aV (i:Int):=fun i hi=>by unfold aV;omega
 rw[List.nodup_iff_pairwise_ne,List.pairwise_map];refine List.Pairwise.imp_of_mem (R:=fun a b=>a≠b) ?_ (List.nodup_iff_pairwise_ne.1 List.nodup_range);intro a b I J Y e;have:=C a b (o a (fg.1 I)) (o b (fg.1 J)) e;omega
structure iM (x:bz):Prop where
 dst:aV x.dst
 ref:aV x.ref
 Ni:aV x.Ni
 args:∀a∈x.args,aV a
 Nh:∀a∈x.Nh,aV a
structure If (p:aH)(c:aE)(b:aw)(q:dN)(f:cD)(N:Nat):Prop where
 posA:∀r,aV r→aO (dz q) (aL 97 r)=ru c.Nd.length r
 posF:∀r,aV r→aO (fh q) (qY c.main r)=ru c.Nf.length r
 posB:∀r,aV r→aO (cn f) (aL 98 r)=ru b.Ng.length r
 posV:∀r,aV r→aO (bh f) (aL 118 r)=ru N r
 parG:∀(i:Nat),i<c.Nf.length→∃g,q.Nf[i]? =some g∧(g.params.length:Int)=(c.Nf.getD i ⟨0,0,[]⟩).params
theorem Cf {n:Nat}{l:List Int}:(∀a∈l,0≤a∧a<n)→l.map (ru n)=l:=by intro h;have:l.map (ru n)=l.map id:=List.map_congr_left fun a j=>ix.2 (.inl (h a j));rw[this,List.map_id]
section
variable {p:aH} {c:aE} {b:aw} {q:dN} {f:cD} {N:Nat}
theorem rD (o:dD p){r:Int}(C:0≤r)(I:r<p.MZ.length):eZ p (p.MZ.getD r.toNat gR)=r∧aB (p.MZ.getD r.toNat gR)=true:=by
 have j:r.toNat<p.MZ.length:=by omega
 have:=o.2.2.2.2.1 r.toNat _ (lG j);rw[iG,lG j,Option.getD_some];exact⟨by rw[this.2];omega,this.1⟩
theorem wB {l:List (ByteArray×Int)}(hl:cE p l){r:Int}(o:0≤r)(C:r<l.length):fD l (l.getD r.toNat (gR,0)).1=r∧aB (l.getD r.toNat (gR,0)).1=true:=by
 have j:r.toNat<l.length:=by omega
 have:=hl.2 r.toNat _ (lG j);rw[iG,lG j,Option.getD_some];exact⟨by rw[this.2.1];omega,this.1⟩
def zI (p:aH)(c:aE)(b:aw)(N:Nat)(x:bz):Prop:=
 ∃n dst ref Ni,cw x.kind=some (n,dst,ref,Ni)∧(dst=true→0≤x.dst∧x.dst<N)∧(dst=false→x.dst= -1)∧(ref=false→x.ref=0)∧(Ni=false→x.Ni=0)∧
 (x.kind≠1→x.num=0)∧(x.kind≠2→x.op=0)∧(x.kind=2→1≤x.op∧x.op≤12)∧(ref=true→0≤x.ref∧x.ref<cW p c b x.kind)∧(Ni=true→0≤x.Ni∧x.Ni<b.Ng.length)∧
 (if x.kind=3 then x.Nh.length=x.args.length∧1≤x.Nh.length∧x.Nh.length≤64 else x.Nh=[]∧(x.args.length:Int)=if x.kind=7 then(c.Nf.getD x.ref.toNat ⟨0,0,[]⟩).params else n)∧
 (∀a∈x.args,0≤a∧a<N)∧∀a∈x.Nh,0≤a∧a<b.Ng.length
def oq (c:aE)(b:aw)(x:bz):Int:=
 if x.kind=4∨x.kind=5∨x.kind=6 then ru c.Nd.length x.ref
 else if x.kind=7 then ru c.Nf.length x.ref
 else if x.kind=8∨x.kind=9∨x.kind=10 then x.ref
 else if x.kind=11∨x.kind=12 then ru b.Ng.length x.ref
 else 0
theorem xh (hp:dD p)(C:If p c b q f N){x:bz}(hx:iM x)(hc:dx p x):dv p q f (jC p c.main x)=oq c b x:=by
 unfold dv oq jC gW;simp only;by_cases j:x.kind=4∨x.kind=5∨x.kind=6;·rw[ap j,ap j,ap j,C.posA _ hx.ref]
 rw[ae j,ae j];by_cases o:x.kind=7;·rw[ap o,ap o,ae j,ap o,C.posF _ hx.ref]
 rw[ae o,ae o];by_cases I:x.kind=8
 ·have:=hc.1 I
  have R:x.kind=8∨x.kind=9∨x.kind=10:=.inl I;simp only[ae j,ae o,ap I,ap R,(wB hp.2.2.2.2.2.1 this.1 this.2).1]
 rw[ae I];by_cases J:x.kind=9
 ·have:=hc.2.1 J
  have R:x.kind=8∨x.kind=9∨x.kind=10:=.inr (.inl J);simp only[ae j,ae o,ae I,ap J,ap R,(wB hp.2.2.2.2.2.2 this.1 this.2).1]
 rw[ae J];by_cases Y:x.kind=10
 ·have:=hc.2.2 Y
  have R:x.kind=8∨x.kind=9∨x.kind=10:=.inr (.inr Y);simp only[ae j,ae o,ae I,ae J,ap Y,ap R,(rD hp this.1 this.2).1]
 have a1:¬(x.kind=8∨x.kind=9∨x.kind=10):=by omega
 rw[ae Y,ae a1];by_cases h6:x.kind=11∨x.kind=12;·simp only[ap h6,ae j,ae o,ae I,ae J,ae Y,C.posB _ hx.ref]
 simp only[ae h6,ae j,ae o]
def rG (b:aw)(x:bz):Int:=if x.kind=12 then ru b.Ng.length x.Ni else 0
theorem wm (C:If p c b q f N){x:bz}(j:iM x):dy f (jC p c.main x)=rG b x:=by
 unfold dy rG jC;simp only;by_cases h:x.kind=12;·rw[ap h,ap h,ap h,C.posB _ j.Ni]
 rw[ae h,ae h]
theorem DQ (L:kP)(o:dD p){x:bz}(C:iM x)(I:dx p x):aB (gW p c.main x)=true↔
 (x.kind=4∨x.kind=5∨x.kind=6∨x.kind=11∨x.kind=12→0≤x.ref)∧(x.kind=7→x.ref=c.main∨0≤x.ref)∧4≤x.kind∧x.kind≤12:=by
 unfold gW;by_cases h1:x.kind=4∨x.kind=5∨x.kind=6
 ·rw[ap h1,L.num _ _ (.inl rfl) C.ref,qal]
  constructor;·intro h;exact⟨fun _=>h,fun j=>by omega,by omega,by omega⟩
  intro h;exact h.1 (by omega)
 rw[ae h1];by_cases J:x.kind=7
 ·rw[ap J,ym L C.ref]
  constructor;·intro h;exact⟨fun j=>by omega,fun _=>h,by omega,by omega⟩
  intro h;exact h.2.1 J
 rw[ae J];by_cases R:x.kind=8
 ·have:=I.1 R
  rw[ap R,(wB o.2.2.2.2.2.1 this.1 this.2).2];exact⟨fun _=>⟨fun _=>this.1,fun j=>by omega,by omega,by omega⟩,fun _=>rfl⟩
 rw[ae R];by_cases Y:x.kind=9
 ·have:=I.2.1 Y
  rw[ap Y,(wB o.2.2.2.2.2.2 this.1 this.2).2];exact⟨fun _=>⟨fun _=>this.1,fun j=>by omega,by omega,by omega⟩,fun _=>rfl⟩
 rw[ae Y];by_cases h5:x.kind=10
 ·have:=I.2.2 h5
  rw[ap h5,(rD o this.1 this.2).2];exact⟨fun _=>⟨fun _=>this.1,fun j=>by omega,by omega,by omega⟩,fun _=>rfl⟩
 rw[ae h5];by_cases h6:x.kind=11∨x.kind=12
 ·rw[ap h6,L.num _ _ (.inr (.inl rfl)) C.ref,qal]
  constructor;·intro h;exact⟨fun _=>h,fun j=>by omega,by omega,by omega⟩
  intro h;exact h.1 (by omega)
 rw[ae h6,L.no];constructor;·intro h;cases h
 intro h;omega
theorem Cm {x:bz}(h:¬(4≤x.kind∧x.kind≤12)):gW p c.main x=gR:=by unfold gW;rw[ae (by omega),ae (by omega),ae (by omega),ae (by omega),ae (by omega),ae (by omega)]
theorem ib {k:Nat}{s:rT}(h:cJ k=some s):k≠3∧1≤k∧k≤13∧(s.ref=true↔4≤k∧k≤12∧k≠3)∧(s.Ni=true↔k=12)∧(s.args<0↔k=7)∧s.args≤2∧cw k=some (if k=7 then 9 else s.args,s.dst,s.ref,s.Ni):=by
 unfold cJ at h
 split at h<;>first
  |(cases h;refine⟨by decide,by decide,by decide,by decide,by decide,by decide,by decide,rfl⟩)
  |cases h
theorem ny {k:Nat}{t:Int×Bool×Bool×Bool}(h:cw k=some t)(j:k≠3):∃s,cJ k=some s:=by
 unfold cw at h
 split at h<;>first
  |exact⟨_,rfl⟩
  |exact absurd rfl j
  |cases h
def rO (N:Nat)(d:Int):Int:=if 0≤d then ru N d else-1
theorem wY (I:dD p)(C:If p c b q f N){x:bz}(j:iM x)(J:dx p x):iE (pg p q f (jC p c.main x))=iE x↔
 rO N x.dst=x.dst∧oq c b x=x.ref∧rG b x=x.Ni∧x.args.map (ru N)=x.args∧x.Nh.map (ru b.Ng.length)=x.Nh:=by
 have R:(if(jC p c.main x).dst=gR then(-1:Int) else aO (bh f) (jC p c.main x).dst)=rO N x.dst:=by(
 unfold rO jC;simp only;by_cases h:0≤x.dst;·rw[ap h,ap h,ae (nS _ _),C.posV _ j.dst]
 rw[ae h,ae h,ap rfl])
 have Y:(jC p c.main x).args.map (aO (bh f))=x.args.map (ru N):=by unfold jC;rw[List.map_map];exact List.map_congr_left fun a o=>C.posV a (j.args a o)
 have e3:(jC p c.main x).Nh.map (aO (cn f))=x.Nh.map (ru b.Ng.length):=by unfold jC;rw[List.map_map];exact List.map_congr_left fun a o=>C.posB a (j.Nh a o)
 unfold iE pg;rw[R,Y,e3,xh I C j J,wm C j];simp only[jC,bz.mk.injEq,true_and,and_true]
theorem yI (C:If p c b q f N){a:Int}(j:aV a):aL 118 a∈bh f↔0≤a∧a<N:=by rw[←cm,C.posV a j,mg]
theorem yG (C:If p c b q f N){a:Int}(j:aV a):aL 98 a∈cn f↔0≤a∧a<b.Ng.length:=by rw[←cm,C.posB a j,mg]
def EO (p:aH)(c:aE)(q:dN)(f:cD)(x:bz):Prop:=dx p x∧fj (jC p c.main x)∧mO p q f (jC p c.main x)∧iE (pg p q f (jC p c.main x))=iE x
theorem Gs (L:kP)(hp:dD p)(C:If p c b q f N){x:bz}(hx:iM x)(h:EO p c q f x):zI p c b N x:=by
 obtain⟨hc,hi,hr,hs⟩:=h;obtain⟨s1,s2,s3,s4,s5⟩:=(wY hp C hx hc).1 hs;obtain⟨r1,r2,r3,r4,r5⟩:=hr;rw[xh hp C hx hc] at r1 r5;rw[wm C hx] at r2;obtain⟨i1,i2,i3,i4,i5,i6,i7⟩:=hi;simp only[jC] at i1 i2 i3 i6 i7;have j:∀a∈x.args,0≤a∧a<N:=fun a ha=>(yI C (hx.args a ha)).1 (r3 _ (dr.2 ⟨a,ha,rfl⟩));have R:∀a∈x.Nh,0≤a∧a<b.Ng.length:=fun a ha=>(yG C (hx.Nh a ha)).1 (r4 _ (dr.2 ⟨a,ha,rfl⟩));by_cases h3:x.kind=3;·(
 obtain⟨j1,j2,j3,o,j5,j6⟩:=i6 h3;rw[ce,ce] at o;rw[ce] at j5 j6;have hd:0≤x.dst:=by
  by_cases Y:0≤x.dst;·exact Y
  rw[ae Y,L.no] at j1;cases j1
 refine⟨8,true,false,false,by rw[h3];rfl,fun _=>⟨hd,?_⟩,(fun h=>by cases h),fun _=>?_,fun _=>?_,fun h=>?_,fun h=>?_,(fun h=>by omega),(fun h=>by cases h),(fun h=>by cases h),?_,j,R⟩
 ·unfold rO at s1
  rw[ap hd] at s1;have:=ix.1 s1;omega
 ·unfold oq at s2
  rw[ae (by omega),ae (by omega),ae (by omega),ae (by omega)] at s2;exact s2.symm
 ·unfold rG at s3
  rw[ae (by omega)] at s3;exact s3.symm
 ·by_cases I:x.num=0
  ·exact I
  exact absurd (i3 I) h
 ·by_cases I:x.op=0
  ·exact I
  exact absurd (i1.1 I) h
 rw[ap h3];exact⟨o,j5,j6⟩)
 obtain⟨s,a1,j1,j2,j3,o,j5,j6⟩:=i7 h3;obtain⟨_,k1,b2,kr,ka,kn,k2,kq⟩:=ib a1;have a6:x.Nh=[]:=List.map_eq_nil_iff.1 j1;rw[ce] at j2 j3;refine⟨_,_,_,_,kq,fun hd=>?_,fun hd=>?_,fun hR=>?_,fun hA=>?_,fun h=>?_,fun h=>?_,fun h=>⟨?_,i2⟩,fun hR=>?_,fun hA=>?_,?_,j,R⟩
 ·unfold fS at o;rw[ap hd] at o;have J:0≤x.dst:=by
   by_cases Y:0≤x.dst;·exact Y
   rw[ae Y,L.no] at o;cases o
  refine⟨J,?_⟩;unfold rO at s1;rw[ap J] at s1;have:=ix.1 s1;omega
 ·unfold fS at o;rw[hd,ae oG] at o;have J:¬0≤x.dst:=fun Y=>by rw[ap Y] at o;exact nS _ _ o
  unfold rO at s1;rw[ae J] at s1;exact s1.symm
 ·have hk:¬(4≤x.kind∧x.kind≤12):=fun h=>by rw[kr.2 ⟨h.1,h.2,h3⟩] at hR;cases hR
  unfold oq at s2;rw[ae (by omega),ae (by omega),ae (by omega),ae (by omega)] at s2;exact s2.symm
 ·have hk:¬x.kind=12:=fun h=>by rw[ka.2 h] at hA;cases hA
  unfold rG at s3;rw[ae hk] at s3;exact s3.symm
 ·by_cases I:x.num=0
  ·exact I
  exact absurd (i3 I) h
 ·by_cases I:x.op=0
  ·exact I
  exact absurd (i1.1 I) h
 ·have:=i1.2 h;omega
 ·(
 have hk:=kr.1 hR;unfold oq at r1;unfold cW;by_cases g1:x.kind=4∨x.kind=5∨x.kind=6;·rw[ap g1] at r1⊢;exact mg.1 r1
 rw[ae g1] at r1⊢;by_cases g2:x.kind=7;·rw[ap g2] at r1⊢;exact mg.1 r1
 rw[ae g2] at r1⊢;by_cases g3:x.kind=8;·rw[ap g3];exact hc.1 g3
 rw[ae g3];by_cases g4:x.kind=9;·rw[ap g4];exact hc.2.1 g4
 rw[ae g4];by_cases g5:x.kind=10;·rw[ap g5];exact hc.2.2 g5
 rw[ae g5];rw[ae (by omega),ap (by omega)] at r1;exact mg.1 r1)
 ·have hk:=ka.1 hA
  unfold rG at r2;rw[ap hk] at r2;exact mg.1 r2
 rw[ae h3];refine⟨a6,?_⟩;by_cases g:x.kind=7
 ·rw[ap g];have hR:oq c b x=ru c.Nf.length x.ref:=by unfold oq;rw[ae (by omega),ap g]
  rw[hR] at r1 r5;have a7:=mg.1 r1;have a8:ru c.Nf.length x.ref=x.ref:=ix.2 (.inl a7);rw[a8] at r5;obtain⟨g',b0,b1⟩:=C.parG x.ref.toNat (by omega);have:=r5 g g' b0;simp only[jC,ce] at this;rw[←b1,this]
 rw[ae g,ae g];exact j2 (by omega)
theorem Gp (L:kP)(hp:dD p)(C:If p c b q f N)(b5:∀b∈c.Nf,b.params≤6){x:bz}(hx:iM x)(h:zI p c b N x):EO p c q f x:=by
 obtain⟨n,dst,ref,Ni,j,b3,b6,b7,b8,b9,c0,b2,hR,hA,o,Y,a6⟩:=h;have hc:dx p x:=by(
 by_cases J:x.kind=3;·exact⟨fun h=>by omega,fun h=>by omega,fun h=>by omega⟩
 obtain⟨s,hs⟩:=ny j J;obtain⟨_,k1,b1,kr,ka,kn,k2,kq⟩:=ib hs;rw[kq] at j;injection j with j;injection j with e1 e2;injection e2 with e2 R;injection R with R e4;have hm:4≤x.kind∧x.kind≤12→0≤x.ref∧x.ref<cW p c b x.kind:=fun hk=>hR (by rw[←R];exact kr.2 ⟨hk.1,hk.2,J⟩);refine⟨fun h=>?_,fun h=>?_,fun h=>?_⟩;·have:=hm (by omega);simpa [cW,h] using this
 ·have:=hm (by omega);simpa [cW,h] using this
 have:=hm (by omega);simpa [cW,h] using this)
 have a7:iE (pg p q f (jC p c.main x))=iE x:=by(
 refine(wY hp C hx hc).2 ⟨?_,?_,?_,Cf Y,Cf a6⟩
 ·unfold rO
  cases dst with
  |true=>have:=b3 rfl;rw[ap this.1];exact ix.2 (.inl this)
  |false=>have:=b6 rfl;rw[ae (by omega),this]
 ·(
 cases ref with
 |false=>
  have h0:=b7 rfl;have hk:¬(4≤x.kind∧x.kind≤12):=by(
 by_cases J:x.kind=3;·omega
 obtain⟨s,hs⟩:=ny j J;obtain⟨_,k1,b1,kr,ka,kn,k2,kq⟩:=ib hs;rw[kq] at j;injection j with j;injection j with e1 e2;injection e2 with e2 R;injection R with R e4;intro hk;have:=kr.2 ⟨hk.1,hk.2,J⟩;rw[R] at this;cases this)
  unfold oq;rw[ae (by omega),ae (by omega),ae (by omega),ae (by omega),h0]
 |true=>
  have hm:=hR rfl;unfold cW at hm;unfold oq;by_cases g1:x.kind=4∨x.kind=5∨x.kind=6;·rw[ap g1] at hm⊢;exact ix.2 (.inl hm)
  rw[ae g1] at hm⊢;by_cases g2:x.kind=7;·rw[ap g2] at hm⊢;exact ix.2 (.inl hm)
  rw[ae g2] at hm⊢;by_cases g3:x.kind=8∨x.kind=9∨x.kind=10;·rw[ap g3]
  rw[ae g3];rw[ae (by omega),ae (by omega),ae (by omega)] at hm;have hk:x.kind=11∨x.kind=12:=by(
 by_cases J:x.kind=3;·rw[J] at j;cases j
 obtain⟨s,hs⟩:=ny j J;obtain⟨_,k1,b1,kr,ka,kn,k2,kq⟩:=ib hs;rw[kq] at j;injection j with j;injection j with e1 e2;injection e2 with e2 R;injection R with R e4;have:=kr.1 R;omega)
  rw[ap hk];exact ix.2 (.inl hm))
 unfold rG;by_cases g:x.kind=12
 ·rw[ap g]
  have:Ni=true:=by rw[g] at j;cases j;rfl
  exact ix.2 (.inl (hA this))
 rw[ae g];cases Ni with
 |false=>exact(b8 rfl).symm
 |true=>
  exfalso;by_cases J:x.kind=3;·rw[J] at j;cases j
  obtain⟨s,hs⟩:=ny j J;obtain⟨_,k1,b1,kr,ka,kn,k2,kq⟩:=ib hs;rw[kq] at j;injection j with j;injection j with e1 e2;injection e2 with e2 R;injection R with R e4;exact g (ka.1 e4))
 have a8:=(wY hp C hx hc).1 a7;have c1:=xh hp C hx hc;have c6:=wm (p:=p) C hx;have c5:∀n:Nat,∀r,ru n r=r→0≤r→0≤r∧r<n:=fun n r h h0=>by have:=ix.1 h;omega
 have a1:0≤x.ref:=by
  cases ref with
  |false=>have:=b7 rfl;omega
  |true=>exact(hR rfl).1
 have b0:0≤x.Ni:=by
  cases Ni with
  |false=>have:=b8 rfl;omega
  |true=>exact(hA rfl).1
 refine⟨hc,⟨?_,?_,?_,?_,?_,?_,?_⟩,⟨?_,?_,?_,?_,?_⟩,a7⟩
 ·simp only[jC]
  constructor
  ·intro h;by_cases g:x.kind=2;·exact g
   exact absurd (c0 g) h
  intro h;have:=b2 h;omega
 ·simp only[jC]
  by_cases g:x.kind=2;·exact(b2 g).2
  have:=c0 g;omega
 ·simp only[jC];intro h;by_cases g:x.kind=1;·exact g
  exact absurd (b9 g) h
 ·intro a ha
  obtain⟨a',I,rfl⟩:=dr.1 ha;rw[L.num _ _ (.inr (.inr (.inr rfl))) (hx.args a' I)];exact bL (Y a' I).1
 ·intro a ha
  obtain⟨a',I,rfl⟩:=dr.1 ha;rw[L.num _ _ (.inr (.inl rfl)) (hx.Nh a' I)];exact bL (a6 a' I).1
 ·simp only[jC];intro J;rw[ap J] at o;rw[J] at j;cases j;have hd:=b3 rfl;rw[ap hd.1,L.num _ _ (.inr (.inr (.inr rfl))) hx.dst,ce,ce];exact⟨bL hd.1,Cm (by omega),ae (by omega),o.1,o.2.1,o.2.2⟩
 ·(
 simp only[jC];intro J;rw[ae J] at o;obtain⟨s,hs⟩:=ny j J;obtain⟨_,k1,b1,kr,ka,kn,k2,kq⟩:=ib hs;rw[kq] at j;injection j with j;injection j with e1 e2;injection e2 with e2 R;injection R with R e4;subst e2 R e4;have hlen:x.args.length≤6:=by(
 have:=o.2;by_cases g:x.kind=7
 ·rw[ap g] at this;have hm:=hR (kr.2 (by omega));unfold cW at hm;rw[ae (by omega),ap g] at hm;have c4:x.ref.toNat<c.Nf.length:=by omega
  rw[iG,lG c4,Option.getD_some] at this;have:=b5 _ (eL c4);omega
 rw[ae g] at this;rw[ae g] at e1;omega)
 refine⟨s,hs,by rw[o.1];rfl,fun h=>?_,by rw[ce];exact hlen,?_,?_,?_⟩
 ·have g:¬x.kind=7:=fun g=>by have:=kn.2 g;omega
  rw[ae g] at o e1;rw[ce,e1];exact o.2
 ·unfold fS
  cases hd:s.dst with
  |true=>have:=b3 hd;rw[ap rfl,ap this.1,L.num _ _ (.inr (.inr (.inr rfl))) hx.dst];exact bL this.1
  |false=>have:=b6 hd;rw[ae oG,ae (by omega)]
 ·unfold fS;cases hd:s.ref with
  |true=>rw[ap rfl];have:=kr.1 hd;exact(DQ L hp hx hc).2 ⟨fun _=>a1,fun _=>.inr a1,this.1,this.2.1⟩
  |false=>rw[ae oG];refine Cm fun hk=>?_;rw[kr.2 ⟨hk.1,hk.2,J⟩] at hd;cases hd
 unfold fS;cases hd:s.Ni with
 |true=>rw[ap rfl,ap (ka.1 hd),L.num _ _ (.inr (.inl rfl)) hx.Ni];exact bL b0
 |false=>rw[ae oG];refine ae fun g=>?_;rw[ka.2 g] at hd;cases hd)
 ·rw[c1,a8.2.1];exact a1
 ·rw[c6,a8.2.2.1];exact b0
 ·intro a ha
  obtain⟨a',I,rfl⟩:=dr.1 ha;exact(yI C (hx.args a' I)).2 (Y a' I)
 ·intro a ha
  obtain⟨a',I,rfl⟩:=dr.1 ha;exact(yG C (hx.Nh a' I)).2 (a6 a' I)
 intro hk g hg;have b4:x.kind=7:=hk;have c7:¬x.kind=3:=by omega
 rw[ae c7,ap b4] at o;rw[c1,a8.2.1] at hg;have c8:ref=true:=by rw[b4] at j;cases j;rfl
 have hm:=hR c8;unfold cW at hm;rw[ae (by omega),ap b4] at hm;obtain⟨g',c9,d7⟩:=C.parG x.ref.toNat (by omega);rw[c9] at hg;cases hg;simp only[jC,ce];have:=o.2;omega
end
end
end Go.Proofs.YtgdlhckhpolnnaaGreatDoor
