/- Part 6 of the proof (its last part says what is proved). No condition. -/
import Derived.Test.YtgdlhckhpolnnaaGreatDoorK4
namespace Go.Proofs.YtgdlhckhpolnnaaGreatDoor
set_option maxRecDepth 100000
set_option maxHeartbeats 8000000
open Go.RowKit Go.Proofs.Tryz
section
structure kP:Prop where
 num:∀(c:UInt8) (n:Int),c=97∨c=98∨c=102∨c=118→aV n→aB (aL c n)=decide (0≤n)
 main:aB fO=true
 no:aB gR=false
def ru (n:Nat)(r:Int):Int:=if 0≤r∧r<n then r else-1
theorem ix {n:Nat}{r:Int}:ru n r=r↔(0≤r∧r<n)∨r= -1:=by unfold ru;split<;>omega
theorem mg {n:Nat}{r:Int}:0≤ru n r↔0≤r∧r<n:=by unfold ru;split<;>omega
theorem nS (c:UInt8)(n:Int):aL c n≠gR:=by unfold aL gR tr;intro h;injection h with h;simpa using congrArg Array.toList h
theorem kZ {c:UInt8}(j:c=97∨c=98∨c=102∨c=118)(n:Int):aL c n≠fO:=by unfold aL fO tr;intro h;injection h with h;have:=congrArg Array.toList h;simp only[List.cons.injEq] at this;rcases j with rfl|rfl|rfl|rfl<;>exact absurd this.1 (by decide)
theorem wO {main i j:Int}(hi:aV i)(C:aV j)(h:qY main i=qY main j):i=j:=by
 unfold qY at h;by_cases h1:i=main
 ·by_cases o:j=main
  ·omega
  rw[ap h1,ae o] at h;exact absurd h.symm (kZ (.inr (.inr (.inl rfl))) _)
 by_cases o:j=main
 ·rw[ae h1,ap o] at h
  exact absurd h (kZ (.inr (.inr (.inl rfl))) _)
 rw[ae h1,ae o] at h;exact(pQ hi C h).2
theorem ym (L:kP){main i:Int}(hi:aV i):aB (qY main i)=true↔i=main∨0≤i:=by
 unfold qY;by_cases h:i=main;·rw[ap h];simp[L.main,h]
 rw[ae h,L.num 102 i (.inr (.inr (.inl rfl))) hi];simp[h]
theorem lT {g:Int→ByteArray}{n:Nat}(hn:n≤1000000)(C:∀i j,aV i→aV j→g i=g j→i=j){r:Int}(hr:aV r):aO ((List.range n).map fun(i:Nat)=>g i) (g r)=ru n r:=by
 have o:∀i:Nat,i<n→aV (i:Int):=fun i hi=>by unfold aV;omega
 by_cases h:0≤r∧r<n
 ·unfold ru
  rw[ap h];have:aO ((List.range n).map fun(i:Nat)=>g i) (g r)=(r.toNat:Nat):=by(
 refine vL (k:=r.toNat) ?_ ?_
 ·rw[cL,ln (by omega)]
  simp only[Option.map_some];rw[Int.toNat_of_nonneg h.1]
 rw[List.nodup_iff_pairwise_ne,List.pairwise_map];refine List.Pairwise.imp_of_mem (R:=fun a b=>a≠b) ?_ (List.nodup_iff_pairwise_ne.1 List.nodup_range);intro a b I J Y e;have:=C a b (o a (fg.1 I)) (o b (fg.1 J)) e;omega)
  rw[this];omega
 unfold ru;rw[ae h];refine jb fun hm=>?_;obtain⟨i,hi,e⟩:=dr.1 hm;have hi:=fg.1 hi;have:=C i r (o i hi) hr e;omega
theorem kY {g:Int→ByteArray}{n:Nat}(hn:n≤1000000)(C:∀i j,aV i→aV j→g i=g j→i=j):((List.range n).map fun(i:Nat)=>g i).Nodup:=by
 have o:∀i:Nat,i<n→aV (i:Int):=fun i hi=>by unfold aV;omega
 rw[List.nodup_iff_pairwise_ne,List.pairwise_map];refine List.Pairwise.imp_of_mem (R:=fun a b=>a≠b) ?_ (List.nodup_iff_pairwise_ne.1 List.nodup_range);intro a b I J Y e;have:=C a b (o a (fg.1 I)) (o b (fg.1 J)) e;omega
structure iM (x:bz):Prop where
 dst:aV x.dst
 ref:aV x.ref
 Ni:aV x.Ni
 args:∀a∈x.args,aV a
 Nh:∀a∈x.Nh,aV a
structure If (p:aH)(c:aE)(b:aw)(q:dN)(f:cD)(N:Nat):Prop where
 posA:∀r,aV r→aO (dz q) (aL 97 r)=ru c.Nd.length r
 posF:∀r,aV r→aO (fh q) (qY c.main r)=ru c.Nf.length r
 posB:∀r,aV r→aO (cn f) (aL 98 r)=ru b.Ng.length r
 posV:∀r,aV r→aO (bh f) (aL 118 r)=ru N r
 parG:∀(i:Nat),i<c.Nf.length→∃g,q.Nf[i]? =some g∧(g.params.length:Int)=(c.Nf.getD i ⟨0,0,[]⟩).params
theorem Cf {n:Nat}{l:List Int}:(∀a∈l,0≤a∧a<n)→l.map (ru n)=l:=by intro h;have:l.map (ru n)=l.map id:=List.map_congr_left fun a j=>ix.2 (.inl (h a j));rw[this,List.map_id]
section
variable {p:aH} {c:aE} {b:aw} {q:dN} {f:cD} {N:Nat}
theorem rD (o:dD p){r:Int}(C:0≤r)(h1:r<p.MZ.length):eZ p (p.MZ.getD r.toNat gR)=r∧aB (p.MZ.getD r.toNat gR)=true:=by
 have j:r.toNat<p.MZ.length:=by omega
 have:=o.2.2.2.2.1 r.toNat _ (lG j);rw[iG,lG j,Option.getD_some];exact⟨by rw[this.2];omega,this.1⟩
theorem wB {l:List (ByteArray×Int)}(hl:cE p l){r:Int}(o:0≤r)(h1:r<l.length):fD l (l.getD r.toNat (gR,0)).1=r∧aB (l.getD r.toNat (gR,0)).1=true:=by
 have j:r.toNat<l.length:=by omega
 have:=hl.2 r.toNat _ (lG j);rw[iG,lG j,Option.getD_some];exact⟨by rw[this.2.1];omega,this.1⟩
def zI (p:aH)(c:aE)(b:aw)(N:Nat)(x:bz):Prop:=
 ∃n dst ref Ni,cw x.kind=some (n,dst,ref,Ni)∧(dst=true→0≤x.dst∧x.dst<N)∧(dst=false→x.dst= -1)∧(ref=false→x.ref=0)∧(Ni=false→x.Ni=0)∧
 (x.kind≠1→x.num=0)∧(x.kind≠2→x.op=0)∧(x.kind=2→1≤x.op∧x.op≤12)∧(ref=true→0≤x.ref∧x.ref<cW p c b x.kind)∧(Ni=true→0≤x.Ni∧x.Ni<b.Ng.length)∧
 (if x.kind=3 then x.Nh.length=x.args.length∧1≤x.Nh.length∧x.Nh.length≤64 else x.Nh=[]∧(x.args.length:Int)=if x.kind=7 then(c.Nf.getD x.ref.toNat ⟨0,0,[]⟩).params else n)∧
 (∀a∈x.args,0≤a∧a<N)∧∀a∈x.Nh,0≤a∧a<b.Ng.length
def oq (c:aE)(b:aw)(x:bz):Int:=
 if x.kind=4∨x.kind=5∨x.kind=6 then ru c.Nd.length x.ref
 else if x.kind=7 then ru c.Nf.length x.ref
 else if x.kind=8∨x.kind=9∨x.kind=10 then x.ref
 else if x.kind=11∨x.kind=12 then ru b.Ng.length x.ref
 else 0
theorem xh (hp:dD p)(C:If p c b q f N){x:bz}(hx:iM x)(hc:dx p x):dv p q f (jC p c.main x)=oq c b x:=by
 unfold dv oq jC gW;simp only;by_cases h1:x.kind=4∨x.kind=5∨x.kind=6;·rw[ap h1,ap h1,ap h1,C.posA _ hx.ref]
 rw[ae h1,ae h1];by_cases j:x.kind=7;·rw[ap j,ap j,ae h1,ap j,C.posF _ hx.ref]
 rw[ae j,ae j];by_cases o:x.kind=8
 ·have:=hc.1 o
  have J:x.kind=8∨x.kind=9∨x.kind=10:=.inl o;simp only[ae h1,ae j,ap o,ap J,(wB hp.2.2.2.2.2.1 this.1 this.2).1]
 rw[ae o];by_cases I:x.kind=9
 ·have:=hc.2.1 I
  have J:x.kind=8∨x.kind=9∨x.kind=10:=.inr (.inl I);simp only[ae h1,ae j,ae o,ap I,ap J,(wB hp.2.2.2.2.2.2 this.1 this.2).1]
 rw[ae I];by_cases R:x.kind=10
 ·have:=hc.2.2 R
  have J:x.kind=8∨x.kind=9∨x.kind=10:=.inr (.inr R);simp only[ae h1,ae j,ae o,ae I,ap R,ap J,(rD hp this.1 this.2).1]
 have Y:¬(x.kind=8∨x.kind=9∨x.kind=10):=by omega
 rw[ae R,ae Y];by_cases h6:x.kind=11∨x.kind=12;·simp only[ap h6,ae h1,ae j,ae o,ae I,ae R,C.posB _ hx.ref]
 simp only[ae h6,ae h1,ae j]
def rG (b:aw)(x:bz):Int:=if x.kind=12 then ru b.Ng.length x.Ni else 0
theorem wm (C:If p c b q f N){x:bz}(j:iM x):dy f (jC p c.main x)=rG b x:=by
 unfold dy rG jC;simp only;by_cases h:x.kind=12;·rw[ap h,ap h,ap h,C.posB _ j.Ni]
 rw[ae h,ae h]
theorem DQ (L:kP)(o:dD p){x:bz}(C:iM x)(I:dx p x):aB (gW p c.main x)=true↔
 (x.kind=4∨x.kind=5∨x.kind=6∨x.kind=11∨x.kind=12→0≤x.ref)∧(x.kind=7→x.ref=c.main∨0≤x.ref)∧4≤x.kind∧x.kind≤12:=by
 unfold gW;by_cases h1:x.kind=4∨x.kind=5∨x.kind=6
 ·rw[ap h1,L.num _ _ (.inl rfl) C.ref,qal]
  constructor;·intro h;exact⟨fun _=>h,fun j=>by omega,by omega,by omega⟩
  intro h;exact h.1 (by omega)
 rw[ae h1];by_cases J:x.kind=7
 ·rw[ap J,ym L C.ref]
  constructor;·intro h;exact⟨fun j=>by omega,fun _=>h,by omega,by omega⟩
  intro h;exact h.2.1 J
 rw[ae J];by_cases R:x.kind=8
 ·have:=I.1 R
  rw[ap R,(wB o.2.2.2.2.2.1 this.1 this.2).2];exact⟨fun _=>⟨fun _=>this.1,fun j=>by omega,by omega,by omega⟩,fun _=>rfl⟩
 rw[ae R];by_cases Y:x.kind=9
 ·have:=I.2.1 Y
  rw[ap Y,(wB o.2.2.2.2.2.2 this.1 this.2).2];exact⟨fun _=>⟨fun _=>this.1,fun j=>by omega,by omega,by omega⟩,fun _=>rfl⟩
 rw[ae Y];by_cases h5:x.kind=10
 ·have:=I.2.2 h5
  rw[ap h5,(rD o this.1 this.2).2];exact⟨fun _=>⟨fun _=>this.1,fun j=>by omega,by omega,by omega⟩,fun _=>rfl⟩
 rw[ae h5];by_cases h6:x.kind=11∨x.kind=12
 ·rw[ap h6,L.num _ _ (.inr (.inl rfl)) C.ref,qal]
  constructor;·intro h;exact⟨fun _=>h,fun j=>by omega,by omega,by omega⟩
  intro h;exact h.1 (by omega)
 rw[ae h6,L.no];constructor;·intro h;cases h
 intro h;omega
theorem Cm {x:bz}(h:¬(4≤x.kind∧x.kind≤12)):gW p c.main x=gR:=by unfold gW;rw[ae (by omega),ae (by omega),ae (by omega),ae (by omega),ae (by omega),ae (by omega)]
theorem ib {k:Nat}{s:rT}(h:cJ k=some s):k≠3∧1≤k∧k≤13∧(s.ref=true↔4≤k∧k≤12∧k≠3)∧(s.Ni=true↔k=12)∧(s.args<0↔k=7)∧s.args≤2∧cw k=some (if k=7 then 9 else s.args,s.dst,s.ref,s.Ni):=by
 unfold cJ at h
 split at h<;>first
  |(cases h;refine⟨by decide,by decide,by decide,by decide,by decide,by decide,by decide,rfl⟩)
  |cases h
theorem ny {k:Nat}{t:Int×Bool×Bool×Bool}(h:cw k=some t)(j:k≠3):∃s,cJ k=some s:=by
 unfold cw at h
 split at h<;>first
  |exact⟨_,rfl⟩
  |exact absurd rfl j
  |cases h
def rO (N:Nat)(d:Int):Int:=if 0≤d then ru N d else-1
theorem wY (I:dD p)(C:If p c b q f N){x:bz}(j:iM x)(J:dx p x):iE (pg p q f (jC p c.main x))=iE x↔
 rO N x.dst=x.dst∧oq c b x=x.ref∧rG b x=x.Ni∧x.args.map (ru N)=x.args∧x.Nh.map (ru b.Ng.length)=x.Nh:=by
 have R:(if(jC p c.main x).dst=gR then(-1:Int) else aO (bh f) (jC p c.main x).dst)=rO N x.dst:=by(
 unfold rO jC;simp only;by_cases h:0≤x.dst;·rw[ap h,ap h,ae (nS _ _),C.posV _ j.dst]
 rw[ae h,ae h,ap rfl])
 have Y:(jC p c.main x).args.map (aO (bh f))=x.args.map (ru N):=by unfold jC;rw[List.map_map];exact List.map_congr_left fun a o=>C.posV a (j.args a o)
 have e3:(jC p c.main x).Nh.map (aO (cn f))=x.Nh.map (ru b.Ng.length):=by unfold jC;rw[List.map_map];exact List.map_congr_left fun a o=>C.posB a (j.Nh a o)
 unfold iE pg;rw[R,Y,e3,xh I C j J,wm C j];simp only[jC,bz.mk.injEq,true_and,and_true]
theorem yI (C:If p c b q f N){a:Int}(j:aV a):aL 118 a∈bh f↔0≤a∧a<N:=by rw[←cm,C.posV a j,mg]
theorem yG (C:If p c b q f N){a:Int}(j:aV a):aL 98 a∈cn f↔0≤a∧a<b.Ng.length:=by rw[←cm,C.posB a j,mg]
def EO (p:aH)(c:aE)(q:dN)(f:cD)(x:bz):Prop:=dx p x∧fj (jC p c.main x)∧mO p q f (jC p c.main x)∧iE (pg p q f (jC p c.main x))=iE x
theorem Gs (L:kP)(hp:dD p)(C:If p c b q f N){x:bz}(hx:iM x)(h:EO p c q f x):zI p c b N x:=by
 obtain⟨hc,hi,hr,hs⟩:=h;obtain⟨s1,s2,s3,s4,s5⟩:=(wY hp C hx hc).1 hs;obtain⟨r1,r2,r3,r4,r5⟩:=hr;rw[xh hp C hx hc] at r1 r5;rw[wm C hx] at r2;obtain⟨i1,i2,i3,i4,i5,i6,i7⟩:=hi;simp only[jC] at i1 i2 i3 i6 i7;have j:∀a∈x.args,0≤a∧a<N:=fun a ha=>(yI C (hx.args a ha)).1 (r3 _ (dr.2 ⟨a,ha,rfl⟩));have R:∀a∈x.Nh,0≤a∧a<b.Ng.length:=fun a ha=>(yG C (hx.Nh a ha)).1 (r4 _ (dr.2 ⟨a,ha,rfl⟩));by_cases h3:x.kind=3;·(
 obtain⟨j1,j2,j3,o,j5,j6⟩:=i6 h3;rw[ce,ce] at o;rw[ce] at j5 j6;have hd:0≤x.dst:=by
  by_cases Y:0≤x.dst;·exact Y
  rw[ae Y,L.no] at j1;cases j1
 refine⟨8,true,false,false,by rw[h3];rfl,fun _=>⟨hd,?_⟩,(fun h=>by cases h),fun _=>?_,fun _=>?_,fun h=>?_,fun h=>?_,(fun h=>by omega),(fun h=>by cases h),(fun h=>by cases h),?_,j,R⟩
 ·unfold rO at s1
  rw[ap hd] at s1;have:=ix.1 s1;omega
 ·unfold oq at s2
  rw[ae (by omega),ae (by omega),ae (by omega),ae (by omega)] at s2;exact s2.symm
 ·unfold rG at s3
  rw[ae (by omega)] at s3;exact s3.symm
 ·by_cases I:x.num=0
  ·exact I
  exact absurd (i3 I) h
 ·by_cases I:x.op=0
  ·exact I
  exact absurd (i1.1 I) h
 rw[ap h3];exact⟨o,j5,j6⟩)
 obtain⟨s,a1,j1,j2,j3,o,j5,j6⟩:=i7 h3;obtain⟨_,k1,b2,kr,ka,kn,k2,kq⟩:=ib a1;have a6:x.Nh=[]:=List.map_eq_nil_iff.1 j1;rw[ce] at j2 j3;refine⟨_,_,_,_,kq,fun hd=>?_,fun hd=>?_,fun hR=>?_,fun hA=>?_,fun h=>?_,fun h=>?_,fun h=>⟨?_,i2⟩,fun hR=>?_,fun hA=>?_,?_,j,R⟩
 ·unfold fS at o;rw[ap hd] at o;have J:0≤x.dst:=by
   by_cases Y:0≤x.dst;·exact Y
   rw[ae Y,L.no] at o;cases o
  refine⟨J,?_⟩;unfold rO at s1;rw[ap J] at s1;have:=ix.1 s1;omega
 ·unfold fS at o;rw[hd,ae oG] at o;have J:¬0≤x.dst:=fun Y=>by rw[ap Y] at o;exact nS _ _ o
  unfold rO at s1;rw[ae J] at s1;exact s1.symm
 ·have hk:¬(4≤x.kind∧x.kind≤12):=fun h=>by rw[kr.2 ⟨h.1,h.2,h3⟩] at hR;cases hR
  unfold oq at s2;rw[ae (by omega),ae (by omega),ae (by omega),ae (by omega)] at s2;exact s2.symm
 ·have hk:¬x.kind=12:=fun h=>by rw[ka.2 h] at hA;cases hA
  unfold rG at s3;rw[ae hk] at s3;exact s3.symm
 ·by_cases I:x.num=0
  ·exact I
  exact absurd (i3 I) h
 ·by_cases I:x.op=0
  ·exact I
  exact absurd (i1.1 I) h
 ·have:=i1.2 h;omega
 ·(
 have hk:=kr.1 hR;unfold oq at r1;unfold cW;by_cases g1:x.kind=4∨x.kind=5∨x.kind=6;·rw[ap g1] at r1⊢;exact mg.1 r1
 rw[ae g1] at r1⊢;by_cases g2:x.kind=7;·rw[ap g2] at r1⊢;exact mg.1 r1
 rw[ae g2] at r1⊢;by_cases g3:x.kind=8;·rw[ap g3];exact hc.1 g3
 rw[ae g3];by_cases g4:x.kind=9;·rw[ap g4];exact hc.2.1 g4
 rw[ae g4];by_cases g5:x.kind=10;·rw[ap g5];exact hc.2.2 g5
 rw[ae g5];rw[ae (by omega),ap (by omega)] at r1;exact mg.1 r1)
 ·have hk:=ka.1 hA
  unfold rG at r2;rw[ap hk] at r2;exact mg.1 r2
 rw[ae h3];refine⟨a6,?_⟩;by_cases g:x.kind=7
 ·rw[ap g];have hR:oq c b x=ru c.Nf.length x.ref:=by unfold oq;rw[ae (by omega),ap g]
  rw[hR] at r1 r5;have a7:=mg.1 r1;have a8:ru c.Nf.length x.ref=x.ref:=ix.2 (.inl a7);rw[a8] at r5;obtain⟨g',b0,b1⟩:=C.parG x.ref.toNat (by omega);have:=r5 g g' b0;simp only[jC,ce] at this;rw[←b1,this]
 rw[ae g,ae g];exact j2 (by omega)
theorem Gp (L:kP)(hp:dD p)(C:If p c b q f N)(b5:∀b∈c.Nf,b.params≤6){x:bz}(hx:iM x)(h:zI p c b N x):EO p c q f x:=by
 obtain⟨n,dst,ref,Ni,j,b3,b6,b7,b8,b9,c0,b2,hR,hA,o,Y,a6⟩:=h;have hc:dx p x:=by(
 by_cases J:x.kind=3;·exact⟨fun h=>by omega,fun h=>by omega,fun h=>by omega⟩
 obtain⟨s,hs⟩:=ny j J;obtain⟨_,k1,b1,kr,ka,kn,k2,kq⟩:=ib hs;rw[kq] at j;injection j with j;injection j with e1 e2;injection e2 with e2 R;injection R with R e4;have hm:4≤x.kind∧x.kind≤12→0≤x.ref∧x.ref<cW p c b x.kind:=fun hk=>hR (by rw[←R];exact kr.2 ⟨hk.1,hk.2,J⟩);refine⟨fun h=>?_,fun h=>?_,fun h=>?_⟩;·have:=hm (by omega);simpa [cW,h] using this
 ·have:=hm (by omega);simpa [cW,h] using this
 have:=hm (by omega);simpa [cW,h] using this)
 have a7:iE (pg p q f (jC p c.main x))=iE x:=by(
 refine(wY hp C hx hc).2 ⟨?_,?_,?_,Cf Y,Cf a6⟩
 ·unfold rO
  cases dst with
  |true=>have:=b3 rfl;rw[ap this.1];exact ix.2 (.inl this)
  |false=>have:=b6 rfl;rw[ae (by omega),this]
 ·(
 cases ref with
 |false=>
  have h0:=b7 rfl;have hk:¬(4≤x.kind∧x.kind≤12):=by(
 by_cases J:x.kind=3;·omega
 obtain⟨s,hs⟩:=ny j J;obtain⟨_,k1,b1,kr,ka,kn,k2,kq⟩:=ib hs;rw[kq] at j;injection j with j;injection j with e1 e2;injection e2 with e2 R;injection R with R e4;intro hk;have:=kr.2 ⟨hk.1,hk.2,J⟩;rw[R] at this;cases this)
  unfold oq;rw[ae (by omega),ae (by omega),ae (by omega),ae (by omega),h0]
 |true=>
  have hm:=hR rfl;unfold cW at hm;unfold oq;by_cases g1:x.kind=4∨x.kind=5∨x.kind=6;·rw[ap g1] at hm⊢;exact ix.2 (.inl hm)
  rw[ae g1] at hm⊢;by_cases g2:x.kind=7;·rw[ap g2] at hm⊢;exact ix.2 (.inl hm)
  rw[ae g2] at hm⊢;by_cases g3:x.kind=8∨x.kind=9∨x.kind=10;·rw[ap g3]
  rw[ae g3];rw[ae (by omega),ae (by omega),ae (by omega)] at hm;have hk:x.kind=11∨x.kind=12:=by(
 by_cases J:x.kind=3;·rw[J] at j;cases j
 obtain⟨s,hs⟩:=ny j J;obtain⟨_,k1,b1,kr,ka,kn,k2,kq⟩:=ib hs;rw[kq] at j;injection j with j;injection j with e1 e2;injection e2 with e2 R;injection R with R e4;have:=kr.1 R;omega)
  rw[ap hk];exact ix.2 (.inl hm))
 unfold rG;by_cases g:x.kind=12
 ·rw[ap g]
  have:Ni=true:=by rw[g] at j;cases j;rfl
  exact ix.2 (.inl (hA this))
 rw[ae g];cases Ni with
 |false=>exact(b8 rfl).symm
 |true=>
  exfalso;by_cases J:x.kind=3;·rw[J] at j;cases j
  obtain⟨s,hs⟩:=ny j J;obtain⟨_,k1,b1,kr,ka,kn,k2,kq⟩:=ib hs;rw[kq] at j;injection j with j;injection j with e1 e2;injection e2 with e2 R;injection R with R e4;exact g (ka.1 e4))
 have a8:=(wY hp C hx hc).1 a7;have c1:=xh hp C hx hc;have c6:=wm (p:=p) C hx;have c5:∀n:Nat,∀r,ru n r=r→0≤r→0≤r∧r<n:=fun n r h h0=>by have:=ix.1 h;omega
 have a1:0≤x.ref:=by
  cases ref with
  |false=>have:=b7 rfl;omega
  |true=>exact(hR rfl).1
 have b0:0≤x.Ni:=by
  cases Ni with
  |false=>have:=b8 rfl;omega
  |true=>exact(hA rfl).1
 refine⟨hc,⟨?_,?_,?_,?_,?_,?_,?_⟩,⟨?_,?_,?_,?_,?_⟩,a7⟩
 ·simp only[jC]
  constructor
  ·intro h;by_cases g:x.kind=2;·exact g
   exact absurd (c0 g) h
  intro h;have:=b2 h;omega
 ·simp only[jC]
  by_cases g:x.kind=2;·exact(b2 g).2
  have:=c0 g;omega
 ·simp only[jC];intro h;by_cases g:x.kind=1;·exact g
  exact absurd (b9 g) h
 ·intro a ha
  obtain⟨a',I,rfl⟩:=dr.1 ha;rw[L.num _ _ (.inr (.inr (.inr rfl))) (hx.args a' I)];exact bL (Y a' I).1
 ·intro a ha
  obtain⟨a',I,rfl⟩:=dr.1 ha;rw[L.num _ _ (.inr (.inl rfl)) (hx.Nh a' I)];exact bL (a6 a' I).1
 ·simp only[jC];intro J;rw[ap J] at o;rw[J] at j;cases j;have hd:=b3 rfl;rw[ap hd.1,L.num _ _ (.inr (.inr (.inr rfl))) hx.dst,ce,ce];exact⟨bL hd.1,Cm (by omega),ae (by omega),o.1,o.2.1,o.2.2⟩
 ·(
 simp only[jC];intro J;rw[ae J] at o;obtain⟨s,hs⟩:=ny j J;obtain⟨_,k1,b1,kr,ka,kn,k2,kq⟩:=ib hs;rw[kq] at j;injection j with j;injection j with e1 e2;injection e2 with e2 R;injection R with R e4;subst e2 R e4;have hlen:x.args.length≤6:=by(
 have:=o.2;by_cases g:x.kind=7
 ·rw[ap g] at this;have hm:=hR (kr.2 (by omega));unfold cW at hm;rw[ae (by omega),ap g] at hm;have c4:x.ref.toNat<c.Nf.length:=by omega
  rw[iG,lG c4,Option.getD_some] at this;have:=b5 _ (eL c4);omega
 rw[ae g] at this;rw[ae g] at e1;omega)
 refine⟨s,hs,by rw[o.1];rfl,fun h=>?_,by rw[ce];exact hlen,?_,?_,?_⟩
 ·have g:¬x.kind=7:=fun g=>by have:=kn.2 g;omega
  rw[ae g] at o e1;rw[ce,e1];exact o.2
 ·unfold fS
  cases hd:s.dst with
  |true=>have:=b3 hd;rw[ap rfl,ap this.1,L.num _ _ (.inr (.inr (.inr rfl))) hx.dst];exact bL this.1
  |false=>have:=b6 hd;rw[ae oG,ae (by omega)]
 ·unfold fS;cases hd:s.ref with
  |true=>rw[ap rfl];have:=kr.1 hd;exact(DQ L hp hx hc).2 ⟨fun _=>a1,fun _=>.inr a1,this.1,this.2.1⟩
  |false=>rw[ae oG];refine Cm fun hk=>?_;rw[kr.2 ⟨hk.1,hk.2,J⟩] at hd;cases hd
 unfold fS;cases hd:s.Ni with
 |true=>rw[ap rfl,ap (ka.1 hd),L.num _ _ (.inr (.inl rfl)) hx.Ni];exact bL b0
 |false=>rw[ae oG];refine ae fun g=>?_;rw[ka.2 g] at hd;cases hd)
 ·rw[c1,a8.2.1];exact a1
 ·rw[c6,a8.2.2.1];exact b0
 ·intro a ha
  obtain⟨a',I,rfl⟩:=dr.1 ha;exact(yI C (hx.args a' I)).2 (Y a' I)
 ·intro a ha
  obtain⟨a',I,rfl⟩:=dr.1 ha;exact(yG C (hx.Nh a' I)).2 (a6 a' I)
 intro hk g hg;have b4:x.kind=7:=hk;have c7:¬x.kind=3:=by omega
 rw[ae c7,ap b4] at o;rw[c1,a8.2.1] at hg;have c8:ref=true:=by rw[b4] at j;cases j;rfl
 have hm:=hR c8;unfold cW at hm;rw[ae (by omega),ap b4] at hm;obtain⟨g',c9,d7⟩:=C.parG x.ref.toNat (by omega);rw[c9] at hg;cases hg;simp only[jC,ce];have:=o.2;omega
end
end
section
structure rK (c:aE):Prop where
 main:aV c.main
 ops:∀b∈c.Nf,∀x∈b.Ng.flatten,iM x
theorem oV {α β γ:Type}{g:Nat→α→β}{h:β→γ}{h':Nat→γ}(e:∀i a,h (g i a)=h' i)(l:List α):(l.mapIdx g).map h=(List.range l.length).map h':=by
 apply List.ext_getElem?;intro i;rw[cL,jA,cL];by_cases hi:i<l.length
 ·rw[lG hi,ln hi]
  simp only[Option.map_some,e]
 rw[jz (by omega),jz (by simp;omega)];rfl
theorem uE (p:aH)(c:aE):dz (cP p c)=(List.range c.Nd.length).map fun(i:Nat)=>aL 97 i:=oV (g:=sa p) (h:=fun a=>a.name) (h':=fun(i:Nat)=>aL 97 i) (fun _ _=>rfl) c.Nd
theorem ni (p:aH)(c:aE):fh (cP p c)=(List.range c.Nf.length).map fun(i:Nat)=>qY c.main i:=oV (g:=bU p c.main) (h:=fun a=>a.name) (h':=fun(i:Nat)=>qY c.main i) (fun _ _=>rfl) c.Nf
theorem uH (p:aH)(m:Int)(i:Nat)(b:aw):cn (bU p m i b)=(List.range b.Ng.length).map fun(i:Nat)=>aL 98 i:=oV (g:=eh p m) (h:=fun a=>a.name) (h':=fun(i:Nat)=>aL 98 i) (fun _ _=>rfl) b.Ng
def yd (b:aw):List Int:=(b.Ng.flatten.filter fun x=>decide (0≤x.dst)).map fun x=>x.dst
def V (b:aw):List Int:=((List.range b.params.toNat).map fun(k:Nat)=>(k:Int))++yd b
theorem yF {α β γ:Type}{g:Nat→α→β}{h:β→List γ}{h':α→List γ}(e:∀i a,h (g i a)=h' a)(l:List α):(l.mapIdx g).flatMap h=l.flatMap h':=by
 rw[List.flatMap_def,List.flatMap_def];congr 1;apply List.ext_getElem?;intro i;rw[cL,jA,cL];cases l[i]? with
 |none=>rfl
 |some a=>simp only[Option.map_some,e]
theorem kW {α β γ:Type}{g:Nat→α→β}{h:β→γ}{h':α→γ}(e:∀i a,h (g i a)=h' a)(l:List α):(l.mapIdx g).map h=l.map h':=by
 apply List.ext_getElem?;intro i;rw[cL,jA,cL];cases l[i]? with
 |none=>rfl
 |some a=>simp only[Option.map_some,e]
theorem oQ (p:aH)(m:Int):∀l:List bz,(l.map fun x=>(jC p m x).dst).filter (fun s=>decide (s≠gR))=((l.filter fun x=>decide (0≤x.dst)).map fun x=>x.dst).map (aL 118)
 | []=>rfl
 |x::l=>by(
 rw[List.map_cons,List.filter_cons,List.filter_cons];by_cases h:0≤x.dst
 ·have e:(jC p m x).dst=aL 118 x.dst:=ap h
  rw[e,ap (bL (nS _ _)),ap (bL h),oQ p m l];rfl
 have e:(jC p m x).dst=gR:=ae h;rw[e,ae (by simp),ae (by simp;omega),oQ p m l])
theorem CO (p:aH)(m:Int)(i:Nat)(b:aw):sx (bU p m i b)=(yd b).map (aL 118):=by
 unfold sx;have:((bU p m i b).Ng.flatMap fun b=>b.code.map fun x=>x.dst)=b.Ng.flatten.map fun x=>(jC p m x).dst:=by show(b.Ng.mapIdx (eh p m)).flatMap (fun b=>b.code.map fun x=>x.dst)=_;rw[yF (h':=fun l=>l.map fun x=>(jC p m x).dst) fun _ _=>by simp[eh]];rw[List.flatMap_def,List.map_flatten]
 rw[this];exact oQ p m _
theorem ke (p:aH)(m:Int)(i:Nat)(b:aw):bh (bU p m i b)=(V b).map (aL 118):=by unfold bh V;rw[CO,ic,List.map_map];rfl
theorem uX {α:Type}{q:α→Bool}{l:List α}{k:Nat}{x:α}(h:l[k]? =some x)(j:q x=true):(l.filter q)[((l.take k).filter q).length]? =some x:=by
 obtain⟨o,rfl⟩:=lS.1 h;have e:l=l.take k++l[k]::l.drop (k+1):=by rw[←List.drop_eq_getElem_cons o,List.take_append_drop]
 have:l.filter q=(l.take k).filter q++l[k]::(l.drop (k+1)).filter q:=by
  conv=>lhs;rw[e]
  rw[mE,List.filter_cons,ap j]
 rw[this,kH (cf _),Nat.sub_self];rfl
def cz (x:bz):Bool:=match cw x.kind with|some (_,d,_,_)=>d|none=>false
theorem co (l:List bz):cj l=(l.filter cz).length:=rfl
theorem Fv {l:List bz}(h:∀x∈l,cz x=decide (0≤x.dst)):cj l=(l.filter fun x=>decide (0≤x.dst)).length:=by rw[co,List.filter_congr h]
theorem Jy {p:aH}{c:aE}{b:aw}{N:Nat}{x:bz}(h:zI p c b N x):cz x=decide (0≤x.dst):=by
 obtain⟨n,dst,ref,Ni,j,h1,o,_⟩:=h;unfold cz;rw[j];cases dst with
 |true=>exact(bL (h1 rfl).1).symm
 |false=>have:=o rfl;exact(cI (by omega)).symm
theorem Mu {p:aH}{c:aE}{b:aw}{N:Nat}{x:bz}{next:Int}(o:b.vars=N)(h:zI p c b N x)(C:0≤x.dst→x.dst=next):aT p c b next x:=by
 obtain⟨n,dst,ref,Ni,j,h1,I,r⟩:=h;refine⟨n,dst,ref,Ni,j,?_,by rw[o];exact r⟩;cases dst with
 |true=>rw[ap rfl];exact C (h1 rfl).1
 |false=>rw[ae oG];exact I rfl
theorem MB {p:aH}{c:aE}{b:aw}{N:Nat}{x:bz}{next:Int}(o:b.vars=N)(h:aT p c b next x)(I:0≤next)(C:cz x=true→next<N):zI p c b N x:=by
 obtain⟨n,dst,ref,Ni,j,h1,r⟩:=h;refine⟨n,dst,ref,Ni,j,fun h=>?_,fun h=>?_,by rw[o] at r;exact r⟩
 ·rw[ap h] at h1
  have:cz x=true:=by unfold cz;rw[j];exact h
  have:=C this;omega
 rw[h,ae oG] at h1;exact h1
theorem yV {l:List Int}(h:∀(k:Nat) x,l[k]? =some x→x=k):l=(List.range l.length).map fun(k:Nat)=>(k:Int):=by
 apply List.ext_getElem?;intro k;rw[cL];by_cases j:k<l.length;·rw[ln j,lG j,h k _ (lG j)];rfl
 rw[jz (by omega),jz (by simp;omega)];rfl
theorem th:∀i j,aV i→aV j→aL 118 i=aL 118 j→i=j:=fun _ _ h1 o h=>(pQ h1 o h).2
theorem vE:∀i j,aV i→aV j→aL 97 i=aL 97 j→i=j:=fun _ _ h1 o h=>(pQ h1 o h).2
theorem vG:∀i j,aV i→aV j→aL 98 i=aL 98 j→i=j:=fun _ _ h1 o h=>(pQ h1 o h).2
section
variable {p:aH} {c:aE}
theorem xU (I:c.Nd.length≤16)(J:c.Nf.length≤64)(o:∀b∈c.Nf,0≤b.params){i:Nat}{b:aw}(R:b.Ng.length≤64){N:Nat}(Y:N≤1000000)
 (hV:V b=(List.range N).map fun(k:Nat)=>(k:Int)):If p c b (cP p c) (bU p c.main i b) N:=by
 refine⟨fun r hr=>?_,fun r hr=>?_,fun r hr=>?_,fun r hr=>?_,fun j C=>?_⟩;·rw[uE];exact lT (by omega) vE hr
 ·rw[ni];exact lT (by omega) (fun _ _ h1 h2 h=>wO h1 h2 h) hr
 ·rw[uH];exact lT (by omega) vG hr
 ·rw[ke,hV,List.map_map];exact lT Y th hr
 refine⟨bU p c.main j c.Nf[j],?_,?_⟩
 ·show(c.Nf.mapIdx (bU p c.main))[j]? =_
  rw[jA,lG C];rfl
 rw[iG,lG C,Option.getD_some];have:=o _ (eL C);simp only[bU,ce,List.length_range];omega
theorem xQ (i:Nat)(b:aw):(il p (cP p c) (bU p c.main i b)).Ng=b.Ng.map fun l=>l.map fun x=>pg p (cP p c) (bU p c.main i b) (jC p c.main x):=by show(b.Ng.mapIdx (eh p c.main)).map (fun k=>k.code.map (pg p (cP p c) (bU p c.main i b)))=_;exact kW (fun _ _=>by simp[eh]) _
theorem vR (i:Nat)(b:aw):((il p (cP p c) (bU p c.main i b)).Ng.map fun l=>l.map iE)=(b.Ng.map fun l=>l.map iE)↔∀l∈b.Ng,∀x∈l,iE (pg p (cP p c) (bU p c.main i b) (jC p c.main x))=iE x:=by
 rw[xQ,List.map_map,List.map_inj_left];refine⟨fun h l hl x j=>?_,fun h l hl=>?_⟩
 ·have:=h l hl
  simp only[Function.comp,List.map_map] at this;exact List.map_inj_left.1 this x j
 simp only[Function.comp,List.map_map];exact List.map_inj_left.2 fun x j=>h l hl x j
theorem sO (l:List bz)(k:Nat)(m:Int):((eh p m k l).code.map fun x=>x.kind)=l.map fun x=>x.kind:=by simp[eh,jC]
theorem Iw (L:kP)(hp:dD p)(b4:c.Nd.length≤16)(b5:c.Nf.length≤64)(I:∀b∈c.Nf,0≤b.params∧b.params≤6){i:Nat}{b:aw}(hb:c.Nf[i]? =some b)(hn:∀x∈b.Ng.flatten,iM x)(hlen:b.Ng.flatten.length≤4096)
 (a8:lX p b) (b6:fT (bU p c.main i b)) (b0:pj p (cP p c) (bU p c.main i b)) (R:((V b).length:Int)=b.vars)
 (hs:∀l∈b.Ng,∀x∈l,iE (pg p (cP p c) (bU p c.main i b) (jC p c.main x))=iE x):qi p c b:=by
 have a6:b∈c.Nf:=mG hb;obtain⟨f1,f2,f3,f4,f5,f6⟩:=b6;obtain⟨r1,r2,r3⟩:=b0;have b7:(bU p c.main i b).Ng.length=b.Ng.length:=by simp[bU]
 rw[b7] at f4 f5;rw[ke] at r1;have c7:∀d∈V b,aV d:=by(
 intro d j;rcases eD.1 j with j|j
 ·obtain⟨k,J,rfl⟩:=dr.1 j
  have:=fg.1 J;have:=I b a6;unfold aV;omega
 obtain⟨x,o,rfl⟩:=dr.1 j;exact(hn x (List.mem_filter.1 o).1).dst)
 have b1:∀(k:Nat) d,(V b)[k]? =some d→d=k:=by(
 intro k d j;by_cases J:k<b.params.toNat
 ·unfold V at j
  rw[ma (by simpa using J),cL,ln J] at j;exact(kJ j).symm
 have b8:d∈yd b:=by unfold V at j;rw[kH (by simpa using J)] at j;exact mG j
 obtain⟨x,o,rfl⟩:=dr.1 b8;obtain⟨b9,c0⟩:=List.mem_filter.1 o;obtain⟨l,hl,a7⟩:=List.mem_flatten.1 b9;have c1:=hs l hl x a7;have c4:0≤x.dst:=of_decide_eq_true c0;have h1:(if(jC p c.main x).dst=gR then(-1:Int) else aO (bh (bU p c.main i b)) (jC p c.main x).dst)=x.dst:=congrArg bz.dst c1;have e:(jC p c.main x).dst=aL 118 x.dst:=ap c4;rw[e,ae (nS _ _),ke,vL (k:=k) (by rw[cL,j];rfl) r1] at h1;exact h1.symm)
 have hV:=yV b1;have c5:(V b).length≤1000000:=by have h1:=I b a6;have h2:(b.Ng.flatten.filter fun x=>decide (0≤x.dst)).length≤b.Ng.flatten.length:=List.length_filter_le _ _;unfold V yd;rw[iQ,ce,ce,List.length_range];omega
 have C:If p c b (cP p c) (bU p c.main i b) (V b).length:=xU b4 b5 (fun b hb=>(I b hb).1) (by omega) c5 hV;have Y:∀l∈b.Ng,∃k,eh p c.main k l∈(bU p c.main i b).Ng:=by intro l hl;obtain⟨k,J⟩:=cY.1 hl;refine⟨k,cY.2 ⟨k,?_⟩⟩;show(b.Ng.mapIdx (eh p c.main))[k]? =_;rw[jA,J];rfl
 have c6:∀l∈b.Ng,∀x∈l,zI p c b (V b).length x:=by intro l hl x o;obtain⟨k,J⟩:=Y l hl;have b2:jC p c.main x∈(eh p c.main k l).code:=dr.2 ⟨x,o,rfl⟩;exact Gs L hp C (hn x (List.mem_flatten.2 ⟨l,hl,o⟩)) ⟨a8.2.2 l hl x o,(f6 _ J).2 _ b2,(r3 _ J).2 _ b2,hs l hl x o⟩
 have b3:∀x∈b.Ng.flatten,zI p c b (V b).length x:=by intro x o;obtain⟨l,hl,a7⟩:=List.mem_flatten.1 o;exact c6 l hl x a7
 have h0:=I b a6;have a1:∀k,cj (b.Ng.flatten.take k)=((b.Ng.flatten.take k).filter fun x=>decide (0≤x.dst)).length:=fun k=>Fv fun x o=>Jy (b3 x (List.mem_of_mem_take o));refine⟨h0.1,h0.2,f4,f5,fun l hl=>?_,fun k x o=>?_,?_⟩
 ·obtain⟨k,J⟩:=Y l hl
  have:=(r3 _ J).1;rwa [sO] at this
 ·refine Mu R.symm (b3 x (mG o)) fun j=>?_;have h1:=uX (q:=fun x:bz=>decide (0≤x.dst)) o (bL j);have h2:(V b)[b.params.toNat+((b.Ng.flatten.take k).filter fun x=>decide (0≤x.dst)).length]? =some x.dst:=by unfold V yd;rw[kH (by simp),ce,List.length_range,Nat.add_sub_cancel_left,cL,h1];rfl
  have:=b1 _ _ h2;rw[this,a1 k];omega
 have h1:=a1 b.Ng.flatten.length;rw[dZ] at h1;rw[h1,←R];unfold V yd;rw[iQ,ce,ce,List.length_range];omega
theorem uT {R:Int}(h0:0≤R):∀(l:List bz),(∀(k:Nat) x,l[k]? =some x→x.dst=if cz x=true then R+cj (l.take k) else-1)→
 ((l.filter fun x=>decide (0≤x.dst)).map fun x=>x.dst)=(List.range (cj l)).map fun(j:Nat)=>R+(j:Int):=by
 intro l;induction hl:l.length generalizing l with
 |zero=>intro _;rw[List.length_eq_zero_iff.1 hl];rfl
 |succ n ih=>
  intro h;have o:l≠[]:=by rintro rfl;simp at hl
  obtain⟨C,x,rfl⟩:∃C x,l=C++[x]:=⟨l.dropLast,l.getLast o,(List.dropLast_concat_getLast o).symm⟩;have Y:C.length=n:=by simpa using hl
  have a1:=ih C Y fun k y hy=>by have hk:=(lS.1 hy).1;have:=h k y (by rw[ma hk];exact hy);rwa [List.take_append_of_le_length (by omega)] at this
  have I:=h C.length x (by rw[kH (cf _),Nat.sub_self];rfl);rw[List.take_left] at I;rw[mE,ic,a1,co,co,mE,iQ];by_cases J:cz x=true
  ·rw[ap J] at I;have hd:0≤x.dst:=by omega
   rw[List.filter_cons,ap (bL hd),List.filter_cons,ap J];simp only[List.filter_nil,List.map_cons,List.map_nil,kI,List.length_nil,cN];rw[List.range_succ,ic,I];rfl
  rw[ae J] at I;rw[List.filter_cons,ae (by simp;omega),List.filter_cons,ae J];simp
theorem Jz (L:kP)(hp:dD p)(b3:c.Nd.length≤16)(b4:c.Nf.length≤64)(a7:∀b∈c.Nf,0≤b.params∧b.params≤6){i:Nat}{b:aw}(hb:c.Nf[i]? =some b)(hn:∀x∈b.Ng.flatten,iM x)(hlen:b.Ng.flatten.length≤4096)
 (h:qi p c b):lX p b∧fT (bU p c.main i b)∧pj p (cP p c) (bU p c.main i b)∧((V b).length:Int)=b.vars∧
 ∀l∈b.Ng,∀x∈l,iE (pg p (cP p c) (bU p c.main i b) (jC p c.main x))=iE x:=by
 have b8:b∈c.Nf:=mG hb;have hi:i<c.Nf.length:=(lS.1 hb).1;obtain⟨g1,g2,g3,g4,g5,g6,g7⟩:=h;have b0:∀(k:Nat) x,b.Ng.flatten[k]? =some x→x.dst=if cz x=true then b.params+cj (b.Ng.flatten.take k) else-1:=by
  intro k x o;obtain⟨n,dst,ref,Ni,b5,h1,_⟩:=g6 k x o;have:cz x=dst:=by unfold cz;rw[b5]
  rw[this];exact h1
 have b1:=uT g1 _ b0;have b2:(V b).length=b.params.toNat+cj b.Ng.flatten:=by unfold V yd;rw[b1,iQ,ce,ce,List.length_range,List.length_range]
 have b6:∀(k:Nat) d,(V b)[k]? =some d→d=k:=by(
 intro k d Y;unfold V yd at Y;rw[b1] at Y;by_cases I:k<b.params.toNat
 ·rw[ma (by simpa using I),cL,ln I] at Y
  exact(kJ Y).symm
 rw[kH (by simpa using I),cL,ce,List.length_range] at Y;by_cases b7:k-b.params.toNat<cj b.Ng.flatten
 ·rw[ln b7] at Y
  have:d=b.params+((k-b.params.toNat:Nat):Int):=(kJ Y).symm;omega
 rw[jz (by simp;omega)] at Y;cases Y)
 have hV:=yV b6;have b9:cj b.Ng.flatten≤b.Ng.flatten.length:=List.length_filter_le _ _;have C:If p c b (cP p c) (bU p c.main i b) (V b).length:=xU b3 b4 (fun b hb=>(a7 b hb).1) (by omega) (by omega) hV;have J:((V b).length:Int)=b.vars:=by rw[b2,g7];omega
 have a1:∀x∈b.Ng.flatten,EO p c (cP p c) (bU p c.main i b) x:=by intro x o;obtain⟨k,I⟩:=cY.1 o;refine Gp L hp C (fun b hb=>(a7 b hb).2) (hn x o) (MB J.symm (g6 k x I) (by omega) fun hf=>?_);have h1:=uX (q:=cz) I hf;have h2:=(lS.1 h1).1;rw[b2,co,co];omega
 have a8:∀k∈(bU p c.main i b).Ng,∃j,∃l∈b.Ng,j<b.Ng.length∧k=eh p c.main j l:=by(
 intro k I;obtain⟨j,hj⟩:=cY.1 I;have R:(b.Ng.mapIdx (eh p c.main))[j]? =some k:=hj;rw[jA] at R;cases hl:b.Ng[j]? with
 |none=>rw[hl] at R;cases R
 |some l=>rw[hl] at R;exact⟨j,l,mG hl,(lS.1 hl).1,(kJ R).symm⟩)
 have a6:∀l∈b.Ng,∀x∈l,x∈b.Ng.flatten:=fun l hl x o=>List.mem_flatten.2 ⟨l,hl,o⟩;refine⟨⟨g1,g2,fun l hl x o=>(a1 x (a6 l hl x o)).1⟩,⟨?_,?_,?_,?_,?_,?_⟩,⟨?_,?_,?_⟩,J,fun l hl x o=>(a1 x (a6 l hl x o)).2.2.2⟩
 ·show aB (qY c.main i)=true
  exact(ym L (by unfold aV;omega)).2 (.inr (by omega))
 ·intro a ha;obtain⟨k,I,rfl⟩:=dr.1 ha;have:=fg.1 I;rw[L.num _ _ (.inr (.inr (.inr rfl))) (by unfold aV;omega)];exact bL (by omega)
 ·simp only[bU,ce,List.length_range];omega
 ·simpa [bU] using g3
 ·simpa [bU] using g4
 ·intro k I;obtain⟨j,l,hl,hj,rfl⟩:=a8 k I;refine⟨?_,fun x o=>?_⟩
  ·show aB (aL 98 j)=true
   rw[L.num _ _ (.inr (.inl rfl)) (by unfold aV;omega)];exact bL (by omega)
  obtain⟨y,hy,rfl⟩:=dr.1 o;exact(a1 y (a6 l hl y hy)).2.1
 ·rw[ke,hV,List.map_map]
  exact kY (g:=aL 118) (by omega) th
 ·rw[uH]
  exact kY (g:=aL 98) (by omega) vG
 intro k I;obtain⟨j,l,hl,hj,rfl⟩:=a8 k I;refine⟨by rw[sO];exact g5 l hl,fun x o=>?_⟩;obtain⟨y,hy,rfl⟩:=dr.1 o;exact(a1 y (a6 l hl y hy)).2.2.1
theorem Gd (i:Nat)(b:aw):gl (bU p c.main i b)=ft b:=by unfold gl ft;show((b.Ng.mapIdx (eh p c.main)).map fun k=>k.code.length).sum=_;rw[kW (h':=fun l=>l.length) fun _ _=>by simp[eh]];exact List.length_flatten.symm
theorem zv:((cP p c).Nf.map gl).sum=(c.Nf.map ft).sum:=by show((c.Nf.mapIdx (bU p c.main)).map gl).sum=_;rw[kW (h':=ft) fun i b=>Gd i b]
theorem Cg {l:List Nat}{x:Nat}(h:x∈l):x≤l.sum:=by
 induction l with
 |nil=>simp at h
 |cons y l j=>
  rw[List.sum_cons];rcases fX.1 h with rfl|h;·omega
  have:=j h;omega
theorem Dr (L:kP)(hN:rK c):eM p c↔bJ p c:=by
 have a1:∀i b,c.Nf[i]? =some b→bU p c.main i b∈(cP p c).Nf:=by intro i b j;refine cY.2 ⟨i,?_⟩;show(c.Nf.mapIdx (bU p c.main))[i]? =_;rw[jA,j];rfl
 have I:∀f∈(cP p c).Nf,∃i b,c.Nf[i]? =some b∧f=bU p c.main i b:=by(
 intro f J;obtain⟨i,hi⟩:=cY.1 J;have o:(c.Nf.mapIdx (bU p c.main))[i]? =some f:=hi;rw[jA] at o;cases j:c.Nf[i]? with
 |none=>rw[j] at o;cases o
 |some b=>rw[j] at o;exact⟨i,b,j,(kJ o).symm⟩)
 have b9:∀i a,c.Nd[i]? =some a→sa p i a∈(cP p c).Nd:=by intro i a ha;refine cY.2 ⟨i,?_⟩;show(c.Nd.mapIdx (sa p))[i]? =_;rw[jA,ha];rfl
 have a6:∀f∈(cP p c).Nd,∃i a,c.Nd[i]? =some a∧f=sa p i a:=by(
 intro f J;obtain⟨i,hi⟩:=cY.1 J;have o:(c.Nd.mapIdx (sa p))[i]? =some f:=hi;rw[jA] at o;cases j:c.Nd[i]? with
 |none=>rw[j] at o;cases o
 |some b=>rw[j] at o;exact⟨i,b,j,(kJ o).symm⟩)
 have b0:((qV p (cP p c)).Nf.map fun f=>(f.params,f.vars,f.Ng.map fun l=>l.map iE))=(c.Nf.map fun f=>(f.params,f.vars,f.Ng.map fun l=>l.map iE))↔
  ∀i b,c.Nf[i]? =some b→(((il p (cP p c) (bU p c.main i b)).params,(il p (cP p c) (bU p c.main i b)).vars,(il p (cP p c) (bU p c.main i b)).Ng.map fun l=>l.map iE)=(b.params,b.vars,b.Ng.map fun l=>l.map iE)):=by
  show((((c.Nf.mapIdx (bU p c.main)).map (il p (cP p c))).map fun f=>(f.params,f.vars,f.Ng.map fun l=>l.map iE))=_)↔_;constructor;·intro h i b j;have:=congrArg (fun l=>l[i]?) h;simp only[cL,jA,j,Option.map_some] at this;exact kJ this
  intro h;apply List.ext_getElem?;intro i;simp only[cL,jA];cases j:c.Nf[i]? with
  |none=>rfl
  |some b=>simp only[Option.map_some];exact congrArg some (h i b j)
 have b2:∀i b,0≤b.params→(il p (cP p c) (bU p c.main i b)).params=b.params:=by intro i b h0;simp only[il,bU,ce,List.length_range];omega
 constructor;·(
 rintro⟨hp,R,Y,⟨c0,b3⟩,⟨o1,o2,o3,o4,o5⟩,⟨r1,r2,r3,r4,r5,r6⟩,s1,s2,s3⟩;rw[zv] at o5;have C:∀b∈c.Nf,0≤b.params∧b.params≤6:=fun b j=>⟨(b3 b j).1,(b3 b j).2.1⟩;have b4:∃i:Nat,(i:Int)=c.main∧i<c.Nf.length:=by(
 rw[ni] at r4;obtain⟨i,hi,e⟩:=dr.1 r4;refine⟨i,?_,fg.1 hi⟩;unfold qY at e;by_cases h:(i:Int)=c.main;·exact h
 rw[ae h] at e;exact absurd e (kZ (.inr (.inr (.inl rfl))) _))
 obtain⟨m,hm,a7⟩:=b4;refine⟨hp,Y,R,by omega,by omega,?_,fun a ha=>?_,fun b j=>?_,o5⟩
 ·have j:=lG a7;have e:c.main.toNat=m:=by omega
  rw[iG,e,j,Option.getD_some];have:=r5 _ (a1 m _ j) (ap hm);have h0:=C _ (eL a7);have hl:=congrArg List.length this;simp only[bU,ce,List.length_range,List.length_nil] at hl;omega
 ·obtain⟨i,hi⟩:=cY.1 ha
  have h1:=o3 _ (b9 i a hi);have h2:=c0 a ha;exact⟨h1.2.2.1,h1.2.2.2,h2⟩
 obtain⟨i,hi⟩:=cY.1 j;have c1:=b0.1 s3 i b hi;injection c1 with e1 e2;injection e2 with e2 e3;have c4:((V b).length:Int)=b.vars:=by rw[←e2];show _=((bh (bU p c.main i b)).length:Int);rw[ke,ce]
 have b5:b.Ng.flatten.length≤4096:=fR (Cg (dr.2 ⟨b,j,rfl⟩)) o5;exact Iw L hp Y R C hi (hN.ops b j) b5 (b3 b j) (o4 _ (a1 i b hi)) (r6 _ (a1 i b hi)) c4 ((vR i b).1 e3))
 rintro⟨hp,Y,R,m0,m1,m2,hA,hB,b1⟩;have C:∀b∈c.Nf,0≤b.params∧b.params≤6:=fun b j=>⟨(hB b j).1,(hB b j).2.1⟩
 have a8:∀i b,c.Nf[i]? =some b→lX p b∧fT (bU p c.main i b)∧pj p (cP p c) (bU p c.main i b)∧((V b).length:Int)=b.vars∧
  ∀l∈b.Ng,∀x∈l,iE (pg p (cP p c) (bU p c.main i b) (jC p c.main x))=iE x:=by
  intro i b hi;have j:b∈c.Nf:=mG hi;have b5:b.Ng.flatten.length≤4096:=fR (Cg (dr.2 ⟨b,j,rfl⟩)) b1;exact Jz L hp Y R C hi (hN.ops b j) b5 (hB b j)
 have a7:c.main.toNat<c.Nf.length:=by omega
 have c5:((c.main.toNat:Nat):Int)=c.main:=by omega
 have hI:∀n:Nat,n≤1000→aV (n:Int):=fun n h=>by unfold aV;omega
 refine⟨hp,R,Y,⟨fun a ha=>(hA a ha).2.2,fun b j=>?_⟩,⟨?_,?_,?_,?_,?_⟩,⟨?_,?_,?_,?_,?_,?_⟩,?_,?_,?_⟩
 ·obtain⟨i,hi⟩:=cY.1 j
  exact(a8 i b hi).1
 ·simpa [cP] using Y
 ·simpa [cP] using R
 ·intro f J;obtain⟨i,a,hi,rfl⟩:=a6 f J;have h1:=hA a (mG hi);have b6:=(lS.1 hi).1;refine⟨?_,(rD hp h1.2.2.1 h1.2.2.2).2,h1.1,h1.2.1⟩;show aB (aL 97 i)=true;rw[L.num _ _ (.inl rfl) (hI i (by omega))];exact bL (by omega)
 ·intro f J
  obtain⟨i,b,hi,rfl⟩:=I f J;exact(a8 i b hi).2.1
 ·rw[zv];exact b1
 ·rw[uE];exact kY (g:=aL 97) (by omega) vE
 ·intro f J;obtain⟨i,a,hi,rfl⟩:=a6 f J;have h1:=hA a (mG hi);show p.MZ.getD a.2.toNat gR∈p.MZ;have b6:a.2.toNat<p.MZ.length:=by omega
  rw[iG,lG b6,Option.getD_some];exact eL b6
 ·rw[ni];exact kY (g:=qY c.main) (by omega) fun _ _ h1 h2 h=>wO h1 h2 h
 ·rw[ni]
  exact dr.2 ⟨c.main.toNat,fg.2 a7,ap c5⟩
 ·intro f J b7;obtain⟨i,b,hi,rfl⟩:=I f J;have b8:qY c.main i=fO:=b7;have c6:(i:Int)=c.main:=by
   unfold qY at b8;by_cases h:(i:Int)=c.main;·exact h
   rw[ae h] at b8;exact absurd b8 (kZ (.inr (.inr (.inl rfl))) _)
  have e:c.main.toNat=i:=by omega
  rw[iG,e,hi,Option.getD_some] at m2;simp[bU,m2]
 ·intro f J
  obtain⟨i,b,hi,rfl⟩:=I f J;exact(a8 i b hi).2.2.1
 ·show aO (fh (cP p c)) fO=c.main
  have:fO=qY c.main c.main:=(ap rfl).symm;rw[ni,this,lT (g:=qY c.main) (by omega) (fun _ _ h1 h2 h=>wO h1 h2 h) hN.main];exact ix.2 (.inl ⟨m0,m1⟩)
 ·show((c.Nd.mapIdx (sa p)).map fun a=>(a.size,eZ p a.level))=c.Nd;rw[kW (h':=fun a=>(a.1,eZ p (p.MZ.getD a.2.toNat gR))) fun _ _=>rfl];conv=>rhs;rw[←List.map_id c.Nd]
  refine List.map_congr_left fun a ha=>?_;have h1:=hA a ha;rw[(rD hp h1.2.2.1 h1.2.2.2).1];rfl
 refine b0.2 fun i b hi=>?_;have j:=mG hi;obtain⟨_,_,_,h4,h5⟩:=a8 i b hi;rw[b2 i b (C b j).1,(vR i b).2 h5];have hv:(il p (cP p c) (bU p c.main i b)).vars=b.vars:=by rw[←h4];show((bh (bU p c.main i b)).length:Int)=_;rw[ke,ce]
 rw[hv]
end
end
end Go.Proofs.YtgdlhckhpolnnaaGreatDoor
