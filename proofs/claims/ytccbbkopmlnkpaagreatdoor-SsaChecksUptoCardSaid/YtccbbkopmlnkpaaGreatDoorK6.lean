/- Part 7 of the proof (its last part says what is proved). No condition. -/
import Derived.Deep.DeepCutAuto
import Derived.Test.YtccbbkopmlnkpaaGreatDoorK5
namespace Go.Proofs.YtccbbkopmlnkpaaGreatDoor
set_option maxRecDepth 100000
set_option maxHeartbeats 8000000
open Go.RowKit Go.Proofs.Tryz
section
structure rK (c:aE):Prop where
 main:aV c.main
 ops:∀b∈c.Nf,∀x∈b.Ng.flatten,iM x
theorem oV {α β γ:Type}{g:Nat→α→β}{h:β→γ}{h':Nat→γ}(e:∀i a,h (g i a)=h' i)(l:List α):(l.mapIdx g).map h=(List.range l.length).map h':=by
 apply List.ext_getElem?;intro i;rw[cL,jA,cL];by_cases hi:i<l.length
 ·rw[lG hi,ln hi]
  simp only[Option.map_some,e]
 rw[jz (by omega),jz (by simp;omega)];rfl
theorem uE (p:aH)(c:aE):dz (cP p c)=(List.range c.Nd.length).map fun(i:Nat)=>aL 97 i:=oV (g:=sa p) (h:=fun a=>a.name) (h':=fun(i:Nat)=>aL 97 i) (fun _ _=>rfl) c.Nd
theorem ni (p:aH)(c:aE):fh (cP p c)=(List.range c.Nf.length).map fun(i:Nat)=>qY c.main i:=oV (g:=bU p c.main) (h:=fun a=>a.name) (h':=fun(i:Nat)=>qY c.main i) (fun _ _=>rfl) c.Nf
theorem uH (p:aH)(m:Int)(i:Nat)(b:aw):cn (bU p m i b)=(List.range b.Ng.length).map fun(i:Nat)=>aL 98 i:=oV (g:=eh p m) (h:=fun a=>a.name) (h':=fun(i:Nat)=>aL 98 i) (fun _ _=>rfl) b.Ng
def yd (b:aw):List Int:=(b.Ng.flatten.filter fun x=>decide (0≤x.dst)).map fun x=>x.dst
def V (b:aw):List Int:=((List.range b.params.toNat).map fun(k:Nat)=>(k:Int))++yd b
theorem yF {α β γ:Type}{g:Nat→α→β}{h:β→List γ}{h':α→List γ}(e:∀i a,h (g i a)=h' a)(l:List α):(l.mapIdx g).flatMap h=l.flatMap h':=by
 rw[List.flatMap_def,List.flatMap_def];congr 1;apply List.ext_getElem?;intro i;rw[cL,jA,cL];cases l[i]? with
 |none=>rfl
 |some a=>simp only[Option.map_some,e]
theorem kW {α β γ:Type}{g:Nat→α→β}{h:β→γ}{h':α→γ}(e:∀i a,h (g i a)=h' a)(l:List α):(l.mapIdx g).map h=l.map h':=by
 apply List.ext_getElem?;intro i;rw[cL,jA,cL];cases l[i]? with
 |none=>rfl
 |some a=>simp only[Option.map_some,e]
theorem oQ (p:aH)(m:Int):∀l:List bz,(l.map fun x=>(jC p m x).dst).filter (fun s=>decide (s≠gR))=((l.filter fun x=>decide (0≤x.dst)).map fun x=>x.dst).map (aL 118)
 | []=>rfl
 |x::l=>by(
 rw[List.map_cons,List.filter_cons,List.filter_cons];by_cases h:0≤x.dst
 ·have e:(jC p m x).dst=aL 118 x.dst:=ap h
  rw[e,ap (bL (nS _ _)),ap (bL h),oQ p m l];rfl
 have e:(jC p m x).dst=gR:=ae h;rw[e,ae (by simp),ae (by simp;omega),oQ p m l])
theorem CO (p:aH)(m:Int)(i:Nat)(b:aw):sx (bU p m i b)=(yd b).map (aL 118):=by
 unfold sx;have:((bU p m i b).Ng.flatMap fun b=>b.code.map fun x=>x.dst)=b.Ng.flatten.map fun x=>(jC p m x).dst:=by show(b.Ng.mapIdx (eh p m)).flatMap (fun b=>b.code.map fun x=>x.dst)=_;rw[yF (h':=fun l=>l.map fun x=>(jC p m x).dst) fun _ _=>by simp[eh]];rw[List.flatMap_def,List.map_flatten]
 rw[this];exact oQ p m _
theorem ke (p:aH)(m:Int)(i:Nat)(b:aw):bh (bU p m i b)=(V b).map (aL 118):=by unfold bh V;rw[CO,ic,List.map_map];rfl
theorem uX {α:Type}{q:α→Bool}{l:List α}{k:Nat}{x:α}(h:l[k]? =some x)(j:q x=true):(l.filter q)[((l.take k).filter q).length]? =some x:=by
 obtain⟨o,rfl⟩:=lS.1 h;have e:l=l.take k++l[k]::l.drop (k+1):=by rw[←List.drop_eq_getElem_cons o,List.take_append_drop]
 have:l.filter q=(l.take k).filter q++l[k]::(l.drop (k+1)).filter q:=by
  conv=>lhs;rw[e]
  rw[mE,List.filter_cons,ap j]
 rw[this,kH (cf _),Nat.sub_self];rfl
def cz (x:bz):Bool:=match cw x.kind with|some (_,d,_,_)=>d|none=>false
theorem co (l:List bz):cj l=(l.filter cz).length:=rfl
theorem Fv {l:List bz}(h:∀x∈l,cz x=decide (0≤x.dst)):cj l=(l.filter fun x=>decide (0≤x.dst)).length:=by rw[co,List.filter_congr h]
theorem Jy {p:aH}{c:aE}{b:aw}{N:Nat}{x:bz}(h:zI p c b N x):cz x=decide (0≤x.dst):=by
 obtain⟨n,dst,ref,Ni,j,o,C,_⟩:=h;unfold cz;rw[j];cases dst with
 |true=>exact(bL (o rfl).1).symm
 |false=>have:=C rfl;exact(cI (by omega)).symm
theorem Mu {p:aH}{c:aE}{b:aw}{N:Nat}{x:bz}{next:Int}(o:b.vars=N)(h:zI p c b N x)(C:0≤x.dst→x.dst=next):aT p c b next x:=by
 obtain⟨n,dst,ref,Ni,j,I,J,r⟩:=h;refine⟨n,dst,ref,Ni,j,?_,by rw[o];exact r⟩;cases dst with
 |true=>rw[ap rfl];exact C (I rfl).1
 |false=>rw[ae oG];exact J rfl
theorem MB {p:aH}{c:aE}{b:aw}{N:Nat}{x:bz}{next:Int}(C:b.vars=N)(h:aT p c b next x)(J:0≤next)(I:cz x=true→next<N):zI p c b N x:=by
 obtain⟨n,dst,ref,Ni,j,o,r⟩:=h;refine⟨n,dst,ref,Ni,j,fun h=>?_,fun h=>?_,by rw[C] at r;exact r⟩
 ·rw[ap h] at o
  have:cz x=true:=by unfold cz;rw[j];exact h
  have:=I this;omega
 rw[h,ae oG] at o;exact o
theorem yV {l:List Int}(h:∀(k:Nat) x,l[k]? =some x→x=k):l=(List.range l.length).map fun(k:Nat)=>(k:Int):=by
 apply List.ext_getElem?;intro k;rw[cL];by_cases j:k<l.length;·rw[ln j,lG j,h k _ (lG j)];rfl
 rw[jz (by omega),jz (by simp;omega)];rfl
theorem th:∀i j,aV i→aV j→aL 118 i=aL 118 j→i=j:=fun _ _ o C h=>(pQ o C h).2
theorem vE:∀i j,aV i→aV j→aL 97 i=aL 97 j→i=j:=fun _ _ o C h=>(pQ o C h).2
theorem vG:∀i j,aV i→aV j→aL 98 i=aL 98 j→i=j:=fun _ _ o C h=>(pQ o C h).2
section
variable {p:aH} {c:aE}
theorem xU (J:c.Nd.length≤16)(R:c.Nf.length≤64)(C:∀b∈c.Nf,0≤b.params){i:Nat}{b:aw}(Y:b.Ng.length≤64){N:Nat}(hN:N≤1000000)
 (hV:V b=(List.range N).map fun(k:Nat)=>(k:Int)):If p c b (cP p c) (bU p c.main i b) N:=by
 refine⟨fun r o=>?_,fun r o=>?_,fun r o=>?_,fun r o=>?_,fun j I=>?_⟩;·rw[uE];exact lT (by omega) vE o
 ·rw[ni];exact lT (by omega) (fun _ _ h1 h2 h=>wO h1 h2 h) o
 ·rw[uH];exact lT (by omega) vG o
 ·rw[ke,hV,List.map_map];exact lT hN th o
 refine⟨bU p c.main j c.Nf[j],?_,?_⟩
 ·show(c.Nf.mapIdx (bU p c.main))[j]? =_
  rw[jA,lG I];rfl
 rw[iG,lG I,Option.getD_some];have:=C _ (eL I);simp only[bU,ce,List.length_range];omega
theorem xQ (i:Nat)(b:aw):(il p (cP p c) (bU p c.main i b)).Ng=b.Ng.map fun l=>l.map fun x=>pg p (cP p c) (bU p c.main i b) (jC p c.main x):=by show(b.Ng.mapIdx (eh p c.main)).map (fun k=>k.code.map (pg p (cP p c) (bU p c.main i b)))=_;exact kW (fun _ _=>by simp[eh]) _
theorem vR (i:Nat)(b:aw):((il p (cP p c) (bU p c.main i b)).Ng.map fun l=>l.map iE)=(b.Ng.map fun l=>l.map iE)↔∀l∈b.Ng,∀x∈l,iE (pg p (cP p c) (bU p c.main i b) (jC p c.main x))=iE x:=by
 rw[xQ,List.map_map,List.map_inj_left];refine⟨fun h l j x o=>?_,fun h l j=>?_⟩
 ·have:=h l j
  simp only[Function.comp,List.map_map] at this;exact List.map_inj_left.1 this x o
 simp only[Function.comp,List.map_map];exact List.map_inj_left.2 fun x o=>h l j x o
theorem sO (l:List bz)(k:Nat)(m:Int):((eh p m k l).code.map fun x=>x.kind)=l.map fun x=>x.kind:=by simp[eh,jC]
theorem Iw (L:kP)(hp:dD p)(b5:c.Nd.length≤16)(b6:c.Nf.length≤64)(I:∀b∈c.Nf,0≤b.params∧b.params≤6){i:Nat}{b:aw}(hb:c.Nf[i]? =some b)(hn:∀x∈b.Ng.flatten,iM x)(c6:b.Ng.flatten.length≤4096)
 (b0:lX p b) (b7:fT (bU p c.main i b)) (b1:pj p (cP p c) (bU p c.main i b)) (Y:((V b).length:Int)=b.vars)
 (hs:∀l∈b.Ng,∀x∈l,iE (pg p (cP p c) (bU p c.main i b) (jC p c.main x))=iE x):qi p c b:=by
 have a7:b∈c.Nf:=mG hb;obtain⟨f1,f2,f3,f4,f5,f6⟩:=b7;obtain⟨r1,r2,r3⟩:=b1;have b8:(bU p c.main i b).Ng.length=b.Ng.length:=by simp[bU]
 rw[b8] at f4 f5;rw[ke] at r1;have c7:∀d∈V b,aV d:=by(
 intro d j;rcases eD.1 j with j|j
 ·obtain⟨k,J,rfl⟩:=dr.1 j
  have:=fg.1 J;have:=I b a7;unfold aV;omega
 obtain⟨x,o,rfl⟩:=dr.1 j;exact(hn x (List.mem_filter.1 o).1).dst)
 have b2:∀(k:Nat) d,(V b)[k]? =some d→d=k:=by(
 intro k d j;by_cases J:k<b.params.toNat
 ·unfold V at j
  rw[ma (by simpa using J),cL,ln J] at j;exact(kJ j).symm
 have b9:d∈yd b:=by unfold V at j;rw[kH (by simpa using J)] at j;exact mG j
 obtain⟨x,o,rfl⟩:=dr.1 b9;obtain⟨c0,c1⟩:=List.mem_filter.1 o;obtain⟨l,R,a8⟩:=List.mem_flatten.1 c0;have c2:=hs l R x a8;have c3:0≤x.dst:=of_decide_eq_true c1;have h1:(if(jC p c.main x).dst=gR then(-1:Int) else aO (bh (bU p c.main i b)) (jC p c.main x).dst)=x.dst:=congrArg bz.dst c2;have e:(jC p c.main x).dst=aL 118 x.dst:=ap c3;rw[e,ae (nS _ _),ke,vL (k:=k) (by rw[cL,j];rfl) r1] at h1;exact h1.symm)
 have hV:=yV b2;have c4:(V b).length≤1000000:=by have h1:=I b a7;have h2:(b.Ng.flatten.filter fun x=>decide (0≤x.dst)).length≤b.Ng.flatten.length:=List.length_filter_le _ _;unfold V yd;rw[iQ,ce,ce,List.length_range];omega
 have C:If p c b (cP p c) (bU p c.main i b) (V b).length:=xU b5 b6 (fun b hb=>(I b hb).1) (by omega) c4 hV;have a1:∀l∈b.Ng,∃k,eh p c.main k l∈(bU p c.main i b).Ng:=by intro l R;obtain⟨k,J⟩:=cY.1 R;refine⟨k,cY.2 ⟨k,?_⟩⟩;show(b.Ng.mapIdx (eh p c.main))[k]? =_;rw[jA,J];rfl
 have c5:∀l∈b.Ng,∀x∈l,zI p c b (V b).length x:=by intro l R x o;obtain⟨k,J⟩:=a1 l R;have b3:jC p c.main x∈(eh p c.main k l).code:=dr.2 ⟨x,o,rfl⟩;exact Gs L hp C (hn x (List.mem_flatten.2 ⟨l,R,o⟩)) ⟨b0.2.2 l R x o,(f6 _ J).2 _ b3,(r3 _ J).2 _ b3,hs l R x o⟩
 have b4:∀x∈b.Ng.flatten,zI p c b (V b).length x:=by intro x o;obtain⟨l,R,a8⟩:=List.mem_flatten.1 o;exact c5 l R x a8
 have h0:=I b a7;have a6:∀k,cj (b.Ng.flatten.take k)=((b.Ng.flatten.take k).filter fun x=>decide (0≤x.dst)).length:=fun k=>Fv fun x o=>Jy (b4 x (List.mem_of_mem_take o));refine⟨h0.1,h0.2,f4,f5,fun l R=>?_,fun k x o=>?_,?_⟩
 ·obtain⟨k,J⟩:=a1 l R
  have:=(r3 _ J).1;rwa [sO] at this
 ·refine Mu Y.symm (b4 x (mG o)) fun j=>?_;have h1:=uX (q:=fun x:bz=>decide (0≤x.dst)) o (bL j);have h2:(V b)[b.params.toNat+((b.Ng.flatten.take k).filter fun x=>decide (0≤x.dst)).length]? =some x.dst:=by unfold V yd;rw[kH (by simp),ce,List.length_range,Nat.add_sub_cancel_left,cL,h1];rfl
  have:=b2 _ _ h2;rw[this,a6 k];omega
 have h1:=a6 b.Ng.flatten.length;rw[dZ] at h1;rw[h1,←Y];unfold V yd;rw[iQ,ce,ce,List.length_range];omega
theorem uT {R:Int}(h0:0≤R):∀(l:List bz),(∀(k:Nat) x,l[k]? =some x→x.dst=if cz x=true then R+cj (l.take k) else-1)→
 ((l.filter fun x=>decide (0≤x.dst)).map fun x=>x.dst)=(List.range (cj l)).map fun(j:Nat)=>R+(j:Int):=by
 intro l;induction Y:l.length generalizing l with
 |zero=>intro _;rw[List.length_eq_zero_iff.1 Y];rfl
 |succ n ih=>
  intro h;have o:l≠[]:=by rintro rfl;simp at Y
  obtain⟨C,x,rfl⟩:∃C x,l=C++[x]:=⟨l.dropLast,l.getLast o,(List.dropLast_concat_getLast o).symm⟩;have a1:C.length=n:=by simpa using Y
  have a6:=ih C a1 fun k y hy=>by have hk:=(lS.1 hy).1;have:=h k y (by rw[ma hk];exact hy);rwa [List.take_append_of_le_length (by omega)] at this
  have I:=h C.length x (by rw[kH (cf _),Nat.sub_self];rfl);rw[List.take_left] at I;rw[mE,ic,a6,co,co,mE,iQ];by_cases J:cz x=true
  ·rw[ap J] at I;have hd:0≤x.dst:=by omega
   rw[List.filter_cons,ap (bL hd),List.filter_cons,ap J];simp only[List.filter_nil,List.map_cons,List.map_nil,kI,List.length_nil,cN];rw[List.range_succ,ic,I];rfl
  rw[ae J] at I;rw[List.filter_cons,ae (by simp;omega),List.filter_cons,ae J];simp
theorem Jz (L:kP)(hp:dD p)(b3:c.Nd.length≤16)(b4:c.Nf.length≤64)(a7:∀b∈c.Nf,0≤b.params∧b.params≤6){i:Nat}{b:aw}(hb:c.Nf[i]? =some b)(hn:∀x∈b.Ng.flatten,iM x)(b8:b.Ng.flatten.length≤4096)
 (h:qi p c b):lX p b∧fT (bU p c.main i b)∧pj p (cP p c) (bU p c.main i b)∧((V b).length:Int)=b.vars∧
 ∀l∈b.Ng,∀x∈l,iE (pg p (cP p c) (bU p c.main i b) (jC p c.main x))=iE x:=by
 have b9:b∈c.Nf:=mG hb;have hi:i<c.Nf.length:=(lS.1 hb).1;obtain⟨g1,g2,g3,g4,g5,g6,g7⟩:=h;have b0:∀(k:Nat) x,b.Ng.flatten[k]? =some x→x.dst=if cz x=true then b.params+cj (b.Ng.flatten.take k) else-1:=by
  intro k x I;obtain⟨n,dst,ref,Ni,b5,h1,_⟩:=g6 k x I;have:cz x=dst:=by unfold cz;rw[b5]
  rw[this];exact h1
 have b1:=uT g1 _ b0;have b2:(V b).length=b.params.toNat+cj b.Ng.flatten:=by unfold V yd;rw[b1,iQ,ce,ce,List.length_range,List.length_range]
 have b6:∀(k:Nat) d,(V b)[k]? =some d→d=k:=by(
 intro k d hd;unfold V yd at hd;rw[b1] at hd;by_cases J:k<b.params.toNat
 ·rw[ma (by simpa using J),cL,ln J] at hd
  exact(kJ hd).symm
 rw[kH (by simpa using J),cL,ce,List.length_range] at hd;by_cases b7:k-b.params.toNat<cj b.Ng.flatten
 ·rw[ln b7] at hd
  have:d=b.params+((k-b.params.toNat:Nat):Int):=(kJ hd).symm;omega
 rw[jz (by simp;omega)] at hd;cases hd)
 have hV:=yV b6;have c0:cj b.Ng.flatten≤b.Ng.flatten.length:=List.length_filter_le _ _;have C:If p c b (cP p c) (bU p c.main i b) (V b).length:=xU b3 b4 (fun b hb=>(a7 b hb).1) (by omega) (by omega) hV;have R:((V b).length:Int)=b.vars:=by rw[b2,g7];omega
 have a1:∀x∈b.Ng.flatten,EO p c (cP p c) (bU p c.main i b) x:=by intro x I;obtain⟨k,J⟩:=cY.1 I;refine Gp L hp C (fun b hb=>(a7 b hb).2) (hn x I) (MB R.symm (g6 k x J) (by omega) fun hf=>?_);have h1:=uX (q:=cz) J hf;have h2:=(lS.1 h1).1;rw[b2,co,co];omega
 have a8:∀k∈(bU p c.main i b).Ng,∃j,∃l∈b.Ng,j<b.Ng.length∧k=eh p c.main j l:=by(
 intro k J;obtain⟨j,hj⟩:=cY.1 J;have Y:(b.Ng.mapIdx (eh p c.main))[j]? =some k:=hj;rw[jA] at Y;cases o:b.Ng[j]? with
 |none=>rw[o] at Y;cases Y
 |some l=>rw[o] at Y;exact⟨j,l,mG o,(lS.1 o).1,(kJ Y).symm⟩)
 have a6:∀l∈b.Ng,∀x∈l,x∈b.Ng.flatten:=fun l o x I=>List.mem_flatten.2 ⟨l,o,I⟩;refine⟨⟨g1,g2,fun l o x I=>(a1 x (a6 l o x I)).1⟩,⟨?_,?_,?_,?_,?_,?_⟩,⟨?_,?_,?_⟩,R,fun l o x I=>(a1 x (a6 l o x I)).2.2.2⟩
 ·show aB (qY c.main i)=true
  exact(ym L (by unfold aV;omega)).2 (.inr (by omega))
 ·intro a ha;obtain⟨k,J,rfl⟩:=dr.1 ha;have:=fg.1 J;rw[L.num _ _ (.inr (.inr (.inr rfl))) (by unfold aV;omega)];exact bL (by omega)
 ·simp only[bU,ce,List.length_range];omega
 ·simpa [bU] using g3
 ·simpa [bU] using g4
 ·intro k J;obtain⟨j,l,o,hj,rfl⟩:=a8 k J;refine⟨?_,fun x I=>?_⟩
  ·show aB (aL 98 j)=true
   rw[L.num _ _ (.inr (.inl rfl)) (by unfold aV;omega)];exact bL (by omega)
  obtain⟨y,hy,rfl⟩:=dr.1 I;exact(a1 y (a6 l o y hy)).2.1
 ·rw[ke,hV,List.map_map]
  exact kY (g:=aL 118) (by omega) th
 ·rw[uH]
  exact kY (g:=aL 98) (by omega) vG
 intro k J;obtain⟨j,l,o,hj,rfl⟩:=a8 k J;refine⟨by rw[sO];exact g5 l o,fun x I=>?_⟩;obtain⟨y,hy,rfl⟩:=dr.1 I;exact(a1 y (a6 l o y hy)).2.2.1
theorem Gd (i:Nat)(b:aw):gl (bU p c.main i b)=ft b:=by unfold gl ft;show((b.Ng.mapIdx (eh p c.main)).map fun k=>k.code.length).sum=_;rw[kW (h':=fun l=>l.length) fun _ _=>by simp[eh]];exact List.length_flatten.symm
theorem zv:((cP p c).Nf.map gl).sum=(c.Nf.map ft).sum:=by show((c.Nf.mapIdx (bU p c.main)).map gl).sum=_;rw[kW (h':=ft) fun i b=>Gd i b]
theorem Cg {l:List Nat}{x:Nat}(h:x∈l):x≤l.sum:=by
 induction l with
 |nil=>simp at h
 |cons y l j=>
  rw[List.sum_cons];rcases fX.1 h with rfl|h;·omega
  have:=j h;omega
theorem Dr (L:kP)(hN:rK c):eM p c↔bJ p c:=by
 have a6:∀i b,c.Nf[i]? =some b→bU p c.main i b∈(cP p c).Nf:=by intro i b j;refine cY.2 ⟨i,?_⟩;show(c.Nf.mapIdx (bU p c.main))[i]? =_;rw[jA,j];rfl
 have I:∀f∈(cP p c).Nf,∃i b,c.Nf[i]? =some b∧f=bU p c.main i b:=by(
 intro f R;obtain⟨i,hi⟩:=cY.1 R;have o:(c.Nf.mapIdx (bU p c.main))[i]? =some f:=hi;rw[jA] at o;cases j:c.Nf[i]? with
 |none=>rw[j] at o;cases o
 |some b=>rw[j] at o;exact⟨i,b,j,(kJ o).symm⟩)
 have c0:∀i a,c.Nd[i]? =some a→sa p i a∈(cP p c).Nd:=by intro i a ha;refine cY.2 ⟨i,?_⟩;show(c.Nd.mapIdx (sa p))[i]? =_;rw[jA,ha];rfl
 have a7:∀f∈(cP p c).Nd,∃i a,c.Nd[i]? =some a∧f=sa p i a:=by(
 intro f R;obtain⟨i,hi⟩:=cY.1 R;have o:(c.Nd.mapIdx (sa p))[i]? =some f:=hi;rw[jA] at o;cases j:c.Nd[i]? with
 |none=>rw[j] at o;cases o
 |some b=>rw[j] at o;exact⟨i,b,j,(kJ o).symm⟩)
 have b1:((qV p (cP p c)).Nf.map fun f=>(f.params,f.vars,f.Ng.map fun l=>l.map iE))=(c.Nf.map fun f=>(f.params,f.vars,f.Ng.map fun l=>l.map iE))↔
  ∀i b,c.Nf[i]? =some b→(((il p (cP p c) (bU p c.main i b)).params,(il p (cP p c) (bU p c.main i b)).vars,(il p (cP p c) (bU p c.main i b)).Ng.map fun l=>l.map iE)=(b.params,b.vars,b.Ng.map fun l=>l.map iE)):=by
  show((((c.Nf.mapIdx (bU p c.main)).map (il p (cP p c))).map fun f=>(f.params,f.vars,f.Ng.map fun l=>l.map iE))=_)↔_;constructor;·intro h i b j;have:=congrArg (fun l=>l[i]?) h;simp only[cL,jA,j,Option.map_some] at this;exact kJ this
  intro h;apply List.ext_getElem?;intro i;simp only[cL,jA];cases j:c.Nf[i]? with
  |none=>rfl
  |some b=>simp only[Option.map_some];exact congrArg some (h i b j)
 have b3:∀i b,0≤b.params→(il p (cP p c) (bU p c.main i b)).params=b.params:=by intro i b h0;simp only[il,bU,ce,List.length_range];omega
 constructor;·(
 rintro⟨hp,Y,a1,⟨c1,b4⟩,⟨o1,o2,o3,o4,o5⟩,⟨r1,r2,r3,r4,r5,r6⟩,s1,s2,s3⟩;rw[zv] at o5;have C:∀b∈c.Nf,0≤b.params∧b.params≤6:=fun b j=>⟨(b4 b j).1,(b4 b j).2.1⟩;have b5:∃i:Nat,(i:Int)=c.main∧i<c.Nf.length:=by(
 rw[ni] at r4;obtain⟨i,hi,e⟩:=dr.1 r4;refine⟨i,?_,fg.1 hi⟩;unfold qY at e;by_cases h:(i:Int)=c.main;·exact h
 rw[ae h] at e;exact absurd e (kZ (.inr (.inr (.inl rfl))) _))
 obtain⟨m,hm,a8⟩:=b5;refine⟨hp,a1,Y,by omega,by omega,?_,fun a ha=>?_,fun b j=>?_,o5⟩
 ·have j:=lG a8;have e:c.main.toNat=m:=by omega
  rw[iG,e,j,Option.getD_some];have:=r5 _ (a6 m _ j) (ap hm);have h0:=C _ (eL a8);have hl:=congrArg List.length this;simp only[bU,ce,List.length_range,List.length_nil] at hl;omega
 ·obtain⟨i,hi⟩:=cY.1 ha
  have J:=o3 _ (c0 i a hi);have h2:=c1 a ha;exact⟨J.2.2.1,J.2.2.2,h2⟩
 obtain⟨i,hi⟩:=cY.1 j;have c2:=b1.1 s3 i b hi;injection c2 with e1 e2;injection e2 with e2 e3;have c3:((V b).length:Int)=b.vars:=by rw[←e2];show _=((bh (bU p c.main i b)).length:Int);rw[ke,ce]
 have b6:b.Ng.flatten.length≤4096:=fR (Cg (dr.2 ⟨b,j,rfl⟩)) o5;exact Iw L hp a1 Y C hi (hN.ops b j) b6 (b4 b j) (o4 _ (a6 i b hi)) (r6 _ (a6 i b hi)) c3 ((vR i b).1 e3))
 rintro⟨hp,a1,Y,m0,m1,m2,hA,hB,b2⟩;have C:∀b∈c.Nf,0≤b.params∧b.params≤6:=fun b j=>⟨(hB b j).1,(hB b j).2.1⟩
 have b0:∀i b,c.Nf[i]? =some b→lX p b∧fT (bU p c.main i b)∧pj p (cP p c) (bU p c.main i b)∧((V b).length:Int)=b.vars∧
  ∀l∈b.Ng,∀x∈l,iE (pg p (cP p c) (bU p c.main i b) (jC p c.main x))=iE x:=by
  intro i b hi;have j:b∈c.Nf:=mG hi;have b6:b.Ng.flatten.length≤4096:=fR (Cg (dr.2 ⟨b,j,rfl⟩)) b2;exact Jz L hp a1 Y C hi (hN.ops b j) b6 (hB b j)
 have a8:c.main.toNat<c.Nf.length:=by omega
 have c4:((c.main.toNat:Nat):Int)=c.main:=by omega
 have hI:∀n:Nat,n≤1000→aV (n:Int):=fun n h=>by unfold aV;omega
 refine⟨hp,Y,a1,⟨fun a ha=>(hA a ha).2.2,fun b j=>?_⟩,⟨?_,?_,?_,?_,?_⟩,⟨?_,?_,?_,?_,?_,?_⟩,?_,?_,?_⟩
 ·obtain⟨i,hi⟩:=cY.1 j
  exact(b0 i b hi).1
 ·simpa [cP] using a1
 ·simpa [cP] using Y
 ·intro f R;obtain⟨i,a,hi,rfl⟩:=a7 f R;have J:=hA a (mG hi);have b7:=(lS.1 hi).1;refine⟨?_,(rD hp J.2.2.1 J.2.2.2).2,J.1,J.2.1⟩;show aB (aL 97 i)=true;rw[L.num _ _ (.inl rfl) (hI i (by omega))];exact bL (by omega)
 ·intro f R
  obtain⟨i,b,hi,rfl⟩:=I f R;exact(b0 i b hi).2.1
 ·rw[zv];exact b2
 ·rw[uE];exact kY (g:=aL 97) (by omega) vE
 ·intro f R;obtain⟨i,a,hi,rfl⟩:=a7 f R;have J:=hA a (mG hi);show p.MZ.getD a.2.toNat gR∈p.MZ;have b7:a.2.toNat<p.MZ.length:=by omega
  rw[iG,lG b7,Option.getD_some];exact eL b7
 ·rw[ni];exact kY (g:=qY c.main) (by omega) fun _ _ J h2 h=>wO J h2 h
 ·rw[ni]
  exact dr.2 ⟨c.main.toNat,fg.2 a8,ap c4⟩
 ·intro f R b8;obtain⟨i,b,hi,rfl⟩:=I f R;have b9:qY c.main i=fO:=b8;have c5:(i:Int)=c.main:=by
   unfold qY at b9;by_cases h:(i:Int)=c.main;·exact h
   rw[ae h] at b9;exact absurd b9 (kZ (.inr (.inr (.inl rfl))) _)
  have e:c.main.toNat=i:=by omega
  rw[iG,e,hi,Option.getD_some] at m2;simp[bU,m2]
 ·intro f R
  obtain⟨i,b,hi,rfl⟩:=I f R;exact(b0 i b hi).2.2.1
 ·show aO (fh (cP p c)) fO=c.main
  have:fO=qY c.main c.main:=(ap rfl).symm;rw[ni,this,lT (g:=qY c.main) (by omega) (fun _ _ J h2 h=>wO J h2 h) hN.main];exact ix.2 (.inl ⟨m0,m1⟩)
 ·show((c.Nd.mapIdx (sa p)).map fun a=>(a.size,eZ p a.level))=c.Nd;rw[kW (h':=fun a=>(a.1,eZ p (p.MZ.getD a.2.toNat gR))) fun _ _=>rfl];conv=>rhs;rw[←List.map_id c.Nd]
  refine List.map_congr_left fun a ha=>?_;have J:=hA a ha;rw[(rD hp J.2.2.1 J.2.2.2).1];rfl
 refine b1.2 fun i b hi=>?_;have j:=mG hi;obtain⟨_,_,_,h4,h5⟩:=b0 i b hi;rw[b3 i b (C b j).1,(vR i b).2 h5];have hv:(il p (cP p c) (bU p c.main i b)).vars=b.vars:=by rw[←h4];show((bh (bU p c.main i b)).length:Int)=_;rw[ke,ce]
 rw[hv]
end
end
section
inductive ig (t:Nat→Int):Nat→Nat→Prop
 |refl (j:Nat):ig t j j
 |up {j p x:Nat}:t j=(p:Int)→ig t p x→ig t j x
def my (t:Nat→Int)(j:Nat):Prop:=j=0∨0≤t j
structure zJ (E:Nat→Nat→Prop)(n:Nat)(pl:Nat→Nat):Prop where
 pos:0<n
 zero:pl 0=0
 inj:∀a b,a<n→b<n→pl a=pl b→a=b
 lt:∀a,a<n→pl a<n
 edge:∀a b,E a b→a<n∧b<n
 fwd:∀k,k<n→k≠0→∃p,E p k∧pl p<pl k
structure fU (n:Nat)(pl:Nat→Nat)(t:Nat→Int):Prop where
 zero:t 0= -1
 low:∀j,j<n→0≤t j→∃p:Nat,t j=p∧p<n∧pl p<pl j∧my t p
 neg:∀j,j<n→-1≤t j
inductive Ez (E:Nat→Nat→Prop) (pl:Nat→Nat) (x:Nat):Nat→Prop
 |zero:x≠0→Ez E pl x 0
 |step {a b:Nat}:Ez E pl x a→E a b→pl a<pl b→b≠x→Ez E pl x b
inductive gA (E:Nat→Nat→Prop) (x:Nat):Nat→Prop
 |zero:x≠0→gA E x 0
 |step {a b:Nat}:gA E x a→E a b→b≠x→gA E x b
inductive Kz (E:Nat→Nat→Prop) (pl:Nat→Nat) (z:Nat):Nat→Prop
 |refl:Kz E pl z z
 |step {a b:Nat}:Kz E pl z a→E a b→pl a<pl b→Kz E pl z b
theorem Kz.le {E:Nat→Nat→Prop}{pl:Nat→Nat}{z j:Nat}(h:Kz E pl z j):pl z≤pl j∧(z=j∨pl z<pl j):=by
 induction h with
 |refl=>exact⟨cf _,.inl rfl⟩
 |step _ _ o C=>omega
section
variable {E:Nat→Nat→Prop} {n:Nat} {pl:Nat→Nat} (O:zJ E n pl)
include O
theorem Mn (z:Nat):∀(m j:Nat),pl j≤m→j<n→Ez E pl z j∨Kz E pl z j:=by
 intro m;induction m with
 |zero=>
  intro j hm I;have:j=0:=O.inj j 0 I O.pos (by have:=O.zero;omega);subst this;by_cases o:z=0;·subst o;exact .inr .refl
  exact .inl (.zero o)
 |succ m R=>
  intro j hm I;by_cases J:j=0
  ·subst J;by_cases o:z=0;·subst o;exact .inr .refl
   exact .inl (.zero o)
  obtain⟨p,he,C⟩:=O.fwd j I J;rcases R p (by omega) (O.edge _ _ he).1 with h|h
  ·by_cases o:j=z;·subst o;exact .inr .refl
   exact .inl (.step h he C o)
  exact .inr (.step h he C)
theorem BQ {z j:Nat}(o:j<n)(h:¬Ez E pl z j):Kz E pl z j:=(Mn O z _ j (cf _) o).resolve_left h
theorem wM {z j:Nat}(o:j<n)(h:¬Ez E pl z j):z=j∨pl z<pl j:=(BQ O o h).le.2
omit O in
theorem Jb {x j:Nat}(h:Ez E pl x j):gA E x j:=by
 induction h with
 |zero h=>exact .zero h
 |step _ e _ o C=>exact .step C e o
theorem ID {x z j:Nat}(C:j<n)(h:¬gA E x j)(I:¬Ez E pl z j)(J:pl x<pl z):¬gA E x z:=by
 intro R;apply h;have Y:=BQ O C I;clear h I C;induction Y with
 |refl=>exact R
 |step o e hl ih=>have:=o.le.1;refine .step ih e fun hx=>?_;subst hx;omega
theorem zW {x j:Nat}(o:j<n)(h:¬gA E x j):x=j∨pl x<pl j:=wM O o fun h'=>h (Jb h')
end
section
variable {n:Nat} {pl:Nat→Nat} {t:Nat→Int}
theorem oL (G:fU n pl t){j x:Nat}(I:j<n)(h:ig t j x):x<n∧(x=j∨pl x<pl j):=by
 induction h with
 |refl=>exact⟨I,.inl rfl⟩
 |up e _ J=>
  obtain⟨p,o,R,C,_⟩:=G.low _ I (by omega);rw[e] at o;have o:=Int.ofNat.inj o;subst o;have:=J R;refine⟨this.1,.inr ?_⟩;rcases this.2 with h|h;·rw[h];exact C
  omega
theorem zQ (G:fU n pl t){j x:Nat}(o:j<n)(h:ig t j x):pl x≤pl j:=by
 rcases (oL G o h).2 with h|h;·rw[h];exact cf _
 omega
theorem BL (G:fU n pl t){j x:Nat}(I:j<n)(C:my t j)(h:ig t j x):my t x:=by
 induction h with
 |refl=>exact C
 |up e _ J=>obtain⟨p,o,C,R,Y⟩:=G.low _ I (by omega);rw[e] at o;have o:=Int.ofNat.inj o;subst o;exact J C Y
theorem oM (_:fU n pl t){j x p:Nat}(_:j<n)(e:t j=(p:Int))(h:ig t j x):x=j∨ig t p x:=by
 cases h with
 |refl=>exact .inl rfl
 |up o h'=>rw[e] at o;have o:=Int.ofNat.inj o;subst o;exact .inr h'
theorem eY {s u:Nat→Int}{m:Nat}(G:fU n pl u)(R:∀j,pl j<m→s j=u j){z:Nat}(Y:z<n)(hm:pl z<m)(x:Nat):ig s z x↔ig u z x:=by
 constructor
 ·intro h;induction h with
  |refl=>exact .refl _
  |up e _ C=>rw[R _ hm] at e;obtain⟨p,o,I,J,hq⟩:=G.low _ Y (by omega);rw[e] at o;have o:=Int.ofNat.inj o;subst o;exact .up e (C I (by omega))
 intro h;induction h with
 |refl=>exact .refl _
 |up e _ C=>obtain⟨p,o,I,J,hq⟩:=G.low _ Y (by omega);rw[e] at o;have o:=Int.ofNat.inj o;subst o;rw[←R _ hm] at e;exact .up e (C I (by omega))
theorem vz (G:fU n pl t){a b:Nat}(R:a<n)(Y:b<n)(C:my t a)(a1:pl b<pl a)(h0:pl 0=0):∃p:Nat,t a=p∧p<n∧my t p∧pl p<pl a∧∀x,(ig t a x∧ig t b x)↔(ig t p x∧ig t b x):=by
 have I:0≤t a:=by
  rcases C with rfl|h;·omega
  exact h
 obtain⟨p,e,hp,j,hq⟩:=G.low a R I;refine⟨p,e,hp,hq,j,fun x=>⟨fun⟨J,o⟩=>⟨?_,o⟩,fun⟨J,o⟩=>⟨.up e J,o⟩⟩⟩;rcases oM G R e J with rfl|h;·have:=zQ G Y o;omega
 exact h
end
def ml (pl:Nat→Nat)(m:Nat)(u t:Nat→Int):Nat→Int:=fun j=>if pl j<m then u j else t j
def Io (E:Nat→Nat→Prop)(s:Nat→Int)(k:Nat)(v:Int):Prop:=∃c:Nat,v=c∧∀x,ig s c x↔∀p,E p k→my s p→ig s p x
structure gQ (E:Nat→Nat→Prop)(n:Nat)(pl:Nat→Nat)(t u:Nat→Int)(m:Nat):Prop where
 old:∀j,m≤pl j→u j=t j
 near:∀k,k<n→k≠0→pl k<m→Io E (ml pl (pl k) u t) k (u k)
structure Cu (E:Nat→Nat→Prop)(n:Nat)(pl:Nat→Nat)(t:Nat→Int):Prop where
 good:fU n pl t
 up:∀j,j<n→my t j→∀x,ig t j x→¬Ez E pl x j
 hi:∀j,j<n→my t j→∀y x,¬Ez E pl y j→ig t j x→pl x<pl y→ig t y x
 lo:∀j,j<n→my t j→∀x,¬gA E x j→ig t j x
def EM (n:Nat)(t u:Nat→Int):Prop:=∀j,j<n→my t j→∀x,ig u j x→ig t j x
section
variable {E:Nat→Nat→Prop} {n:Nat} {pl:Nat→Nat} (O:zJ E n pl)
include O
omit O in
theorem mn {u t:Nat→Int}{m j:Nat}(h:pl j<m):ml pl m u t j=u j:=ap h
omit O in
theorem ky {u t:Nat→Int}{m j:Nat}(h:m≤pl j):ml pl m u t j=t j:=ae (by omega)
omit O in
theorem Gh {t u:Nat→Int}{m:Nat}(h:gQ E n pl t u m):ml pl m u t=u:=by
 funext j;by_cases o:pl j<m;·exact mn o
 rw[ky (by omega),h.old j (by omega)]
theorem DF {t u:Nat→Int}{k:Nat}{v:Int}(h:gQ E n pl t u (pl k))(J:k<n)(R:Io E u k v):gQ E n pl t (fun j=>if j=k then v else u j) (pl k+1):=by
 refine⟨fun j C=>?_,fun k' I Y a1=>?_⟩
 ·have o:j≠k:=fun e=>by subst e;omega
  simp only[ae o];exact h.old j (by omega)
 have hm:ml pl (pl k') (fun j=>if j=k then v else u j) t=ml pl (pl k') u t:=by(
 funext j;unfold ml;by_cases C:pl j<pl k'
 ·rw[ap C,ap C]
  have o:j≠k:=fun e=>by subst e;omega
  exact ae o
 rw[ae C,ae C])
 rw[hm];by_cases e:k'=k
 ·subst e
  rw[Gh h,ap rfl];exact R
 rw[ae e];refine h.near k' I Y ?_;have:pl k'≠pl k:=fun e'=>e (O.inj _ _ I J e');omega
omit O in
theorem GA (t:Nat→Int)(m:Nat)(h:∀k,k<n→k≠0→m≤pl k):gQ E n pl t t m:=⟨fun _ _=>rfl,fun k j o C=>by have:=h k j o;omega⟩
theorem Db {u:Nat→Int}{k:Nat}{v:Int}(G:fU n pl u)(hk:k<n)(h0:k≠0)(hf:∃p,E p k∧pl p<pl k∧my u p)(hv:Io E u k v):fU n pl (fun j=>if j=k then v else u j)∧∃c:Nat,v=c∧c<n∧pl c<pl k:=by
 obtain⟨c,rfl,hc⟩:=hv;obtain⟨p,he,a1,hp⟩:=hf;have C:=(O.edge _ _ he).1;have I:=(hc c).1 (.refl _) p he hp;have J:=oL G C I;have a6:=zQ G C I;have Y:=BL G C hp I;have o:∀j,my u j→my (fun j=>if j=k then(c:Int) else u j) j:=by(
 intro j R;by_cases e:j=k;·exact .inr (by simp only[ap e];omega)
 rcases R with h|h;·exact .inl h
 exact .inr (by simp only[ae e];exact h))
 refine⟨⟨?_,fun j R h=>?_,fun j R=>?_⟩,c,rfl,J.1,by omega⟩;·simp only[ae h0.symm];exact G.zero
 ·by_cases e:j=k
  ·subst e
   refine⟨c,ap rfl,J.1,by omega,o c Y⟩
  simp only[ae e] at h⊢;obtain⟨q,e1,e2,e3,e4⟩:=G.low j R h;exact⟨q,e1,e2,e3,o q e4⟩
 by_cases e:j=k;·simp only[ap e];omega
 simp only[ae e];exact G.neg j R
omit O in
theorem js {t u:Nat→Int}{m:Nat}(h:gQ E n pl t u m):∀j,j<n→pl j<m→my u j:=by
 intro j C hm;by_cases o:j=0;·exact .inl o
 obtain⟨c,e,_⟩:=h.near j C o hm;exact .inr (by rw[e];omega)
theorem yP {t u:Nat→Int}(G:fU n pl u)(h:gQ E n pl t u n){k p x:Nat}(I:k<n)(h0:k≠0)(he:E p k)(C:pl p<pl k)(R:ig u k x):x=k∨ig u p x:=by
 obtain⟨c,e,hc⟩:=h.near k I h0 (O.lt k I);rcases oM G I e R with rfl|R;·exact .inl rfl
 right;have o:=(O.edge _ _ he).1;obtain⟨c',J,Y,a1,_⟩:=G.low k I (by omega);rw[e] at J;have J:=Int.ofNat.inj J;subst J;have hs:∀j,pl j<pl k→ml pl (pl k) u t j=u j:=fun j hj=>mn hj;have h1:=(eY G hs Y a1 x).2 R;have hp:my (ml pl (pl k) u t) p:=by
  rcases js h p o (O.lt p o) with h|h;·exact .inl h
  exact .inr (by rw[mn C];exact h)
 exact(eY G hs o C x).1 ((hc x).1 h1 p he hp)
theorem qu {s t:Nat→Int}{k:Nat}(G:fU n pl t)(h0:0<pl k)(hs:∀j,pl k≤pl j→s j=t j):∀(m p:Nat),pl p≤m→p<n→my t p→pl k≤pl p→
 ∃z,z<n∧ig t p z∧pl z<pl k∧(∀x,pl x<pl k→(ig s p x↔ig s z x))∧∀x,pl x<pl k→(ig t p x↔ig t z x):=by
 intro m;induction m with
 |zero=>intro p hm J hq R;omega
 |succ m ih=>
  intro p hm J hq R;have Y:0≤t p:=by(
 rcases hq with rfl|h;·have:=O.zero;omega
 exact h)
  obtain⟨q,e,C,a7,a1⟩:=G.low p J Y;have e1:∀x,pl x<pl k→(ig s p x↔ig s q x):=by(
 intro x o;constructor
 ·intro h
  cases h with
  |refl=>omega
  |up I h'=>rw[hs p R,e] at I;have I:=Int.ofNat.inj I;subst I;exact h'
 intro h;exact .up (by rw[hs p R];exact e) h)
  have e2:∀x,pl x<pl k→(ig t p x↔ig t q x):=by(
 intro x o;constructor
 ·intro h
  rcases oM G J e h with rfl|h;·omega
  exact h
 intro h;exact .up e h)
  by_cases a6:pl q<pl k;·exact⟨q,C,.up e (.refl _),a6,e1,e2⟩
  obtain⟨z,z1,z2,z3,z4,z5⟩:=ih q (by omega) C a1 (by omega);exact⟨z,z1,.up e z2,z3,fun x o=>(e1 x o).trans (z4 x o),fun x o=>(e2 x o).trans (z5 x o)⟩
theorem Mr {t:Nat→Int}(C:∀j,j<n→t j= -1):Cu E n pl t:=by
 have J:∀j,j<n→my t j→j=0:=by
  intro j o h;rcases h with h|h;·exact h
  rw[C j o] at h;omega
 have hc:∀x,ig t 0 x→x=0:=by
  intro x h;cases h with
  |refl=>rfl
  |up e _=>rw[C 0 O.pos] at e;omega
 refine⟨⟨C 0 O.pos,fun j o h=>(by rw[C j o] at h;omega),fun j o=>(by rw[C j o];omega)⟩,fun j o h x I=>?_,fun j o h y x _ I R=>?_,fun j o h x I=>?_⟩
 ·have:=J j o h;subst this;rw[hc x I];intro h;cases h with
  |zero h=>exact h rfl
  |step _ _ _ h=>exact h rfl
 ·have:=J j o h;subst this;by_cases Y:y=0;·rw[Y,O.zero] at R;omega
  rename_i hf;exact absurd (.zero Y) hf
 have:=J j o h;subst this;by_cases e:x=0;·subst e;exact .refl _
 exact absurd (.zero e) I
theorem GB {t u:Nat→Int}(L:Cu E n pl t)(G:fU n pl u)(h:gQ E n pl t u n):Cu E n pl u:=by
 have hU:∀(m j:Nat),pl j≤m→j<n→∀x,ig u j x→¬Ez E pl x j:=by(
 intro m;induction m with
 |zero=>
  intro j hm o x I hf;have:j=0:=O.inj j 0 o O.pos (by have:=O.zero;omega);subst this;have a1:x=0:=by(
 cases I with
 |refl=>rfl
 |up e _=>rw[G.zero] at e;omega)
  subst a1;cases hf with
  |zero h=>exact h rfl
  |step _ _ _ h=>exact h rfl
 |succ m ih=>
  intro j hm o x I hf;by_cases h0:j=0;·(
 subst h0;have a1:x=0:=by
  cases I with
  |refl=>rfl
  |up e _=>rw[G.zero] at e;omega
 subst a1;cases hf with
 |zero h=>exact h rfl
 |step _ _ _ h=>exact h rfl)
  cases hf with
  |zero h=>exact h0 rfl
  |step b0 he J b1=>
   rcases yP O G h o h0 he J I with e|h1;·exact b1 e.symm
   exact ih _ (by omega) (O.edge _ _ he).1 x h1 b0)
 refine⟨G,fun j o _=>hU _ j (cf _) o,?_,?_⟩
 ·have:∀(m j:Nat),pl j≤m→j<n→∀y x,¬Ez E pl y j→ig u j x→pl x<pl y→ig u y x:=by(
 intro m;induction m with
 |zero=>
  intro j hm o y x hy I J;have:=wM O o hy;rcases this with rfl|h;·exact I
  omega
 |succ m ih=>
  intro j hm o y x hy I J;rcases wM O o hy with rfl|b8;·exact I
  have h0:j≠0:=fun e=>by subst e;have:=O.zero;omega
  obtain⟨p,he,a6⟩:=O.fwd j o h0;rcases yP O G h o h0 he a6 I with e|h1;·subst e;omega
  refine ih p (by omega) (O.edge _ _ he).1 y x (fun hf=>?_) h1 J;by_cases e:j=y;·subst e;omega
  exact hy (.step hf he a6 e))
  exact fun j o _=>this _ j (cf _) o
 have:∀(m j:Nat),pl j≤m→j<n→∀x,¬gA E x j→ig u j x:=by(
 intro m;induction m with
 |zero=>
  intro j hm o x I;rcases zW O o I with e|h';·subst e;exact .refl _
  omega
 |succ m ih=>
  intro k hm hk x I;rcases zW O hk I with e|a7;·subst e;exact .refl _
  have h0:k≠0:=fun e=>by subst e;have:=O.zero;omega
  have b2:0<pl k:=by omega
  obtain⟨c,e,hc⟩:=h.near k hk h0 (O.lt k hk);obtain⟨c',e',b3,b4,_⟩:=G.low k hk (by omega);rw[e] at e';have e':=Int.ofNat.inj e';subst e';have hs:∀j,pl j<pl k→ml pl (pl k) u t j=u j:=fun j o=>mn o;refine .up e ((eY G hs b3 b4 x).1 ((hc x).2 fun p he hp=>?_));have C:=(O.edge _ _ he).1;have R:¬gA E x p:=fun hr=>by(
 by_cases e2:k=x;·subst e2;omega
 exact I (.step hr he e2))
  by_cases b5:pl p<pl k;·exact(eY G hs C b5 x).2 (ih p (by omega) C x R)
  have Y:my t p:=by(
 rcases hp with h|h;·exact .inl h
 exact .inr (by rw[ky (by omega)] at h;exact h))
  have b6:=L.lo p C Y x R;obtain⟨z,z1,z2,z3,z4,z5⟩:=qu O (s:=ml pl (pl k) u t) L.good b2 (fun j o=>ky o) _ p (cf _) C Y (by omega);refine(z4 x a7).2 ((eY G hs z1 z3 x).2 (ih z (by omega) z1 x ?_));have b7:=(z5 x a7).1 b6;rcases (oL L.good z1 b7).2 with e2|a8;·(
 subst e2;intro hr;have b9:=L.up p C Y x z2;have:=zW O C R;exact absurd hr (by
  intro hr;cases hr with
  |zero h=>exact h rfl
  |step _ _ h=>exact h rfl))
  exact ID O C R (L.up p C Y z z2) a8)
 exact fun j o _=>this _ j (cf _) o
theorem DE {t0 t u:Nat→Int}(L0:Cu E n pl t0)(L:Cu E n pl t)(h0:gQ E n pl t0 t n)(M:EM n t0 t)(G:fU n pl u)(h:gQ E n pl t u n):EM n t u:=by
 have:∀(m k:Nat),pl k≤m→k<n→∀x,ig u k x→ig t k x:=by(
 intro m;induction m with
 |zero=>
  intro k hm C x hx;have:k=0:=O.inj k 0 C O.pos (by have:=O.zero;omega);subst this;cases hx with
  |refl=>exact .refl _
  |up e _=>rw[G.zero] at e;omega
 |succ m ih=>
  intro k hm C x hx;by_cases J:k=0
  ·subst J;cases hx with
   |refl=>exact .refl _
   |up e _=>rw[G.zero] at e;omega
  have b0:0<pl k:=by have:pl k≠pl 0:=fun e=>J (O.inj _ _ C O.pos e);have:=O.zero;omega
  obtain⟨c,e,hc⟩:=h.near k C J (O.lt k C);rcases oM G C e hx with rfl|b1;·exact .refl _
  obtain⟨c',e',b2,b7,_⟩:=G.low k C (by omega);rw[e] at e';have e':=Int.ofNat.inj e';subst e';have R:pl x<pl k:=by have:=zQ G b2 b1;omega
  have hs:∀j,pl j<pl k→ml pl (pl k) u t j=u j:=fun j hj=>mn hj;have b3:=(hc x).1 ((eY G hs b2 b7 x).2 b1);obtain⟨d,ed,hd⟩:=h0.near k C J (O.lt k C);obtain⟨d',Y,b8,b9,_⟩:=L.good.low k C (by omega);rw[ed] at Y;have Y:=Int.ofNat.inj Y;subst Y;have a1:∀j,pl j<pl k→ml pl (pl k) t t0 j=t j:=fun j hj=>mn hj;refine .up ed ((eY L.good a1 b8 b9 x).1 ((hd x).2 fun p he hp=>?_));have o:=(O.edge _ _ he).1;have a6:my t p:=js h0 p o (O.lt p o);have c0:my u p:=js h p o (O.lt p o);by_cases a7:pl p<pl k
  ·have a8:my (ml pl (pl k) u t) p:=by(
 rcases c0 with h|h;·exact .inl h
 exact .inr (by rw[mn a7];exact h))
   exact(eY L.good a1 o a7 x).2 (ih p (by omega) o x ((eY G hs o a7 x).1 (b3 p he a8)))
  have I:my t0 p:=by(
 rcases hp with h|h;·exact .inl h
 exact .inr (by rw[ky (by omega)] at h;exact h))
  have a8:my (ml pl (pl k) u t) p:=by(
 rcases a6 with h|h;·exact .inl h
 exact .inr (by rw[ky (by omega)];exact h))
  obtain⟨y,y1,y2,y3,y4,y5⟩:=qu O (s:=ml pl (pl k) u t) L.good b0 (fun j hj=>ky hj) _ p (cf _) o a6 (by omega);have c1:=ih y (by omega) y1 x ((eY G hs y1 y3 x).1 ((y4 x R).1 (b3 p he a8)));have b4:=(y5 x R).2 c1;have b5:=M p o I x b4;obtain⟨z,z1,z2,z3,z4,z5⟩:=qu O (s:=ml pl (pl k) t t0) L0.good b0 (fun j hj=>ky hj) _ p (cf _) o I (by omega);refine(z4 x R).2 ((eY L.good a1 z1 z3 x).2 ?_);rcases (oL L0.good z1 ((z5 x R).1 b5)).2 with e2|b6;·subst e2;exact .refl _
  exact L.hi p o a6 z x (L0.up p o I z z2) b4 b6)
 exact fun k C _ x hx=>this _ k (cf _) C x hx
def rR (E:Nat→Nat→Prop)(n:Nat)(pl:Nat→Nat)(t:Nat→Int):Prop:=Cu E n pl t∧∀u,fU n pl u→gQ E n pl t u n→EM n t u
theorem Jr {t:Nat→Int}(o:∀j,j<n→t j= -1):rR E n pl t:=by
 refine⟨Mr O o,fun u G _ j C I x J=>?_⟩;have:j=0:=by
  rcases I with h|h;·exact h
  rw[o j C] at h;omega
 subst this;cases J with
 |refl=>exact .refl _
 |up e _=>rw[G.zero] at e;omega
theorem sN {t u:Nat→Int}(K:rR E n pl t)(G:fU n pl u)(h:gQ E n pl t u n):rR E n pl u:=by have L:=GB O K.1 G h;exact⟨L,fun v j o=>DE O K.1 L h (K.2 u G h) j o⟩
theorem BK {t:Nat→Int}(K:rR E n pl t)(h:gQ E n pl t t n){j x:Nat}(C:j<n):ig t j x↔¬gA E x j:=by
 have I:∀j,j<n→my t j:=fun j C=>js h j C (O.lt j C);constructor;·(
 intro J hr;have G:=K.1.good;clear K;revert J;induction hr with
 |zero o=>
  intro J;cases J with
  |refl=>exact o rfl
  |up e _=>rw[G.zero] at e;omega
 | @step a b a1 he o ih=>
   intro J;have ha:=(O.edge _ _ he).1;by_cases R:b=0;·(
 subst R;cases J with
 |refl=>exact o rfl
 |up e _=>rw[G.zero] at e;omega)
   obtain⟨c,e,hc⟩:=h.near b C R (O.lt b C);have hm:ml pl (pl b) t t=t:=by funext i;unfold ml;split<;>rfl
   rw[hm] at hc;rcases oM G C e J with e2|Y;·exact o e2.symm
   exact ih ha ((hc x).1 Y a he (I a ha)))
 exact fun J=>K.1.lo j C (I j C) x J
def xd (pl:Nat→Nat)(n:Nat)(t:Nat→Int):Nat→Nat
 |0=>0
 |k+1=>xd pl n t k+if t k<0 then n else pl (t k).toNat
theorem GH {t u:Nat→Int}(K:rR E n pl t)(G:fU n pl u)(h:gQ E n pl t u n):∀k,k≤n→xd pl n u k≤xd pl n t k∧((∃j,j<k∧u j≠t j)→xd pl n u k<xd pl n t k):=by
 have M:=K.2 u G h;intro k;induction k with
 |zero=>intro _;exact⟨cf _,fun⟨j,hj,_⟩=>by omega⟩
 |succ k ih=>
  intro hk;obtain⟨a6,J⟩:=ih (by omega);have o:k<n:=by omega
  have C:u k=t k∨(if u k<0 then n else pl (u k).toNat)<(if t k<0 then n else pl (t k).toNat):=by(
 by_cases h0:k=0;·subst h0;left;rw[G.zero,K.1.good.zero]
 have hu:0≤u k:=(js h k o (O.lt k o)).resolve_left h0;obtain⟨c,e,R,a7,_⟩:=G.low k o hu;by_cases ht:t k<0
 ·right
  rw[ap ht,ae (by omega),e,dP];exact O.lt c R
 obtain⟨d,Y,a1,a8,_⟩:=K.1.good.low k o (by omega);have:=M k o (.inr (by omega)) c (.up e (.refl _));rcases oM K.1.good o Y this with e3|h3;·subst e3;omega
 rcases (oL K.1.good a1 h3).2 with e4|h4;·subst e4;left;rw[e,Y]
 right;rw[ae ht,ae (by omega),e,Y,dP,dP];exact h4)
  simp only[xd];refine⟨?_,fun⟨j,hj,I⟩=>?_⟩
  ·rcases C with e|h1;·rw[e];omega
   omega
  rcases C with e|h1;·have b0:j≠k:=fun e'=>I (by rw[e'];exact e);have:=J ⟨j,by omega,I⟩;rw[e];omega
  omega
end
end
section
def eJ (x:bz):List Int:=if x.kind=12∧x.Ni≠x.ref then [x.ref,x.Ni] else if x.kind=12∨x.kind=11 then [x.ref] else []
def Mv:bz:=⟨0,0,0,0,0,[],[],0,0⟩
def iW (l:List bz):bz:=l.getD (l.length-1) Mv
def bM (b:aw):List (List Int):=b.Ng.map fun l=>eJ (iW l)
def fQ (b:aw)(k:Nat):Int:=((b.Ng.getD k []).getD 0 Mv).Nj
def jF (b:aw)(v:Int)(i k:Nat):Prop:=∃l x,b.Ng[i]? =some l∧l[k]? =some x∧x.dst=v
def jl (b:aw)(v:Int)(blk:Nat):Prop:=v<b.params∨∃i k,jF b v i k∧¬gA (dH (bM b)) i blk
def iP (b:aw)(v:Int)(blk at':Nat):Prop:=v<b.params∨∃i k,jF b v i k∧if i=blk then k<at' else¬gA (dH (bM b)) i blk
def lZ (b:aw)(x:bz)(blk:Nat):Prop:=x.Nh.Nodup∧∀a,a∈x.Nh↔∃i:Nat,a=i∧dH (bM b) i blk
open Classical in
noncomputable def uo (b:aw)(i k:Nat)(x:bz):Int:=
 if x.kind=3 then(if lZ b x i then(if∀(m:Nat) v f,x.args[m]? =some v→x.Nh[m]? =some f→jl b v f.toNat then 0 else 19) else 18)
 else if∀v∈x.args,iP b v i k then 0 else 19
def ls (f:Nat→Nat→bz→Int)(L:List (List bz)):Int×Int:=(((L.mapIdx fun i l=>l.mapIdx fun k x=>(x.Nj,f i k x)).flatten.find? fun t=>decide (t.2≠0)).getD (0,0))
theorem yj {f:Nat→Nat→bz→Int}{L:List (List bz)}(h:∀(i:Nat) l,L[i]? =some l→∀(k:Nat) x,l[k]? =some x→f i k x=0):ls f L=(0,0):=by
 unfold ls;rw[List.find?_eq_none.2];·rfl
 intro t j;obtain⟨r,o,j⟩:=List.mem_flatten.1 j;obtain⟨i,hi,rfl⟩:=List.mem_mapIdx.1 o;obtain⟨k,C,rfl⟩:=List.mem_mapIdx.1 j;simp[h i _ (lG hi) k _ (lG C)]
theorem sB {α:Type}{p:α→Bool}{l r:List α}{x:α}(h:∀y∈l,p y=false)(j:p x=true):(l++x::r).find? p=some x:=by
 induction l with
 |nil=>simp[j]
 |cons a l o=>rw[List.cons_append,List.find?_cons,h a (List.mem_cons_self ..)];exact o fun y C=>h y (List.mem_cons_of_mem _ C)
theorem kE {α:Type}{l:List α}{i:Nat}{x:α}(h:l[i]? =some x):l=l.take i++x::l.drop (i+1):=by obtain⟨hi,rfl⟩:=lS.1 h;rw[List.getElem_cons_drop,List.take_append_drop]
theorem uY {f:Nat→Nat→bz→Int}{L:List (List bz)}{i k:Nat}{l:List bz}{x:bz}(hi:L[i]? =some l)(Y:l[k]? =some x)
 (hb:∀j,j<i→∀m,L[j]? =some m→∀(k:Nat) y,m[k]? =some y→f j k y=0) (hl:∀j,j<k→∀y,l[j]? =some y→f i j y=0) (hx:f i k x≠0):ls f L=(x.Nj,f i k x):=by
 unfold ls;have e1:(L.mapIdx fun i l=>l.mapIdx fun k x=>(x.Nj,f i k x))[i]? =some (l.mapIdx fun k x=>(x.Nj,f i k x)):=by rw[jA,hi];rfl
 have e2:(l.mapIdx fun k x=>(x.Nj,f i k x))[k]? =some (x.Nj,f i k x):=by rw[jA,Y];rfl
 rw[kE e1,List.flatten_append,List.flatten_cons,kE e2,jM,List.cons_append,←jM,sB];·rfl
 ·(
 intro t C;rcases eD.1 C with C|C
 ·obtain⟨r,hr,C⟩:=List.mem_flatten.1 C;obtain⟨j,o⟩:=cY.1 hr;have I:j<i:=by have:=(lS.1 o).1;rw[fN] at this;omega
  rw[rY I,jA] at o;cases hm:L[j]? with
  |none=>rw[hm] at o;cases o
  |some m=>rw[hm] at o;cases o;obtain⟨n,hn,rfl⟩:=List.mem_mapIdx.1 C;simp[hb j I m hm n _ (lG hn)]
 obtain⟨j,o⟩:=cY.1 C;have J:j<k:=by have:=(lS.1 o).1;rw[fN] at this;omega
 rw[rY J,jA] at o;cases R:l[j]? with
 |none=>rw[R] at o;cases o
 |some y=>rw[R] at o;cases o;simp[hl j J y R])
 simp[hx]
def kO (ll:List (List Int))(k:Nat):Prop:=k<ll.length∧¬aQ ll 0 k
def iN (ll:List (List Int))(k:Nat):Prop:=k<ll.length∧¬∃e,aQ ll k e∧ll[e]? =some []
open Classical in
noncomputable def cV (P:Nat→Prop)(n:Nat):Int:=match (List.range n).find? fun k=>decide (P k) with|some k=>k|none=> -1
theorem hZ {P:Nat→Prop}{n:Nat}(h:∀k,k<n→¬P k):cV P n= -1:=by unfold cV;rw[List.find?_eq_none.2];intro k j;simp[h k (fg.1 j)]
theorem lO {P:Nat→Prop}{n k:Nat}(C:k<n)(h:∀j,j<k→¬P j)(I:P k):cV P n=k:=by
 unfold cV;rw[kE (show(List.range n)[k]? =some k by rw[ln C]),sB]
 ·intro y o
  rw[List.take_range] at o;have:=fg.1 o;simp[h y (by omega)]
 simp[I]
theorem jX (P:Nat→Prop)(n:Nat):(cV P n= -1∧∀k,k<n→¬P k)∨∃k:Nat,cV P n=k∧k<n∧P k∧∀j,j<k→¬P j:=by
 by_cases h:∃k,k<n∧P k
 ·obtain⟨k,⟨I,o⟩,hm⟩:∃k,(k<n∧P k)∧∀j,j<k→¬(j<n∧P j):=by(
 obtain⟨Y,h0⟩:=h;induction Y using Nat.strongRecOn with
 |ind m ih=>
  by_cases C:∃j,j<m∧(j<n∧P j)
  ·obtain⟨j,C,o⟩:=C
   exact ih j C o
  exact⟨m,h0,fun j J o=>C ⟨j,J,o⟩⟩)
  exact .inr ⟨k,lO I (fun j C o=>hm j C ⟨by omega,o⟩) o,I,o,fun j C R=>hm j C ⟨by omega,R⟩⟩
 exact .inl ⟨hZ fun k I o=>h ⟨k,I,o⟩,fun k I o=>h ⟨k,I,o⟩⟩
open Classical in
noncomputable def oh (b:aw):Int×Int:=
 if 0≤cV (kO (bM b)) b.Ng.length then(fQ b (cV (kO (bM b)) b.Ng.length).toNat,16)
 else if 0≤cV (iN (bM b)) b.Ng.length then(fQ b (cV (iN (bM b)) b.Ng.length).toNat,17)
 else if∃i,dH (bM b) i 0 then(fQ b 0,18)
 else ls (uo b) b.Ng
noncomputable def ov:List aw→Nat→Int×Int×Int
 | [],_=>(0,0,0)
 |b::l,i=>if(oh b).2≠0 then(i,(oh b).1,(oh b).2) else ov l (i+1)
def jH (c:aE):Prop:=∀b∈c.Nf,(oh b).2=0
theorem mc:∀ {l:List aw} {i:Nat},(∀b∈l,(oh b).2=0)→ov l i=(0,0,0)
 | [],_,_=>rfl
 |b::l,i,h=>by rw[ov,ae (by rw[h b (List.mem_cons_self ..)];simp)];exact mc fun c j=>h c (List.mem_cons_of_mem _ j)
theorem su:∀ {l:List aw} {i k:Nat} {b:aw},l[k]? =some b→(∀j,j<k→∀c,l[j]? =some c→(oh c).2=0)→(oh b).2≠0→ov l i=(((i+k:Nat):Int),(oh b).1,(oh b).2)
 | [],_,_,_,h,_,_=>by simp at h
 |c::l,i,0,b,h,_,o=>by cases h;rw[ov,ap o];rfl
 |c::l,i,k+1,b,h,C,o=>by rw[ov,ae (by rw[C 0 (by omega) c rfl];simp),su (l:=l) (i:=i+1) (k:=k) (by simpa using h) (fun j J d I=>C (j+1) (by omega) d (by simpa using I)) o];congr 2;omega
end
section
section
variable (ll:List (List Int))
noncomputable def eB (a b:Nat):Bool:=ay ll a b&&ay ll b a
end
section
variable {ll:List (List Int)}
def ET (ll:List (List Int))(told:Nat→Bool):Prop:=∀x y,y<ll.length→told x=true→eB ll x y=true→told y=true
end
end
section
section
variable {ll:List (List Int)}
inductive rt (ll:List (List Int)) (s:Nat):Nat→Nat→Prop
 |one:rt ll s 1 s
 |step {m b c:Nat}:rt ll s m b→dH ll b c→rt ll s (m+1) c
open Classical in
end
end
section
section
variable {ll:List (List Int)}
def lu (f:Nat→Int)(i:Nat)(v:Int):Nat→Int:=fun k=>if k=i then v else f k
end
end
section
section
variable {ll:List (List Int)}
open Classical in
noncomputable def di (ll:List (List Int))(i k:Nat):List Int:=((List.range i).filter fun a=>decide (dH ll a k)).map fun(n:Nat)=>(n:Int)
noncomputable def gS (ll:List (List Int))(row:List Int)(i m k:Nat):List Int:=di ll i k++if(k:Int)∈row.take m then [(i:Int)] else []
theorem vN (i k:Nat):(di ll i k).length≤i:=by unfold di;rw[ce];exact fR (List.length_filter_le _ _) (by simp)
theorem AN (row:List Int)(i m k:Nat):(gS ll row i m k).length≤i+1:=by have:=vN (ll:=ll) i k;unfold gS;rw[iQ];split<;>simp<;>omega
theorem jc {i k:Nat}{x:Int}:x∈di ll i k↔∃a:Nat,x=a∧a<i∧dH ll a k:=by
 simp only[di,dr,List.mem_filter,fg,qal];constructor;·rintro⟨a,⟨j,o⟩,rfl⟩;exact⟨a,rfl,j,o⟩
 rintro⟨a,rfl,j,o⟩;exact⟨a,⟨j,o⟩,rfl⟩
theorem GM (row:List Int)(i k:Nat):gS ll row i 0 k=di ll i k:=by simp[gS]
theorem yT {row:List Int}{i k:Nat}(h:ll[i]? =some row):gS ll row i row.length k=di ll (i+1) k:=by
 unfold gS di;rw[dZ,List.range_succ,mE,ic];congr 1;by_cases j:(k:Int)∈row
 ·have:dH ll i k:=⟨row,h,j⟩
  simp[j,this]
 have:¬dH ll i k:=by rintro⟨r,o,C⟩;rw[h] at o;cases o;exact j C
 simp[j,this]
theorem AO {row:List Int}{i m k:Nat}(hm:m<row.length)(C:row.Nodup)(o:row[m]=(k:Int)):gS ll row i (m+1) k=gS ll row i m k++[(i:Int)]:=by
 have I:(k:Int)∈row.take (m+1):=by rw[cU,lG hm,o];simp
 have J:(k:Int)∉row.take m:=by intro h;obtain⟨j,R,e⟩:=List.getElem_of_mem h;rw[fN] at R;rw[List.getElem_take] at e;exact(List.pairwise_iff_getElem.1 C) j m (by omega) hm (by omega) (by rw[e,o])
 unfold gS;rw[ap I,ae J,List.append_nil]
theorem DK {row:List Int}{i m k j:Nat}(hm:m<row.length)(o:row[m]=(k:Int))(C:j≠k):gS ll row i (m+1) j=gS ll row i m j:=by
 have I:((j:Int)∈row.take (m+1))=((j:Int)∈row.take m):=by(
 rw[cU,lG hm,o];simp only[eD,Option.toList_some,cx,eq_iff_iff];constructor
 ·rintro(h|h)
  ·exact h
  exact absurd (by omega) C
 exact fun h=>.inl h)
 unfold gS;simp only[I]
end
end
section
section
variable {α:Type} {L:List (List α)}
theorem lF {i k:Nat}{l:List α}{x:α}(hi:L[i]? =some l)(o:l[k]? =some x):L.flatten[(L.take i).flatten.length+k]? =some x:=by
 have j:=(lS.1 o).1;have e:L.flatten=(L.take i).flatten++(l++(L.drop (i+1)).flatten):=by rw[←List.flatten_cons,←List.flatten_append,←kE hi]
 rw[e,kH (by omega),Nat.add_sub_cancel_left,ma j];exact o
theorem BS {i j:Nat}{l:List α}(hi:L[i]? =some l)(o:i<j):(L.take i).flatten.length+l.length≤(L.take j).flatten.length:=by
 have e:(L.take j)[i]? =some l:=by rw[rY o];exact hi
 conv=>rhs;rw[kE e]
 rw[List.flatten_append,List.flatten_cons,iQ,iQ,List.take_take,Nat.min_eq_left (Nat.le_of_lt o)];omega
theorem FG {i k j m:Nat}{l r:List α}(hi:L[i]? =some l)(C:k<l.length)(o:L[j]? =some r)(hm:m<r.length)(e:(L.take i).flatten.length+k=(L.take j).flatten.length+m):i=j∧k=m:=by
 rcases Nat.lt_trichotomy i j with h|h|h;·have:=BS hi h;omega
 ·subst h;exact⟨rfl,by omega⟩
 have:=BS o h;omega
theorem pF:∀ {L:List (List α)} {n:Nat} {x:α},L.flatten[n]? =some x→∃i k l,L[i]? =some l∧l[k]? =some x∧n=(L.take i).flatten.length+k
 | [],n,x,h=>by simp at h
 |l::L,n,x,h=>by(
 rw[List.flatten_cons] at h;by_cases j:n<l.length
 ·rw[ma j] at h
  exact⟨0,n,l,rfl,h,by simp⟩
 rw[kH (by omega)] at h;obtain⟨i,k,r,o,C,I⟩:=pF h;exact⟨i+1,k,r,by simpa using o,C,by rw[List.take_succ_cons,List.flatten_cons,iQ];omega⟩)
end
def og (l:List bz):Nat:=(l.filter fun x=>decide (x.dst≠-1)).length
structure gY (b:aw):Prop where
 par:0≤b.params∧b.params≤6
 blk:1≤b.Ng.length∧b.Ng.length≤64
 some_:∀l∈b.Ng,1≤l.length∧11≤(iW l).kind∧(iW l).kind≤13
 ref:∀l∈b.Ng,(iW l).kind=11∨(iW l).kind=12→0≤(iW l).ref∧(iW l).ref<b.Ng.length
 Ni:∀l∈b.Ng,(iW l).kind=12→0≤(iW l).Ni∧(iW l).Ni<b.Ng.length
 args:∀l∈b.Ng,∀x∈l,∀a∈x.args,0≤a∧a<b.vars
 Nh:∀l∈b.Ng,∀x∈l,∀a∈x.Nh,0≤a∧a<b.Ng.length
 phi:∀l∈b.Ng,∀x∈l,x.kind=3→x.Nh.length=x.args.length∧1≤x.Nh.length∧x.Nh.length≤64
 dst:∀l∈b.Ng,∀x∈l,x.dst= -1∨b.params≤x.dst∧x.dst<b.vars
 once:∀(v:Int) (i k j m:Nat),v≠-1→jF b v i k→jF b v j m→i=j∧k=m
 all:∀v,b.params≤v→v<b.vars→∃i k,jF b v i k
 num:b.vars=b.params+og b.Ng.flatten
theorem yk {p:aH}{c:aE}{b:aw}{next:Int}{x:bz}(h:aT p c b next x)(I:0≤next):x.dst=(if cz x=true then next else-1)∧(cz x=true↔x.dst≠-1):=by
 obtain⟨n,d,r,a,o,j,_⟩:=h;have C:cz x=d:=by unfold cz;rw[o]
 rw[C];refine⟨j,?_⟩;rw[j];cases d;·simp
 simp only[if_true,true_iff,ne_eq];omega
theorem CL {l:List bz}(h:∀x∈l,cz x=true↔x.dst≠-1):cj l=og l:=by rw[co];unfold og;congr 1;refine List.filter_congr fun x j=>?_;rw[Bool.eq_iff_iff,h x j,qal]
theorem lC {l:List bz}(h:1≤l.length):iW l∈l∧l[l.length-1]? =some (iW l):=by
 have j:l.length-1<l.length:=by omega
 have:l[l.length-1]? =some (iW l):=by unfold iW;rw[iG,lG j];rfl
 exact⟨mG this,this⟩
theorem Kj {p:aH}{c:aE}{b:aw}(h:qi p c b):gY b:=by
 obtain⟨h1,h2,h3,h4,h5,h6,h7⟩:=h;have hn:∀(m:Nat),0≤b.params+(cj (b.Ng.flatten.take m):Int):=fun m=>by omega
 have J:∀l∈b.Ng,∀x∈l,∃next,0≤next∧aT p c b next x:=by intro l o x I;obtain⟨i,hi⟩:=cY.1 o;obtain⟨k,C⟩:=cY.1 I;exact⟨_,hn _,h6 _ x (lF hi C)⟩
 have b5:∀x∈b.Ng.flatten,cz x=true↔x.dst≠-1:=by intro x I;obtain⟨l,o,I⟩:=List.mem_flatten.1 I;obtain⟨next,h0,ho⟩:=J l o x I;exact(yk ho h0).2
 have a7:∀(k:Nat) x,b.Ng.flatten[k]? =some x→x.dst=if cz x=true then b.params+cj (b.Ng.flatten.take k) else-1:=fun k x I=>(yk (h6 k x I) (hn k)).1;have R:∀k m:Nat,k≤m→cj (b.Ng.flatten.take k)≤cj (b.Ng.flatten.take m):=by(
 intro k m b6;have:b.Ng.flatten.take m=b.Ng.flatten.take k++(b.Ng.flatten.take m).drop k:=by have:=(List.take_append_drop k (b.Ng.flatten.take m)).symm;rwa [List.take_take,Nat.min_eq_left b6] at this
 rw[this,co,co,mE,iQ];omega)
 have Y:∀(k:Nat) x,b.Ng.flatten[k]? =some x→cz x=true→cj (b.Ng.flatten.take (k+1))=cj (b.Ng.flatten.take k)+1:=by intro k x C hf;rw[cU,C,co,co,mE,iQ];simp[hf]
 have a6:∀l∈b.Ng,1≤l.length∧11≤(iW l).kind:=by
  intro l o;obtain⟨s1,s2,_⟩:=h5 l o;have a8:1≤l.length:=by(
 cases l;·simp at s1
 simp)
  refine⟨a8,(s2 (l.length-1) (iW l).kind ?_).2 (by rw[ce];omega)⟩;rw[cL,(lC a8).2];rfl
 have b0:∀l∈b.Ng,∀x∈l,1≤x.kind∧x.kind≤13:=by intro l o x I;obtain⟨next,_,n,d,r,a,e,_⟩:=J l o x I;unfold cw at e;split at e<;>first|(cases e;done)|omega|(rename_i C;rw[C];omega)
 refine⟨⟨h1,h2⟩,⟨h3,h4⟩,fun l o=>⟨(a6 l o).1,(a6 l o).2,(b0 l o _ (lC (a6 l o).1).1).2⟩,fun l o C=>?_,fun l o C=>?_,fun l o x I=>?_,fun l o x I=>?_,fun l o x I C=>?_,fun l o x I=>?_,?_,?_,?_⟩
 ·obtain⟨next,_,n,d,r,a,e,_,_,_,_,_,_,hr,_⟩:=J l o _ (lC (a6 l o).1).1;have b7:r=true:=by rcases C with C|C<;>rw[C] at e<;>cases e<;>rfl
  have:=hr b7;have hm:cW p c b (iW l).kind=b.Ng.length:=by rcases C with C|C<;>rw[C]<;>rfl
  rwa [hm] at this
 ·obtain⟨next,_,n,d,r,a,e,_,_,_,_,_,_,_,ha,_⟩:=J l o _ (lC (a6 l o).1).1
  have b8:a=true:=by rw[C] at e;cases e;rfl
  exact ha b8
 ·obtain⟨next,_,n,d,r,a,e,_,_,_,_,_,_,_,_,_,hA,_⟩:=J l o x I
  exact hA
 ·obtain⟨next,_,n,d,r,a,e,_,_,_,_,_,_,_,_,_,_,hF⟩:=J l o x I
  exact hF
 ·obtain⟨next,_,n,d,r,a,e,_,_,_,_,_,_,_,_,hc,_⟩:=J l o x I
  rwa [ap C] at hc
 ·obtain⟨i,hi⟩:=cY.1 o;obtain⟨k,C⟩:=cY.1 I;have hg:=lF hi C;have e:=a7 _ x hg;by_cases hf:cz x=true;·rw[ap hf] at e;have e1:=Y _ x hg hf;have e2:=R ((b.Ng.take i).flatten.length+k+1) b.Ng.flatten.length (lS.1 hg).1;rw[dZ] at e2;right;omega
  rw[ae hf] at e;exact .inl e
 ·(
 rintro v i k j m hv ⟨l,x,a1,a2,a3⟩ ⟨r,y,b1,b2,b3⟩;have g1:=lF a1 a2;have g2:=lF b1 b2;have e1:=a7 _ x g1;have e2:=a7 _ y g2;have f1:cz x=true:=by
  by_cases hf:cz x=true;·exact hf
  rw[ae hf] at e1;omega
 have f2:cz y=true:=by
  by_cases hf:cz y=true;·exact hf
  rw[ae hf] at e2;omega
 rw[ap f1] at e1;rw[ap f2] at e2;have n1:=Y _ x g1 f1;have n2:=Y _ y g2 f2;refine FG a1 (lS.1 a2).1 b1 (lS.1 b2).1 ?_;rcases Nat.lt_trichotomy ((b.Ng.take i).flatten.length+k) ((b.Ng.take j).flatten.length+m) with b4|heq|b4;·have:=R (((b.Ng.take i).flatten.length+k)+1) _ b4;omega
 ·exact heq
 have:=R (((b.Ng.take j).flatten.length+m)+1) _ b4;omega)
 ·intro v c0 c1;have hr:=uT h1 b.Ng.flatten a7;have hm:v∈(b.Ng.flatten.filter fun x=>decide (0≤x.dst)).map fun x=>x.dst:=by rw[hr];refine dr.2 ⟨(v-b.params).toNat,fg.2 ?_,?_⟩<;>omega
  obtain⟨x,I,rfl⟩:=dr.1 hm;obtain⟨n,b9⟩:=cY.1 (List.mem_filter.1 I).1;obtain⟨i,k,l,a1,a2,_⟩:=pF b9;exact⟨i,k,l,x,a1,a2,rfl⟩
 rw[h7,CL b5]
end
section
section
variable {ll:List (List Int)} {k:Nat} {l:List Int}
theorem lq {a b:Nat}(h:dH ll a b):a<ll.length:=by obtain⟨row,h,_⟩:=h;exact(lS.1 h).1
theorem tx (i k:Nat):(di ll i k).Pairwise (·<·):=by unfold di;refine List.pairwise_map.2 ((List.Pairwise.filter _ List.pairwise_lt_range).imp fun h=>?_);omega
def mP (ll:List (List Int))(l:List Int)(k:Nat):Prop:=l.Nodup∧∀a,a∈l↔∃i:Nat,a=i∧dH ll i k
theorem pT:mP ll (di ll ll.length k) k:=by
 refine⟨(tx _ _).imp fun h=>by omega,fun a=>?_⟩;rw[jc];constructor;·rintro⟨i,e,_,h⟩;exact⟨i,e,h⟩
 rintro⟨i,e,h⟩;exact⟨i,e,lq h,h⟩
theorem rg {l m:List Int}(h:l.Perm m):mP ll l k↔mP ll m k:=by unfold mP;rw[h.nodup_iff];simp only[h.mem_iff]
theorem xp {s:List Int}(I:s.Perm l)(J:s.Pairwise (·≤·)):s=di ll ll.length k↔mP ll l k:=by
 constructor
 ·rintro rfl
  exact(rg I).1 pT
 intro h;have j:=(rg I).2 h;have o:mP ll (di ll ll.length k) k:=pT;have C:s.Perm (di ll ll.length k):=(List.perm_ext_iff_of_nodup j.1 o.1).2 fun a=>by rw[j.2,o.2]
 exact C.eq_of_pairwise (fun a b _ _ j o=>by omega) J ((tx _ _).imp fun h=>by omega)
def uh (l:List Int)(m:Nat):Nat:=(l.filter fun a:Int=>decide (a<(m:Int))).length
theorem uP (h:∀a∈l,0≤a)(m:Nat):uh l (m+1)=uh l m+l.count (m:Int):=by
 unfold uh;induction l with
 |nil=>rfl
 |cons a l j=>
  have j:=j fun b I=>h b (List.mem_cons_of_mem _ I);have J:=h a (List.mem_cons_self ..);rw[List.filter_cons,List.filter_cons,List.count_cons];by_cases o:a<m;·rw[ap (by simp;omega),ap (by simpa using o),kI,kI,j,ae (by simp;omega)];omega
  by_cases C:a=m;·rw[ap (by simp;omega),ae (by simpa using o),kI,j,ap (by simp[C])];omega
  rw[ae (by simp;omega),ae (by simpa using o),j,ae (by simp[C]),dj]
theorem KT (h:∀a∈l,0≤a):uh l 0=0:=by unfold uh;rw[List.length_eq_zero_iff,List.filter_eq_nil_iff];intro a j;have:=h a j;simp;omega
theorem Fk {n:Nat}(h:∀a∈l,a<n):uh l n=l.length:=by unfold uh;rw[List.filter_eq_self.2 fun a j=>by simpa using h a j]
open Classical in
theorem xe (h:∀a∈l,0≤a∧a<ll.length):mP ll l k↔∀i:Nat,i<ll.length→l.count (i:Int)=if dH ll i k then 1 else 0:=by
 constructor
 ·rintro⟨C,J⟩ i _;by_cases hi:dH ll i k
  ·rw[ap hi]
   have c1:=List.nodup_iff_count.1 C (i:Int);have c2:=List.count_pos_iff.2 ((J i).2 ⟨i,rfl,hi⟩);omega
  rw[ae hi];refine List.count_eq_zero.2 fun hm=>?_;obtain⟨j,e,Y⟩:=(J i).1 hm;have:i=j:=by omega
  subst this;exact hi Y
 intro I;refine⟨List.nodup_iff_count.2 fun a=>?_,fun a=>⟨fun o=>?_,?_⟩⟩
 ·by_cases o:a∈l
  ·obtain⟨h0,C⟩:=h a o;have:=I a.toNat (by omega);rw[show((a.toNat:Nat):Int)=a by omega] at this;rw[this];split<;>omega
  rw[List.count_eq_zero.2 o];omega
 ·obtain⟨h0,C⟩:=h a o;refine⟨a.toNat,by omega,?_⟩;have:=I a.toNat (by omega);rw[show((a.toNat:Nat):Int)=a by omega] at this;by_cases R:dH ll a.toNat k;·exact R
  rw[ae R] at this;exact absurd o (List.count_eq_zero.1 this)
 rintro⟨i,rfl,hi⟩;have:=I i (lq hi);rw[ap hi] at this;exact List.count_pos_iff.1 (by omega)
end
theorem mp {b:aw}{x:bz}{blk:Nat}:lZ b x blk↔mP (bM b) x.Nh blk:=Iff.rfl
theorem Cn {b:aw}{i:Nat}{l:List bz}(h:b.Ng[i]? =some l):(bM b)[i]? =some (eJ (iW l)):=by unfold bM;rw[cL,h];rfl
theorem cS (b:aw):(bM b).length=b.Ng.length:=by simp[bM]
theorem qam {b:aw}(h:gY b):aP (bM b):=by
 refine⟨by rw[cS];exact h.blk.1,by rw[cS];have:=h.blk.2;omega,fun row R=>?_⟩;rw[cS];obtain⟨l,I,rfl⟩:=dr.1 R;have J:=h.ref l I;have Y:=h.Ni l I;unfold eJ;by_cases o:(iW l).kind=12∧(iW l).Ni≠(iW l).ref
 ·rw[ap o];have r1:=J (.inr o.1);have r2:=Y o.1;refine⟨fun k j=>?_,?_⟩
  ·rcases fX.1 j with rfl|j
   ·exact r1
   rw[cx.1 j];exact r2
  rw[List.nodup_cons,cx];exact⟨fun e=>o.2 e.symm,by simp⟩
 rw[ae o];by_cases C:(iW l).kind=12∨(iW l).kind=11
 ·rw[ap C]
  have r1:=J C.symm;refine⟨fun k j=>?_,by simp⟩;rw[cx.1 j];exact r1
 rw[ae C];exact⟨fun k j=>by(cases j),by simp⟩
end
theorem nU {ll:List (List Int)}{a b:Nat}(j:b<ll.length):(en ll a)[b]? =some (ay ll a b):=by simp[en,j]
theorem oX (ll:List (List Int))(a:Nat):(en ll a).length=ll.length:=by simp[en]
theorem st (A:Option Addr)(n cap:Nat)(w:World)(o:n≤cap)(C:cap≤9223372036854775807):Calls prog 30 #[.slice A n cap] w fun e j=>e=.returned (.slice A n n)∧w=j:=by
 have I:n≤9223372036854775807:=by omega
 go_enter func30,ntmps30;go_wp2;go_ret;exact⟨rfl,rfl⟩
def xE (ll:List (List Int))(k:Nat):Prop:=∃e,aQ ll k e∧ll[e]? =some []
theorem tF (S:Nat→Prop)(v:Value)(ll:List (List Int))(a b:Nat)(w:World)(hv:Rows S w v ll)(ha:a<ll.length):
 Calls prog 45 #[v,.int .i64 a,.int .i64 b] w fun e w'=>e=.returned (.bool (pB (dH ll a b)))∧w=w':=by
 obtain⟨A,cap,rfl,h1,h2,h3,h⟩:=hv;obtain⟨row,C⟩:=eG ha;obtain⟨rb,ro,rv,rfl,hs,hc,I⟩:=h a row C;obtain⟨RA,rc,rfl,r1,r2,r3,hR⟩:=I;unfold maxLen at h2 r2;have HR:=J2 hR C;have o:dH ll a b↔(b:Int)∈row:=⟨fun⟨r,e,hm⟩=>by rw[C] at e;cases e;exact hm,fun hm=>⟨row,C,hm⟩⟩;have HA:=oH o;clear h hR C o;go_enter func45,ntmps45;go_wp2_with fail;go_loopg [7] row.length (fun g s wr=>∃k:Nat,k≤row.length∧g=row.length-k∧s=.int .i64 k∧wr=w∧∀(i:Nat) x,i<k→row[i]? =some x→x≠b);·exact⟨0,by omega,by omega,rfl,rfl,fun i x hi=>by omega⟩
 obtain⟨k,hk,rfl,rfl,hw,j⟩:=hrel;have J:=hw.symm;subst J;by_cases R:k<row.length;·(
 obtain⟨x,Y⟩:=eG R;obtain⟨xb,xo,c,rfl,a1,a7,rfl,a6⟩:=HR.1 k x Y;have HX:=J2 j Y;clear j Y a1 a6;by_cases e:x=(b:Int)
 ·have t:(x==(b:Int))=true:=by rw[cy];exact e
  have HY:=oH (show dH ll a b from HA.2 (e▸mG HX.2));clear e;go_wp2_with fail;go_ret;exact⟨by rw[av HY.out]<;>rfl,rfl⟩
 have t:(x==(b:Int))=false:=by rw[bE];exact e
 have HE:=oH e;clear e;go_wp2_with fail;go_roundg (row.length-(k+1))
 ·refine⟨k+1,by omega,rfl,by go_num,rfl,fun i z hi hz=>?_⟩
  by_cases e:i=k;·subst e;rw[HX.2] at hz;cases hz;exact HE.out
  exact HX.1 i z (by omega) hz
 omega)
 obtain rfl:k=row.length:=by omega
 have HN:=oH (show¬dH ll a b from fun h=>by obtain⟨i,hi⟩:=cY.1 (HA.1 h);exact j i _ (lS.1 hi).1 hi rfl);clear j;go_wp2_with fail;go_ret;exact⟨by rw[au HN.out]<;>rfl,rfl⟩
theorem DV (S:Nat→Prop)(v:Value)(ll:List (List Int))(w:World)(hv:Rows S w v ll)(I:aP ll):
 Calls prog 43 #[v] w fun e w'=>e=.returned (.int .i64 (cV (kO ll) ll.length))∧aa All w w':=by
 have hW:=nF S v ll 0 w hv I (by have:=I.1;omega);obtain⟨A,cap,rfl,h1,h2,h3,h⟩:=hv;have a8:=I.2.1;have HC:=oH hW;clear hW h I;go_enter func43,ntmps43;go_wp2_with fail;refine HC.out.mono ?_;rintro e w1 ⟨u,rfl,Y,hB⟩;obtain⟨RA,rc,rfl,r1,r2,r3,I⟩:=hB;unfold maxLen at h2 r2;have C:(en ll 0).length=ll.length:=oX ll 0;rw[C];have HR:=oH I;have HK:=oH Y;clear I Y r1 r3 C;go_wp2_with fail;go_loopg [4] ll.length (fun g s wr=>∃k:Nat,k≤ll.length∧g=ll.length-k∧s=.int .i64 k∧wr=w1∧∀i:Nat,i<k→ay ll 0 i=true);·exact⟨0,by omega,by omega,rfl,rfl,fun i hi=>by omega⟩
 obtain⟨k,hk,rfl,rfl,hw,o⟩:=hrel;have a7:=hw.symm;subst a7;by_cases J:k<ll.length;·(
 obtain⟨xb,xo,c,rfl,a1,a6,rfl⟩:=HR.out k _ (nU J);cases R:ay ll 0 k with
 |false=>have HY:=oH (show cV (kO ll) ll.length=k from lO J (fun j hj h=>h.2 (aY.1 (o j hj))) ⟨J,fun h=>by rw[aY.2 h] at R;cases R⟩);rw[R] at a6;clear o a1 R;go_wp2_with fail;go_ret;exact⟨by rw[HY.out]<;>rfl,HK.out⟩
 |true=>
  rw[R] at a6;have HB:=J2 o R;clear o R a1;go_wp2_with fail;go_roundg (ll.length-(k+1))
  ·refine⟨k+1,by omega,rfl,by go_num,rfl,fun i hi=>?_⟩;by_cases e:i=k;·subst e;exact HB.2
   exact HB.1 i (by omega)
  omega)
 obtain rfl:k=ll.length:=by omega
 have HY:=oH (show cV (kO ll) ll.length= -1 from hZ fun j hj h=>h.2 (aY.1 (o j hj)));clear o;go_wp2_with fail;go_ret;exact⟨by rw[HY.out]<;>rfl,HK.out⟩
theorem AV (S:Nat→Prop)(v:Value)(ll:List (List Int))(f:Nat)(w:World)(hv:Rows S w v ll)(C:aP ll)(hf:f<ll.length):
 Calls prog 99 #[v,.int .i64 f] w fun e w'=>e=.returned (.bool (pB (xE ll f)))∧aa All w w':=by
 have hW:=nF S v ll f w hv C hf;have hV:=aq.la hv;have b0:=C.2.1;have b1:=oH C;obtain⟨A,cap,rfl,h1,h2,h3,h⟩:=hv;have HC:=oH hW;have HV:=oH hV;clear hW h C hV;go_enter func99,ntmps99;go_wp2_with fail;refine HC.out.mono ?_;rintro e w1 ⟨u,rfl,J,hB⟩;obtain⟨RA,rc,rfl,r1,r2,r3,C⟩:=hB;unfold maxLen at h2 r2;have o:(en ll f).length=ll.length:=oX ll f;rw[o];have HR:=oH C;have HK:=oH J;clear C J r1 r3 o;go_wp2_with fail;go_loopg [6] ll.length (fun g s wr=>∃k:Nat,k≤ll.length∧g=ll.length-k∧s=.int .i64 k∧wr=w1∧∀i:Nat,i<k→¬(aQ ll f i∧ll[i]? =some []));·exact⟨0,by omega,by omega,rfl,rfl,fun i hi=>by omega⟩
 obtain⟨k,hk,rfl,rfl,hw,j⟩:=hrel;have a6:=hw.symm;subst a6;by_cases R:k<ll.length;·(
 obtain⟨xb,xo,c,rfl,a7,Y,rfl⟩:=HR.out k _ (nU R);obtain⟨row,hr⟩:=eG R;obtain⟨rb,ro,rv,rfl,a8,b2,a1⟩:=bn (HV.out w1 HK.out) hr;obtain⟨b3,b4,rfl,q1,q2,q3,_⟩:=a1;have HL:=oH hr;clear hr a8 a7;cases I:ay ll f k with
 |false=>
  rw[I] at Y;have HB:=J2 j (show¬aQ ll f k from fun h=>by rw[aY.2 h] at I;cases I);clear j I;go_wp2_with fail;go_roundg (ll.length-(k+1))
  ·refine⟨k+1,by omega,rfl,by go_num,rfl,fun i hi=>?_⟩;by_cases e:i=k;·subst e;exact fun h=>HB.2 h.1
   exact HB.1 i (by omega)
  omega
 |true=>
  rw[I] at Y;have HB:=J2 j (aY.1 I);clear j I;by_cases hz:row.length=0
  ·have t:((row.length:Int)==0)=true:=by rw[cy];omega
   have HY:=oH (show xE ll f from⟨k,HB.2,by rw[HL.out,oD hz]⟩);clear hz;go_wp2_with fail;go_ret;exact⟨by rw[av HY.out]<;>rfl,HK.out⟩
  have t:((row.length:Int)==0)=false:=by rw[bE];omega
  have HZ:=oH hz;clear hz;go_wp2_with fail;go_roundg (ll.length-(k+1))
  ·refine⟨k+1,by omega,rfl,by go_num,rfl,fun i hi=>?_⟩;by_cases e:i=k;·subst e;exact fun h=>by have:=h.2;rw[HL.out] at this;cases this;exact HZ.out rfl
   exact HB.1 i (by omega)
  omega)
 obtain rfl:k=ll.length:=by omega
 have HN:=oH (show¬xE ll f from fun⟨e,h1,h2⟩=>j e (lS.1 h2).1 ⟨h1,h2⟩);clear j;go_wp2_with fail;go_ret;exact⟨by rw[au HN.out]<;>rfl,HK.out⟩
theorem Bb (S:Nat→Prop)(v:Value)(ll:List (List Int))(w:World)(hv:Rows S w v ll)(Y:aP ll):
 Calls prog 44 #[v] w fun e w'=>e=.returned (.int .i64 (cV (iN ll) ll.length))∧aa All w w':=by
 have hV:=aq.la hv;have a6:=Y.2.1;have a1:=oH Y;obtain⟨A,cap,rfl,h1,h2,h3,h⟩:=hv;have HV:=oH hV;unfold maxLen at h2;clear h Y hV;go_enter func44,ntmps44;go_wp2_with fail;go_loopg [3] ll.length (fun g s wr=>∃k:Nat,k≤ll.length∧g=ll.length-k∧s=.int .i64 k∧aa All w wr∧∀i:Nat,i<k→xE ll i);·exact⟨0,by omega,by omega,rfl,kR,fun i hi=>by omega⟩
 obtain⟨k,hk,rfl,rfl,C,o⟩:=hrel;by_cases I:k<ll.length;·(
 have HC:=oH (AV S _ ll k wr (HV.out wr C) a1.out I);have HA:=J2 C o;clear C o;go_wp2_with fail;refine HC.out.mono ?_;rintro e w1 ⟨rfl,J⟩;have R:=oH (HA.1.trans J);clear J;by_cases he:xE ll k
 ·rw[av he];have HE:=oH he;clear he;go_wp2_with fail;go_roundg (ll.length-(k+1))
  ·refine⟨k+1,by omega,rfl,by go_num,R.out,fun i hi=>?_⟩
   by_cases e:i=k;·subst e;exact HE.out
   exact HA.2 i (by omega)
  omega
 rw[au he];have HY:=oH (show cV (iN ll) ll.length=k from lO I (fun j hj h=>h.2 (HA.2 j hj)) ⟨I,he⟩);clear he;go_wp2_with fail;go_ret;exact⟨by rw[HY.out]<;>rfl,R.out⟩)
 obtain rfl:k=ll.length:=by omega
 have HY:=oH (show cV (iN ll) ll.length= -1 from hZ fun j hj h=>h.2 (o j hj));have R:=oH C;clear o C;go_wp2_with fail;go_ret;exact⟨by rw[HY.out]<;>rfl,R.out⟩
noncomputable def Kf (ll:List (List Int))(x k:Nat):Bool:=pB (gA (dH ll) x k)
noncomputable def LP (ll:List (List Int))(x:Nat):List Bool:=(List.range ll.length).map (Kf ll x)
theorem ry {ll:List (List Int)}{x k:Nat}:Kf ll x k=true↔gA (dH ll) x k:=by
 unfold Kf;by_cases h:gA (dH ll) x k;·rw[av h];simp[h]
 rw[au h];simp[h]
theorem KK {ll:List (List Int)}{x k:Nat}{p:Nat→Bool}(h:p k=true↔gA (dH ll) x k):p k=Kf ll x k:=by rw[Bool.eq_iff_iff,h,ry]
theorem JF {ll:List (List Int)}(h:aP ll){x b:Nat}(o:gA (dH ll) x b):b<ll.length:=by
 induction o with
 |zero _=>have:=h.1;omega
 |step _ e _ j=>have:=gw h j _ ((kQ j).1 e);omega
def Kc (ll:List (List Int))(o:Nat)(C p:Nat→Bool)(again:Bool)(i:Nat):Prop:=
 p 0=true∧(∀k,p k=true→gA (dH ll) o k)∧(∀k,C k=true→p k=true)∧(again=true→unv ll.length p<unv ll.length C)∧
 (again=false→∀a,a<i→p a=true→∀j,dH ll a j→j≠o→p j=true)
theorem Ew (S:Nat→Prop)(v:Value)(ll:List (List Int))(nx:Nat)(w:World)(hv:Rows S w v ll)(hR:aP ll)(e1:nx≠0):
 Calls prog 98 #[v,.int .i64 0,.int .i64 nx] w fun e w'=>∃u,e=.returned u∧aa All w w'∧gD (fun b=>w.heap.size≤b) w' u (LP ll nx):=by
 obtain⟨a,cap,rfl,h1,h2,e2,h⟩:=hv;have H:=oH h;have hl:ll.length≤256:=hR.2.1;have HR:=oH hR;clear h h1 h2 e2 hR;have e3:=fun w=>iy ll.length (by omega) w;have hf:0<ll.length:=by have:=HR.1;omega
 have e4:((0:Int)==(nx:Int))=false:=by rw[bE];omega
 have a1:(az ll.length fun _=>false)[0]? =some (.bool false):=bj hf;have c9:(az ll.length fun _=>false).setIfInBounds 0 (.bool true)=az ll.length (nX (fun _=>false) 0):=dg (dF _ _) (fun j _ hj=>fd hj);go_enter func98,ntmps98;go_wp2;clear a1 c9 e3 e4
 go_loopg [8] (2*unv ll.length (nX (fun _=>false) 0)+1) (fun g ag wr=>∃(p:Nat→Bool) (again:Bool),ag=.bool again∧g=2*unv ll.length p+(if again then 1 else 0)∧al wr w.heap.size 4 (az ll.length p)∧aa All w wr∧
  p 0=true∧(∀k,p k=true→gA (dH ll) nx k)∧(again=false→∀a,a<ll.length→p a=true→∀j,dH ll a j→j≠nx→p j=true))
 case atStart=>
  refine⟨nX (fun _=>false) 0,true,rfl,rfl,al.new _ _ _,kR.alloc _,dF _ _,fun k hk=>?_,fun h=>by cases h⟩;by_cases e:k=0;·subst e;exact .zero e1
  rw[fd e] at hk;cases hk
 obtain⟨p0,again,rfl,rfl,C,o,b5,b6,c6⟩:=hrel;cases again with
 |false=>
  have c3:∀k,k<ll.length→p0 k=Kf ll nx k:=by(
 intro k hk;apply KK;refine⟨b6 k,fun hr=>?_⟩;have key:∀k,gA (dH ll) nx k→p0 k=true:=by
  intro k h;induction h with
  |zero _=>exact b5
  |step e5 e hn ih=>exact c6 rfl _ (JF HR.out e5) ih _ e hn
 exact key k hr)
  have d7:=oH c3;clear c3 c6 b6 b5;go_wp2;go_ret;exact⟨_,rfl,o,iT C (cf _) hl d7.out⟩
 |true=>
  have HP:=J2 b5 b6;clear b5 b6 c6;go_wp2;obtain⟨wo,rfl⟩:=eQ wr;go_loopg [8,9] ll.length (fun g ag i wr=>∃(k:Nat) (p:Nat→Bool) (again:Bool),k≤ll.length∧g=ll.length-k∧i=.int .i64 k∧ag=.bool again∧al wr w.heap.size 4 (az ll.length p)∧aa All w wr∧Kc ll nx p0 p again k);·exact⟨0,p0,false,by omega,by omega,rfl,rfl,C,o,HP.1,HP.2,fun _ h=>h,(fun h=>by cases h),fun _ a ha=>by omega⟩
  clear C o;obtain⟨k,p,again,hk,rfl,rfl,rfl,C,o,I⟩:=hrel;have HQ:=oH I;clear I;by_cases b3:k<ll.length;·(
 obtain⟨b1,o1,c1,rfl,h0,c7,he⟩:=H.out k ll[k] (lG b3);obtain⟨ra,e9,rfl,r1,r2,_,rh⟩:=he;have d8:=o.cell (p:=⟨b1,o1+k,none⟩) trivial c7;have c4:=gw HR.out b3;have a6:=fun j=>kQ (j:=j) b3;have e6:ll[k].length≤256:=by have:=du (HR.2.2 _ (eL b3));omega
 have HG:=J4 c4 a6 rh c7;clear c4 a6 rh c7 r1 r2;generalize ll[k]=row at*;have R:wr.cell? ⟨w.heap.size,k,none⟩=some (.bool (p k)):=by rw[C.cell,bj b3]
 cases a8:p k with
 |false=>
  rw[a8] at R;have b7:=oH a8;clear a8;go_wp2;go_roundg (ll.length-(k+1))
  ·obtain⟨q1,q2,q3,q4,q5⟩:=HQ.out;refine⟨k+1,p,again,by omega,rfl,by go_num,rfl,C,o,q1,q2,q3,q4,fun h a ha b4=>?_⟩;by_cases e:a=k;·subst e;rw[b7.out] at b4;cases b4
   exact q5 h a (by omega) b4
  omega
 |true=>
  rw[a8] at R;have b7:=oH a8;clear a8;go_wp2;obtain⟨wp,rfl⟩:=eQ wr;clear R d8;go_loopg [8,10] row.length (fun g ag i wr=>∃(m:Nat) (q:Nat→Bool) (again:Bool),m≤row.length∧g=row.length-m∧i=.int .i64 m∧ag=.bool again∧al wr w.heap.size 4 (az ll.length q)∧aa All w wr∧Kc ll nx p0 q again k∧q k=true∧(again=false→∀(i:Nat) x,i<m→row[i]? =some x→x≠nx→q x.toNat=true));·exact⟨0,p,again,by omega,by omega,rfl,rfl,C,o,HQ.out,b7.out,fun _ i x hi=>by omega⟩
  clear C o HQ b7;obtain⟨m,q,again,hm,rfl,rfl,rfl,C,o,I,Y,J⟩:=hrel;have HQ:=J3 I Y J;clear I Y J;have d8:=o.cell (p:=⟨b1,o1+k,none⟩) trivial HG.2.2.2;by_cases a7:m<row.length;·(
 obtain⟨b2,o2,c2,rfl,h3,d9,rfl,h4⟩:=HG.2.2.1 m row[m] (lG a7);have h5:=o.cell (p:=⟨b2,o2+m,none⟩) trivial d9;obtain⟨x0,x1⟩:=HG.1 row[m] (eL a7);have c5:row[m]∈row:=eL a7;have a1:row[m]? =some row[m]:=lG a7;have HM:=J2 c5 a1;clear c5 a1 d9;generalize row[m]=x at*;obtain⟨j,rfl⟩:∃j:Nat,x=j:=⟨x.toNat,by omega⟩;have b8:j<ll.length:=by omega
 have R:wr.cell? ⟨w.heap.size,j,none⟩=some (.bool (q j)):=by rw[C.cell,bj b8]
 have e7:=C.free j;by_cases b9:j=nx;·(
 have e0:((j:Int) !=(nx:Int))=false:=by rw[gj];omega
 have HJ:=oH b9;clear b9;go_wp2;go_roundg (row.length-(m+1))
 ·obtain⟨I,Y,J⟩:=HQ.out;refine⟨m+1,q,again,by omega,rfl,by go_num,rfl,C,o,I,Y,fun h i x hi hx hn=>?_⟩;by_cases e:i=m
  ·subst e
   rw[HM.2] at hx;cases hx;exact absurd (by rw[HJ.out]) hn
  exact J h i x (by omega) hx hn
 omega)
 have e0:((j:Int) !=(nx:Int))=true:=by rw[bne_iff_ne];omega
 have HJ:=oH b9;clear b9;cases b0:q j with
 |true=>
  rw[b0] at R;have c8:=oH b0;clear b0;go_wp2;go_roundg (row.length-(m+1));·(
 obtain⟨I,Y,J⟩:=HQ.out;refine⟨m+1,q,again,by omega,rfl,by go_num,rfl,C,o,I,Y,fun h i x hi hx hn=>?_⟩;by_cases e:i=m
 ·subst e
  rw[HM.2] at hx;cases hx;rw[dP];exact c8.out
 exact J h i x (by omega) hx hn)
  omega
 |false=>
  rw[b0] at R;have c8:=oH b0;clear b0;go_wp2;go_roundg (row.length-(m+1));·(
 obtain⟨⟨q1,q2,q3,q4,q5⟩,Y,J⟩:=HQ.out;have a6:dH ll k j:=(HG.2.1 j).2 HM.1;refine⟨m+1,nX q j,true,by omega,rfl,by go_num,rfl,?_,o.setCell (p:=⟨w.heap.size,j,none⟩) (.inr (cf _)) _,⟨je _ _ _ q1,fun a ha=>?_,fun a ha=>je _ _ _ (q3 a ha),fun _=>?_,fun h=>by cases h⟩,je _ _ _ Y,fun h=>by cases h⟩
 ·rw[←dg (p:=q) (i:=j) (b:=true) (dF _ _) (fun i _ hi=>fd hi)]
  exact C.set _ _
 ·by_cases e:a=j
  ·subst e;exact .step (q2 k Y) a6 HJ.out
  rw[fd e] at ha;exact q2 a ha
 exact Nat.lt_of_lt_of_le (jj _ b8 c8.out) (ly _ fun a _ ha=>q3 a ha))
  omega)
  go_wp2;go_roundg (ll.length-(k+1))
  ·obtain⟨⟨q1,q2,q3,q4,q5⟩,Y,J⟩:=HQ.out;refine⟨k+1,q,again,by omega,rfl,by go_num,rfl,C,o,q1,q2,q3,q4,fun h a ha b4 j hj b8=>?_⟩;by_cases e:a=k;·subst e;have e8:=(HG.2.1 j).1 hj;obtain⟨i,hi,hx⟩:=List.getElem_of_mem e8;have:=J h i (j:Int) (by omega) (by rw[lG hi,hx]) (by omega);rwa [dP] at this
   exact q5 h a (by omega) b4 j hj b8
  omega)
  cases c0:again with
  |true=>
   rw[c0] at HQ;clear c0;go_wp2;go_roundg (2*unv ll.length p+1)
   case measure=>have:=HQ.2.2.2.1 rfl;simp;omega
   case rel=>exact⟨p,true,rfl,rfl,C,o,HQ.1,HQ.2.1,fun h=>by cases h⟩
  |false=>
   rw[c0] at HQ;clear c0;go_wp2;go_roundg (2*unv ll.length p)
   case measure=>have:=ly ll.length (fun a _ ha=>HQ.2.2.1 a ha);simp;omega
   case rel=>exact⟨p,false,rfl,rfl,C,o,HQ.1,HQ.2.1,fun h a ha=>HQ.2.2.2.2 h a (by omega)⟩
theorem JG {E:Nat→Nat→Prop}{x k:Nat}(h:gA E x k):k≠x:=by
 cases h with
 |zero h=>exact fun e=>h e.symm
 |step _ _ h=>exact h
theorem Lx {E:Nat→Nat→Prop}{k:Nat}(h:gA E 0 k):False:=by
 induction h with
 |zero h=>exact h rfl
 |step _ _ _ j=>exact j
theorem Ev (S:Nat→Prop)(v:Value)(ll:List (List Int))(j:Nat)(w:World)(C:Rows S w v ll)(I:aP ll):
 Calls prog 98 #[v,.int .i64 0,.int .i64 j] w fun e J=>∃u,e=.returned u∧aa All w J∧gD (fun b=>w.heap.size≤b) J u (LP ll j):=by
 by_cases R:j=0
 ·subst R;obtain⟨a,cap,rfl,Y,h2,o,h⟩:=C;have hl:ll.length≤256:=I.2.1;have a1:=fun w=>iy ll.length (by omega) w;clear h Y h2 o;go_enter func98,ntmps98;go_wp2_with fail;go_ret;refine⟨_,rfl,kR.alloc _,iT (al.new _ _ _) (cf _) hl fun k _=>?_⟩;cases hb:Kf ll 0 k with
  |false=>rfl
  |true=>exact(Lx (ry.1 hb)).elim
 exact Ew S v ll j w C I R
theorem KL {ll:List (List Int)}{a b:Nat}(j:b<ll.length):(LP ll a)[b]? =some (Kf ll a b):=by unfold LP;rw[cL,ln j];rfl
theorem yX (S:Nat→Prop)(v:Value)(ll:List (List Int))(a b:Nat)(w:World)(j:Rows S w v ll)(C:aP ll)(hb:b<ll.length):
 Calls prog 102 #[v,.int .i64 a,.int .i64 b] w fun e w'=>e=.returned (.bool (pB (¬gA (dH ll) a b)))∧aa All w w':=by
 have hW:=Ev S v ll a w j C;have a1:=C.2.1;obtain⟨A,cap,rfl,h1,h2,h3,h⟩:=j;have HC:=oH hW;clear hW h C;by_cases e:a=b
 ·have t:((a:Int)==(b:Int))=true:=by rw[cy];omega
  have Y:=oH (show¬gA (dH ll) a b from fun h=>JG h e.symm);clear e;go_enter func102,ntmps102;go_wp2_with fail;go_ret;exact⟨by rw[av Y.out]<;>rfl,kR⟩
 have t:((a:Int)==(b:Int))=false:=by rw[bE];omega
 clear e;go_enter func102,ntmps102;go_wp2_with fail;refine HC.out.mono ?_;rintro e w1 ⟨u,rfl,I,hB⟩;obtain⟨RA,rc,rfl,r1,r2,r3,C⟩:=hB;unfold maxLen at r2;have o:(LP ll a).length=ll.length:=by simp[LP]
 rw[o];obtain⟨xb,xo,c,rfl,J,R,rfl⟩:=C b _ (KL hb);have HK:=oH I;clear C I r1 r3 o;cases j:Kf ll a b with
 |true=>rw[j] at R;have HN:=oH (show¬¬gA (dH ll) a b from fun h=>h (ry.1 j));clear j J;go_wp2_with fail;go_ret;exact⟨by rw[au HN.out]<;>rfl,HK.out⟩
 |false=>rw[j] at R;have Y:=oH (show¬gA (dH ll) a b from fun h=>by rw[ry.2 h] at j;cases j);clear j J;go_wp2_with fail;go_ret;exact⟨by rw[av Y.out]<;>rfl,HK.out⟩
def Ij (b:aw)(v:Int)(w:World)(e:Ending)(j:World):Prop:=∃x y:Int,e=.returned (.tuple #[.int .i64 x,.int .i64 y])∧((x= -1∧y= -1∧∀i k,¬jF b v i k)∨∃i k:Nat,x=i∧y=k∧jF b v i k)∧aa All w j
theorem yW (S:Nat→Prop)(bv:Value)(b:aw)(v:Int)(w:World)(hb:bW S w bv b.Ng):
 Calls prog 101 #[.agg #[.int .i64 b.params,.int .i64 b.vars,bv],.int .i64 v] w (Ij b v w):=by
 have Y:=bg.la hb;obtain⟨B1,d1,rfl,m5,m6,m7,_⟩:=hb;unfold maxLen at*;obtain⟨W0,C⟩:=eQ (w.alloc (.cells #[.int .i64 b.params,.int .i64 b.vars,.slice B1 b.Ng.length d1] 35));have I:=aC1 C;have bB:=aA0 C;obtain⟨b0,b1,b2⟩:=bB.c3;have HW:=J3 C I (Y W0 I);clear C I bB Y;go_enter func101,ntmps101;go_upto_region 1 with fail;rw[←HW.1];go_wp2_with fail;go_loopg [6,7] b.Ng.length (fun g s6 s7 wr=>∃j:Nat,j≤b.Ng.length∧g=b.Ng.length-j∧s6=.int .i64 j∧wr=W0∧∀(i k:Nat),i<j→¬jF b v i k);·exact⟨0,by omega,by omega,rfl,rfl,fun i k hi=>by omega⟩
 obtain⟨j,hj,rfl,rfl,hw,o⟩:=hrel;have J:=hw.symm;subst J;by_cases a8:j<b.Ng.length;·(
 obtain⟨l,hl⟩:=eG a8;obtain⟨rb,ro,rv,rfl,b3,b8,R⟩:=bn HW.2.2 hl;obtain⟨LA,lc,rfl,l1,l2,l3,_⟩:=id R;unfold maxLen at l2;have HA:=J3 o hl R;clear o hl R b3;go_wp2_with fail;go_loopg [7] l.length (fun g s7 wr=>∃k:Nat,k≤l.length∧g=l.length-k∧s7=.int .i64 k∧wr=W0∧∀(i:Nat) x,i<k→l[i]? =some x→x.dst≠v);·exact⟨0,by omega,by omega,rfl,rfl,fun i x hi=>by omega⟩
 obtain⟨k,hk,rfl,rfl,hw,o⟩:=hrel;have J:=hw.symm;subst J;by_cases a1:k<l.length;·(
 obtain⟨x,hx⟩:=eG a1;obtain⟨xb,xo,b9,rfl,b4,a6,a7,xa,xf,rfl,b5,b6,b7⟩:=aZ HA.2.2 hx;have z2:=a7 2 _ rfl;have HX:=J2 o hx;clear o hx a7 b5 b6 b7 a6 b4;by_cases e:x.dst=v
 ·have t:(x.dst==v)=true:=by rw[cy];exact e
  have HY:=oH (show jF b v j k from⟨l,x,HA.2.1,HX.2,e⟩);clear e;go_wp2_with fail;go_ret2;exact⟨j,k,rfl,.inr ⟨j,k,rfl,rfl,HY.out⟩,HW.2.1⟩
 have t:(x.dst==v)=false:=by rw[bE];exact e
 have HE:=oH e;clear e;go_wp2_with fail;go_roundg (l.length-(k+1))
 ·refine⟨k+1,by omega,rfl,by go_num,rfl,fun i z hi hz=>?_⟩
  by_cases e:i=k;·subst e;rw[HX.2] at hz;cases hz;exact HE.out
  exact HX.1 i z (by omega) hz
 omega)
 obtain rfl:k=l.length:=by omega
 have HN:=oH o;clear o;go_wp2_with fail;go_roundg (b.Ng.length-(j+1))
 ·refine⟨j+1,by omega,rfl,by go_num,rfl,fun i k hi=>?_⟩
  by_cases e:i=j;·subst e;rintro⟨l',x,h1,h2,h3⟩;rw[HA.2.1] at h1;cases h1;exact HN.out k x (lS.1 h2).1 h2 h3
  exact HA.1 i k (by omega)
 omega)
 obtain rfl:j=b.Ng.length:=by omega
 have HN:=oH (show∀i k,¬jF b v i k from fun i k h=>by obtain⟨l,x,h1,_⟩:=id h;exact o i k (lS.1 h1).1 h);clear o;go_wp2_with fail;go_ret2;exact⟨-1,-1,rfl,.inl ⟨rfl,rfl,HN.out⟩,HW.2.1⟩
theorem qs {b:aw}{v:Int}{i k blk:Nat}(o:gY b)(C:v≠-1)(I:¬v<b.params)(h:jF b v i k):jl b v blk↔¬gA (dH (bM b)) i blk:=by
 constructor
 ·rintro(j|⟨J,k',j,R⟩)
  ·exact absurd j I
  obtain⟨rfl,rfl⟩:=o.once v i k J k' C h j;exact R
 exact fun j=>.inr ⟨i,k,h,j⟩
theorem Aa {b:aw}{v:Int}{blk:Nat}(o:¬v<b.params)(h:∀i k,¬jF b v i k):¬jl b v blk:=by
 rintro(j|⟨C,k',j,I⟩);·exact o j
 exact h _ _ j
theorem tP {b:aw}{v:Int}{i k blk n:Nat}(o:gY b)(C:v≠-1)(I:¬v<b.params)(h:jF b v i k):iP b v blk n↔if i=blk then k<n else¬gA (dH (bM b)) i blk:=by
 constructor
 ·rintro(j|⟨J,k',j,R⟩)
  ·exact absurd j I
  obtain⟨rfl,rfl⟩:=o.once v i k J k' C h j;exact R
 exact fun j=>.inr ⟨i,k,h,j⟩
theorem zw {b:aw}{v:Int}{blk n:Nat}(o:¬v<b.params)(h:∀i k,¬jF b v i k):¬iP b v blk n:=by
 rintro(j|⟨C,k',j,I⟩);·exact o j
 exact h _ _ j
theorem AW (S T:Nat→Prop)(bv tv:Value)(b:aw)(v:Int)(blk:Nat)(w:World)(hb:bW S w bv b.Ng)(ht:Rows T w tv (bM b))(hB:gY b)(h0:v≠-1)(hk:blk<b.Ng.length):
 Calls prog 100 #[.agg #[.int .i64 b.params,.int .i64 b.vars,bv],tv,.int .i64 v,.int .i64 blk] w fun e w'=>e=.returned (.bool (pB (jl b v blk)))∧aa All w w':=by
 have hG:=oH hB;have J:=bg.la hb;have HT:=oH (aq.la ht);obtain⟨B1,d1,rfl,m5,m6,m7,_⟩:=hb;obtain⟨TA,tc,rfl,_⟩:=ht;unfold maxLen at*;obtain⟨W0,j⟩:=eQ (w.alloc (.cells #[.int .i64 b.params,.int .i64 b.vars,.slice B1 b.Ng.length d1] 35));have o:=aC1 j;have bB:=aA0 j;obtain⟨b0,b1,b2⟩:=bB.c3;have C:=J4 j o (yW S _ b v W0 (J W0 o)) True.intro;clear j o bB J hB;go_enter func100,ntmps100;go_upto_region 1 with fail;rw[←C.1];by_cases I:v<b.params
 ·have t:decide (v<b.params)=true:=by simpa using I
  have HY:=oH (show jl b v blk from .inl I);clear I;go_wp2_with fail;go_ret;exact⟨by rw[av HY.out]<;>rfl,C.2.1⟩
 have t:decide (v<b.params)=false:=by simpa using I
 have HP:=oH I;clear I;go_wp2_with fail;refine C.2.2.1.mono ?_;rintro e w1 ⟨x,y,rfl,hd,R⟩;have HK:=oH R;clear R;rcases hd with ⟨rfl,rfl,hn⟩|⟨i,k,rfl,rfl,hd⟩;·have HN:=oH (Aa (blk:=blk) (by have:=HP.out;omega) hn);clear hn;go_wp2_with fail;go_ret;exact⟨by rw[au HN.out]<;>rfl,C.2.1.trans HK.out⟩
 have HD:=oH (qs (blk:=blk) hG.out h0 (by have:=HP.out;omega) hd);have HC:=oH (yX T _ (bM b) i blk w1 (HT.out w1 (C.2.1.trans HK.out)) (qam hG.out) (by rw[cS];exact hk));clear hd;go_wp2_with fail;refine HC.out.mono ?_;rintro e w2 ⟨rfl,Y⟩;have a1:=oH Y;clear Y;go_wp2_with fail;go_ret;exact⟨by rw[kC HD.out]<;>rfl,(C.2.1.trans HK.out).trans a1.out⟩
theorem zj (S T:Nat→Prop)(bv tv:Value)(b:aw)(v:Int)(blk n:Nat)(w:World)(hb:bW S w bv b.Ng)(ht:Rows T w tv (bM b))(hB:gY b)(h0:v≠-1)(hk:blk<b.Ng.length):
 Calls prog 47 #[.agg #[.int .i64 b.params,.int .i64 b.vars,bv],tv,.int .i64 v,.int .i64 blk,.int .i64 n] w fun e w'=>e=.returned (.bool (pB (iP b v blk n)))∧aa All w w':=by
 have hG:=oH hB;have Y:=bg.la hb;have HT:=oH (aq.la ht);obtain⟨B1,d1,rfl,m5,m6,m7,_⟩:=hb;obtain⟨TA,tc,rfl,_⟩:=ht;unfold maxLen at*;obtain⟨W0,j⟩:=eQ (w.alloc (.cells #[.int .i64 b.params,.int .i64 b.vars,.slice B1 b.Ng.length d1] 35));have o:=aC1 j;have bB:=aA0 j;obtain⟨b0,b1,b2⟩:=bB.c3;have C:=J4 j o (yW S _ b v W0 (Y W0 o)) True.intro;clear j o bB Y hB;go_enter func47,ntmps47;go_upto_region 1 with fail;rw[←C.1];by_cases J:v<b.params
 ·have t:decide (v<b.params)=true:=by simpa using J
  have HY:=oH (show iP b v blk n from .inl J);clear J;go_wp2_with fail;go_ret;exact⟨by rw[av HY.out]<;>rfl,C.2.1⟩
 have t:decide (v<b.params)=false:=by simpa using J
 have HP:=oH J;clear J;go_wp2_with fail;refine C.2.2.1.mono ?_;rintro e w1 ⟨x,y,rfl,hd,a1⟩;have HK:=oH a1;clear a1;rcases hd with ⟨rfl,rfl,hn⟩|⟨i,k,rfl,rfl,hd⟩
 ·have HN:=oH (zw (blk:=blk) (n:=n) (by have:=HP.out;omega) hn);have t2:((-1:Int)==(blk:Int))=false:=by rw[bE];omega
  clear hn;go_wp2_with fail;go_ret;exact⟨by rw[au HN.out]<;>rfl,C.2.1.trans HK.out⟩
 have R:=tP (blk:=blk) (n:=n) hG.out h0 (by have:=HP.out;omega) hd;by_cases e:i=blk
 ·rw[ap e] at R;have HD:=J2 R e;have t2:((i:Int)==(blk:Int))=true:=by rw[cy];omega
  clear hd R e;go_wp2_with fail;go_ret;refine⟨?_,C.2.1.trans HK.out⟩;by_cases I:k<n;·rw[av (HD.1.2 I)];simp[I]
  rw[au fun h=>I (HD.1.1 h)];simp;omega
 rw[ae e] at R;have HD:=oH R;have t2:((i:Int)==(blk:Int))=false:=by rw[bE];omega
 have HC:=oH (yX T _ (bM b) i blk w1 (HT.out w1 (C.2.1.trans HK.out)) (qam hG.out) (by rw[cS];exact hk));clear hd R e;go_wp2_with fail;refine HC.out.mono ?_;rintro e w2 ⟨rfl,a6⟩;have a7:=oH a6;clear a6;go_wp2_with fail;go_ret;exact⟨by rw[kC HD.out]<;>rfl,(C.2.1.trans HK.out).trans a7.out⟩
end Go.Proofs.YtccbbkopmlnkpaaGreatDoor
