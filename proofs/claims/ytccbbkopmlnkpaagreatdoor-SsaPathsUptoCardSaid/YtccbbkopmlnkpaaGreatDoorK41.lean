/- Part 42 of the proof (its last part says what is proved). No condition. -/
import Derived.Test.YtccbbkopmlnkpaaGreatDoorK40
namespace Go.Proofs.YtccbbkopmlnkpaaGreatDoor
set_option maxRecDepth 100000
set_option maxHeartbeats 8000000
open Go.RowKit Go.Proofs.Tryz
def NP (S:Nat→Prop)(w:World)(v:Value)(p:aI)(c:aU)(fn:Int)(tl0:List Bool):Prop:=
 ∃a1 a2 a3 a4 a5 a6 a7 a8 a9,v=.agg #[a1,a2,a3,a4,a5,a6,a7,a8,.int .i64 fn,a9]∧gR S w (.agg #[a1,a2,a3,a4,a5]) p∧mu S w (.agg #[a6,a7,a8]) c∧aS fn∧qO S w a9 tl0
theorem NH {b:av}{l:List bI}{x:bI}{blk i:Nat}(J:jt b)(hs:kv (l.map fun x=>x.kind))(R:b.Nm[blk]? =some l)(Y:l[i]? =some x):
 (x.kind=11∨x.kind=12→∃o:Nat,x.ref=o∧o<b.Nm.length∧fd (aM b) blk o)∧(x.kind=12→∃o:Nat,x.No=o∧o<b.Nm.length∧fd (aM b) blk o):=by
 have he:11≤x.kind→iM l=x:=fun h=>by have h1:=(hs.2.1 i x.kind (by rw[cy,Y];rfl)).1 h;rw[aZ] at h1;unfold iM;rw[←h1,Nat.add_sub_cancel,iL,Y];rfl
 have hm:=mG R;have C:=J.ref l hm;have ha:=J.No l hm;have j:(aM b)[blk]? =some (iV (iM l)):=by unfold aM;rw[cy,R];rfl
 refine⟨fun h=>?_,fun h=>?_⟩
 ·have e:=he (by omega);rw[e] at C j;have h2:=C h;refine⟨x.ref.toNat,by omega,by omega,_,j,?_⟩;rw[show((x.ref.toNat:Nat):Int)=x.ref by omega];unfold iV;split;·exact List.mem_cons_self ..
  rw[am (by omega)];exact List.mem_cons_self ..
 have e:=he (by omega);rw[e] at C ha j;have h2:=ha h;refine⟨x.No.toNat,by omega,by omega,_,j,?_⟩;rw[show((x.No.toNat:Nat):Int)=x.No by omega];unfold iV;by_cases I:x.No=x.ref;·rw[ah (fun h'=>h'.2 I),am (.inl h),I];exact List.mem_cons_self ..
 rw[am ⟨h,I⟩];exact List.mem_cons_of_mem _ (List.mem_cons_self ..)
def NC (th:List Bool):Array Value:=(th.map Value.bool).toArray
theorem Nz {th:List Bool}{i:Nat}{b:Bool}(h:th[i]? =some b):(NC th)[i]? =some (.bool b):=by unfold NC;rw[List.getElem?_toArray,cy,h];rfl
theorem NB (th:List Bool)(i:Nat):(NC th).setIfInBounds i (.bool true)=NC (th.set i true):=by unfold NC;simp[List.map_set]
theorem NJ (n:Nat):aQ n (fun _=>false)=NC (List.replicate n false):=by
 unfold aQ NC;congr 1;apply List.ext_getElem?;intro i;simp only[cy,List.getElem?_replicate];by_cases h:i<n;·rw[nZ h,am h];rfl
 rw[kS (by simpa using h),ah h];rfl
def NR (b:av)(blk:Nat)(nx:Int):Prop:=nx= -1∨∃nb:Nat,nx=nb∧nb<b.Nm.length∧fd (aM b) blk nb
theorem NQ {p:aI}{c:aU}{b:av}(h:ox p c b){l:List bI}{x:bI}(j:l∈b.Nm)(o:x∈l):∃next,0≤next∧ul p c b next x:=by obtain⟨J,_,_,_,_,C,_⟩:=h;obtain⟨k,I⟩:=fB.1 (List.mem_flatten.2 ⟨l,j,o⟩);exact⟨_,by omega,C k x I⟩
theorem NL {p:aI}{c:aU}{b:av}(h:ox p c b){l:List bI}{x:bI}(C:l∈b.Nm)(I:x∈l)(j:11≤x.kind):x.dst= -1:=by
 obtain⟨next,_,n,d,r,a,o,J,_⟩:=NQ h C I;have:d=false:=by(
 generalize x.kind=k at o j
 match k,j with
 |11,_=>cases o;rfl
 |12,_=>cases o;rfl
 |13,_=>cases o;rfl
 |k+14,_=>cases o)
 subst this;exact J
theorem NO {p:aI}{c:aU}{b:av}(h:ox p c b){l:List bI}{x:bI}(o:l∈b.Nm)(C:x∈l)(j:x.kind=3):0≤x.dst∧x.dst<b.vars:=by
 obtain⟨next,I,J⟩:=NQ h o C;have R:cD x=true:=by unfold cD;rw[j];rfl
 have Y:=(yd J I).2.1 R;have h2:=(Kd h).par.1;rcases (Kd h).dst l o x C with j|j;·exact absurd j Y
 exact⟨by omega,j.2⟩
theorem qr {kinds:List Nat}(h:kv kinds):∀ {i:Nat},kinds[i]? =some 3→∀k,k≤i→kinds[k]? =some 3
 |0,hi,k,j=>by rw[show k=0 by omega];exact hi
 |i+1,hi,k,j=>by
  by_cases e:k=i+1;·rw[e];exact hi
  exact qr h (h.2.2 i hi) k (by omega)
theorem NA {th:List Bool}{n:Nat}(h:Bs th (n:Int)):th[n]? =some true:=by have:=h (by omega);rwa [fD] at this
theorem NI {L:List (List bI)}{l:List bI}(h:l∈L):l.length≤L.flatten.length:=by rw[List.length_flatten];exact sJ (dt.2 ⟨l,h,rfl⟩)
theorem ND {S:Nat→Prop}{w wn:World}{v:Value}{l:List Bool}(h:qO S w v l)(k:aa (fun g=>g<w.heap.size) w wn):qO S wn v l:=by obtain⟨a,cap,o,C,I,J,h⟩:=h;refine⟨a,cap,o,C,I,J,fun i x R=>?_⟩;obtain⟨b,off,c,e,Y,j,he⟩:=h i x R;exact⟨b,off,c,e,Y,k.cell (p:=⟨b,off+i,none⟩) (gx _ _ j) j,he⟩
theorem NG (w:World):(zeroValue 35).run prog w=.ok (.agg #[.int .i64 0,.int .i64 0,.slice none 0 0]) w:=by kernel_rfl
theorem pk.keepLow {w j:World}(h:pk w)(k:aa (fun b=>b<w.heap.size) w j):pk j:=by obtain⟨m,hm⟩:=h;exact⟨m,k.cell (p:=⟨0,0,none⟩) (gx _ _ hm) hm⟩
theorem NF (S:Nat→Prop)(xv:Value)(p:aI)(c:aU)(fn:Int)(a7:List Bool)(w:World)(hx:NP S w xv p c fn a7)(hl:cP w)(hm:pk w)(hS:∀b,S b→b<w.heap.size)(p3:jU p)(p4:iH c)(k5:il c):
 Calls prog 5 #[xv] w (Ik w):=by
 have hN:=vt (p:=p) names k5;obtain⟨F1,vu,vi,vo,vd,ka,kf,km,vt,rfl,hp,hc,z7,ht⟩:=hx;have p5:=bG.la hp;have l9:=fJ.la hc;have p6:=uZ.la ht;obtain⟨_,_,_,_,e9,z8,A0,A4,A5,A6⟩:=hp;cases e9;obtain⟨a1,n1,rfl,_⟩:=z8;obtain⟨a2,n2,rfl,_⟩:=A0;obtain⟨a3,n3,rfl,_⟩:=A4;obtain⟨a4,n4,rfl,_⟩:=A5;obtain⟨_,_,e9,A7,p7,A8⟩:=hc;cases e9;have p8:=cE.la p7;obtain⟨A1,c1,rfl,_⟩:=A7;obtain⟨A2,c2,rfl,m4,m5,m6,_⟩:=p7;obtain⟨A3,c3,rfl,m7,m8,m9,_⟩:=ht;unfold maxLen at m5 m8;obtain⟨W0,h4⟩:=eQ (w.alloc (.cells #[.slice a1 p.Ng.length n1,.slice a2 p.up.length n2,.slice a3 p.Ni.length n3,.slice a4 p.Nh.length n4,.int .i64 p.Nj,.slice A1 c.Nk.length c1,.slice A2 c.Nl.length c2,.int .i64 c.main,.int .i64 fn,.slice A3 a7.length c3] 51));have b1:aa All w W0:=by rw[h4];exact kR.alloc _
 have bX:al W0 w.heap.size 51 #[.slice a1 p.Ng.length n1,.slice a2 p.up.length n2,.slice a3 p.Ni.length n3,.slice a4 p.Nh.length n4,.int .i64 p.Nj,.slice A1 c.Nk.length c1,.slice A2 c.Nl.length c2,.int .i64 c.main,.int .i64 fn,.slice A3 a7.length c3]:=by rw[h4];exact al.new _ _ _
 have n5:=oH (fun wn (C:aa All W0 wn)=>Ha S _ c wn (l9 wn (b1.trans C)));have n6:=oH (fun wn (C:aa (fun b=>b<W0.heap.size) W0 wn)=>Cy wn ((hl.keep b1).keepLow C) ((hm.keep b1).keepLow C));have A9:=oH (fun wn (C:aa All W0 wn)=>AW S _ _ p c wn (p5 wn (b1.trans C)) (l9 wn (b1.trans C)) (hl.keep (b1.trans C)) (fun b hb=>by have:=hS b hb;have:=(b1.trans C).size;omega) p3 p4 hN);have HC:=oH (fun wn (C:aa All W0 wn) (i:Nat) v (hi: #[.slice a1 p.Ng.length n1,.slice a2 p.up.length n2,.slice a3 p.Ni.length n3,.slice a4 p.Nh.length n4,.int .i64 p.Nj,.slice A1 c.Nk.length c1,.slice A2 c.Nl.length c2,.int .i64 c.main,.int .i64 fn,.slice A3 a7.length c3][i]? =some v)=>show wn.cell? ⟨w.heap.size,i,none⟩=some v from by rw[(bX.kept C trivial).cell i,hi]);have B0:=oH (fun wn (C:aa All W0 wn)=>p8 wn (b1.trans C));have B1:=oH (fun wn (C:aa All W0 wn)=>p6 wn (b1.trans C));have HW:=J2 h4 b1;have F2:w.heap.size<W0.heap.size:=bX.lt;clear h4 b1 bX p5 l9 p6 p8 A6 A8 hl hm hS p3 p4 hN k5 z7;go_enter func5,ntmps5;go_upto_region 1 with fail;rw[←HW.1];have e5:=HC.out W0 kR 5 _ rfl;have e6:=HC.out W0 kR 6 _ rfl;have e7:=HC.out W0 kR 7 _ rfl;have e9:=HC.out W0 kR 9 _ rfl;go_wp2_with fail;refine(n5.out W0 kR).mono ?_;rintro e w1 ⟨bf,rfl,_,p9⟩;clear e5 e6 e7 e9;have a8:=oH p9;clear p9;cases bf
 case false=>go_wp2_with fail;go_ret;exact⟨rfl,HW.2.trans a8.out⟩
 have e0:=HC.out w1 a8.out 0 _ rfl;have e1:=HC.out w1 a8.out 1 _ rfl;have e2:=HC.out w1 a8.out 2 _ rfl;have e3:=HC.out w1 a8.out 3 _ rfl;have e4:=HC.out w1 a8.out 4 _ rfl;have e5:=HC.out w1 a8.out 5 _ rfl;have e6:=HC.out w1 a8.out 6 _ rfl;have e7:=HC.out w1 a8.out 7 _ rfl;have e9:=HC.out w1 a8.out 9 _ rfl;by_cases E0:200<a7.length
 case pos=>
  have t200:decide ((a7.length:Int)>200)=true:=by simp;omega
  go_wp2_with fail;go_ret;exact⟨rfl,HW.2.trans a8.out⟩
 have t200:decide ((a7.length:Int)>200)=false:=by simp;omega
 go_wp2_with fail;refine(A9.out w1 a8.out).mono ?_;rintro e w2 ⟨rfl,n7⟩;clear e0 e1 e2 e3 e4 e5 e6 e7 e9;have b2:=oH (a8.out.trans n7);clear n7;by_cases c9:eT p c∧Bx c
 case neg=>(rw[az c9];clear c9;go_wp2_with fail;refine(n6.out w2 b2.out.all).mono ?_;rintro e w3 ⟨rfl,q0⟩;have B2:=oH (b2.out.trans q0);clear q0;go_wp2_with fail;go_ret;exact⟨rfl,HW.2.trans B2.out⟩)
 rw[aw c9];have n8:=oH c9;have q1:1≤c.Nl.length:=by have h1:=c9.1.2.2.2.1;have h2:=c9.1.2.2.2.2.1;omega
 have E1:c.Nl.length≤64:=c9.1.2.2.1;clear c9;have F3:IntKind.u64.wrap (c.Nl.length:Int)=(c.Nl.length:Int):=IntWalk.u64_in _ ⟨by omega,by omega⟩;obtain⟨xn,F4⟩:∃x:Nat,IntKind.u64.wrap fn=(x:Int):=⟨(IntKind.u64.wrap fn).toNat,by rw[IntKind.wrap_u64];omega⟩;have E2:¬c.Nl=[]:=fun h=>by rw[h] at q1;exact absurd q1 (by decide)
 obtain⟨i0,B3,F5⟩:∃i0:Nat,i0<c.Nl.length∧(xn:Int).tmod (c.Nl.length:Int)=(i0:Int):=⟨xn%c.Nl.length,Nat.mod_lt _ (by omega),(Int.ofNat_tmod _ _).symm⟩;have F6:IntKind.i64.wrap (i0:Int)=(i0:Int):=IntWalk.i64_in _ ⟨by omega,by omega⟩;obtain⟨b,hb⟩:=eG B3;obtain⟨gb,go,F7,rfl,_,_,j8,bv,rfl,q3,B4,i6⟩:=bh (B0.out w2 b2.out) hb;have k8:=cu.la q3;obtain⟨vA,vc,rfl,y1,y2,y3,_⟩:=q3;unfold maxLen at y2;have h6:=mG hb;have n9:=n8.1.2.2.2.2.2.2.2.1 b h6;have hG:=Kd n9;have q4:b.Nm.flatten.length≤4096:=dA (sJ (dt.2 ⟨b,h6,rfl⟩)) n8.1.2.2.2.2.2.2.2.2;have q5:=oH (Hc (n8.2 b h6));obtain⟨np,o0⟩:∃np:Nat,b.params=np:=⟨b.params.toNat,by have:=hG.par.1;omega⟩;obtain⟨nv,o1⟩:∃nv:Nat,b.vars=nv:=⟨b.vars.toNat,by have h1:=hG.num;have:=hG.par.1;omega⟩;have E3:nv≤10000:=by have h1:=hG.num;have h2:=hG.par.2;have h3:og b.Nm.flatten≤b.Nm.flatten.length:=List.length_filter_le _ _;omega
 have E4:np≤nv:=by have h1:=hG.num;omega
 have HZ:=oH (fun wn (C:aa All w2 wn)=>And.intro (show wn.cell? ⟨gb,go+i0*3,none⟩=some (.int .i64 np) from by rw[←o0];exact C.cell (p:=⟨gb,go+i0*3+0,none⟩) trivial (j8 0 _ rfl)) (And.intro (show wn.cell? ⟨gb,go+i0*3+1,none⟩=some (.int .i64 nv) from by rw[←o1];exact C.cell (p:=⟨gb,go+i0*3+1,none⟩) trivial (j8 1 _ rfl)) (show wn.cell? ⟨gb,go+i0*3+2,none⟩=some (.slice vA b.Nm.length vc) from C.cell (p:=⟨gb,go+i0*3+2,none⟩) trivial (j8 2 _ rfl))));have HG:=J4 hG n9 o0 o1;have q6:=hG.blk;have B5:=oH q4;clear h6 n9 hG q4 o0 o1;have HB:=J2 hb k8;clear hb k8 j8 B4 i6;go_upto_region 5 with fail;refine R1 16 w2 [3] (fun t v wn=>∃g,v=.pointer (some ⟨g,0,none⟩)∧w2.heap.size≤g∧al wn g 35 #[.int .i64 0,.int .i64 0,.slice none 0 0]) (fun i=>if i=15 then some (fun v=>∃g,v=.pointer (some ⟨g,0,none⟩)) else none) ?_;iterate 2 refine O0 ?_
 refine O3 (fun wn C hp=>by(have e6:=HC.out wn (b2.out.trans C) 6 _ rfl;go_simp;with_reducible rfl)) ?_;refine O0 ?_;refine O3 (fun wn C hp=>by(have e8:=HC.out wn (b2.out.trans C) 8 _ rfl;go_simp;with_reducible rfl)) ?_;iterate 3 refine O0 ?_
 refine O3 (fun wn C hp=>by(have e6:=HC.out wn (b2.out.trans C) 6 _ rfl;go_simp;with_reducible rfl)) ?_;iterate 2 refine O0 ?_
 iterate 3 refine O3 (fun wn C hp=>by(skip;go_simp<;>with_reducible rfl)) ?_
 refine O4 HZ.out ?_;refine O6 (fun wn C hp=>?_) (fun wn C hp=>?_) ?_
 ·have hz:=NG wn
  go_simp;exact⟨rfl,⟨_,rfl⟩,C.alloc _,fun t _ v h=>(by obtain⟨g9,e9,h1,h2⟩:=h;exact⟨g9,e9,h1,h2.alloc _⟩),fun d hd _=>by cases hd;exact⟨_,rfl,C.size,al.new _ _ _⟩⟩
 ·exact⟨.pointer (some ⟨wn.heap.size,0,none⟩),wn.alloc (.cells #[.int .i64 0,.int .i64 0,.slice none 0 0] 35),⟨_,rfl⟩,C.alloc _,fun t _ v h=>(by obtain⟨g9,e9,h1,h2⟩:=h;exact⟨g9,e9,h1,h2.alloc _⟩),fun d hd _=>by cases hd;exact⟨_,rfl,C.size,al.new _ _ _⟩⟩
 rintro v ⟨bb,rfl⟩;simp only[PS];refine aD fun wt q7 hF=>?_;obtain⟨g9,e9,q8,i7⟩:=hF 3 (by decide) _ rfl;cases e9;have HT:=J3 q7 q8 i7;obtain⟨c0,c1,c2⟩:=i7.c3;have f0:=i7.free 0;have f1:=i7.free 1;have f2:=i7.free 2;clear q7 hF q8 i7;simp only[dK];go_upto_region 6 with fail;have i6:=((HT.2.2.set 0 (.int .i64 np)).set 1 (.int .i64 nv)).set 2 (.slice vA b.Nm.length vc);simp only[ga] at i6;have k2:=((HT.1.setCell (p:=⟨bb,0,none⟩) (.inr HT.2.1) (.int .i64 np)).setCell (p:=⟨bb,1,none⟩) (.inr HT.2.1) (.int .i64 nv)).setCell (p:=⟨bb,2,none⟩) (.inr HT.2.1) (.slice vA b.Nm.length vc);clear c0 c1 c2 f0 f1 f2;generalize World.setCell _ ⟨bb,2,none⟩ _=W5 at*;have d1:=i6.cell 1;simp only[gc] at d1;have q9:=pQ nv (by omega) W5;rw[NJ] at q9;have H5:=J2 k2 i6;clear k2 i6;go_upto_region 7 with fail;have k6:aa All W5 (W5.alloc (.cells (NC (List.replicate nv false)) 4)):=kR.alloc _;have b6:al (W5.alloc (.cells (NC (List.replicate nv false)) 4)) W5.heap.size 4 (NC (List.replicate nv false)):=al.new _ _ _;obtain⟨R,r0⟩:=eQ W5.heap.size;rw[←r0] at b6⊢;generalize W5.alloc _=W6 at*;clear q9;have F8:bb<R:=by have:=H5.2.lt;omega
 have F9:w.heap.size<R:=by have h1:=b2.out.size;have h2:=H5.1.size;omega
 have G0:w2.heap.size≤R:=by have h2:=H5.1.size;omega
 have j2:=oH (fun wn (C:aa (fun g=>g≠R) W6 wn)=>(H5.2.kept k6 trivial).kept C (show bb≠R by omega));have r3:=oH (fun wn (C:aa (fun g=>g≠R) W6 wn)=>cu.keep ((H5.1.trans k6).all.trans (C.mono fun g (hg:g<w2.heap.size)=>show g≠R by omega)) (vy (HB.2 w2 kR)));have B6:=oH (fun wn (C:aa (fun g=>g≠R) W6 wn)=>show wn.cell? ⟨w.heap.size,9,none⟩=some (.slice A3 a7.length c3)∧qO S wn (.slice A3 a7.length c3) a7 from by have k1:aa (fun g=>g<w2.heap.size) w2 wn:=(H5.1.trans k6).all.trans (C.mono fun g (hg:g<w2.heap.size)=>show g≠R by omega);have h1:=HC.out w2 b2.out 9 _ rfl;have h2:=B1.out w2 b2.out;exact⟨k1.cell (p:=⟨w.heap.size,9,none⟩) (gx _ _ h1) h1,ND h2 k1⟩);have h7:=oH (fun wn (C:aa (fun g=>g≠R) W6 wn)=>show aa (fun g=>g<W0.heap.size) W0 wn from b2.out.all.trans ((H5.1.trans k6).all.trans (C.mono fun g (hg:g<W0.heap.size)=>show g≠R by have h1:=b2.out.size;omega)));have H6:=oH b6;clear k6 b6 r0 d1;go_upto_region 8 with fail;go_loopg [5] np (fun g s5 wr=>∃(i:Nat) (th:List Bool),i≤np∧g=np-i∧s5=.int .i64 i∧th.length=nv∧(∀m:Nat,m<i→th[m]? =some true)∧aa (fun g=>g≠R) W6 wr∧al wr R 4 (NC th));·exact⟨0,_,by omega,by omega,rfl,List.length_replicate,fun m hm=>by omega,kR,H6.out⟩
 obtain⟨i,th,hi,B7,rfl,o,j9,b3,b0⟩:=hrel;obtain⟨wo,B8⟩:=eQ wr;subst B8;have a6:=j2.out wo b3;have c0:=a6.cell 0;simp only[gc] at c0;clear a6;have r4:=oH b3;clear b3;by_cases G1:i<np
 ·have hd:decide ((i:Int)<(np:Int))=true:=by rw[eq];omega
  obtain⟨tv,b4⟩:∃tv,th[i]? =some tv:=⟨_,lG (by omega)⟩;have t0:=b0.cell i;have f0:=b0.free i;rw[Nz b4] at t0;have k7:aa (fun g=>g≠R) wo (wo.setCell ⟨R,i,none⟩ (.bool true)):=kR.setCell (.inl fun h=>h rfl) _;have b7:=b0.set i (.bool true);rw[NB] at b7;have H7:=J3 (r4.out.trans k7) b7 j9;clear k7 b7 j9 b0 b4;go_wp2_with fail;go_roundg (np-(i+1))
  ·refine⟨i+1,th.set i true,by omega,rfl,by go_num,by rw[List.length_set];exact o,fun m hm=>?_,H7.1,H7.2.1⟩;rw[List.getElem?_set];by_cases e:i=m;·rw[am e,am (by omega)]
   rw[ah e];exact H7.2.2 m (by omega)
  omega
 obtain rfl:i=np:=by omega
 have hd:decide ((i:Int)<(i:Int))=false:=by simp
 have h4:=Nr (b:=b) (th:=th) (by rw[o,HG.2.2.2]) (fun v hv h0=>j9 _ (by rw[HG.2.2.1] at hv;omega));have HA:=J2 h4 b0;clear h4 b0 j9;go_upto_region 13 with fail;clear c0;go_loopg [6,7,8,9] 200 (fun g s6 s7 s8 s9 wr=>∃(n blk h8:Nat) (Nn:Int) (th:List Bool),g=200-n∧n≤200∧s6=.int .i64 blk∧s7=.int .i64 Nn∧s8=.int .i64 h8∧s9=.int .i64 n∧h8≤5000*n∧blk<b.Nm.length∧th.length=nv∧MI b th blk Nn∧aa (fun g=>g≠R) W6 wr∧al wr R 4 (NC th));·exact⟨0,0,0,-1,th,by omega,by omega,rfl,rfl,rfl,rfl,by omega,q6.1,o,HA.1,r4.out,HA.2⟩
 obtain⟨n,blk,h8,Nn,r5,G2,hn,rfl,rfl,rfl,rfl,G3,r6,o2,hW,b3,b0⟩:=hrel;obtain⟨wp,B9⟩:=eQ wr;subst B9;have j3:=J3 b3 b0 hW;clear b3 b0 hW;by_cases E5:n<200;·(
 have C0:decide ((n:Int)<200)=true:=by rw[eq];omega
 obtain⟨l,hl⟩:=eG r6;have k0:=mG hl;have r7:=HG.2.1.2.2.2.2.1 l k0;have G4:l.length≤4096:=dA (NI k0) B5.out;obtain⟨vb,vo,lv,rfl,r8,c8,o3⟩:=de (r3.out W6 kR) hl;obtain⟨LA,lc,rfl,l1,l2,l3,_⟩:=id o3;unfold maxLen at l2;have r9:vb≠R:=by have:vb<w2.heap.size:=r8;omega
 have k3:=oH (fun wn (C:aa (fun g=>g≠R) W6 wn)=>C.cell (p:=⟨vb,vo+blk,none⟩) r9 c8);have HL:=J4 hl k0 r7 o3;clear hl k0 r7 o3 c8 r8 r9;go_upto_region 17 with fail;go_loopg [8,10,11] l.length (fun g s8 C1 C2 wr=>∃(i t2:Nat) (nx:Int) (th:List Bool),i≤l.length∧g=l.length-i∧s8=.int .i64 t2∧C1=.int .i64 nx∧C2=.int .i64 i∧t2≤5000*n+i∧th.length=nv∧NR b blk nx∧qS r5 th∧Nq th l i∧aa (fun g=>g≠R) W6 wr∧al wr R 4 (NC th));·exact⟨0,h8,-1,r5,by omega,by omega,rfl,rfl,rfl,by omega,o2,.inl rfl,qS.refl _,Nu _ _,j3.1,j3.2.1⟩
 obtain⟨i,t2,nx,th,hi,B7,rfl,rfl,rfl,G5,o,s0,o4,s3,b3,b0⟩:=hrel;obtain⟨wq,C3⟩:=eQ wr;subst C3;have J:=J2 b3 b0;have j:=J4 s0 o4 s3 (j3.2.2.more o4);have a6:=j2.out wq b3;have q2:=a6.cell 2;simp only[gc] at q2;clear a6;have c8:=k3.out wq b3;clear b3 b0 s0 o4 s3;by_cases s4:i<l.length;·(
 have C4:decide ((i:Int)<(l.length:Int))=true:=by rw[eq];omega
 obtain⟨x,hx⟩:=eG s4;have u0:=mG hx;obtain⟨xb,xo,G6,rfl,u1,_,b8,xa,xf,rfl,u2,u3,_⟩:=bh HL.2.2.2 hx;have I:xb≠R:=by have:xb<w2.heap.size:=u1;omega
 have l0:=u2;have l4:=u3;obtain⟨xA,o5,rfl,v1,v2,v3,_⟩:=u2;obtain⟨xF,o6,rfl,v4,v5,v6,_⟩:=u3;unfold maxLen at v2 v5;have y0:=J.1.cell (p:=⟨xb,xo+i*9+0,none⟩) I (b8 0 _ rfl);rw[cJ] at y0;have y1:=J.1.cell (p:=⟨xb,xo+i*9+1,none⟩) I (b8 1 _ rfl);have y2:=J.1.cell (p:=⟨xb,xo+i*9+2,none⟩) I (b8 2 _ rfl);have y3:=J.1.cell (p:=⟨xb,xo+i*9+3,none⟩) I (b8 3 _ rfl);have y4:=J.1.cell (p:=⟨xb,xo+i*9+4,none⟩) I (b8 4 _ rfl);have y5:=J.1.cell (p:=⟨xb,xo+i*9+5,none⟩) I (b8 5 _ rfl);have y6:=J.1.cell (p:=⟨xb,xo+i*9+6,none⟩) I (b8 6 _ rfl);have y7:=J.1.cell (p:=⟨xb,xo+i*9+7,none⟩) I (b8 7 _ rfl);have y8:=J.1.cell (p:=⟨xb,xo+i*9+8,none⟩) I (b8 8 _ rfl);have HX:=J4 hx u0 l0 l4;clear hx u0 l0 l4 b8 u1;go_upto_region 21 with fail;have k9:aa All wq (wq.alloc (.cells #[.int .u8 x.kind,.int .u8 x.op,.int .i64 x.dst,.int .i64 x.ref,.int .i64 x.No,.slice xA x.args.length o5,.slice xF x.Nn.length o6,.int .i64 x.num,.int .i64 x.Np] 40)):=kR.alloc _;have b9:al (wq.alloc (.cells #[.int .u8 x.kind,.int .u8 x.op,.int .i64 x.dst,.int .i64 x.ref,.int .i64 x.No,.slice xA x.args.length o5,.slice xF x.Nn.length o6,.int .i64 x.num,.int .i64 x.Np] 40)) wq.heap.size 40 #[.int .u8 x.kind,.int .u8 x.op,.int .i64 x.dst,.int .i64 x.ref,.int .i64 x.No,.slice xA x.args.length o5,.slice xF x.Nn.length o6,.int .i64 x.num,.int .i64 x.Np]:=al.new _ _ _;obtain⟨ob,u4⟩:=eQ wq.heap.size;rw[←u4] at b9⊢;generalize wq.alloc _=W9 at*;have C5:ob≠R:=by have:=J.2.lt;omega
 have Y:=J3 (J.1.trans k9.all) (J.2.kept k9 trivial) b9;clear k9 b9 u4 y0 y1 y2 y3 y4 y5 y6 y7 y8 q2 c8;obtain⟨c0,c1,c2,c3,c4,c5,c6⟩:=Y.2.2.c7;go_loopg [13] x.args.length (fun g C6 wr=>∃k:Nat,k≤x.args.length∧g=x.args.length-k∧C6=.int .i64 k∧wr=W9);·exact⟨0,by omega,by omega,rfl,rfl⟩
 obtain⟨k,C,G7,rfl,hw⟩:=hrel;have C7:=hw.symm;subst C7;by_cases u5:k<x.args.length;·(
 have C8:decide ((k:Int)<(x.args.length:Int))=true:=by rw[eq];omega
 obtain⟨v,hv⟩:=eG u5;have C9:=HG.1.args l HL.2.1 x HX.2.1 v (mG hv);rw[HG.2.2.2] at C9;obtain⟨ab,ao,_,rfl,u6,u7,D0⟩:=de HX.2.2.1 hv;obtain⟨rfl,_⟩:=D0;have z0:=Y.1.cell (p:=⟨ab,ao+k,none⟩) (by have:ab<w2.heap.size:=u6;show ab≠R;omega) u7;obtain⟨vn,rfl⟩:∃vn:Nat,v=vn:=⟨v.toNat,by omega⟩;have G8:vn<nv:=by omega
 have u9:=mG hv;have HV:=J2 hv u9;clear hv u9 u7 u6;by_cases h3:x.kind=3;·(
 have j0:=yK x.kind 3 (by omega);have v7:=HG.1.phi l HL.2.1 x HX.2.1 h3;obtain⟨f,hf⟩:∃f,x.Nn[k]? =some f:=⟨_,lG (by omega)⟩;have v8:=(HG.1.Nn l HL.2.1 x HX.2.1 f (mG hf)).1;obtain⟨fb,fo,_,rfl,w0,w4,D1⟩:=de HX.2.2.2 hf;obtain⟨rfl,_⟩:=D1;have z1:=Y.1.cell (p:=⟨fb,fo+k,none⟩) (by have:fb<w2.heap.size:=w0;show fb≠R;omega) w4;have G9:k<x.Nn.length:=by omega
 have w6:=J3 hf v8 v7;clear hf v8 w4 w0 v7;by_cases w7:f=Nn
 ·subst w7;have tf:(f !=f)=false:=by simp
  have z2:=Y.2.1.cell vn;rw[Nz (NA (Nx q5.out j.2.2.2 HL.1 HX.1 h3 HV.1 w6.1 w6.2.1))] at z2;clear h3;go_wp2_with fail;go_roundg (x.args.length-(k+1));·exact⟨k+1,by omega,rfl,by go_num,rfl⟩
  omega
 have tf:(f !=Nn)=true:=by rw[bne_iff_ne];exact w7
 clear h3;go_wp2_with fail;go_roundg (x.args.length-(k+1));·exact⟨k+1,by omega,rfl,by go_num,rfl⟩
 omega)
 have j0:=nK x.kind 3 (by omega);have z2:=Y.2.1.cell vn;rw[Nz (NA (Ny q5.out j.2.2.2 j.2.2.1 HL.1 HX.1 h3 HV.2))] at z2;go_wp2_with fail;go_roundg (x.args.length-(k+1));·exact⟨k+1,by omega,rfl,by go_num,rfl⟩
 omega)
 obtain rfl:k=x.args.length:=by omega
 have C8:decide ((x.args.length:Int)<(x.args.length:Int))=false:=by simp
 have a6:=j2.out W9 Y.1;have q2:=a6.cell 2;simp only[gc] at q2;clear a6;have c8:=k3.out W9 Y.1;have E6:i+1≤5000:=by omega
 have b5:11≤x.kind↔i+1=l.length:=by have:=HL.2.2.1.2.1 i x.kind (by rw[cy,HX.1];rfl);rwa [aZ] at this
 by_cases h3:x.kind=3;·(
 have w8:i+1<l.length:=(by have h9:¬i+1=l.length:=fun e=>(by have:=b5.2 e;omega);omega);obtain⟨y,hy⟩:=eG w8;obtain⟨_,_,_,e9,_,_,x0,ya,yf,rfl,_⟩:=bh HL.2.2.2 hy;cases e9;have n0:=Y.1.cell (p:=⟨xb,xo+(i+1)*9+0,none⟩) I (x0 0 _ rfl);rw[cJ] at n0;have j0:=yK x.kind 3 (by omega);have k4:=wK x.kind 3 (by omega);have t11:=nK x.kind 11 (by omega);have t12:=nK x.kind 12 (by omega);have tl:decide ((i:Int)+1<(l.length:Int))=true:=by rw[eq];omega
 have o7:=J2 h3 hy;clear x0 hy b5;by_cases x1:y.kind=3
 ·have ty:=wK y.kind 3 (by omega);have HY:=oH (Nw j.2.2.1 HX.1 o7.1 o7.2 x1);clear h3 x1;go_wp2_with fail;go_roundg (l.length-(i+1));·exact⟨i+1,t2,nx,th,by omega,rfl,rfl,rfl,by go_num,by omega,o,j.1,j.2.1,HY.out,Y.1,Y.2.1⟩
  omega
 have ty:=mK y.kind 3 (by omega);clear h3;go_upto_region 37 with fail;clear n0 c0 c1 c2 c3 c4 c5 c6 q2 c8;go_loopg [14] (i+1) (fun g D2 wr=>∃(k:Nat) (d7:List Bool),k≤i+1∧g=i+1-k∧D2=.int .i64 k∧d7.length=nv∧qS th d7∧(∀(m:Nat) z,m<k→l[m]? =some z→Bs d7 z.dst)∧aa (fun g=>g≠R) W6 wr∧al wr R 4 (NC d7));·exact⟨0,th,by omega,by omega,rfl,o,qS.refl _,fun m z hm=>by omega,Y.1,Y.2.1⟩
 obtain⟨k2,d7,n7,E7,rfl,j4,l5,l6,i1,c7⟩:=hrel;obtain⟨w5,D3⟩:=eQ wr;subst D3;have HQ:=J3 i1 l5 l6;have a6:=j2.out w5 i1;have q2:=a6.cell 2;simp only[gc] at q2;clear a6;have c8:=k3.out w5 i1;clear i1 l5 l6;by_cases x2:k2≤i;·(
 have D4:decide ((k2:Int)≤(i:Int))=true:=by rw[eq];omega
 obtain⟨z,hz⟩:∃z,l[k2]? =some z:=⟨_,lG (by omega)⟩;have x3:z.kind=3:=by have:=qr HL.2.2.1 (i:=i) (by rw[cy,HX.1];exact congrArg some o7.1) k2 x2;rw[cy,hz] at this;injection this
 have x4:=NO HG.2.1 HL.2.1 (mG hz) x3;rw[HG.2.2.2] at x4;obtain⟨zd,o8⟩:∃zd:Nat,z.dst=zd:=⟨z.dst.toNat,by omega⟩;obtain⟨_,_,_,e9,_,_,x5,za,zf,rfl,_⟩:=bh HL.2.2.2 hz;cases e9;have z2:=HQ.1.cell (p:=⟨xb,xo+k2*9+2,none⟩) I (x5 2 _ rfl);rw[o8] at z2 x4;have H0:zd<nv:=by omega
 obtain⟨tv,b4⟩:∃tv,d7[zd]? =some tv:=⟨_,lG (by omega)⟩;have t0:=c7.cell zd;have f0:=c7.free zd;rw[Nz b4] at t0;have k7:aa (fun g=>g≠R) w5 (w5.setCell ⟨R,zd,none⟩ (.bool true)):=kR.setCell (.inl fun h=>h rfl) _;have b7:=c7.set zd (.bool true);rw[NB] at b7;have H7:=J4 (HQ.1.trans k7) b7 hz o8;clear k7 b7 c7 b4 hz o8 x3 x5;have E8:k2<l.length:=by omega
 go_wp2_with fail;go_roundg (i+1-(k2+1))
 ·refine⟨k2+1,d7.set zd true,by omega,rfl,by go_num,by rw[List.length_set];exact j4,HQ.2.1.trans (qS.set _ _),fun m z9 hm o9=>?_,H7.1,H7.2.1⟩
  by_cases e:m=k2;·subst e;rw[H7.2.2.1] at o9;cases o9;rw[H7.2.2.2];intro _;rw[fD,List.getElem?_set_self (by omega)]
  exact(HQ.2.2 m z9 (by omega) o9).more (qS.set _ _)
 omega)
 obtain rfl:k2=i+1:=by omega
 have D4:decide (((i+1:Nat):Int)≤(i:Int))=false:=by rw[decide_eq_false_iff_not];omega
 have E9:decide ((i:Int)+1≤(i:Int))=false:=by rw[decide_eq_false_iff_not];omega
 have D5:=oH c7;clear c7;go_wp2_with fail;go_roundg (l.length-(i+1));·exact⟨i+1,t2,nx,d7,by omega,rfl,rfl,rfl,by go_num,by omega,j4,j.1,j.2.1.trans HQ.2.1,Ns HQ.2.2,HQ.1,D5.out⟩
 omega)
 by_cases d8:11≤x.kind;·(
 have j5:=NL HG.2.1 HL.2.1 HX.2.1 d8;have D6:=b5.1 d8;have HN:=J2 h3 j5;have j1:=NH HG.1 HL.2.2.1 HL.1 HX.1;rw[j5] at c2;have td:decide ((-1:Int)≥0)=false:=by decide
 clear b5 j5;by_cases j6:x.kind=12;·(
 obtain⟨nb,h5,d9⟩:=j1.1 (.inr j6);obtain⟨na,x6,l7⟩:=j1.2 j6;rw[h5] at c3;rw[x6] at c4;have HJ:=J2 d9 l7;have x7:=oH (B6.out W9 Y.1);have e9:=x7.1;clear j1 h5 x6 d9 l7;have j0:=nK x.kind 3 (by omega);have k4:=mK x.kind 3 (by omega);have t11:=nK x.kind 11 (by omega);have t12:=yK x.kind 12 (by omega);have tl:decide ((i:Int)+1<(l.length:Int))=false:=by rw[decide_eq_false_iff_not];omega
 clear h3 j6 d8;by_cases ht:t2<a7.length;·(
 have tt:decide ((t2:Int)<(a7.length:Int))=true:=by rw[eq];omega
 obtain⟨tv,b4⟩:=eG ht;obtain⟨sb,so,_,rfl,_,H2,D7⟩:=de x7.2 b4;cases D7;clear b4;cases tv
 case false=>
  go_wp2_with fail;go_roundg (l.length-(i+1));·exact⟨i+1,t2+1,nb,th,by omega,rfl,by go_num,rfl,by go_num,by omega,o,.inr ⟨_,rfl,HJ.1⟩,j.2.1,Nt j.2.2.1 (qS.refl _) HX.1 HN.1 (fun h0=>by have:=HN.2;omega),Y.1,Y.2.1⟩
  omega
 go_wp2_with fail;go_roundg (l.length-(i+1));·exact⟨i+1,t2+1,na,th,by omega,rfl,by go_num,rfl,by go_num,by omega,o,.inr ⟨_,rfl,HJ.2⟩,j.2.1,Nt j.2.2.1 (qS.refl _) HX.1 HN.1 (fun h0=>by have:=HN.2;omega),Y.1,Y.2.1⟩
 omega)
 have tt:decide ((t2:Int)<(a7.length:Int))=false:=by rw[decide_eq_false_iff_not];omega
 go_wp2_with fail;go_roundg (l.length-(i+1));·exact⟨i+1,t2+1,nb,th,by omega,rfl,by go_num,rfl,by go_num,by omega,o,.inr ⟨_,rfl,HJ.1⟩,j.2.1,Nt j.2.2.1 (qS.refl _) HX.1 HN.1 (fun h0=>by have:=HN.2;omega),Y.1,Y.2.1⟩
 omega)
 by_cases p0:x.kind=11
 ·obtain⟨nb,h5,d9⟩:=j1.1 (.inl p0);rw[h5] at c3;have HJ:=oH d9;clear j1 h5 d9;have j0:=nK x.kind 3 (by omega);have k4:=mK x.kind 3 (by omega);have t11:=yK x.kind 11 (by omega);have t12:=nK x.kind 12 (by omega);have tl:decide ((i:Int)+1<(l.length:Int))=false:=by rw[decide_eq_false_iff_not];omega
  clear h3 p0 j6 d8;go_wp2_with fail;go_roundg (l.length-(i+1));·exact⟨i+1,t2,nb,th,by omega,rfl,rfl,rfl,by go_num,by omega,o,.inr ⟨_,rfl,HJ.out⟩,j.2.1,Nt j.2.2.1 (qS.refl _) HX.1 HN.1 (fun h0=>by have:=HN.2;omega),Y.1,Y.2.1⟩
  omega
 clear j1;have j0:=nK x.kind 3 (by omega);have k4:=mK x.kind 3 (by omega);have t11:=nK x.kind 11 (by omega);have t12:=nK x.kind 12 (by omega);have tl:decide ((i:Int)+1<(l.length:Int))=false:=by rw[decide_eq_false_iff_not];omega
 clear h3 p0 j6 d8;go_wp2_with fail;go_roundg (l.length-(i+1));·exact⟨i+1,t2,nx,th,by omega,rfl,rfl,rfl,by go_num,by omega,o,j.1,j.2.1,Nt j.2.2.1 (qS.refl _) HX.1 HN.1 (fun h0=>by have:=HN.2;omega),Y.1,Y.2.1⟩
 omega)
 have D6:i+1<l.length:=(by have h9:¬i+1=l.length:=fun e=>d8 (b5.2 e);omega);have tl:decide ((i:Int)+1<(l.length:Int))=true:=by rw[eq];omega
 have j0:=nK x.kind 3 (by omega);have k4:=mK x.kind 3 (by omega);have t11:=nK x.kind 11 (by omega);have t12:=nK x.kind 12 (by omega);by_cases x8:0≤x.dst;·(
 have D8:x.dst<nv:=by
  rcases HG.1.dst l HL.2.1 x HX.2.1 with h9|h9;·omega
  rw[←HG.2.2.2];exact h9.2
 obtain⟨dn,p1⟩:∃dn:Nat,x.dst=dn:=⟨x.dst.toNat,by omega⟩;rw[p1] at c2;have F0:dn<nv:=by omega
 have td:decide ((dn:Int)≥0)=true:=by rw[eq];omega
 have HN:=J2 h3 p1;clear p1 D8 h3 x8 d8 b5;obtain⟨tv,b4⟩:∃tv,th[dn]? =some tv:=⟨_,lG (by omega)⟩;have t0:=Y.2.1.cell dn;have f0:=Y.2.1.free dn;rw[Nz b4] at t0;go_upto_region 28 with fail;have k7:aa (fun g=>g≠R) W9 (W9.setCell ⟨R,dn,none⟩ (.bool true)):=kR.setCell (.inl fun h=>h rfl) _;have b7:=Y.2.1.set dn (.bool true);have x9:=Y.2.2.kept k7 C5;rw[NB] at b7;clear c0 c1 c2 c3 c4 c5 c6 q2 c8 t0 f0 b4;generalize W9.setCell _ _=W7 at*;have H7:=J2 (Y.1.trans k7) b7;have a6:=j2.out W7 H7.1;have q2:=a6.cell 2;simp only[gc] at q2;clear a6;have c8:=k3.out W7 H7.1;have c0:=x9.cell 0;simp only[gc] at c0;clear k7 b7 x9;go_wp2_with fail;go_roundg (l.length-(i+1));·exact⟨i+1,t2,nx,th.set dn true,by omega,rfl,rfl,rfl,by go_num,by omega,by rw[List.length_set];exact o,j.1,j.2.1.trans (qS.set _ _),Nt j.2.2.1 (qS.set _ _) HX.1 HN.1 (fun _=>by rw[HN.2,fD,List.getElem?_set_self (by omega)]),H7.1,H7.2⟩
 omega)
 have td:decide (x.dst≥0)=false:=by rw[decide_eq_false_iff_not];omega
 have HN:=J2 h3 (show x.dst<0 by omega);clear h3 d8 b5 x8;go_wp2_with fail;go_roundg (l.length-(i+1));·exact⟨i+1,t2,nx,th,by omega,rfl,rfl,rfl,by go_num,by omega,o,j.1,j.2.1,Nt j.2.2.1 (qS.refl _) HX.1 HN.1 (fun h0=>by have:=HN.2;omega),Y.1,Y.2.1⟩
 omega)
 obtain rfl:i=l.length:=by omega
 have C4:decide ((l.length:Int)<(l.length:Int))=false:=by simp
 rcases j.1 with rfl|⟨nb,rfl,h5,l8⟩
 ·have y9:decide ((-1:Int)<0)=true:=by decide
  go_wp2_with fail;refine(n6.out wq (h7.out wq J.1)).mono ?_;rintro e w9 ⟨rfl,j7⟩;have p2:=oH (aq ((HW.2.all.trans ((h7.out wq J.1).mono fun g (hg:g<w.heap.size)=>show g<W0.heap.size by omega)).trans j7.all));clear j7;go_wp2_with fail;go_ret;exact⟨rfl,p2.out⟩
 have y9:decide ((nb:Int)<0)=false:=by rw[decide_eq_false_iff_not];omega
 have z6:=Nv j.2.2.2 j.2.2.1 HL.1 l8;have D9:=oH z6;clear z6 l8;go_wp2_with fail;go_roundg (200-(n+1));·exact⟨n+1,nb,t2,blk,th,rfl,by omega,rfl,rfl,rfl,by go_num,by omega,h5,o,D9.out,J.1,J.2⟩
 omega)
 obtain rfl:n=200:=by omega
 have C0:decide ((200:Int)<200)=false:=by decide
 go_wp2_with fail;refine(n6.out wp (h7.out wp j3.1)).mono ?_;rintro e w9 ⟨rfl,j7⟩;have p2:=oH (aq ((HW.2.all.trans ((h7.out wp j3.1).mono fun g (hg:g<w.heap.size)=>show g<W0.heap.size by omega)).trans j7.all));clear j7;go_wp2_with fail;go_ret;exact⟨rfl,p2.out⟩
end Go.Proofs.YtccbbkopmlnkpaaGreatDoor
