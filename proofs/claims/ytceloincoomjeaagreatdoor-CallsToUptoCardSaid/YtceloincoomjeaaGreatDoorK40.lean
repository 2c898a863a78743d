/- Part 41 of the proof of CallsTo (its last part says what is proved). No condition. -/
import Derived.Test.YtceloincoomjeaaGreatDoorK39
namespace Go.Proofs.YtceloincoomjeaaGreatDoor
set_option maxRecDepth 100000
set_option maxHeartbeats 8000000
open Go.RowKit Go.Proofs.Tryz
def JY (p:aH)(c:aE)(b:aw)(pre:List bz)(l:List bz)(k:Nat)(x:bz):Prop:=aT p c b (b.params+cj (pre++l.take k)) x∧((11≤x.kind∧x.kind≤13)↔k+1=l.length)∧(x.kind=3→0<k→∃y,l[k-1]? =some y∧y.kind=3)
def MJ (p:aH)(c:aE)(b:aw)(i:Nat)(l:List bz):Prop:=1≤l.length∧l.length≤4096∧∀(k:Nat) x,l[k]? =some x→JY p c b (b.Ng.take i).flatten l k x
def gX (p:aH)(c:aE)(b:aw):Prop:=qi p c b∧∀l∈b.Ng,l.length≤4096
theorem vd {α:Type}{L:List (List α)}{i k:Nat}{l:List α}(hi:L[i]? =some l)(j:k≤l.length):L.flatten.take ((L.take i).flatten.length+k)=(L.take i).flatten++l.take k:=by
 have e:L.flatten=(L.take i).flatten++(l++(L.drop (i+1)).flatten):=by rw[←List.flatten_cons,←List.flatten_append,←kE hi]
 rw[e,List.take_length_add_append,List.take_append_of_le_length j]
theorem dw (l m:List bz):cj (l++m)=cj l+cj m:=by rw[co,co,co,mE,iQ]
theorem vH {p:aH}{c:aE}{b:aw}{next:Int}{x:bz}(h:aT p c b next x):1≤x.kind∧x.kind≤13:=by obtain⟨n,d,r,a,e,_⟩:=h;unfold cw at e;split at e<;>first|(cases e;done)|omega|(rename_i j;rw[j];omega)
theorem CF {p:aH}{c:aE}{b:aw}:gX p c b↔(0≤b.params∧b.params≤6∧1≤b.Ng.length∧b.Ng.length≤64)∧(∀(i:Nat) l,b.Ng[i]? =some l→MJ p c b i l)∧b.vars=b.params+cj b.Ng.flatten:=by
 constructor;·(
 rintro⟨⟨h1,h2,h3,h4,h5,h6,h7⟩,h8⟩;refine⟨⟨h1,h2,h3,h4⟩,fun i l j=>?_,h7⟩;have hm:=mG j;obtain⟨s1,s2,s3⟩:=h5 l hm;refine⟨?_,h8 l hm,fun k x o=>?_⟩
 ·cases l
  ·simp at s1
  simp
 have C:=(lS.1 o).1;have R:=h6 _ x (lF j o);rw[vd j (by omega)] at R;have a1:=(vH R).2;have Y:(l.map fun x=>x.kind)[k]? =some x.kind:=by rw[cL,o];rfl
 have I:=s2 k x.kind Y;rw[ce] at I;refine⟨R,⟨fun h=>I.1 h.1,fun h=>⟨I.2 h,a1⟩⟩,fun a6 h0=>?_⟩;have Z:=s3 (k-1) (by rw[show k-1+1=k by omega,Y,a6]);rw[cL] at Z;obtain⟨y,hy,J⟩:=oE.1 Z;exact⟨y,hy,J⟩)
 rintro⟨⟨h1,h2,h3,h4⟩,h5,h7⟩;have hB:∀l∈b.Ng,∃i:Nat,MJ p c b i l:=fun l j=>by obtain⟨i,hi⟩:=cY.1 j;exact⟨i,h5 i l hi⟩
 refine⟨⟨h1,h2,h3,h4,fun l j=>?_,fun n x o=>?_,h7⟩,fun l j=>?_⟩;·(
 obtain⟨i,hb⟩:=hB l j;refine⟨?_,fun k kd C=>?_,fun k C=>?_⟩
 ·intro e
  have:=hb.1;have h0:l=[]:=by simpa using e
  rw[h0] at this;simp at this
 ·rw[cL] at C;obtain⟨x,o,rfl⟩:=oE.1 C;have ha:=hb.2.2 k x o;rw[ce,←ha.2.1];have:=(vH ha.1).2;omega
 rw[cL] at C;obtain⟨x,o,a7⟩:=oE.1 C;obtain⟨y,hy,J⟩:=(hb.2.2 (k+1) x o).2.2 a7 (by omega);rw[cL,show l[k]? =some y by simpa using hy];exact congrArg some J)
 ·obtain⟨i,k,l,hi,C,rfl⟩:=pF o
  have R:=((h5 i l hi).2.2 k x C).1;rw[vd hi (by have:=(lS.1 C).1;omega)];exact R
 obtain⟨i,hb⟩:=hB l j;exact hb.2.1
def rH (p:aH)(c:aE)(b:aw)(w:World)(e:Ending)(w':World):Prop:=∃(n:Int) (ok:Bool),e=.returned (.tuple #[.int .i64 n,.bool ok])∧ok=pB (gX p c b)∧(gX p c b→n=ft b)∧(0≤n∧n≤1000000)∧aa All w w'
theorem rH.no {p:aH}{c:aE}{b:aw}{w j:World}(h:¬gX p c b)(l:aa All w j):rH p c b w (.returned (.tuple #[.int .i64 0,.bool false])) j:=
 ⟨0,false,rfl,(au h).symm,fun h'=>absurd h' h,by omega,l⟩
theorem xW (l:List bz):cj l≤l.length:=by rw[co];exact List.length_filter_le _ _
theorem IN {L:List (List bz)}{m:Nat}(h:∀l∈L,l.length≤m):L.flatten.length≤L.length*m:=by
 induction L with
 |nil=>simp
 |cons a L j=>have:=j fun l o=>h l (List.mem_cons_of_mem _ o);have:=h a (List.mem_cons_self ..);rw[List.flatten_cons,iQ,kI,Nat.succ_mul];omega
theorem DN (S:Nat→Prop)(pv cv bv:Value)(p:aH)(c:aE)(b:aw)(w:World)(hp:dJ S w pv p)(hc:cQ S w cv c)(hb:bW S w bv b.Ng)(c6:aV b.params)(c7:aV b.vars):
 Calls prog 40 #[pv,cv,.agg #[.int .i64 b.params,.int .i64 b.vars,bv]] w (rH p c b w):=by
 have c8:=cB.la hp;have d7:=dc.la hc;have d8:=bg.la hb;obtain⟨l6,vu,vi,vo,rfl,j1,j2,j3,j4,j5⟩:=hp;obtain⟨a1,n1,rfl,_⟩:=j1;obtain⟨a2,n2,rfl,_⟩:=j2;obtain⟨a3,n3,rfl,_⟩:=j3;obtain⟨a4,n4,rfl,_⟩:=j4;obtain⟨ka,kf,rfl,j6,j7,j8⟩:=hc;obtain⟨A1,c1,rfl,_⟩:=j6;obtain⟨A2,c2,rfl,_⟩:=j7;obtain⟨B1,d1,rfl,m5,m6,m7,_⟩:=hb;unfold maxLen at*;obtain⟨W0,b6⟩:=eQ (((w.alloc (.cells #[.slice a1 p.MZ.length n1,.slice a2 p.up.length n2,.slice a3 p.Nb.length n3,.slice a4 p.Na.length n4,.int .i64 p.Nc] 26)).alloc (.cells #[.slice A1 c.Nd.length c1,.slice A2 c.Nf.length c2,.int .i64 c.main] 30)).alloc (.cells #[.int .i64 b.params,.int .i64 b.vars,.slice B1 b.Ng.length d1] 48));have d9:aa All w W0:=by rw[b6];exact((kR.alloc _).alloc _).alloc _
 have bP:al W0 w.heap.size 26 #[.slice a1 p.MZ.length n1,.slice a2 p.up.length n2,.slice a3 p.Nb.length n3,.slice a4 p.Na.length n4,.int .i64 p.Nc]:=by rw[b6];exact((al.new _ _ _).alloc _).alloc _
 have bK:al W0 (w.heap.size+1) 30 #[.slice A1 c.Nd.length c1,.slice A2 c.Nf.length c2,.int .i64 c.main]:=by rw[b6];exact(ac (by simp)).alloc _
 have bB:al W0 (w.heap.size+1+1) 48 #[.int .i64 b.params,.int .i64 b.vars,.slice B1 b.Ng.length d1]:=by rw[b6];exact ac (by simp)
 obtain⟨p0,p1,p2,p3,p4⟩:=bP.c5;obtain⟨k0,k1,k2⟩:=bK.c3;obtain⟨b0,b1,b2⟩:=bB.c3;have HW:=J5 b6 d9 bP bK bB;have HP:=J5 c8 d7 d8 c6 c7;have HI:=oH (CF (p:=p) (c:=c) (b:=b));clear b6 d9 bP bK bB c8 d7 d8 j5 j8;unfold aV at c6 c7;go_enter func40,ntmps40;go_upto_region 1 with fail;rw[←HW.1];by_cases h0:0≤b.params;·(
 have s0:decide (b.params<0)=false:=by simp;omega
 by_cases h1:b.params≤6;·(
 have s1:decide (6<b.params)=false:=by simp;omega
 by_cases h2:1≤b.Ng.length;·(
 have s2:decide ((b.Ng.length:Int)<1)=false:=by simp;omega
 by_cases h3:b.Ng.length≤64;·(
 have s3:decide ((64:Int)<(b.Ng.length:Int))=false:=by simp;omega
 go_wp2_with fail;go_loopg [8,9,10] b.Ng.length (fun g s8 s9 j9 wr=>∃j:Nat,j≤b.Ng.length∧g=b.Ng.length-j∧j9=.int .i64 j∧s8=.int .i64 (b.params+cj (b.Ng.take j).flatten)∧s9=.int .i64 (b.Ng.take j).flatten.length∧aa All W0 wr∧∀(i:Nat) l,i<j→b.Ng[i]? =some l→MJ p c b i l);·exact⟨0,by omega,by omega,rfl,by rw[List.take_zero,List.flatten_nil,show cj []=0 from rfl]<;>simp,by rw[List.take_zero];rfl,kR,fun i l hi=>by omega⟩
 obtain⟨j,hj,rfl,rfl,rfl,rfl,a6,Y⟩:=hrel;clear p0 p1 p2 p3 p4 k0 k1 k2 b0 b1 b2;have h4:=HW.2.2.2.2.kept a6 trivial;obtain⟨b0,b1,b2⟩:=h4.c3;clear h4;have h5:(b.Ng.take j).flatten.length≤64*4096:=by
  have h1:=IN (L:=b.Ng.take j) (m:=4096) fun l hl=>by(
 obtain⟨i,hi⟩:=cY.1 hl;have h6:i<j:=by have:=(lS.1 hi).1;rw[fN] at this;omega
 rw[rY h6] at hi;exact(Y i l h6 hi).2.1)
  rw[fN] at h1;have:min j b.Ng.length*4096≤64*4096:=Nat.mul_le_mul_right _ (by omega);omega
 have h7:=xW (b.Ng.take j).flatten;obtain⟨R,b4⟩:=eR ((b.Ng.take j).flatten);rw[b4] at h5 h7⊢;obtain⟨dn,b9⟩:=eR (cj R);obtain⟨pl,b7⟩:=eR (R.length);rw[b9,b7] at h7⊢;rw[b7] at h5;by_cases k3:j<b.Ng.length;·(
 obtain⟨l,hl⟩:=eG k3;obtain⟨rb,ro,rv,rfl,k4,l7,h8⟩:=bn (HP.2.2.1 wr (HW.2.1.trans a6)) hl;have h9:=cT.la h8;obtain⟨LA,lc,rfl,l1,l2,l3,_⟩:=h8;unfold maxLen at l2;have I:=J7 a6 Y b4 b9 b7 hl h9;clear a6 Y b4 b9 b7 hl h9 k4;by_cases g0:l.length=0
 ·have q0:((l.length:Int)==0)=true:=by rw[cy];omega
  have HN:=oH (show¬gX p c b from fun h=>by have h:=HI.1 h;have:=(h.2.1 j l I.2.2.2.2.2.1).1;omega);clear g0;go_wp2_with fail;go_ret2;exact .no HN.out (HW.2.1.trans I.1)
 have q0:((l.length:Int)==0)=false:=by rw[bE];omega
 by_cases g1:4096<l.length
 ·have q1:decide ((4096:Int)<(l.length:Int))=true:=by simp;omega
  have HN:=oH (show¬gX p c b from fun h=>by have h:=HI.1 h;have:=(h.2.1 j l I.2.2.2.2.2.1).2.1;omega);clear g0 g1;go_wp2_with fail;go_ret2;exact .no HN.out (HW.2.1.trans I.1)
 have q1:decide ((4096:Int)<(l.length:Int))=false:=by simp;omega
 obtain⟨wo,rfl⟩:=eQ wr;go_wp2_with fail;go_loopg [8,9,12] l.length (fun g s8 s9 k5 wr=>∃k:Nat,k≤l.length∧g=l.length-k∧k5=.int .i64 k∧s8=.int .i64 (b.params+dn+cj (l.take k))∧s9=.int .i64 (pl+k)∧aa All wo wr∧∀(i:Nat) x,i<k→l[i]? =some x→JY p c b R l i x);·exact⟨0,by omega,by omega,rfl,by rw[List.take_zero,show cj []=0 from rfl]<;>simp,by simp,kR,fun i l hi=>by omega⟩
 obtain⟨k,C,rfl,rfl,rfl,rfl,a6,Y⟩:=hrel;have J:=I.1.trans a6;clear b0 b1 b2;have i0:=xW (l.take k);rw[fN] at i0;obtain⟨dk,b5⟩:=eR (cj (l.take k));rw[b5] at i0⊢;by_cases i1:k<l.length;·(
 obtain⟨x,hx⟩:=eG i1;have hV:=I.2.2.2.2.2.2 wr a6;obtain⟨xb,xo,l8,rfl,l9,l5,b3,xa,xf,rfl,i2,i4,i5⟩:=aZ hV hx;have i6:=ah.la i2;have i7:=ah.la i4;obtain⟨ua,uc,rfl,_⟩:=i2;obtain⟨va,vc,rfl,_⟩:=i4;have HF:=oH (show∀wn,aa All wr wn→wn.cell? ⟨w.heap.size,0,none⟩=some (.slice a1 p.MZ.length n1)∧wn.cell? ⟨w.heap.size,1,none⟩=some (.slice a2 p.up.length n2)∧wn.cell? ⟨w.heap.size,2,none⟩=some (.slice a3 p.Nb.length n3)∧wn.cell? ⟨w.heap.size,3,none⟩=some (.slice a4 p.Na.length n4)∧wn.cell? ⟨w.heap.size,4,none⟩=some (.int .i64 p.Nc)∧wn.cell? ⟨w.heap.size+1,0,none⟩=some (.slice A1 c.Nd.length c1)∧wn.cell? ⟨w.heap.size+1,1,none⟩=some (.slice A2 c.Nf.length c2)∧wn.cell? ⟨w.heap.size+1,2,none⟩=some (.int .i64 c.main)∧wn.cell? ⟨w.heap.size+1+1,0,none⟩=some (.int .i64 b.params)∧wn.cell? ⟨w.heap.size+1+1,1,none⟩=some (.int .i64 b.vars)∧wn.cell? ⟨w.heap.size+1+1,2,none⟩=some (.slice (some ⟨rb,ro,none⟩) b.Ng.length d1)∧wn.cell? ⟨xb,xo+k*9,none⟩=some (.int .u8 x.kind)∧wn.cell? ⟨xb,xo+k*9+1,none⟩=some (.int .u8 x.op)∧wn.cell? ⟨xb,xo+k*9+2,none⟩=some (.int .i64 x.dst)∧wn.cell? ⟨xb,xo+k*9+3,none⟩=some (.int .i64 x.ref)∧wn.cell? ⟨xb,xo+k*9+4,none⟩=some (.int .i64 x.Ni)∧wn.cell? ⟨xb,xo+k*9+5,none⟩=some (.slice ua x.args.length uc)∧wn.cell? ⟨xb,xo+k*9+6,none⟩=some (.slice va x.Nh.length vc)∧wn.cell? ⟨xb,xo+k*9+7,none⟩=some (.int .i64 x.num)∧wn.cell? ⟨xb,xo+k*9+8,none⟩=some (.int .i64 x.Nj) from fun wn C=>
  ⟨(HW.2.2.1.kept (J.trans C) trivial).cell 0,(HW.2.2.1.kept (J.trans C) trivial).cell 1,(HW.2.2.1.kept (J.trans C) trivial).cell 2,(HW.2.2.1.kept (J.trans C) trivial).cell 3,(HW.2.2.1.kept (J.trans C) trivial).cell 4,(HW.2.2.2.1.kept (J.trans C) trivial).cell 0,(HW.2.2.2.1.kept (J.trans C) trivial).cell 1,(HW.2.2.2.1.kept (J.trans C) trivial).cell 2,(HW.2.2.2.2.kept (J.trans C) trivial).cell 0,(HW.2.2.2.2.kept (J.trans C) trivial).cell 1,(HW.2.2.2.2.kept (J.trans C) trivial).cell 2,C.cell (p:=⟨xb,xo+k*9,none⟩) trivial (by have:=b3 0 _ rfl;rw[dj] at this;exact this),C.cell (p:=⟨xb,xo+k*9+1,none⟩) trivial (by have:=b3 1 _ rfl;exact this),C.cell (p:=⟨xb,xo+k*9+2,none⟩) trivial (by have:=b3 2 _ rfl;exact this),C.cell (p:=⟨xb,xo+k*9+3,none⟩) trivial (by have:=b3 3 _ rfl;exact this),C.cell (p:=⟨xb,xo+k*9+4,none⟩) trivial (by have:=b3 4 _ rfl;exact this),C.cell (p:=⟨xb,xo+k*9+5,none⟩) trivial (by have:=b3 5 _ rfl;exact this),C.cell (p:=⟨xb,xo+k*9+6,none⟩) trivial (by have:=b3 6 _ rfl;exact this),C.cell (p:=⟨xb,xo+k*9+7,none⟩) trivial (by have:=b3 7 _ rfl;exact this),C.cell (p:=⟨xb,xo+k*9+8,none⟩) trivial (by have:=b3 8 _ rfl;exact this)⟩)
 have j0:=oH (show∀y,0<k→l[k-1]? =some y→∀wn,aa All wr wn→wn.cell? ⟨xb,xo+(k-1)*9,none⟩=some (.int .u8 y.kind) from fun y _ hy wn C=>by obtain⟨b',o',m0,he,_,_,k6,a',f',rfl,_⟩:=aZ hV hy;injection he with he;injection he with k7 k8;subst k7 k8;have:=k6 0 _ rfl;rw[dj] at this;exact C.cell trivial this);have HC:=oH (fun wn (C:aa All wr wn)=>JI S _ _ (.slice (some ⟨rb,ro,none⟩) b.Ng.length d1) undef p c b x (b.params+dn+dk) wn (HP.1 wn (HW.2.1.trans (J.trans C))) (HP.2.1 wn (HW.2.1.trans (J.trans C))) (HP.2.2.1 wn (HW.2.1.trans (J.trans C))) HP.2.2.2.1 HP.2.2.2.2 _ _ (i6 wn C) (i7 wn C) i5 (by omega));have o:=J5 J Y b5 hx a6;clear a6 J Y b5 hx hV i6 i7 b3 i5;go_wp2_with fail;by_cases a8:aT p c b (b.params+dn+dk) x;·(
 have a7:=oH a8;obtain⟨nx,Z⟩:∃nx,(if cz x=true then b.params+dn+dk+1 else b.params+dn+dk)=nx:=⟨_,rfl⟩;have k9:=oH (fun wn (C:aa All wr wn)=>(HC.out wn C).mono (R':=fun e wq=>e=.returned (.tuple #[.int .i64 nx,.bool true])∧aa All wn wq) (by rintro e wq ⟨n,ok,rfl,hb,hn,c3⟩;rw[av a7.out] at hb;subst hb;exact⟨by rw[hn a7.out,Z],c3⟩));have b8:=oH Z;clear Z;refine R0 14 wr (fun i=>if i=8 then some (·=.tuple #[.int .i64 nx,.bool true]) else none) ?_;iterate 3 refine O4 HF.out ?_
 iterate 3 refine O0 ?_
 refine O4 HF.out ?_;refine O0 ?_;refine O5 (v:=.tuple #[.int .i64 nx,.bool true]) (fun wn C hp=>⟨_,_,by(skip;go_simp<;>with_reducible rfl),((k9.out wn C).mono fun e w' h=>⟨h.1,C.trans h.2,fun _ h=>by cases h⟩)⟩) ?_;iterate 5 refine O0 ?_
 refine aG fun wt c4 hF=>?_;have HT:=oH c4;clear c4 hF;simp only[dK];obtain⟨_,_,_,_,_,_,_,_,_,_,_,c0,_,_,_,_,_,_,_,_⟩:=HF.out wt HT.out;have HE:=oH (fun wn=>GQ x.kind wn);by_cases e1:11≤x.kind∧x.kind≤13;·(
 rw[bL e1] at HE;by_cases e2:k+1=l.length;·(
 have te:((k:Int)==(l.length:Int)-1)=true:=by rw[cy];omega
 by_cases g2:x.kind=3;·(
 have t3:=yK x.kind 3 (by omega);by_cases g3:0<k;·(
 obtain⟨y,hy⟩:∃y,l[k-1]? =some y:=⟨_,lG (by omega)⟩;have c9:=j0.out y g3 hy wt HT.out;obtain⟨m,rfl⟩:∃m,k=m+1:=⟨k-1,by omega⟩;rw[Nat.add_sub_cancel] at c9 hy;have tz:decide ((0:Int)<(m:Int)+1)=true:=by simp<;>omega
 have l0:((m:Int)+1==(l.length:Int)-1)=true:=by rw[cy]<;>omega
 have tm:m<l.length:=by omega
 have tw:IntKind.i64.wrap (m:Int)=(m:Int):=by rw[IntKind.wrap_i64];omega
 by_cases g4:y.kind=3;·(
 have tp:=wK y.kind 3 (by omega);have HY:=oH (show JY p c b R l (m+1) x from⟨by rw[show b.params+(cj (R++l.take (m+1)):Int)=b.params+dn+dk from by rw[dw,I.2.2.2.1,o.2.2.1];omega];exact a7.out,⟨fun _=>e2,fun _=>e1⟩,fun _ _=>⟨y,by simpa using hy,g4⟩⟩);clear a8 g2 g4 hy e1 e2;go_wp2_with (go_at_call 66;refine(HE.out _).mono ?_;rintro e w4 ⟨rfl,rfl⟩);go_roundg (l.length-(m+1+1))
 ·have Z:nx=b.params+dn+cj (l.take (m+1+1)):=by(
 rw[←b8.out,cU,o.2.2.2.1,dw,o.2.2.1];by_cases hf:cz x=true;·rw[ap hf,show cj (some x).toList=1 by rw[co];simp[hf]];omega
 rw[ae hf,show cj (some x).toList=0 by rw[co];simp[hf]];omega)
  refine⟨m+1+1,by omega,rfl,by go_num,by rw[Z],by go_num,o.2.2.2.2.trans HT.out,fun i z hi hz=>?_⟩;by_cases e:i=m+1;·subst e;rw[o.2.2.2.1] at hz;cases hz;exact HY.out
  exact o.2.1 i z (by omega) hz
 omega)
 have tp:=mK y.kind 3 (by omega);have HN:=oH (show¬gX p c b from fun h=>by have h:=((HI.1 h).2.1 j l I.2.2.2.2.2.1).2.2 (m+1) x o.2.2.2.1;rw[I.2.2.1] at h;obtain⟨z,hz,c5⟩:=h.2.2 g2 g3;rw[Nat.add_sub_cancel,hy] at hz;cases hz;exact g4 c5);clear a8 g2 g4 hy e1 e2;go_wp2_with (go_at_call 66;refine(HE.out _).mono ?_;rintro e w4 ⟨rfl,rfl⟩);go_ret2;exact .no HN.out (HW.2.1.trans (o.1.trans HT.out)))
 have tz:decide ((0:Int)<(k:Int))=false:=by simp;omega
 have l4:decide (0<k)=false:=by simp;omega
 have HY:=oH (show JY p c b R l k x from⟨by rw[show b.params+(cj (R++l.take k):Int)=b.params+dn+dk from by rw[dw,I.2.2.2.1,o.2.2.1];omega];exact a7.out,⟨fun _=>e2,fun _=>e1⟩,fun _ h=>absurd h g3⟩);clear a8 g2 g3 e1 e2;go_wp2_with (go_at_call 66;refine(HE.out _).mono ?_;rintro e w4 ⟨rfl,rfl⟩);go_roundg (l.length-(k+1))
 ·have Z:nx=b.params+dn+cj (l.take (k+1)):=by(
 rw[←b8.out,cU,o.2.2.2.1,dw,o.2.2.1];by_cases hf:cz x=true;·rw[ap hf,show cj (some x).toList=1 by rw[co];simp[hf]];omega
 rw[ae hf,show cj (some x).toList=0 by rw[co];simp[hf]];omega)
  refine⟨k+1,by omega,rfl,by go_num,by rw[Z],by go_num,o.2.2.2.2.trans HT.out,fun i z hi hz=>?_⟩;by_cases e:i=k;·subst e;rw[o.2.2.2.1] at hz;cases hz;exact HY.out
  exact o.2.1 i z (by omega) hz
 omega)
 have t3:=nK x.kind 3 (by omega);have HY:=oH (show JY p c b R l k x from⟨by rw[show b.params+(cj (R++l.take k):Int)=b.params+dn+dk from by rw[dw,I.2.2.2.1,o.2.2.1];omega];exact a7.out,⟨fun _=>e2,fun _=>e1⟩,fun h=>absurd h g2⟩);clear a8 g2 e1 e2;go_wp2_with (go_at_call 66;refine(HE.out _).mono ?_;rintro e w4 ⟨rfl,rfl⟩);go_roundg (l.length-(k+1))
 ·have Z:nx=b.params+dn+cj (l.take (k+1)):=by(
 rw[←b8.out,cU,o.2.2.2.1,dw,o.2.2.1];by_cases hf:cz x=true;·rw[ap hf,show cj (some x).toList=1 by rw[co];simp[hf]];omega
 rw[ae hf,show cj (some x).toList=0 by rw[co];simp[hf]];omega)
  refine⟨k+1,by omega,rfl,by go_num,by rw[Z],by go_num,o.2.2.2.2.trans HT.out,fun i z hi hz=>?_⟩;by_cases e:i=k;·subst e;rw[o.2.2.2.1] at hz;cases hz;exact HY.out
  exact o.2.1 i z (by omega) hz
 omega)
 have te:((k:Int)==(l.length:Int)-1)=false:=by rw[bE];omega
 have HN:=oH (show¬gX p c b from fun h=>by have h:=((HI.1 h).2.1 j l I.2.2.2.2.2.1).2.2 k x o.2.2.2.1;rw[I.2.2.1] at h;exact e2 (h.2.1.1 e1));go_wp2_with (go_at_call 66;refine(HE.out _).mono ?_;rintro e w4 ⟨rfl,rfl⟩);go_ret2;exact .no HN.out (HW.2.1.trans (o.1.trans HT.out)))
 rw[cI e1] at HE;by_cases e2:k+1=l.length
 ·have te:((k:Int)==(l.length:Int)-1)=true:=by rw[cy];omega
  have HN:=oH (show¬gX p c b from fun h=>by have h:=((HI.1 h).2.1 j l I.2.2.2.2.2.1).2.2 k x o.2.2.2.1;rw[I.2.2.1] at h;exact e1 (h.2.1.2 e2));go_wp2_with (go_at_call 66;refine(HE.out _).mono ?_;rintro e w4 ⟨rfl,rfl⟩);go_ret2;exact .no HN.out (HW.2.1.trans (o.1.trans HT.out))
 have te:((k:Int)==(l.length:Int)-1)=false:=by rw[bE];omega
 by_cases g2:x.kind=3;·(
 have t3:=yK x.kind 3 (by omega);by_cases g3:0<k;·(
 obtain⟨y,hy⟩:∃y,l[k-1]? =some y:=⟨_,lG (by omega)⟩;have c9:=j0.out y g3 hy wt HT.out;obtain⟨m,rfl⟩:∃m,k=m+1:=⟨k-1,by omega⟩;rw[Nat.add_sub_cancel] at c9 hy;have tz:decide ((0:Int)<(m:Int)+1)=true:=by simp<;>omega
 have l0:((m:Int)+1==(l.length:Int)-1)=false:=by rw[bE]<;>omega
 have tm:m<l.length:=by omega
 have tw:IntKind.i64.wrap (m:Int)=(m:Int):=by rw[IntKind.wrap_i64];omega
 by_cases g4:y.kind=3;·(
 have tp:=wK y.kind 3 (by omega);have HY:=oH (show JY p c b R l (m+1) x from⟨by rw[show b.params+(cj (R++l.take (m+1)):Int)=b.params+dn+dk from by rw[dw,I.2.2.2.1,o.2.2.1];omega];exact a7.out,⟨fun h=>absurd h e1,fun h=>absurd h e2⟩,fun _ _=>⟨y,by simpa using hy,g4⟩⟩);clear a8 g2 g4 hy e1 e2;go_wp2_with (go_at_call 66;refine(HE.out _).mono ?_;rintro e w4 ⟨rfl,rfl⟩);go_roundg (l.length-(m+1+1))
 ·have Z:nx=b.params+dn+cj (l.take (m+1+1)):=by(
 rw[←b8.out,cU,o.2.2.2.1,dw,o.2.2.1];by_cases hf:cz x=true;·rw[ap hf,show cj (some x).toList=1 by rw[co];simp[hf]];omega
 rw[ae hf,show cj (some x).toList=0 by rw[co];simp[hf]];omega)
  refine⟨m+1+1,by omega,rfl,by go_num,by rw[Z],by go_num,o.2.2.2.2.trans HT.out,fun i z hi hz=>?_⟩;by_cases e:i=m+1;·subst e;rw[o.2.2.2.1] at hz;cases hz;exact HY.out
  exact o.2.1 i z (by omega) hz
 omega)
 have tp:=mK y.kind 3 (by omega);have HN:=oH (show¬gX p c b from fun h=>by have h:=((HI.1 h).2.1 j l I.2.2.2.2.2.1).2.2 (m+1) x o.2.2.2.1;rw[I.2.2.1] at h;obtain⟨z,hz,c5⟩:=h.2.2 g2 g3;rw[Nat.add_sub_cancel,hy] at hz;cases hz;exact g4 c5);clear a8 g2 g4 hy e1 e2;go_wp2_with (go_at_call 66;refine(HE.out _).mono ?_;rintro e w4 ⟨rfl,rfl⟩);go_ret2;exact .no HN.out (HW.2.1.trans (o.1.trans HT.out)))
 have tz:decide ((0:Int)<(k:Int))=false:=by simp;omega
 have l4:decide (0<k)=false:=by simp;omega
 have HY:=oH (show JY p c b R l k x from⟨by rw[show b.params+(cj (R++l.take k):Int)=b.params+dn+dk from by rw[dw,I.2.2.2.1,o.2.2.1];omega];exact a7.out,⟨fun h=>absurd h e1,fun h=>absurd h e2⟩,fun _ h=>absurd h g3⟩);clear a8 g2 g3 e1 e2;go_wp2_with (go_at_call 66;refine(HE.out _).mono ?_;rintro e w4 ⟨rfl,rfl⟩);go_roundg (l.length-(k+1))
 ·have Z:nx=b.params+dn+cj (l.take (k+1)):=by(
 rw[←b8.out,cU,o.2.2.2.1,dw,o.2.2.1];by_cases hf:cz x=true;·rw[ap hf,show cj (some x).toList=1 by rw[co];simp[hf]];omega
 rw[ae hf,show cj (some x).toList=0 by rw[co];simp[hf]];omega)
  refine⟨k+1,by omega,rfl,by go_num,by rw[Z],by go_num,o.2.2.2.2.trans HT.out,fun i z hi hz=>?_⟩;by_cases e:i=k;·subst e;rw[o.2.2.2.1] at hz;cases hz;exact HY.out
  exact o.2.1 i z (by omega) hz
 omega)
 have t3:=nK x.kind 3 (by omega);have HY:=oH (show JY p c b R l k x from⟨by rw[show b.params+(cj (R++l.take k):Int)=b.params+dn+dk from by rw[dw,I.2.2.2.1,o.2.2.1];omega];exact a7.out,⟨fun h=>absurd h e1,fun h=>absurd h e2⟩,fun h=>absurd h g2⟩);clear a8 g2 e1 e2;go_wp2_with (go_at_call 66;refine(HE.out _).mono ?_;rintro e w4 ⟨rfl,rfl⟩);go_roundg (l.length-(k+1))
 ·have Z:nx=b.params+dn+cj (l.take (k+1)):=by(
 rw[←b8.out,cU,o.2.2.2.1,dw,o.2.2.1];by_cases hf:cz x=true;·rw[ap hf,show cj (some x).toList=1 by rw[co];simp[hf]];omega
 rw[ae hf,show cj (some x).toList=0 by rw[co];simp[hf]];omega)
  refine⟨k+1,by omega,rfl,by go_num,by rw[Z],by go_num,o.2.2.2.2.trans HT.out,fun i z hi hz=>?_⟩;by_cases e:i=k;·subst e;rw[o.2.2.2.1] at hz;cases hz;exact HY.out
  exact o.2.1 i z (by omega) hz
 omega)
 have a7:=oH a8;have HN:=oH (show¬gX p c b from fun h=>by have h:=((HI.1 h).2.1 j l I.2.2.2.2.2.1).2.2 k x o.2.2.2.1;rw[I.2.2.1] at h;have h1:=h.1;rw[show b.params+(cj (R++l.take k):Int)=b.params+dn+dk from by rw[dw,I.2.2.2.1,o.2.2.1];omega] at h1;exact a7.out h1);clear a8;refine R0 14 wr (fun i=>if i=8 then some (fun v=>∃n:Int,v=.tuple #[.int .i64 n,.bool false]) else none) ?_;iterate 3 refine O4 HF.out ?_
 iterate 3 refine O0 ?_
 refine O4 HF.out ?_;refine O0 ?_;refine O6 (fun wn C hp=>?_) (fun wn C hp=>?_) ?_;·obtain⟨e0,e1,e2,e3,e4,e5,e6,e7,e8,e9,m1,m2,m3,m4,m8,m9,n0,n5,n6,n7⟩:=HF.out wn C;go_simp;refine(HC.out wn C).mono ?_;rintro e wq ⟨n,ok,rfl,hb,hn,c3⟩;rw[au a7.out] at hb;subst hb;exact .inl ⟨rfl,_,rfl,⟨n,rfl⟩,C.trans c3,fun _ h=>(by cases h),fun d hd hT=>(by cases hT)⟩
 ·obtain⟨e,wq,_,⟨n,ok,rfl,hb,hn,c3⟩,_⟩:=(HC.out wn C) []
  rw[au a7.out] at hb;subst hb;exact⟨_,wq,⟨n,rfl⟩,C.trans c3,fun _ h=>(by cases h),fun d hd hT=>(by cases hT)⟩
 rintro v ⟨n2,rfl⟩;simp only[PS];iterate 5 refine O0 ?_
 refine aG fun wt c4 hF=>?_;have HT:=oH c4;clear c4 hF;simp only[dK];go_wp2_with fail;go_ret2;exact .no HN.out (HW.2.1.trans (o.1.trans HT.out)))
 obtain rfl:k=l.length:=by omega
 rw[dZ] at b5;have HB:=J3 J Y b5;clear a6 J Y b5;go_wp2_with fail;go_roundg (b.Ng.length-(j+1));·(
 have e:(b.Ng.take (j+1)).flatten=R++l:=by rw[cU,I.2.2.2.2.2.1,List.flatten_append,I.2.2.1];simp
 refine⟨j+1,by omega,rfl,by go_num,?_,?_,HB.1,fun i m hi hm=>?_⟩;·rw[e,dw,I.2.2.2.1,HB.2.2,Int.natCast_add,Int.add_assoc]
 ·rw[e,iQ,I.2.2.2.2.1,Int.natCast_add]
 by_cases ei:i=j
 ·subst ei
  rw[I.2.2.2.2.2.1] at hm;cases hm;exact⟨by omega,by omega,fun k x hx=>by rw[I.2.2.1];exact HB.2.1 k x (lS.1 hx).1 hx⟩
 exact I.2.1 i m (by omega) hm)
 omega)
 obtain rfl:j=b.Ng.length:=by omega
 rw[dZ] at b4;have I:=J5 a6 Y b4 b9 b7;clear a6 Y b4 b9 b7;by_cases hv:b.params+(dn:Int)=b.vars
 ·have t:(b.params+(dn:Int)==b.vars)=true:=by rw[cy];exact hv
  have HY:=oH (show gX p c b from HI.2 ⟨⟨h0,h1,h2,h3⟩,fun i l hl=>I.2.1 i l (lS.1 hl).1 hl,by rw[I.2.2.1,I.2.2.2.1];exact hv.symm⟩);clear hv;go_wp2_with fail;go_quiet (fail);go_wp2_with fail;go_ret2;exact⟨pl,true,rfl,(av HY.out).symm,fun _=>by unfold ft;rw[I.2.2.1,I.2.2.2.2],by omega,HW.2.1.trans (I.1.drewN _)⟩
 have t:(b.params+(dn:Int)==b.vars)=false:=by rw[bE];exact hv
 have HN:=oH (show¬gX p c b from fun h=>hv (by have h:=(HI.1 h).2.2;rw[I.2.2.1,I.2.2.2.1] at h;exact h.symm));clear hv;go_wp2_with fail;go_quiet (fail);go_wp2_with fail;go_ret2;exact⟨pl,false,rfl,(au HN.out).symm,fun h=>absurd h HN.out,by omega,HW.2.1.trans (I.1.drewN _)⟩)
 have s3:decide ((64:Int)<(b.Ng.length:Int))=true:=by simp;omega
 have HN:=oH (show¬gX p c b from fun h=>by have h:=HI.1 h;exact h3 h.1.2.2.2);clear h3;go_wp2_with fail;go_ret2;exact .no HN.out (HW.2.1))
 have s2:decide ((b.Ng.length:Int)<1)=true:=by simp;omega
 have HN:=oH (show¬gX p c b from fun h=>by have h:=HI.1 h;exact h2 h.1.2.2.1);clear h2;go_wp2_with fail;go_ret2;exact .no HN.out (HW.2.1))
 have s1:decide (6<b.params)=true:=by simp;omega
 have HN:=oH (show¬gX p c b from fun h=>by have h:=HI.1 h;exact h1 h.1.2.1);clear h1;go_wp2_with fail;go_ret2;exact .no HN.out (HW.2.1))
 have s0:decide (b.params<0)=true:=by simp;omega
 have HN:=oH (show¬gX p c b from fun h=>by have h:=HI.1 h;exact h0 h.1.1);clear h0;go_wp2_with fail;go_ret2;exact .no HN.out (HW.2.1)
end Go.Proofs.YtceloincoomjeaaGreatDoor
