/- Part 27 of the proof of CallsShallow (its last part says what is proved). No condition. -/
import Derived.Sort.OwnSortedInts
import Derived.Test.YtncdbjponknakaaGreatDoorK24
import Derived.Test.YtncdbjponknakaaGreatDoorK25
namespace Go.Proofs.YtncdbjponknakaaGreatDoor
set_option maxRecDepth 100000
set_option maxHeartbeats 8000000
open Go.RowKit Go.Proofs.Tryz
theorem CK (S:Nat→Prop)(v:Value)(l:List Int)(w:World)(h:aK S w v l)(h1:1≤l.length):
 Calls prog 50 #[v] w fun e Y=>∃g c cur,e=.returned (.slice (some ⟨g,0,none⟩) l.length c)∧aa All w Y∧w.heap.size≤g∧al Y g 3 cur∧l.length≤c∧c≤maxLen∧cur.size=c*1∧cur.toList.take l.length=l.map (Value.int .i64):=by
 obtain⟨a,cap,rfl,h2,h3,h4,h⟩:=h;obtain⟨b,off,c,rfl,_⟩:=h 0 l[0] (lG (by omega));refine(Tryz.slices_Clone_int b off l.length cap l w (cf _) h4 fun j hj=>?_).mono ?_
 ·obtain⟨b',a7,c',e,_,hc,rfl,_⟩:=h j l[j] (lG hj)
  cases e;rw[hc,iG,lG hj];rfl
 rintro e Y ⟨v',rfl,⟨_,o⟩,_,R⟩;rcases o with ⟨_,h0⟩|⟨g,C,cur,rfl,hg,hh,Z,a1,a6,J⟩;·omega
 rw[dZ,Nat.mul_one] at J;exact⟨g,C,cur,rfl,⟨R.os,R.output,R.size,fun k hk _=>R.block k hk⟩,hg,hh,Z,a1,a6,J⟩
def LR (l:List Int):List Int:=l.mergeSort fun x y=>decide (x≤y)
theorem pX (l:List Int):(LR l).Perm l:=List.mergeSort_perm _ _
theorem LI (l:List Int):(LR l).Pairwise (·≤·):=by
 refine(List.pairwise_mergeSort (le:=fun x y:Int=>decide (x≤y)) (fun a b c j o=>?_) (fun a b=>?_) l).imp fun h=>by simpa using h
 ·simp only[iH] at j o⊢;omega
 simp only[Bool.or_eq_true,iH];omega
theorem Hm (g c:Nat)(cur:Array Value)(l:List Int)(w:World)(o:al w g 3 cur)(Y:l.length≤c)(Z:c≤maxLen)(h3:cur.size=c*1)(ht:cur.toList.take l.length=l.map (Value.int .i64))(hl:l.length≤1000)(hw:∀x∈l,(Lit.int .i64 x).wf=true):
 Calls prog 105 #[.slice (some ⟨g,0,none⟩) l.length c] w fun e C=>e=.returned (.tuple #[])∧aa (fun b=>b≠g) w C∧aK (fun b=>b=g) C (.slice (some ⟨g,0,none⟩) l.length c) (LR l):=by
 have j:(LR l).length=l.length:=(pX l).length_eq;refine(Tryz.slices_Sort_int g 0 c l w (holds_of_blockI o ht) o.lt (by omega)).mono ?_;rintro e C ⟨rfl,n,os,rfl⟩;refine⟨rfl,kR.grown (grownBy_sortedI _) fun k e=>.inl fun h=>h (by cases e;rfl),?_⟩;have J:=ownsRow_sortedI (n:=n) (os:=os) (base:=0) j (Nat.zero_le g) o Y Z h3;rw[←j] at J⊢;refine Sl.of_own J (by omega) (fun k e=>by cases e;rfl) fun i x R=>⟨_,by rw[cL,R];rfl,rfl,hw x ?_⟩;exact(pX l).mem_iff.1 (mG R)
theorem Ho (S R5 R6:Nat→Prop)(kb:Nat)(b:aw)(pl:Nat→Nat)(t:Nat→Int)(x:bz)(a5 a6:Value)(blk n:Nat)(w:World)(hC:rJ S w kb b t)(hG:gY b)(T:mz (bM b) t pl)(o:blk<b.Ng.length)
 (h5:aK R5 w a5 x.args) (h6:aK R6 w a6 x.Nh) (hx:x.Nh.length=x.args.length∧1≤x.Nh.length∧x.Nh.length≤64) (R:∀a∈x.args,0≤a∧a<b.vars) (b0:∀a∈x.Nh,0≤a∧a<b.Ng.length):
 Calls prog 74 #[.pointer (some ⟨kb,0,none⟩),.agg #[.int .u8 x.kind,.int .u8 x.op,.int .i64 x.dst,.int .i64 x.ref,.int .i64 x.Ni,a5,a6,.int .i64 x.num,.int .i64 x.Nj],.agg #[.int .i64 blk,.int .i64 n]] w fun e w'=>e=.returned (.int .i64 (mH b blk x))∧aa All w w':=by
 have Y:=fun wn (o:aa All w wn)=>hC.keep o (fun _ _=>trivial) trivial;have c1:=ah.la h5;have b3:=ah.la h6;have c2:=Jq h6;obtain⟨A5,c5,rfl,u1,u2,u3,_⟩:=h5;obtain⟨A6,c6,rfl,v1,v2,v3,_⟩:=h6;unfold maxLen at u2 v2;obtain⟨c7,e6,b4⟩:=hx;have e9:x.Nh.length≤x.args.length:=by omega
 have h0:x.args.length≤x.Nh.length:=by omega
 obtain⟨W0,Z⟩:=eQ ((w.alloc (.cells #[.int .u8 x.kind,.int .u8 x.op,.int .i64 x.dst,.int .i64 x.ref,.int .i64 x.Ni,.slice A5 x.args.length c5,.slice A6 x.Nh.length c6,.int .i64 x.num,.int .i64 x.Nj] 47)).alloc (.cells #[.int .i64 blk,.int .i64 n] 179));have b7:aa All w W0:=by rw[Z];exact(kR.alloc _).alloc _
 have bX:al W0 w.heap.size 47 #[.int .u8 x.kind,.int .u8 x.op,.int .i64 x.dst,.int .i64 x.ref,.int .i64 x.Ni,.slice A5 x.args.length c5,.slice A6 x.Nh.length c6,.int .i64 x.num,.int .i64 x.Nj]:=by rw[Z];exact(al.new _ _ _).alloc _
 have bA:al W0 (w.heap.size+1) 179 #[.int .i64 blk,.int .i64 n]:=by rw[Z];exact ac (by simp)
 have x5:=bX.cell 5;have x6:=bX.cell 6;simp only[gc] at x5 x6;have c8:=CK _ _ _ W0 (b3 W0 b7) e6;have HG:=J6 hG T R b0 c2 c7;have HW:=J8 Z b7 bX bA Y c1 b3 c8;clear hG T R b0 c2 Z b7 bX bA Y c1 b3 c8 hC c7;go_enter func74,ntmps74;go_upto_region 1 with fail;rw[←HW.1];go_wp2_with fail;refine HW.2.2.2.2.2.2.2.mono ?_;rintro e w1 ⟨g,c,cur,rfl,c9,hg,hb,q1,q2,q3,q4⟩;have hs:=Hm g c cur x.Nh w1 hb q1 q2 q3 q4 (by omega) HG.2.2.2.2.1;have d7:=J2 c9 hs;unfold maxLen at q2;clear c9 hb q3 q4 hs;go_wp2_with fail;refine d7.2.mono ?_;rintro e w2 ⟨rfl,d8,d9⟩;have a8:aa All W0 w2:=am (d7.1.all.trans (d8.mono fun b (hb:b<W0.heap.size)=>by show b≠g;omega));have b8:=HW.2.1.trans a8;obtain⟨bv,A3,c3,A4,c4,h3,h4,m1,m2,m3,m4⟩:=HW.2.2.2.2.1 w2 b8;obtain⟨pb,po,pv,rfl,_,e0,e1⟩:=bn m3 (mX (k:=blk) (by rw[cS];exact o));have b1:=fun wn (o:aa All w2 wn)=>oP _ _ _ _ _ _ wn (ah.keep o.all d9) (ah.keep o.all e1);obtain⟨PA,pc,rfl,p1,p2,p3,_⟩:=e1;have b2:=(xp (ll:=bM b) (k:=blk) (pX x.Nh) (LI x.Nh)).trans mp.symm;have HF:=oH (show∀wn,aa All w2 wn→wn.cell? ⟨kb,4,none⟩=some (.slice (some ⟨pb,po,none⟩) b.Ng.length c4)∧wn.cell? ⟨w.heap.size+1,0,none⟩=some (.int .i64 blk)∧wn.cell? ⟨pb,po+blk,none⟩=some (.slice PA (di (bM b) (bM b).length blk).length pc) from fun wn o=>
  ⟨(m1.kept o trivial).cell 4,(HW.2.2.2.1.kept (a8.trans o) trivial).cell 0,o.cell trivial e0⟩)
 obtain⟨q,hq⟩:∃q,decide (LR x.Nh=di (bM b) (bM b).length blk)=q:=⟨_,rfl⟩;have e8:(LR x.Nh).length=x.Nh.length:=(pX x.Nh).length_eq;have a1:∀wn,aa All w2 wn→Calls prog 106 #[.slice (some ⟨g,0,none⟩) x.Nh.length c,.slice PA (di (bM b) (bM b).length blk).length pc] wn fun e w'=>e=.returned (.bool q)∧aa All wn w':=fun wn o=>by have:=b1 wn o;rwa [hq] at this
 have HC:=J5 a1 b2 a8 b8 hq;clear b1 a1 b2 a8 b8 hq m1 m2 m3 m4 e0 d8 d9 x5 x6;go_wp2_with fail;refine R0 11 w2 (fun i=>if i=9 then some (·=.bool q) else none) ?_;iterate 4 refine O0 ?_
 refine O4 HF.out ?_;refine O0 ?_;refine O4 HF.out ?_;refine O0 ?_;refine O4 HF.out ?_;refine O5 (v:=.bool q) (fun wn o hp=>⟨_,_,by(skip;go_simp<;>with_reducible rfl),((HC.1 wn o).mono fun e w' h=>⟨h.1,o.trans h.2,fun _ h=>by cases h⟩)⟩) ?_;refine O0 ?_;refine aG fun wt e2 hF=>?_;have HT:=oH e2;clear e2 hF;simp only[dK];cases q with
 |false=>have HN:=oH (wZ fun h=>by have:=HC.2.1.2 h;have h2:=HC.2.2.2.2;rw[bL this] at h2;cases h2);go_wp2_with fail;go_ret;exact⟨by rw[HN.out]<;>rfl,HC.2.2.2.1.trans HT.out⟩
 |true=>
  have HP:=oH (HC.2.1.1 (of_decide_eq_true HC.2.2.2.2));obtain⟨w3,rfl⟩:=eQ wt;have C:=J2 (HC.2.2.1.trans HT.out) (HC.2.2.2.1.trans HT.out);have b4:=HW.2.2.1.kept C.1 trivial;have x5:=b4.cell 5;simp only[gc] at x5;clear b4;go_wp2_with fail;go_loopg [29] x.args.length (fun gg s wr=>∃k:Nat,k≤x.args.length∧gg=x.args.length-k∧s=.int .i64 k∧aa All w3 wr∧∀(m:Nat) v f,m<k→x.args[m]? =some v→x.Nh[m]? =some f→jl b v f.toNat);·exact⟨0,by omega,by omega,rfl,kR,fun m v f hm=>by omega⟩
  obtain⟨k,o,rfl,rfl,l,J⟩:=hrel;clear x5;have hb:=HW.2.2.1.kept (C.1.trans l) trivial;have x6:=hb.cell 6;simp only[gc] at x6;clear hb;by_cases e7:k<x.args.length;·(
 obtain⟨v,hv⟩:=eG e7;obtain⟨f,hf⟩:∃f,x.Nh[k]? =some f:=⟨_,lG (by omega)⟩;have b9:=HG.2.2.1 v (mG hv);have e3:=HG.2.2.2.1 f (mG hf);obtain⟨vn,e4⟩:∃vn:Nat,v=vn:=⟨v.toNat,by omega⟩;obtain⟨fn,e5⟩:∃fn:Nat,f=fn:=⟨f.toNat,by omega⟩;rw[e4] at hv b9;rw[e5] at hf e3;obtain⟨b5,o5,y5,rfl,_,h7,rfl,_⟩:=bn (HW.2.2.2.2.2.1 wr (C.2.trans l)) hv;obtain⟨b6,o6,y6,rfl,_,h8,rfl,_⟩:=bn (HW.2.2.2.2.2.2.1 wr (C.2.trans l)) hf;have j:=vU S kb b pl t vn fn wr (HW.2.2.2.2.1 wr (C.2.trans l)) HG.1 HG.2.1 b9.2 (by omega);have HV:=J4 l J hv hf;have h9:k<x.Nh.length:=by omega
 clear l J hv hf e4 e5 b9 e3;by_cases he:jl b vn fn
 ·rw[av he] at j;have HE:=J2 j he;clear j he;go_wp2_with fail;refine HE.1.mono ?_;rintro e w4 ⟨rfl,a7⟩;have c0:=oH a7;clear a7;go_wp2_with fail;go_roundg (x.args.length-(k+1))
  ·refine⟨k+1,by omega,rfl,by go_num,HV.1.trans c0.out,fun m v f hm h1 h2=>?_⟩
   by_cases e:m=k;·subst e;rw[HV.2.2.1] at h1;rw[HV.2.2.2] at h2;cases h1;cases h2;exact HE.2
   exact HV.2.1 m v f (by omega) h1 h2
  omega
 rw[au he] at j;have HE:=J2 j (Cl HP.out HV.2.2.1 HV.2.2.2 (by simpa using he));clear j he;go_wp2_with fail;refine HE.1.mono ?_;rintro e w4 ⟨rfl,a7⟩;have c0:=oH a7;clear a7;go_wp2_with fail;go_ret;exact⟨by rw[HE.2]<;>rfl,(C.2.trans HV.1).trans c0.out⟩)
  obtain rfl:k=x.args.length:=by omega
  have HE:=J2 l (GC HP.out fun m v f h1 h2=>J m v f (lS.1 h1).1 h1 h2);clear l J;go_wp2_with fail;go_ret;exact⟨by rw[HE.2]<;>rfl,C.2.trans HE.1⟩
section
theorem yn {b:aw}{k:Nat}(h:cV (kO (bM b)) b.Ng.length=k):oh b=(fQ b k,16):=by unfold oh;rw[h,ap (by omega),dP]
theorem ve {b:aw}{k:Nat}(j:cV (kO (bM b)) b.Ng.length= -1)(h:cV (iN (bM b)) b.Ng.length=k):oh b=(fQ b k,17):=by unfold oh;rw[j,ae (by decide),h,ap (by omega),dP]
open Classical in
theorem yp {b:aw}(j:cV (kO (bM b)) b.Ng.length= -1)(l:cV (iN (bM b)) b.Ng.length= -1){i:Nat}(h:dH (bM b) i 0):oh b=(fQ b 0,18):=by unfold oh;rw[j,ae (by decide),l,ae (by decide),ap ⟨i,h⟩]
open Classical in
theorem BU {b:aw}(j:cV (kO (bM b)) b.Ng.length= -1)(l:cV (iN (bM b)) b.Ng.length= -1)(h:∀i,¬dH (bM b) i 0):oh b=ls (uo b) b.Ng:=by unfold oh;rw[j,ae (by decide),l,ae (by decide),ae fun⟨i,hi⟩=>h i hi]
open Classical in
theorem Gt {b:aw}{i k:Nat}{x:bz}(h:x.kind≠3){v:Int}(j:v∈x.args)(l:¬iP b v i k):uo b i k x=19:=by unfold uo;rw[ae h,ae fun h'=>l (h' v j)]
open Classical in
theorem Kq {b:aw}{i k:Nat}{x:bz}(h:x.kind≠3)(j:∀v∈x.args,iP b v i k):uo b i k x=0:=by unfold uo;rw[ae h,ap j]
def qk (b:aw)(w:World)(e:Ending)(w':World):Prop:=e=.returned (.tuple #[.int .i64 (oh b).1,.int .i64 (oh b).2])∧aa All w w'
theorem qk.of {b:aw}{w j:World}{x y:Int}(h:oh b=(x,y))(l:aa All w j):qk b w (.returned (.tuple #[.int .i64 x,.int .i64 y])) j:=by refine⟨?_,l⟩;rw[h]
theorem yQ {b:aw}{k:Nat}{l:List bz}{x:bz}(j:b.Ng[k]? =some l)(o:l[0]? =some x):fQ b k=x.Nj:=by
 unfold fQ;have e:b.Ng.getD k []=l:=by rw[iG,j];rfl
 rw[e,iG,o];rfl
end
end Go.Proofs.YtncdbjponknakaaGreatDoor
