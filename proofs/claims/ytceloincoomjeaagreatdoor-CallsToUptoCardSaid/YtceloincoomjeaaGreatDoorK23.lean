/- Part 24 of the proof of CallsTo (its last part says what is proved). No condition. -/
import Derived.Sort.OwnSortedInts
import Derived.Test.YtceloincoomjeaaGreatDoorK21
import Derived.Test.YtceloincoomjeaaGreatDoorK22
namespace Go.Proofs.YtceloincoomjeaaGreatDoor
set_option maxRecDepth 100000
set_option maxHeartbeats 8000000
open Go.RowKit Go.Proofs.Tryz
theorem CK (S:Nat→Prop)(v:Value)(l:List Int)(w:World)(h:aK S w v l)(h1:1≤l.length):
 Calls prog 86 #[v] w fun e R=>∃g c cur,e=.returned (.slice (some ⟨g,0,none⟩) l.length c)∧aa All w R∧w.heap.size≤g∧al R g 3 cur∧l.length≤c∧c≤maxLen∧cur.size=c*1∧cur.toList.take l.length=l.map (Value.int .i64):=by
 obtain⟨a,cap,rfl,h2,h3,h4,h⟩:=h;obtain⟨b,off,c,rfl,_⟩:=h 0 l[0] (lG (by omega));refine(Tryz.slices_Clone_int b off l.length cap l w (cf _) h4 fun j hj=>?_).mono ?_
 ·obtain⟨b',a6,c',e,_,hc,rfl,_⟩:=h j l[j] (lG hj)
  cases e;rw[hc,iG,lG hj];rfl
 rintro e R ⟨v',rfl,⟨_,o⟩,_,J⟩;rcases o with ⟨_,h0⟩|⟨g,C,cur,rfl,hg,hh,Y,Z,a1,I⟩;·omega
 rw[dZ,Nat.mul_one] at I;exact⟨g,C,cur,rfl,⟨J.os,J.output,J.size,fun k hk _=>J.block k hk⟩,hg,hh,Y,Z,a1,I⟩
def LR (l:List Int):List Int:=l.mergeSort fun x y=>decide (x≤y)
theorem pX (l:List Int):(LR l).Perm l:=List.mergeSort_perm _ _
theorem LI (l:List Int):(LR l).Pairwise (·≤·):=by
 refine(List.pairwise_mergeSort (le:=fun x y:Int=>decide (x≤y)) (fun a b c j o=>?_) (fun a b=>?_) l).imp fun h=>by simpa using h
 ·simp only[iH] at j o⊢;omega
 simp only[Bool.or_eq_true,iH];omega
theorem Hm (g c:Nat)(cur:Array Value)(l:List Int)(w:World)(o:al w g 3 cur)(R:l.length≤c)(Y:c≤maxLen)(Z:cur.size=c*1)(ht:cur.toList.take l.length=l.map (Value.int .i64))(hl:l.length≤1000)(hw:∀x∈l,(Lit.int .i64 x).wf=true):
 Calls prog 87 #[.slice (some ⟨g,0,none⟩) l.length c] w fun e C=>e=.returned (.tuple #[])∧aa (fun b=>b≠g) w C∧aK (fun b=>b=g) C (.slice (some ⟨g,0,none⟩) l.length c) (LR l):=by
 have j:(LR l).length=l.length:=(pX l).length_eq;refine(Tryz.slices_Sort_int g 0 c l w (holds_of_blockI o ht) o.lt (by omega)).mono ?_;rintro e C ⟨rfl,n,os,rfl⟩;refine⟨rfl,kR.grown (grownBy_sortedI _) fun k e=>.inl fun h=>h (by cases e;rfl),?_⟩;have I:=ownsRow_sortedI (n:=n) (os:=os) (base:=0) j (Nat.zero_le g) o R Y Z;rw[←j] at I⊢;refine Sl.of_own I (by omega) (fun k e=>by cases e;rfl) fun i x J=>⟨_,by rw[cL,J];rfl,rfl,hw x ?_⟩;exact(pX l).mem_iff.1 (mG J)
theorem Ho (S R5 R6:Nat→Prop)(kb:Nat)(b:aw)(pl:Nat→Nat)(t:Nat→Int)(x:bz)(a5 a6:Value)(blk n:Nat)(w:World)(hC:rJ S w kb b t)(hG:gY b)(T:mz (bM b) t pl)(o:blk<b.Ng.length)
 (h5:aK R5 w a5 x.args) (h6:aK R6 w a6 x.Nh) (hx:x.Nh.length=x.args.length∧1≤x.Nh.length∧x.Nh.length≤64) (J:∀a∈x.args,0≤a∧a<b.vars) (a8:∀a∈x.Nh,0≤a∧a<b.Ng.length):
 Calls prog 57 #[.pointer (some ⟨kb,0,none⟩),.agg #[.int .u8 x.kind,.int .u8 x.op,.int .i64 x.dst,.int .i64 x.ref,.int .i64 x.Ni,a5,a6,.int .i64 x.num,.int .i64 x.Nj],.agg #[.int .i64 blk,.int .i64 n]] w fun e w'=>e=.returned (.int .i64 (mH b blk x))∧aa All w w':=by
 have R:=fun wn (o:aa All w wn)=>hC.keep o (fun _ _=>trivial) trivial;have c0:=ah.la h5;have b2:=ah.la h6;have c1:=Jq h6;obtain⟨A5,c5,rfl,u1,u2,u3,_⟩:=h5;obtain⟨A6,c6,rfl,v1,v2,v3,_⟩:=h6;unfold maxLen at u2 v2;obtain⟨c2,e5,b3⟩:=hx;have e8:x.Nh.length≤x.args.length:=by omega
 have e9:x.args.length≤x.Nh.length:=by omega
 obtain⟨W0,Y⟩:=eQ ((w.alloc (.cells #[.int .u8 x.kind,.int .u8 x.op,.int .i64 x.dst,.int .i64 x.ref,.int .i64 x.Ni,.slice A5 x.args.length c5,.slice A6 x.Nh.length c6,.int .i64 x.num,.int .i64 x.Nj] 52)).alloc (.cells #[.int .i64 blk,.int .i64 n] 107));have b4:aa All w W0:=by rw[Y];exact(kR.alloc _).alloc _
 have bX:al W0 w.heap.size 52 #[.int .u8 x.kind,.int .u8 x.op,.int .i64 x.dst,.int .i64 x.ref,.int .i64 x.Ni,.slice A5 x.args.length c5,.slice A6 x.Nh.length c6,.int .i64 x.num,.int .i64 x.Nj]:=by rw[Y];exact(al.new _ _ _).alloc _
 have bA:al W0 (w.heap.size+1) 107 #[.int .i64 blk,.int .i64 n]:=by rw[Y];exact ac (by simp)
 have x5:=bX.cell 5;have x6:=bX.cell 6;simp only[gc] at x5 x6;have c7:=CK _ _ _ W0 (b2 W0 b4) e5;have HG:=J6 hG T J a8 c1 c2;have HW:=J8 Y b4 bX bA R c0 b2 c7;clear hG T J a8 c1 Y b4 bX bA R c0 b2 c7 hC c2;go_enter func57,ntmps57;go_upto_region 1 with fail;rw[←HW.1];go_wp2_with fail;refine HW.2.2.2.2.2.2.2.mono ?_;rintro e w1 ⟨g,c,cur,rfl,c8,hg,hb,q1,q2,q3,q4⟩;have hs:=Hm g c cur x.Nh w1 hb q1 q2 q3 q4 (by omega) HG.2.2.2.2.1;have c9:=J2 c8 hs;unfold maxLen at q2;clear c8 hb q3 q4 hs;go_wp2_with fail;refine c9.2.mono ?_;rintro e w2 ⟨rfl,d7,d8⟩;have a7:aa All W0 w2:=am (c9.1.all.trans (d7.mono fun b (hb:b<W0.heap.size)=>by show b≠g;omega));have b7:=HW.2.1.trans a7;obtain⟨bv,A3,c3,A4,c4,h0,h3,m1,m2,m3,m4⟩:=HW.2.2.2.2.1 w2 b7;obtain⟨pb,po,pv,rfl,_,d9,e0⟩:=bn m3 (mX (k:=blk) (by rw[cS];exact o));have b0:=fun wn (o:aa All w2 wn)=>oP _ _ _ _ _ _ wn (ah.keep o.all d8) (ah.keep o.all e0);obtain⟨PA,pc,rfl,p1,p2,p3,_⟩:=e0;have b1:=(xp (ll:=bM b) (k:=blk) (pX x.Nh) (LI x.Nh)).trans mp.symm;have HF:=oH (show∀wn,aa All w2 wn→wn.cell? ⟨kb,4,none⟩=some (.slice (some ⟨pb,po,none⟩) b.Ng.length c4)∧wn.cell? ⟨w.heap.size+1,0,none⟩=some (.int .i64 blk)∧wn.cell? ⟨pb,po+blk,none⟩=some (.slice PA (di (bM b) (bM b).length blk).length pc) from fun wn o=>
  ⟨(m1.kept o trivial).cell 4,(HW.2.2.2.1.kept (a7.trans o) trivial).cell 0,o.cell trivial d9⟩)
 obtain⟨q,hq⟩:∃q,decide (LR x.Nh=di (bM b) (bM b).length blk)=q:=⟨_,rfl⟩;have e7:(LR x.Nh).length=x.Nh.length:=(pX x.Nh).length_eq;have Z:∀wn,aa All w2 wn→Calls prog 88 #[.slice (some ⟨g,0,none⟩) x.Nh.length c,.slice PA (di (bM b) (bM b).length blk).length pc] wn fun e w'=>e=.returned (.bool q)∧aa All wn w':=fun wn o=>by have:=b0 wn o;rwa [hq] at this
 have HC:=J5 Z b1 a7 b7 hq;clear b0 Z b1 a7 b7 hq m1 m2 m3 m4 d9 d7 d8 x5 x6;go_wp2_with fail;refine R0 11 w2 (fun i=>if i=9 then some (·=.bool q) else none) ?_;iterate 4 refine O0 ?_
 refine O4 HF.out ?_;refine O0 ?_;refine O4 HF.out ?_;refine O0 ?_;refine O4 HF.out ?_;refine O5 (v:=.bool q) (fun wn o hp=>⟨_,_,by(skip;go_simp<;>with_reducible rfl),((HC.1 wn o).mono fun e w' h=>⟨h.1,o.trans h.2,fun _ h=>by cases h⟩)⟩) ?_;refine O0 ?_;refine aG fun wt e1 hF=>?_;have HT:=oH e1;clear e1 hF;simp only[dK];cases q with
 |false=>have HN:=oH (wZ fun h=>by have:=HC.2.1.2 h;have h2:=HC.2.2.2.2;rw[bL this] at h2;cases h2);go_wp2_with fail;go_ret;exact⟨by rw[HN.out]<;>rfl,HC.2.2.2.1.trans HT.out⟩
 |true=>
  have HP:=oH (HC.2.1.1 (of_decide_eq_true HC.2.2.2.2));obtain⟨w3,rfl⟩:=eQ wt;have C:=J2 (HC.2.2.1.trans HT.out) (HC.2.2.2.1.trans HT.out);have b3:=HW.2.2.1.kept C.1 trivial;have x5:=b3.cell 5;simp only[gc] at x5;clear b3;go_wp2_with fail;go_loopg [29] x.args.length (fun gg s wr=>∃k:Nat,k≤x.args.length∧gg=x.args.length-k∧s=.int .i64 k∧aa All w3 wr∧∀(m:Nat) v f,m<k→x.args[m]? =some v→x.Nh[m]? =some f→jl b v f.toNat);·exact⟨0,by omega,by omega,rfl,kR,fun m v f hm=>by omega⟩
  obtain⟨k,o,rfl,rfl,l,I⟩:=hrel;clear x5;have hb:=HW.2.2.1.kept (C.1.trans l) trivial;have x6:=hb.cell 6;simp only[gc] at x6;clear hb;by_cases e6:k<x.args.length;·(
 obtain⟨v,hv⟩:=eG e6;obtain⟨f,hf⟩:∃f,x.Nh[k]? =some f:=⟨_,lG (by omega)⟩;have b8:=HG.2.2.1 v (mG hv);have e2:=HG.2.2.2.1 f (mG hf);obtain⟨vn,e3⟩:∃vn:Nat,v=vn:=⟨v.toNat,by omega⟩;obtain⟨fn,e4⟩:∃fn:Nat,f=fn:=⟨f.toNat,by omega⟩;rw[e3] at hv b8;rw[e4] at hf e2;obtain⟨b5,o5,y5,rfl,_,h4,rfl,_⟩:=bn (HW.2.2.2.2.2.1 wr (C.2.trans l)) hv;obtain⟨b6,o6,y6,rfl,_,h7,rfl,_⟩:=bn (HW.2.2.2.2.2.2.1 wr (C.2.trans l)) hf;have j:=vU S kb b pl t vn fn wr (HW.2.2.2.2.1 wr (C.2.trans l)) HG.1 HG.2.1 b8.2 (by omega);have HV:=J4 l I hv hf;have h8:k<x.Nh.length:=by omega
 clear l I hv hf e3 e4 b8 e2;by_cases he:jl b vn fn
 ·rw[av he] at j;have HE:=J2 j he;clear j he;go_wp2_with fail;refine HE.1.mono ?_;rintro e w4 ⟨rfl,a1⟩;have b9:=oH a1;clear a1;go_wp2_with fail;go_roundg (x.args.length-(k+1))
  ·refine⟨k+1,by omega,rfl,by go_num,HV.1.trans b9.out,fun m v f hm h1 h2=>?_⟩
   by_cases e:m=k;·subst e;rw[HV.2.2.1] at h1;rw[HV.2.2.2] at h2;cases h1;cases h2;exact HE.2
   exact HV.2.1 m v f (by omega) h1 h2
  omega
 rw[au he] at j;have HE:=J2 j (Cl HP.out HV.2.2.1 HV.2.2.2 (by simpa using he));clear j he;go_wp2_with fail;refine HE.1.mono ?_;rintro e w4 ⟨rfl,a1⟩;have b9:=oH a1;clear a1;go_wp2_with fail;go_ret;exact⟨by rw[HE.2]<;>rfl,(C.2.trans HV.1).trans b9.out⟩)
  obtain rfl:k=x.args.length:=by omega
  have HE:=J2 l (GC HP.out fun m v f h1 h2=>I m v f (lS.1 h1).1 h1 h2);clear l I;go_wp2_with fail;go_ret;exact⟨by rw[HE.2]<;>rfl,C.2.trans HE.1⟩
section
theorem yn {b:aw}{k:Nat}(h:cV (kO (bM b)) b.Ng.length=k):oh b=(fQ b k,16):=by unfold oh;rw[h,ap (by omega),dP]
theorem ve {b:aw}{k:Nat}(j:cV (kO (bM b)) b.Ng.length= -1)(h:cV (iN (bM b)) b.Ng.length=k):oh b=(fQ b k,17):=by unfold oh;rw[j,ae (by decide),h,ap (by omega),dP]
open Classical in
theorem yp {b:aw}(j:cV (kO (bM b)) b.Ng.length= -1)(l:cV (iN (bM b)) b.Ng.length= -1){i:Nat}(h:dH (bM b) i 0):oh b=(fQ b 0,18):=by unfold oh;rw[j,ae (by decide),l,ae (by decide),ap ⟨i,h⟩]
open Classical in
theorem BU {b:aw}(j:cV (kO (bM b)) b.Ng.length= -1)(l:cV (iN (bM b)) b.Ng.length= -1)(h:∀i,¬dH (bM b) i 0):oh b=ls (uo b) b.Ng:=by unfold oh;rw[j,ae (by decide),l,ae (by decide),ae fun⟨i,hi⟩=>h i hi]
open Classical in
theorem Gt {b:aw}{i k:Nat}{x:bz}(h:x.kind≠3){v:Int}(j:v∈x.args)(l:¬iP b v i k):uo b i k x=19:=by unfold uo;rw[ae h,ae fun h'=>l (h' v j)]
open Classical in
theorem Kq {b:aw}{i k:Nat}{x:bz}(h:x.kind≠3)(j:∀v∈x.args,iP b v i k):uo b i k x=0:=by unfold uo;rw[ae h,ap j]
theorem GD (b:aw)(i:Nat)(x:bz):mH b i x=0∨mH b i x=18∨mH b i x=19:=by
 unfold mH;split
 ·split
  ·exact .inl rfl
  exact .inr (.inr rfl)
 exact .inr (.inl rfl)
def qk (b:aw)(w:World)(e:Ending)(w':World):Prop:=e=.returned (.tuple #[.int .i64 (oh b).1,.int .i64 (oh b).2])∧aa All w w'
theorem qk.of {b:aw}{w j:World}{x y:Int}(h:oh b=(x,y))(l:aa All w j):qk b w (.returned (.tuple #[.int .i64 x,.int .i64 y])) j:=by refine⟨?_,l⟩;rw[h]
theorem yQ {b:aw}{k:Nat}{l:List bz}{x:bz}(j:b.Ng[k]? =some l)(o:l[0]? =some x):fQ b k=x.Nj:=by
 unfold fQ;have e:b.Ng.getD k []=l:=by rw[iG,j];rfl
 rw[e,iG,o];rfl
theorem DS (S:Nat→Prop)(bv:Value)(b:aw)(w:World)(hb:bW S w bv b.Ng)(hG:gY b):
 Calls prog 27 #[.agg #[.int .i64 b.params,.int .i64 b.vars,bv]] w (qk b w):=by
 have e3:=bg.la hb;obtain⟨B1,d1,rfl,m5,m6,m7,_⟩:=hb;unfold maxLen at*;have k4:=hG.blk.2;have k5:=hG.blk.1;obtain⟨W0,c6⟩:=eQ (w.alloc (.cells #[.int .i64 b.params,.int .i64 b.vars,.slice B1 b.Ng.length d1] 48));have e4:aa All w W0:=by rw[c6];exact kR.alloc _
 have bB:al W0 w.heap.size 48 #[.int .i64 b.params,.int .i64 b.vars,.slice B1 b.Ng.length d1]:=by rw[c6];exact ac rfl
 obtain⟨b0,b1,b2⟩:=bB.c3;have h8:=JH S (.slice B1 b.Ng.length d1) b W0 (e3 W0 e4) hG;have HG:=oH hG;have R:=J5 c6 e4 bB e3 h8;have e5:=oH (show∀(k:Nat),k<b.Ng.length→∃l x,b.Ng[k]? =some l∧l[0]? =some x∧fQ b k=x.Nj∧0<l.length from fun k hk=>by obtain⟨l,hl⟩:=eG hk;have h1:=(HG.out.some_ l (mG hl)).1;obtain⟨x,hx⟩:∃x,l[0]? =some x:=⟨_,lG (by omega)⟩;exact⟨l,x,hl,hx,yQ hl hx,h1⟩);clear c6 e4 bB e3 h8 hG;go_enter func27,ntmps27;go_upto_region 1 with fail;rw[←R.1];go_wp2_with fail;refine R.2.2.2.2.mono ?_;rintro e w1 ⟨u,rfl,b8,e6⟩;have c7:=aq.la b8;have c8:(bM b).length=b.Ng.length:=cS b;obtain⟨TA,tc,rfl,t1,t2,t3,_⟩:=b8;rw[c8] at t1 t3 c7⊢;unfold maxLen at t2;have b4:=DV _ _ (bM b) w1 (c7 w1 kR) (gd HG.out);have e0:=R.2.1.trans e6;rw[c8] at b4;have HT:=J5 c7 c8 b4 e6 e0;clear c7 c8 b4 e6 e0 b0 b1 b2;go_wp2_with fail;refine HT.2.2.1.mono ?_;rintro e w2 ⟨rfl,e7⟩;have c9:=oH (HT.2.2.2.1.trans e7);have e1:=oH e7;clear e7;have Z:=R.2.2.1.kept c9.out trivial;obtain⟨b0,b1,b2⟩:=Z.c3;clear Z;rcases jX (kO (bM b)) b.Ng.length with ⟨h0,_⟩|⟨k,h0,hk,_⟩
 case inr=>(
 obtain⟨l,x,hl,hx,a8,h9⟩:=e5.out k (by omega);obtain⟨rb,ro,rv,rfl,b6,b3,Y⟩:=bn (R.2.2.2.1 w2 (R.2.1.trans c9.out)) hl;obtain⟨LA,lc,rfl,l1,l2,l3,_⟩:=id Y;unfold maxLen at l2;obtain⟨xb,xo,e8,rfl,b7,a1,I,xa,xf,rfl,_⟩:=aZ Y hx;have z8:=I 8 _ rfl;rw[Nat.zero_mul,dj] at z8;have HP:=oH a8;clear hl hx a8 Y I b6 b7 a1;rw[h0];have tk:decide ((0:Int)≤(k:Int))=true:=by simp
 have HN:=oH (yn h0);clear h0;go_wp2_with fail;go_ret2;exact .of (by rw[HN.out,HP.out]) (R.2.1.trans c9.out))
 rw[h0];have H0:=oH h0;have e9:=Bb _ _ (bM b) w2 (HT.1 w2 e1.out) (gd HG.out);rw[HT.2.1] at e9;have HS:=oH e9;clear h0 e9;go_wp2_with fail;refine HS.out.mono ?_;rintro e w3 ⟨rfl,h2⟩;have a7:=oH (c9.out.trans h2);have b9:=oH (e1.out.trans h2);clear h2 b0 b1 b2;have Z:=R.2.2.1.kept a7.out trivial;obtain⟨b0,b1,b2⟩:=Z.c3;clear Z;rcases jX (iN (bM b)) b.Ng.length with ⟨h0,_⟩|⟨k,h0,hk,_⟩
 case inr=>(
 obtain⟨l,x,hl,hx,a8,h9⟩:=e5.out k (by omega);obtain⟨rb,ro,rv,rfl,b6,b3,Y⟩:=bn (R.2.2.2.1 w3 (R.2.1.trans a7.out)) hl;obtain⟨LA,lc,rfl,l1,l2,l3,_⟩:=id Y;unfold maxLen at l2;obtain⟨xb,xo,e8,rfl,b7,a1,I,xa,xf,rfl,_⟩:=aZ Y hx;have z8:=I 8 _ rfl;rw[Nat.zero_mul,dj] at z8;have HP:=oH a8;clear hl hx a8 Y I b6 b7 a1;rw[h0];have tk:decide ((0:Int)≤(k:Int))=true:=by simp
 have HN:=oH (ve H0.out h0);clear h0;go_wp2_with fail;go_ret2;exact .of (by rw[HN.out,HP.out]) (R.2.1.trans a7.out))
 rw[h0];have H1:=oH h0;clear h0;go_wp2_with fail;go_loopg [8] b.Ng.length (fun g s wr=>∃j:Nat,j≤b.Ng.length∧g=b.Ng.length-j∧s=.int .i64 j∧wr=w3∧∀i:Nat,i<j→¬dH (bM b) i 0);·exact⟨0,by omega,by omega,rfl,rfl,fun i hi=>by omega⟩
 obtain⟨j,hj,rfl,rfl,hw,o⟩:=hrel;have j9:=hw.symm;subst j9;by_cases c3:j<b.Ng.length;·(
 have HC:=J2 o (tF _ _ (bM b) j 0 w3 (HT.1 w3 b9.out) (by rw[HT.2.1];exact c3));clear o;go_wp2_with fail;refine HC.2.mono ?_;rintro e w4 ⟨rfl,hw⟩;subst hw;by_cases a6:dH (bM b) j 0;·rw[av a6];have HN:=oH (yp H0.out H1.out a6);clear a6;obtain⟨l,x,hl,hx,a8,h9⟩:=e5.out 0 (by omega);obtain⟨rb,ro,rv,rfl,b6,b3,Y⟩:=bn (R.2.2.2.1 w3 (R.2.1.trans a7.out)) hl;obtain⟨LA,lc,rfl,l1,l2,l3,_⟩:=id Y;unfold maxLen at l2;obtain⟨xb,xo,e8,rfl,b7,a1,I,xa,xf,rfl,_⟩:=aZ Y hx;have z8:=I 8 _ rfl;rw[Nat.zero_mul,dj] at z8;rw[dj] at b3;have HP:=oH a8;clear hl hx a8 Y I b6 b7 a1;go_wp2_with fail;go_ret2;exact .of (by rw[HN.out,HP.out]) (R.2.1.trans a7.out)
 rw[au a6];have HN:=oH a6;clear a6;go_wp2_with fail;go_roundg (b.Ng.length-(j+1))
 ·refine⟨j+1,by omega,rfl,by go_num,rfl,fun i hi=>?_⟩
  by_cases e:i=j;·subst e;exact HN.out
  exact HC.1 i (by omega)
 omega)
 obtain rfl:j=b.Ng.length:=by omega
 have HO:=oH (BU H0.out H1.out fun i hi=>o i (by have:=lq hi;rw[HT.2.1] at this;exact this) hi);clear o;go_wp2_with fail;go_loopg [9] b.Ng.length (fun g s wr=>∃j:Nat,j≤b.Ng.length∧g=b.Ng.length-j∧s=.int .i64 j∧aa All w3 wr∧∀(i:Nat),i<j→∀l,b.Ng[i]? =some l→∀(k:Nat) x,l[k]? =some x→uo b i k x=0);·exact⟨0,by omega,by omega,rfl,kR,fun i hi=>by omega⟩
 obtain⟨j,hj,rfl,rfl,C,o⟩:=hrel;clear b0 b1 b2;have Z:=R.2.2.1.kept (a7.out.trans C) trivial;obtain⟨b0,b1,b2⟩:=Z.c3;clear Z;by_cases c3:j<b.Ng.length;·(
 obtain⟨l,hl⟩:=eG c3;have i0:=mG hl;obtain⟨rb,ro,rv,rfl,b6,b3,Y⟩:=bn (R.2.2.2.1 wr (R.2.1.trans (a7.out.trans C))) hl;have i1:=cT.la Y;obtain⟨LA,lc,rfl,l1,l2,l3,_⟩:=Y;unfold maxLen at l2;have HA:=J6 C o hl i0 i1 b3;clear C o hl i0 i1 b6;obtain⟨wo,rfl⟩:=eQ wr;go_wp2_with fail;go_loopg [10] l.length (fun g s wr=>∃k:Nat,k≤l.length∧g=l.length-k∧s=.int .i64 k∧aa All wo wr∧∀(i:Nat),i<k→∀x,l[i]? =some x→uo b j i x=0);·exact⟨0,by omega,by omega,rfl,kR,fun i hi=>by omega⟩
 obtain⟨k,hk,rfl,rfl,C,o⟩:=hrel;have c4:aa All W0 wr:=a7.out.trans (HA.1.trans C);clear b0 b1 b2 b3;have Z:=R.2.2.1.kept c4 trivial;obtain⟨b0,b1,b2⟩:=Z.c3;clear Z;have b3:=C.cell trivial HA.2.2.2.2.2;by_cases i2:k<l.length;·(
 obtain⟨x,hx⟩:=eG i2;have i4:=mG hx;obtain⟨xb,xo,e8,rfl,b7,a1,I,xa,xf,rfl,i5,i6,k0⟩:=aZ (HA.2.2.2.2.1 wr C) hx;have i7:=ah.la i5;have j0:=ah.la i6;obtain⟨ua,uc,rfl,u1,u2,u3,_⟩:=i5;obtain⟨va,vc,rfl,_⟩:=i6;unfold maxLen at u2;have z0:=I 0 _ rfl;rw[dj] at z0;have z1:=I 1 _ rfl;have z2:=I 2 _ rfl;have z3:=I 3 _ rfl;have z4:=I 4 _ rfl;have z5:=I 5 _ rfl;have z6:=I 6 _ rfl;have z7:=I 7 _ rfl;have z8:=I 8 _ rfl;obtain⟨W5,d7⟩:=eQ (wr.alloc (.cells #[.int .u8 x.kind,.int .u8 x.op,.int .i64 x.dst,.int .i64 x.ref,.int .i64 x.Ni,.slice ua x.args.length uc,.slice va x.Nh.length vc,.int .i64 x.num,.int .i64 x.Nj] 52));have d8:aa All wr W5:=by rw[d7];exact kR.alloc _
 have b5:al W5 wr.heap.size 52 #[.int .u8 x.kind,.int .u8 x.op,.int .i64 x.dst,.int .i64 x.ref,.int .i64 x.Ni,.slice ua x.args.length uc,.slice va x.Nh.length vc,.int .i64 x.num,.int .i64 x.Nj]:=by rw[d7];exact ac rfl
 obtain⟨y0,y1,y2,y3,y4,y5,y6,y7,y8⟩:=b5.c9;have e2:=R.2.2.1.kept (c4.trans d8) trivial;obtain⟨c0,c1,c2⟩:=e2.c3;have J:=J10 C o hx i4 d7 d8 b5 i7 j0 (c4.trans d8);clear C o hx i4 d7 d8 b5 i7 j0 c4 e2 I k0 b7 a1;go_upto_region 20 with fail;rw[←J.2.2.2.2.1];clear z0 z1 z2 z3 z4 z5 z6 z7 z8 b0 b1 b2 b3;by_cases h3:x.kind=3;·(
 have t3:=yK x.kind 3 (by omega);have hC:=Hf S _ (.slice (some ⟨rb,ro,none⟩) b.Ng.length d1) (.slice TA b.Ng.length tc) _ _ b x j W5 (R.2.2.2.1 W5 (R.2.1.trans J.2.2.2.2.2.2.2.2.2)) (HT.1 W5 (b9.out.trans (HA.1.trans (J.1.trans J.2.2.2.2.2.1)))) HG.out c3 (J.2.2.2.2.2.2.2.1 W5 J.2.2.2.2.2.1) (J.2.2.2.2.2.2.2.2.1 W5 J.2.2.2.2.2.1) (by have:=HG.out.phi l HA.2.2.2.1 x J.2.2.2.1 h3;exact⟨this.1,this.2.2⟩) (HG.out.Nh l HA.2.2.2.1 x J.2.2.2.1) (HG.out.args l HA.2.2.2.1 x J.2.2.2.1);have h4:uo b j k x=mH b j x:=Ck h3;have h5:=GD b j x;obtain⟨pf,j1⟩:=eR (mH b j x);rw[j1] at hC h4 h5;have HC:=J2 hC h4;clear hC h4 j1 h3;go_wp2_with fail;refine HC.1.mono ?_;rintro e w6 ⟨rfl,h6⟩;have j2:=oH h6;have j3:=J.2.2.2.2.2.2.1.kept h6 trivial;have y8:=j3.cell 8;simp only[gc] at y8;clear h6 j3;by_cases hz:pf=0;·(
 have tz:(pf !=0)=false:=by rw[gj];exact hz
 have HZ:=oH (show uo b j k x=0 by rw[HC.2];exact hz);clear hz h5;go_wp2_with fail;go_roundg (l.length-(k+1))
 ·refine⟨k+1,by omega,rfl,by go_num,(J.1.trans J.2.2.2.2.2.1).trans j2.out,fun i hi z hz=>?_⟩
  by_cases e:i=k;·subst e;rw[J.2.2.1] at hz;cases hz;exact HZ.out
  exact J.2.1 i (by omega) z hz
 omega)
 have tz:(pf !=0)=true:=by rw[bne_iff_ne];exact hz
 have HZ:=oH (show oh b=(x.Nj,pf) by rw[HO.out,uY HA.2.2.1 J.2.2.1 (fun i hi m hm k y hy=>HA.2.1 i hi m hm k y hy) (fun i hi y hy=>J.2.1 i hi y hy) (by rw[HC.2];exact hz),HC.2]);clear hz h5;go_wp2_with fail;go_ret2;exact .of HZ.out ((R.2.1.trans J.2.2.2.2.2.2.2.2.2).trans j2.out))
 have t3:=nK x.kind 3 (by omega);have H3:=oH h3;clear h3;obtain⟨wp,rfl⟩:=eQ wr;go_wp2_with fail;go_loopg [13] x.args.length (fun g s wr=>∃m:Nat,m≤x.args.length∧g=x.args.length-m∧s=.int .i64 m∧aa All W5 wr∧∀(i:Nat) v,i<m→x.args[i]? =some v→iP b v j k);·exact⟨0,by omega,by omega,rfl,kR,fun i v hi=>by omega⟩
 obtain⟨m,hm,rfl,rfl,C,o⟩:=hrel;clear y0 y1 y2 y3 y4 y5 y6 y7 y8 c0 c1 c2;have j4:=J.2.2.2.2.2.2.1.kept C trivial;obtain⟨y0,y1,y2,y3,y4,y5,y6,y7,y8⟩:=j4.c9;clear j4;by_cases j5:m<x.args.length;·(
 obtain⟨v,hv⟩:=eG j5;have j6:aa All wp wr:=J.2.2.2.2.2.1.trans C;obtain⟨vb,vo,c,rfl,k1,j7,rfl,k2⟩:=bn (J.2.2.2.2.2.2.2.1 wr j6) hv;have v0:=(HG.out.args l HA.2.2.2.1 x J.2.2.2.1 v (mG hv)).1;have HF:=oH (show∀wn,aa All wr wn→wn.cell? ⟨w.heap.size,0,none⟩=some (.int .i64 b.params)∧wn.cell? ⟨w.heap.size,1,none⟩=some (.int .i64 b.vars)∧wn.cell? ⟨w.heap.size,2,none⟩=some (.slice (some ⟨rb,ro,none⟩) b.Ng.length d1)∧wn.cell? ⟨wp.heap.size,5,none⟩=some (.slice (some ⟨vb,vo,none⟩) x.args.length uc)∧wn.cell? ⟨vb,vo+m,none⟩=some (.int .i64 v) from fun wn hk=>
  ⟨(R.2.2.1.kept ((J.2.2.2.2.2.2.2.2.2.trans C).trans hk) trivial).cell 0,(R.2.2.1.kept ((J.2.2.2.2.2.2.2.2.2.trans C).trans hk) trivial).cell 1,(R.2.2.1.kept ((J.2.2.2.2.2.2.2.2.2.trans C).trans hk) trivial).cell 2,((J.2.2.2.2.2.2.1.kept C trivial).kept hk trivial).cell 5,hk.cell trivial j7⟩)
 have HC:=oH (fun wn (hk:aa All wr wn)=>zj S _ (.slice (some ⟨rb,ro,none⟩) b.Ng.length d1) (.slice TA b.Ng.length tc) b v j k wn (R.2.2.2.1 wn (R.2.1.trans ((J.2.2.2.2.2.2.2.2.2.trans C).trans hk))) (HT.1 wn (b9.out.trans ((HA.1.trans (J.1.trans J.2.2.2.2.2.1)).trans (C.trans hk)))) HG.out (by omega) c3);have HV:=J3 C o hv;clear C o hv j6 k1 j7 k2;go_wp2_with fail;by_cases he:iP b v j k;·(
 rw[av he] at HC;have HE:=oH he;clear he;refine R0 11 wr (fun i=>if i=9 then some (·=.bool true) else none) ?_;refine O4 HF.out ?_;iterate 2 refine O0 ?_
 refine O4 HF.out ?_;iterate 2 refine O0 ?_
 refine O4 HF.out ?_;iterate 2 refine O0 ?_
 refine O5 (v:=.bool true) (fun wn hk hp=>⟨_,_,by(skip;go_simp<;>with_reducible rfl),((HC.out wn hk).mono fun e w' h=>⟨h.1,hk.trans h.2,fun _ h=>by cases h⟩)⟩) ?_;refine O0 ?_;refine aG fun wt c5 hF=>?_;have d9:=oH c5;clear c5 hF;simp only[dK];go_wp2_with fail;go_roundg (x.args.length-(m+1))
 ·refine⟨m+1,by omega,rfl,by go_num,HV.1.trans d9.out,fun i z hi hz=>?_⟩
  by_cases e:i=m;·subst e;rw[HV.2.2] at hz;cases hz;exact HE.out
  exact HV.2.1 i z (by omega) hz
 omega)
 rw[au he] at HC;have HE:=oH he;clear he;refine R0 11 wr (fun i=>if i=9 then some (·=.bool false) else none) ?_;refine O4 HF.out ?_;iterate 2 refine O0 ?_
 refine O4 HF.out ?_;iterate 2 refine O0 ?_
 refine O4 HF.out ?_;iterate 2 refine O0 ?_
 refine O5 (v:=.bool false) (fun wn hk hp=>⟨_,_,by(skip;go_simp<;>with_reducible rfl),((HC.out wn hk).mono fun e w' h=>⟨h.1,hk.trans h.2,fun _ h=>by cases h⟩)⟩) ?_;refine O0 ?_;refine aG fun wt c5 hF=>?_;have d9:=oH c5;clear c5 hF;simp only[dK];have k3:=(J.2.2.2.2.2.2.1.kept (HV.1.trans d9.out) trivial).cell 8;simp only[gc] at k3;have HZ:=oH (show oh b=(x.Nj,19) by have j8:=Gt (b:=b) (i:=j) (k:=k) H3.out (mG HV.2.2) HE.out;rw[HO.out,uY HA.2.2.1 J.2.2.1 (fun i hi m hm k y hy=>HA.2.1 i hi m hm k y hy) (fun i hi y hy=>J.2.1 i hi y hy) (by rw[j8];decide),j8]);go_wp2_with fail;go_ret2;exact .of HZ.out ((R.2.1.trans J.2.2.2.2.2.2.2.2.2).trans (HV.1.trans d9.out)))
 obtain rfl:m=x.args.length:=by omega
 have HB:=J2 C (Kq (b:=b) (i:=j) (k:=k) H3.out fun v hv=>by obtain⟨i,hi⟩:=cY.1 hv;exact o i v (lS.1 hi).1 hi);clear C o;go_wp2_with fail;go_roundg (l.length-(k+1))
 ·refine⟨k+1,by omega,rfl,by go_num,(J.1.trans J.2.2.2.2.2.1).trans HB.1,fun i hi z hz=>?_⟩
  by_cases e:i=k;·subst e;rw[J.2.2.1] at hz;cases hz;exact HB.2
  exact J.2.1 i (by omega) z hz
 omega)
 obtain rfl:k=l.length:=by omega
 have HB:=J2 C o;clear C o c4;go_wp2_with fail;go_roundg (b.Ng.length-(j+1))
 ·refine⟨j+1,by omega,rfl,by go_num,HA.1.trans HB.1,fun i hi l2 h7 k x hx=>?_⟩
  by_cases e:i=j;·subst e;rw[HA.2.2.1] at h7;cases h7;exact HB.2 k (lS.1 hx).1 x hx
  exact HA.2.1 i (by omega) l2 h7 k x hx
 omega)
 obtain rfl:j=b.Ng.length:=by omega
 have HN:=oH (show oh b=(0,0) by rw[HO.out];exact yj fun i l hl=>o i (lS.1 hl).1 l hl);have HK:=oH C;clear C o;go_wp2_with fail;go_ret2;exact .of HN.out (R.2.1.trans (a7.out.trans HK.out))
end
end Go.Proofs.YtceloincoomjeaaGreatDoor
