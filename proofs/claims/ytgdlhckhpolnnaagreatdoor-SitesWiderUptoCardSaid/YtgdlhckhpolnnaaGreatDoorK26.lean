/- Part 27 of the proof (its last part says what is proved). No condition. -/
import Derived.Shelf.Sort.Plain
import Derived.Shelf.Slices.Clone
import Derived.Sort.OwnSortedInts
import Derived.Test.YtgdlhckhpolnnaaGreatDoorK24
namespace Go.Proofs.YtgdlhckhpolnnaaGreatDoor
set_option maxRecDepth 100000
set_option maxHeartbeats 8000000
open Go.RowKit Go.Proofs.Tryz
section
open Go.Shelf
def Tryz.lays189_ren:Go.Shelf.Ren:=⟨fun|189=>176|125=>212|257=>211|128=>245|129=>246|294=>236|295=>237|296=>238|297=>239|298=>240|299=>241|216=>242|300=>243|301=>244|328=>260|329=>261|330=>262|331=>263|332=>264|215=>265|343=>268|n=>n,fun|28=>54|3=>3|46=>217|0=>0|51=>262|53=>163|4=>4|183=>303|182=>302|131=>122|5=>5|9=>9|218=>315|222=>319|228=>322|229=>44|n=>n,fun|n=>n⟩
theorem Tryz.lays189:Go.Proofs.Lays.n189 prog Tryz.lays189_ren:= {
 mixed:=by kernel_rfl
 f125:=func212.trans (congrArg some (by kernel_rfl))
 f128:=func245.trans (congrArg some (by kernel_rfl))
 f129:=func246.trans (congrArg some (by kernel_rfl))
 f189:=func176.trans (congrArg some (by kernel_rfl))
 f215:=func265.trans (congrArg some (by kernel_rfl))
 f216:=func242.trans (congrArg some (by kernel_rfl))
 f257:=func211.trans (congrArg some (by kernel_rfl))
 f294:=func236.trans (congrArg some (by kernel_rfl))
 f295:=func237.trans (congrArg some (by kernel_rfl))
 f296:=func238.trans (congrArg some (by kernel_rfl))
 f297:=func239.trans (congrArg some (by kernel_rfl))
 f298:=func240.trans (congrArg some (by kernel_rfl))
 f299:=func241.trans (congrArg some (by kernel_rfl))
 f300:=func243.trans (congrArg some (by kernel_rfl))
 f301:=func244.trans (congrArg some (by kernel_rfl))
 f328:=func260.trans (congrArg some (by kernel_rfl))
 f329:=func261.trans (congrArg some (by kernel_rfl))
 f330:=func262.trans (congrArg some (by kernel_rfl))
 f331:=func263.trans (congrArg some (by kernel_rfl))
 f332:=func264.trans (congrArg some (by kernel_rfl))
 f343:=func268.trans (congrArg some (by kernel_rfl))
 t0:=underlying0
 a0:=Tryz.isAgg0
 z0:=Tryz.sizeOf0
 v0:=Tryz.zeroValue0
 t3:=underlying3
 a3:=Tryz.isAgg3
 z3:=Tryz.sizeOf3
 v3:=Tryz.zeroValue3
 t4:=underlying4
 a4:=Tryz.isAgg4
 z4:=Tryz.sizeOf4
 v4:=Tryz.zeroValue4
 t5:=underlying5
 a5:=Tryz.isAgg5
 z5:=Tryz.sizeOf5
 v5:=Tryz.zeroValue5
 t9:=underlying9
 a9:=Tryz.isAgg9
 z9:=Tryz.sizeOf9
 v9:=Tryz.zeroValue9
 t28:=underlying54
 a28:=Tryz.isAgg54
 z28:=Tryz.sizeOf54
 v28:=Tryz.zeroValue54
 t46:=underlying217
 a46:=Tryz.isAgg217
 z46:=Tryz.sizeOf217
 v46:=Tryz.zeroValue217
 t51:=underlying262
 a51:=Tryz.isAgg262
 z51:=Tryz.sizeOf262
 v51:=Tryz.zeroValue262
 t53:=underlying163
 a53:=Tryz.isAgg163
 z53:=Tryz.sizeOf163
 v53:=Tryz.zeroValue163
 t131:=underlying122
 a131:=Tryz.isAgg122
 z131:=Tryz.sizeOf122
 v131:=Tryz.zeroValue122
 t182:=underlying302
 a182:=Tryz.isAgg302
 z182:=Tryz.sizeOf302
 v182:=Tryz.zeroValue302
 t183:=underlying303
 a183:=Tryz.isAgg303
 z183:=Tryz.sizeOf303
 v183:=Tryz.zeroValue303
 t218:=underlying315
 a218:=Tryz.isAgg315
 z218:=Tryz.sizeOf315
 v218:=Tryz.zeroValue315
 t222:=underlying319
 a222:=Tryz.isAgg319
 z222:=Tryz.sizeOf319
 v222:=Tryz.zeroValue319
 t228:=underlying322
 a228:=Tryz.isAgg322
 z228:=Tryz.sizeOf322
 v228:=Tryz.zeroValue322
 t229:=underlying44
 a229:=Tryz.isAgg44
 z229:=Tryz.sizeOf44
 v229:=Tryz.zeroValue44}
open Go.Sort Go.RowKit in
theorem Tryz.slices_Sort_int (blk off cap:Nat)(zs:List Int)(w:World)(hH:Holds (Value.int .i64) w blk off zs.toArray)(j:blk<w.heap.size)(o:zs.length<4611686018427387904):
 Calls prog 176 #[.slice (some ⟨blk,off,none⟩) zs.length cap] w fun e w'=>
  e=.returned (.tuple #[])∧∃n os,w'=grow (putRow (Value.int .i64) (Sort.ahead w n) blk off (zs.mergeSort fun x y=>decide (x≤y)).toArray) os:=Any.slices_Sort_int Tryz.lays189 blk off cap zs w hH j o
def Tryz.laysNm215_ren:Go.Shelf.Ren:=⟨fun|15=>175|n=>n,fun|22=>54|3=>3|4=>4|n=>n,fun|n=>n⟩
theorem Tryz.laysNm215:Go.Proofs.Lays2.n15 prog Tryz.laysNm215_ren:= {
 mixed:=by kernel_rfl
 f15:=func175.trans (congrArg some (by kernel_rfl))
 t3:=underlying3
 a3:=Tryz.isAgg3
 z3:=Tryz.sizeOf3
 v3:=Tryz.zeroValue3
 t4:=underlying4
 a4:=Tryz.isAgg4
 z4:=Tryz.sizeOf4
 v4:=Tryz.zeroValue4
 t22:=underlying54
 a22:=Tryz.isAgg54
 z22:=Tryz.sizeOf54
 v22:=Tryz.zeroValue54
 i3:=by kernel_rfl}
open Go.RowKit Go.Lib in
theorem Tryz.slices_Clone_int (b off n c:Nat)(zs:List Int)(w:World)(I:n≤zs.length)(o:n*8≤140737488355328)(J:∀j,j<zs.length→w.cell? ⟨b,off+j,none⟩=some (.int .i64 (zs.getD j 0))):
 Calls prog 175 #[.slice (some ⟨b,off,none⟩) n c] w fun e w'=>∃C,e=.returned C∧w'.ownsRow w.heap.size 3 1 C n ((zs.take n).map (Value.int .i64))∧C≠.slice none 0 0∧Below w.heap.size w w':=Any.slices_Clone_int Tryz.laysNm215 b off n c zs w I o J
end
theorem CK (S:Nat→Prop)(v:Value)(l:List Int)(w:World)(h:aK S w v l)(h1:1≤l.length):
 Calls prog 175 #[v] w fun e w'=>∃g c cur,e=.returned (.slice (some ⟨g,0,none⟩) l.length c)∧aa All w w'∧w.heap.size≤g∧al w' g 3 cur∧l.length≤c∧c≤maxLen∧cur.size=c*1∧cur.toList.take l.length=l.map (Value.int .i64):=by
 obtain⟨a,cap,rfl,h2,h3,h4,h⟩:=h;obtain⟨b,off,c,rfl,_⟩:=h 0 l[0] (lG (by omega));refine(Tryz.slices_Clone_int b off l.length cap l w (cf _) h4 fun j hj=>?_).mono ?_
 ·obtain⟨b',a6,c',e,_,hc,rfl,_⟩:=h j l[j] (lG hj)
  cases e;rw[hc,iG,lG hj];rfl
 rintro e w' ⟨v',rfl,⟨_,o⟩,_,J⟩;rcases o with ⟨_,h0⟩|⟨g,C,cur,rfl,hg,hh,R,Y,a1,I⟩;·omega
 rw[dZ,Nat.mul_one] at I;exact⟨g,C,cur,rfl,⟨J.os,J.output,J.size,fun k hk _=>J.block k hk⟩,hg,hh,R,Y,a1,I⟩
def LR (l:List Int):List Int:=l.mergeSort fun x y=>decide (x≤y)
theorem pX (l:List Int):(LR l).Perm l:=List.mergeSort_perm _ _
theorem LI (l:List Int):(LR l).Pairwise (·≤·):=by
 refine(List.pairwise_mergeSort (le:=fun x y:Int=>decide (x≤y)) (fun a b c h1 j=>?_) (fun a b=>?_) l).imp fun h=>by simpa using h
 ·simp only[qal] at h1 j⊢;omega
 simp only[Bool.or_eq_true,qal];omega
theorem Hm (g c:Nat)(cur:Array Value)(l:List Int)(w:World)(j:al w g 3 cur)(h1:l.length≤c)(I:c≤maxLen)(J:cur.size=c*1)(R:cur.toList.take l.length=l.map (Value.int .i64))(hl:l.length≤1000)(hw:∀x∈l,(Lit.int .i64 x).wf=true):
 Calls prog 176 #[.slice (some ⟨g,0,none⟩) l.length c] w fun e w'=>e=.returned (.tuple #[])∧aa (fun b=>b≠g) w w'∧aK (fun b=>b=g) w' (.slice (some ⟨g,0,none⟩) l.length c) (LR l):=by
 have hlen:(LR l).length=l.length:=(pX l).length_eq;refine(Tryz.slices_Sort_int g 0 c l w (holds_of_blockI j R) j.lt (by omega)).mono ?_;rintro e w' ⟨rfl,n,os,rfl⟩;refine⟨rfl,kR.grown (grownBy_sortedI _) fun k e=>.inl fun h=>h (by cases e;rfl),?_⟩;have o:=ownsRow_sortedI (n:=n) (os:=os) (base:=0) hlen (Nat.zero_le g) j h1 I J;rw[←hlen] at o⊢;refine Sl.of_own o (by omega) (fun k e=>by cases e;rfl) fun i x C=>⟨_,by rw[cL,C];rfl,rfl,hw x ?_⟩;exact(pX l).mem_iff.1 (mG C)
theorem Ho (S R5 R6:Nat→Prop)(kb:Nat)(b:aw)(pl:Nat→Nat)(t:Nat→Int)(x:bz)(a5 a6:Value)(blk n:Nat)(w:World)(hC:rJ S w kb b t)(hG:gY b)(T:mz (bM b) t pl)(C:blk<b.Ng.length)
 (h5:aK R5 w a5 x.args) (h6:aK R6 w a6 x.Nh) (hx:x.Nh.length=x.args.length∧1≤x.Nh.length∧x.Nh.length≤64) (R:∀a∈x.args,0≤a∧a<b.vars) (b1:∀a∈x.Nh,0≤a∧a<b.Ng.length):
 Calls prog 109 #[.pointer (some ⟨kb,0,none⟩),.agg #[.int .u8 x.kind,.int .u8 x.op,.int .i64 x.dst,.int .i64 x.ref,.int .i64 x.Ni,a5,a6,.int .i64 x.num,.int .i64 x.Nj],.agg #[.int .i64 blk,.int .i64 n]] w fun e w'=>e=.returned (.int .i64 (mH b blk x))∧aa All w w':=by
 have Y:=fun wn (C:aa All w wn)=>hC.keep C (fun _ _=>trivial) trivial;have c7:=ah.la h5;have b4:=ah.la h6;have c8:=Jq h6;obtain⟨A5,c5,rfl,u1,u2,u3,_⟩:=h5;obtain⟨A6,c6,rfl,v1,v2,v3,_⟩:=h6;unfold maxLen at u2 v2;obtain⟨c9,e8,b7⟩:=hx;have h0:x.Nh.length≤x.args.length:=by omega
 have h3:x.args.length≤x.Nh.length:=by omega
 obtain⟨W0,a1⟩:=eQ ((w.alloc (.cells #[.int .u8 x.kind,.int .u8 x.op,.int .i64 x.dst,.int .i64 x.ref,.int .i64 x.Ni,.slice A5 x.args.length c5,.slice A6 x.Nh.length c6,.int .i64 x.num,.int .i64 x.Nj] 56)).alloc (.cells #[.int .i64 blk,.int .i64 n] 165));have b8:=zy a1;have bX:=aA1 a1;have bA:=zo a1 vI;have x5:=bX.cl 5;have x6:=bX.cl 6;have d7:=CK _ _ _ W0 (b4 W0 b8) e8;have HG:=J6 hG T R b1 c8 c9;have HW:=J8 a1 b8 bX bA Y c7 b4 d7;clear hG T R b1 c8 a1 b8 bX bA Y c7 b4 d7 hC c9;go_enter func109,ntmps109;go_upto_region 1 with fail;rw[←HW.1];go_wp2_with fail;refine HW.2.2.2.2.2.2.2.mono ?_;rintro e w1 ⟨g,c,cur,rfl,d8,hg,hb,q1,q2,q3,q4⟩;have hs:=Hm g c cur x.Nh w1 hb q1 q2 q3 q4 (by omega) HG.2.2.2.2.1;have d9:=J2 d8 hs;unfold maxLen at q2;clear d8 hb q3 q4 hs;go_wp2_with fail;refine d9.2.mono ?_;rintro e w2 ⟨rfl,e0,e1⟩;have b0:aa All W0 w2:=am (d9.1.all.trans (e0.mono fun b (hb:b<W0.heap.size)=>by show b≠g;omega));have b9:=HW.2.1.trans b0;obtain⟨bv,A3,c3,A4,c4,h4,h7,m1,m2,m3,m4⟩:=HW.2.2.2.2.1 w2 b9;obtain⟨pb,po,pv,rfl,_,e2,e3⟩:=bn m3 (mX (k:=blk) (by rw[cS];exact C));have b2:=fun wn (C:aa All w2 wn)=>oP _ _ _ _ _ _ wn (ah.keep C.all e1) (ah.keep C.all e3);obtain⟨PA,pc,rfl,p1,p2,p3,_⟩:=e3;have b3:=(xp (ll:=bM b) (k:=blk) (pX x.Nh) (LI x.Nh)).trans mp.symm;have HF:=oH (show∀wn,aa All w2 wn→wn.cell? ⟨kb,4,none⟩=some (.slice (some ⟨pb,po,none⟩) b.Ng.length c4)∧wn.cell? ⟨w.heap.size+1,0,none⟩=some (.int .i64 blk)∧wn.cell? ⟨pb,po+blk,none⟩=some (.slice PA (di (bM b) (bM b).length blk).length pc) from fun wn C=>
  ⟨(m1.kept C trivial).cell 4,(HW.2.2.2.1.kept (b0.trans C) trivial).cell 0,C.cell trivial e2⟩)
 obtain⟨q,hq⟩:∃q,decide (LR x.Nh=di (bM b) (bM b).length blk)=q:=⟨_,rfl⟩;have hlen:(LR x.Nh).length=x.Nh.length:=(pX x.Nh).length_eq;have a7:∀wn,aa All w2 wn→Calls prog 177 #[.slice (some ⟨g,0,none⟩) x.Nh.length c,.slice PA (di (bM b) (bM b).length blk).length pc] wn fun e w'=>e=.returned (.bool q)∧aa All wn w':=fun wn C=>by have:=b2 wn C;rwa [hq] at this
 have HC:=J5 a7 b3 b0 b9 hq;clear b2 a7 b3 b0 b9 hq m1 m2 m3 m4 e2 e0 e1 x5 x6;go_wp2_with fail;refine R0 11 w2 (fun i=>if i=9 then some (·=.bool q) else none) ?_;iterate 9 first|refine O4 HF.out ?_|refine O0 ?_
 refine O5 (v:=.bool q) (fun wn C hp=>⟨_,_,by(skip;go_simp<;>with_reducible rfl),((HC.1 wn C).mono fun e w' h=>⟨h.1,C.trans h.2,fun _ h=>by cases h⟩)⟩) ?_;refine O0 ?_;refine aG fun wt e4 hF=>?_;have HT:=oH e4;clear e4 hF;simp only[dK];cases q with
 |false=>have HN:=oH (wZ fun h=>by have:=HC.2.1.2 h;have h2:=HC.2.2.2.2;rw[bL this] at h2;cases h2);go_wp2_with fail;go_ret;exact⟨by rw[HN.out]<;>rfl,HC.2.2.2.1.trans HT.out⟩
 |true=>
  have HP:=oH (HC.2.1.1 (of_decide_eq_true HC.2.2.2.2));obtain⟨w3,rfl⟩:=eQ wt;have I:=J2 (HC.2.2.1.trans HT.out) (HC.2.2.2.1.trans HT.out);have b7:=HW.2.2.1.kept I.1 trivial;have x5:=b7.cl 5;clear b7;go_wp2_with fail;go_loopg [29] x.args.length (fun gg s wr=>∃k:Nat,k≤x.args.length∧gg=x.args.length-k∧s=.int .i64 k∧aa All w3 wr∧∀(m:Nat) v f,m<k→x.args[m]? =some v→x.Nh[m]? =some f→jl b v f.toNat);·exact⟨0,by omega,by omega,rfl,kR,fun m v f hm=>by omega⟩
  obtain⟨k,C,rfl,rfl,o,J⟩:=hrel;clear x5;have hb:=HW.2.2.1.kept (I.1.trans o) trivial;have x6:=hb.cl 6;clear hb;by_cases e9:k<x.args.length;·(
 obtain⟨v,hv⟩:=eG e9;obtain⟨f,hf⟩:∃f,x.Nh[k]? =some f:=⟨_,lG (by omega)⟩;have c0:=HG.2.2.1 v (mG hv);have e5:=HG.2.2.2.1 f (mG hf);obtain⟨vn,e6⟩:∃vn:Nat,v=vn:=⟨v.toNat,by omega⟩;obtain⟨fn,e7⟩:∃fn:Nat,f=fn:=⟨f.toNat,by omega⟩;rw[e6] at hv c0;rw[e7] at hf e5;obtain⟨b5,o5,y5,rfl,_,h8,rfl,_⟩:=bn (HW.2.2.2.2.2.1 wr (I.2.trans o)) hv;obtain⟨b6,o6,y6,rfl,_,h9,rfl,_⟩:=bn (HW.2.2.2.2.2.2.1 wr (I.2.trans o)) hf;have j:=vU S kb b pl t vn fn wr (HW.2.2.2.2.1 wr (I.2.trans o)) HG.1 HG.2.1 c0.2 (by omega);have HV:=J4 o J hv hf;have j0:k<x.Nh.length:=by omega
 clear o J hv hf e6 e7 c0 e5;by_cases he:jl b vn fn
 ·rw[av he] at j;have HE:=J2 j he;clear j he;go_wp2_with fail;refine HE.1.mono ?_;rintro e w4 ⟨rfl,a8⟩;have c1:=oH a8;clear a8;go_wp2_with fail;go_roundg (x.args.length-(k+1))
  ·refine⟨k+1,by omega,rfl,by go_num,HV.1.trans c1.out,fun m v f hm h1 h2=>?_⟩
   by_cases e:m=k;·subst e;rw[HV.2.2.1] at h1;rw[HV.2.2.2] at h2;cases h1;cases h2;exact HE.2
   exact HV.2.1 m v f (by omega) h1 h2
  omega
 rw[au he] at j;have HE:=J2 j (Cl HP.out HV.2.2.1 HV.2.2.2 (by simpa using he));clear j he;go_wp2_with fail;refine HE.1.mono ?_;rintro e w4 ⟨rfl,a8⟩;have c1:=oH a8;clear a8;go_wp2_with fail;go_ret;exact⟨by rw[HE.2]<;>rfl,(I.2.trans HV.1).trans c1.out⟩)
  obtain rfl:k=x.args.length:=by omega
  have HE:=J2 o (GC HP.out fun m v f h1 h2=>J m v f (lS.1 h1).1 h1 h2);clear o J;go_wp2_with fail;go_ret;exact⟨by rw[HE.2]<;>rfl,I.2.trans HE.1⟩
section
open Go.RowKit Go.Shelf
attribute [local go_sem] Oper.semAt_some
theorem Bp (S:Nat→Prop)(J:Option Addr)(d1:Nat)(b:aw)(k R:Nat)(w:World)(Y:bW S w (.slice J b.Ng.length d1) b.Ng)(j:al w R 42 #[.int .i64 b.params,.int .i64 b.vars,.slice J b.Ng.length d1])(hG:gY b)(hk:k<b.Ng.length):
 Calls prog 102 #[.int .i64 k,.pointer (some ⟨R,0,none⟩)] w fun e w'=>e=.returned (.int .i64 (fQ b k))∧w=w':=by
 obtain⟨l,hl⟩:=eG hk;have h1:=(hG.some_ l (mG hl)).1;obtain⟨x,I⟩:∃x,l[0]? =some x:=⟨_,lG (by omega)⟩;have hp:=yQ hl I;obtain⟨rb,ro,rv,rfl,_,a1,o⟩:=bn Y hl;obtain⟨LA,lc,rfl,l1,l2,l3,_⟩:=id o;obtain⟨xb,xo,a6,rfl,_,_,C,xa,xf,rfl,_⟩:=aZ o I;have z8:=C 8 _ rfl;rw[Nat.zero_mul,dj] at z8;have b2:=j.cl 2;have HP:=oH hp;unfold maxLen at l2;clear Y j hG hl I hp o C;go_enter func102,ntmps102;go_wp2;go_ret;exact⟨by rw[HP.out];rfl,rfl⟩
theorem sK {S:Nat→Prop}{w:World}{v:Value}{l:List Int}{g:Nat}{t:TypeId}{p:Option Addr}(C:al w g t #[.pointer p])(h:aK S w v l):aK (fun k=>S k∧k≠g) w v l:=by obtain⟨a,cap,I,h1,J,R,h⟩:=h;refine⟨a,cap,I,h1,J,R,fun i x Y=>?_⟩;obtain⟨b,off,c,e,hs,j,rfl,hw⟩:=h i x Y;refine⟨b,off,_,e,⟨hs,fun o=>?_⟩,j,rfl,hw⟩;subst o;rw[C.cell] at j;generalize off+i=m at j;rcases m with _|n<;>simp at j
theorem AZ {S:Nat→Prop}{w:World}{v:Value}{l:List (List Int)}{g:Nat}{t:TypeId}{p:Option Addr}(C:al w g t #[.pointer p])(h:Rows S w v l):Rows (fun k=>S k∧k≠g) w v l:=by obtain⟨a,cap,J,h1,R,Y,h⟩:=h;refine⟨a,cap,J,h1,R,Y,fun i x hx=>?_⟩;obtain⟨b,off,c,e,hs,j,I⟩:=h i x hx;refine⟨b,off,c,e,⟨hs,fun o=>?_⟩,j,sK C I⟩;subst o;obtain⟨_,_,rfl,_⟩:=I;rw[C.cell] at j;generalize off+i=m at j;rcases m with _|n<;>simp at j
theorem xL {S:Nat→Prop}{w:World}{v:Value}{l:List (Int×Int)}(h:qay S w v l):qay (fun k=>k<w.heap.size) w v l:=by obtain⟨a,cap,o,h1,C,I,h⟩:=h;refine⟨a,cap,o,h1,C,I,fun i x J=>?_⟩;obtain⟨b,off,cs,e,Y,hl,j,rfl,R⟩:=h i x J;exact⟨b,off,_,e,jy w _ (j 0 _ rfl),hl,j,rfl,R⟩
def EH (b:aw)(j:World)(sz:Nat)(pre:List (EK b.Ng))(W:World):Prop:=
 al W j.heap.size 3 #[.int .i64 0]∧al W (j.heap.size+1) 33 #[.int .i64 0]∧aa All j W∧sz≤W.heap.size∧j.heap.size+2≤sz∧∀u∈pre.map Subtype.val,uo b u.1 u.2.1 u.2.2=0
def JZ (b:aw)(o:World)(sz:Nat)(pre:List (EK b.Ng))(W:World):Prop:=
 ∃j x,pre=j++[x]∧(∀u∈j.map Subtype.val,uo b u.1 u.2.1 u.2.2=0)∧uo b x.1.1 x.1.2.1 x.1.2.2≠0∧al W o.heap.size 3 #[.int .i64 x.1.2.2.Nj]∧al W (o.heap.size+1) 33 #[.int .i64 (uo b x.1.1 x.1.2.1 x.1.2.2)]∧aa All o W∧sz≤W.heap.size∧o.heap.size+2≤sz
theorem vx {sz:Nat}{W j:World}{row:Option Nat}(C:W.grownBy j row)(hr:∀r,row=some r→sz≤r∧∃o:Obj,W.heap[r]? =some o∧o.isCells=false):aa (fun k=>k<sz) W j:=
 (aa.refl _ W).grown C fun k I=>.inl fun h=>by have:=(hr k I).1;have h:k<sz:=h;omega
theorem CY {b:aw}{j:World}{sz:Nat}:OwnFrom sz (EH b j sz):=by rintro s W W' row ⟨h1,C,I,J,R,Y⟩ o hr;have k:=vx o hr;exact⟨h1.kept k (by omega),C.kept k (by omega),am (I.all.trans (k.mono fun g (o:g<j.heap.size)=>by omega)),fR J k.size,R,Y⟩
theorem CX {b:aw}{o:World}{sz:Nat}:OwnFrom sz (JZ b o sz):=by rintro s W W' row ⟨j,x,h1,I,J,R,Y,h6,h7,h8⟩ C hr;have k:=vx C hr;exact⟨j,x,h1,I,J,R.kept k (by omega),Y.kept k (by omega),am (h6.all.trans (k.mono fun g (C:g<o.heap.size)=>by omega)),fR h7 k.size,h8⟩
def LY (n:Nat)(v:Value):Prop:=∃A c,v=.slice A n c
def Ka (v:Value):Prop:=∃g,v=.pointer (some ⟨g,0,none⟩)
def rW (b:aw)(v:Value)(wn:World):Prop:=∃j pl,aK All wn v (lV b.Ng.length j)∧mz (bM b) j pl
def rX (b:aw)(v:Value)(wn:World):Prop:=Rows All wn v (gF (bM b))
def LX (b:aw)(bv:Value)(v:Value):Prop:=∃j c3 o C,v=.agg #[.int .i64 b.params,.int .i64 b.vars,bv,.slice j b.Ng.length c3,.slice o b.Ng.length C,.slice none 0 0]
def KH (b:aw)(bv:Value)(v:Value)(wn:World):Prop:=∃j c3 o C,v=.agg #[.int .i64 b.params,.int .i64 b.vars,bv,.slice j b.Ng.length c3,.slice o b.Ng.length C,.slice none 0 0]∧rW b (.slice j b.Ng.length c3) wn∧rX b (.slice o b.Ng.length C) wn
def ER (b:aw)(bv:Value)(lo:Nat)(v:Value)(wn:World):Prop:=∃g j c3 o C,v=.pointer (some ⟨g,0,none⟩)∧lo≤g∧al wn g 198 #[.int .i64 b.params,.int .i64 b.vars,bv,.slice j b.Ng.length c3,.slice o b.Ng.length C,.slice none 0 0]∧(∃I pl,aK (fun k=>k<g) wn (.slice j b.Ng.length c3) (lV b.Ng.length I)∧mz (bM b) I pl)∧Rows (fun k=>k<g) wn (.slice o b.Ng.length C) (gF (bM b))
def ES (lo:Nat)(v:Value)(wn:World):Prop:=∃g,v=.pointer (some ⟨g,0,none⟩)∧lo≤g∧al wn g 194 #[.pointer none]
def xI (b:aw)(bv:Value)(lo:Nat)(t:Tmp)(v:Value)(wn:World):Prop:=if t=44 then rW b v wn else if t=46 then rX b v wn else if t=47 then KH b bv v wn else if t=48 then ER b bv lo v wn else ES lo v wn
section
variable {b:aw} {bv:Value} {lo:Nat} {wn wq:World} (hkq:aa All wn wq) {v:Value}
include hkq
theorem rW.keep (h:rW b v wn):rW b v wq:=by obtain⟨j,pl,h1,o⟩:=h;exact⟨j,pl,ah.keep hkq h1,o⟩
theorem rX.keep (h:rX b v wn):rX b v wq:=aq.keep hkq h
theorem xI.keep (t:Tmp)(h:xI b bv lo t v wn):xI b bv lo t v wq:=by
 unfold xI at h⊢;by_cases h1:t=44;·rw[ap h1] at h⊢;exact h.keep hkq
 rw[ae h1] at h⊢;by_cases Y:t=46;·rw[ap Y] at h⊢;exact h.keep hkq
 rw[ae Y] at h⊢;by_cases h3:t=47;·rw[ap h3] at h⊢;obtain⟨j,c3,o,C,e,g1,g2⟩:=h;exact⟨j,c3,o,C,e,g1.keep hkq,g2.keep hkq⟩
 rw[ae h3] at h⊢;by_cases h4:t=48;·rw[ap h4] at h⊢;obtain⟨g,j,c3,o,C,e,I,J,⟨tt,pl,g1,R⟩,g2⟩:=h;exact⟨g,j,c3,o,C,e,I,J.kept hkq trivial,⟨tt,pl,ah.keep hkq.all g1,R⟩,aq.keep hkq.all g2⟩
 rw[ae h4] at h⊢;obtain⟨g,e,I,J⟩:=h;exact⟨g,e,I,J.kept hkq trivial⟩
end
theorem Ef (S:Nat→Prop)(bv:Value)(b:aw)(w:World)(hb:bW S w bv b.Ng)(hG:gY b)(hlen:b.Ng.flatten.length≤4096):
 Calls prog 59 #[.agg #[.int .i64 b.params,.int .i64 b.vars,bv]] w (qk b w):=by
 have l6:=vJ hb;have l7:=bg.la l6;obtain⟨B1,d1,rfl,m5,m6,m7,_⟩:=hb;obtain⟨A,F,hI⟩:=vw l6;have r8:=hG.blk.2;have v7:=hG.blk.1;have j4:=cS b;have o5:=qam hG;obtain⟨W0,j7⟩:=eQ (w.alloc (.cells #[.int .i64 b.params,.int .i64 b.vars,.slice B1 b.Ng.length d1] 42));have l8:=yf j7;have bB:=yv j7;obtain⟨b0,b1,b2⟩:=bB.c3;have o6:=Je _ (.slice B1 b.Ng.length d1) b W0 (l7 W0 l8) hG;have HG:=J4 hG hI hlen o5;have HW:=J5 j7 l8 bB l7 o6;have w0:∀(fn:Fn) (first cap:Array Value) (w:World),(Instr.makeFunc fn first cap).run prog w=.ok (.func fn first cap) w:=fun _ _ _ _=>rfl;clear hG hI hlen j7 l8 bB l7 o6 l6 m5 m6 m7 o5;refine(callsIn_wide (n:=8)).1 ?_;refine callsIn_of_wp_marks func59 rfl trivial ?_ rfl;simp only[ntmps59,List.size_toArray,kI,List.length_nil,Nat.reduceAdd,Nat.reduceSub,Array.replicate_succ,Array.replicate_zero,List.push_toArray,List.append_toArray,mF,List.cons_append];rw[wpIn_wide];go_wp2
 go_step3
 go_upto_region 1 with fail;rw[←HW.1];go_wp2_with fail;refine HW.2.2.2.2.mono ?_;rintro e w1 ⟨u,rfl,h5,l9⟩;have o7:=jh h5;have j8:=aq.la o7;obtain⟨TA,tc,rfl,t1,t2,t3,_⟩:=h5;rw[j4] at t1 t3 j8⊢;unfold maxLen at t2;have c9:=yC _ _ (bM b) w1 (j8 w1 kR) HG.2.2.2;rw[j4] at c9;have HT:=J5 j8 j4 c9 l9 (HW.2.1.trans l9);clear j8 j4 c9 l9 o7 b0 b1 b2;go_wp2_with fail;refine HT.2.2.1.mono ?_;rintro e w2 ⟨rfl,m9⟩;have e3:=J2 m9 (HT.2.2.2.1.trans m9);clear m9;have h6:=HW.2.2.1.kept e3.2 trivial;obtain⟨b0,b1,b2⟩:=h6.c3;clear h6;have o8:=fun wn (C:aa All W0 wn) k (r9:k<b.Ng.length)=>Bp _ B1 d1 b k w.heap.size wn (HW.2.2.2.1 wn (HW.2.1.trans C)) (HW.2.2.1.kept C trivial) HG.1 r9;have n0:=oH o8;clear o8;rcases jX (kO (bM b)) b.Ng.length with ⟨h0,a1⟩|⟨k,h0,C,_⟩
 case inr=>(
 rw[h0];have tk:decide ((0:Int)≤(k:Int))=true:=by simp
 have tm:max (k:Int) 0=(k:Int):=by omega
 have HN:=J2 (yn h0) (n0.out w2 e3.2 k C);clear h0;go_wp2_with fail;refine HN.2.mono ?_;rintro e w3 ⟨rfl,rfl⟩;go_wp2_with fail;rw[Exit.noGoto_ret];exact⟨.tuple #[.int .i64 (fQ b k),.int .i64 16],by simp[results,Tryz.f59,go_sem],.of HN.1 (HW.2.1.trans e3.2)⟩)
 rw[h0];have H0:=J2 h0 a1;have n1:=Ei _ _ (bM b) w2 (HT.1 w2 e3.1) HG.2.2.2;rw[HT.2.1] at n1;have HS:=oH n1;clear h0 n1 a1;go_wp2_with fail;refine HS.out.mono ?_;rintro e w3 ⟨rfl,n2⟩;have R:=J2 (e3.1.trans n2) (e3.2.trans n2);clear n2 b0 b1 b2;have h6:=HW.2.2.1.kept R.2 trivial;obtain⟨b0,b1,b2⟩:=h6.c3;clear h6;rcases jX (iN (bM b)) b.Ng.length with ⟨h0,_⟩|⟨k,h0,C,_⟩
 case inr=>(
 rw[h0];have tk:decide ((0:Int)≤(k:Int))=true:=by simp
 have tm:max (k:Int) 0=(k:Int):=by omega
 have HN:=J2 (ve H0.1 h0) (n0.out w3 R.2 k C);clear h0;go_wp2_with fail;refine HN.2.mono ?_;rintro e w4 ⟨rfl,rfl⟩;go_wp2_with fail;rw[Exit.noGoto_ret];exact⟨.tuple #[.int .i64 (fQ b k),.int .i64 17],by simp[results,Tryz.f59,go_sem],.of HN.1 (HW.2.1.trans R.2)⟩)
 rw[h0];have H1:=oH h0;clear h0;have hL:∀k,k<(bM b).length→aQ (bM b) 0 k:=fun k C=>Classical.byContradiction fun h=>H0.2 k (by rw[←HT.2.1];exact C) ⟨C,h⟩;have h7:=fun wn (C:aa All w1 wn)=>Hu _ _ (bM b) wn (HT.1 wn C) HG.2.2.2 hL;have h8:=fun wn (C:aa All w1 wn)=>sd _ _ (bM b) wn (HT.1 wn C) HG.2.2.2;have HR:=J2 h7 h8;clear h7 h8 hL;go_wp2_with fail;have HF:=oH (show∀wn,aa All w3 wn→wn.cell? ⟨w.heap.size,0,none⟩=some (.int .i64 b.params)∧wn.cell? ⟨w.heap.size,1,none⟩=some (.int .i64 b.vars)∧wn.cell? ⟨w.heap.size,2,none⟩=some (.slice B1 b.Ng.length d1) from fun wn C=>⟨(HW.2.2.1.kept (R.2.trans C) trivial).cell 0,(HW.2.2.1.kept (R.2.trans C) trivial).cell 1,(HW.2.2.1.kept (R.2.trans C) trivial).cell 2⟩);refine R1 8 w3 [44,46,47,48,11] (xI b (.slice B1 b.Ng.length d1) w3.heap.size) (fun i=>if i=2 then some (LY b.Ng.length) else if i=4 then some (LY b.Ng.length) else if i=5 then some (LX b (.slice B1 b.Ng.length d1)) else if i=6 then some Ka else if i=7 then some Ka else none) ?_;refine O4 HF.out ?_;refine O0 ?_;refine O6 (fun wn C hp=>?_) (fun wn C hp=>?_) ?_;·go_simp;refine(HR.1 wn (R.1.trans C)).mono ?_;rintro e wq ⟨u,tt,pl,rfl,hkq,a7,b6⟩;rw[HT.2.1] at a7;have J:aK All wq u (lV b.Ng.length tt):=ah.wide (fun _ _=>trivial) a7;obtain⟨A,c,eu,_⟩:=id J;rw[nW] at eu;subst eu;exact .inl ⟨rfl,_,rfl,⟨_,_,rfl⟩,C.trans hkq,fun t _ v h=>h.keep hkq t,fun d hd _=>by cases hd;exact⟨tt,pl,J,b6⟩⟩
 ·obtain⟨e,wq,_,⟨u,tt,pl,rfl,hkq,a7,b6⟩,_⟩:=(HR.1 wn (R.1.trans C)) [];rw[HT.2.1] at a7;have J:aK All wq u (lV b.Ng.length tt):=ah.wide (fun _ _=>trivial) a7;obtain⟨A,c,eu,_⟩:=id J;rw[nW] at eu;subst eu;exact⟨_,wq,⟨_,_,rfl⟩,C.trans hkq,fun t _ v h=>h.keep hkq t,fun d hd _=>by cases hd;exact⟨tt,pl,J,b6⟩⟩
 rintro v ⟨A3,c3,rfl⟩;simp only[PS];refine O0 ?_;refine O6 (fun wn C hp=>?_) (fun wn C hp=>?_) ?_;·go_simp;refine(HR.2 wn (R.1.trans C)).mono ?_;rintro e wq ⟨u,rfl,hkq,a7⟩;have J:Rows All wq u (gF (bM b)):=aq.wide (fun _ _=>trivial) a7;obtain⟨A,c,eu,_⟩:=id J;rw[fK,HT.2.1] at eu;subst eu;exact .inl ⟨rfl,_,rfl,⟨_,_,rfl⟩,C.trans hkq,fun t _ v h=>h.keep hkq t,fun d hd _=>by cases hd;exact J⟩
 ·obtain⟨e,wq,_,⟨u,rfl,hkq,a7⟩,_⟩:=(HR.2 wn (R.1.trans C)) [];have J:Rows All wq u (gF (bM b)):=aq.wide (fun _ _=>trivial) a7;obtain⟨A,c,eu,_⟩:=id J;rw[fK,HT.2.1] at eu;subst eu;exact⟨_,wq,⟨_,_,rfl⟩,C.trans hkq,fun t _ v h=>h.keep hkq t,fun d hd _=>by cases hd;exact J⟩
 rintro v ⟨A4,c4,rfl⟩;simp only[PS];refine O6 (fun wn C hp=>?_) (fun wn C hp=>?_) ?_
 ·have d7:=hp 44 (by decide) (by decide) _ rfl
  have d8:=hp 46 (by decide) (by decide) _ rfl;go_simp;exact⟨rfl,⟨_,_,_,_,rfl⟩,C,fun t _ v h=>h,fun d hd _=>by cases hd;exact⟨_,_,_,_,rfl,d7,d8⟩⟩
 ·have d7:=hp 44 (by decide) (by decide) _ rfl
  have d8:=hp 46 (by decide) (by decide) _ rfl;exact⟨.agg #[.int .i64 b.params,.int .i64 b.vars,.slice B1 b.Ng.length d1,.slice A3 b.Ng.length c3,.slice A4 b.Ng.length c4,.slice none 0 0],wn,⟨_,_,_,_,rfl⟩,C,fun t _ v h=>h,fun d hd _=>by cases hd;exact⟨_,_,_,_,rfl,d7,d8⟩⟩
 rintro v ⟨A5,c5,A6,c6,rfl⟩;simp only[PS];refine O6 (fun wn C hp=>?_) (fun wn C hp=>?_) ?_;·have n3:=hp 47 (by decide) (by decide) _ rfl;obtain⟨_,_,_,_,e,⟨tt,pl,d7,b6⟩,d8⟩:=n3;cases e;go_simp;exact⟨rfl,⟨_,rfl⟩,C.alloc _,fun t _ v h=>h.keep (kR.alloc _) t,fun d hd _=>by cases hd;exact⟨_,_,_,_,_,rfl,C.size,al.new _ _ _,⟨tt,pl,ah.keep (kR.alloc _) (kV d7),b6⟩,aq.keep (kR.alloc _) (jh d8)⟩⟩
 ·have n3:=hp 47 (by decide) (by decide) _ rfl
  obtain⟨_,_,_,_,e,⟨tt,pl,d7,b6⟩,d8⟩:=n3;cases e;exact⟨.pointer (some ⟨wn.heap.size,0,none⟩),wn.alloc (.cells #[.int .i64 b.params,.int .i64 b.vars,.slice B1 b.Ng.length d1,.slice A5 b.Ng.length c5,.slice A6 b.Ng.length c6,.slice none 0 0] 198),⟨_,rfl⟩,C.alloc _,fun t _ v h=>h.keep (kR.alloc _) t,fun d hd _=>by cases hd;exact⟨_,_,_,_,_,rfl,C.size,al.new _ _ _,⟨tt,pl,ah.keep (kR.alloc _) (kV d7),b6⟩,aq.keep (kR.alloc _) (jh d8)⟩⟩
 rintro v ⟨gk,rfl⟩;simp only[PS];refine O6 (fun wn C hp=>?_) (fun wn C hp=>?_) ?_
 ·go_simp
  exact⟨rfl,⟨_,rfl⟩,C.alloc _,fun t _ v h=>h.keep (kR.alloc _) t,fun d hd _=>by cases hd;exact⟨_,rfl,C.size,al.new _ _ _⟩⟩
 ·exact⟨.pointer (some ⟨wn.heap.size,0,none⟩),wn.alloc (.cells #[.pointer none] 194),⟨_,rfl⟩,C.alloc _,fun t _ v h=>h.keep (kR.alloc _) t,fun d hd _=>by cases hd;exact⟨_,rfl,C.size,al.new _ _ _⟩⟩
 rintro v ⟨gp,rfl⟩;simp only[PS];refine aG fun wt o9 hF=>?_;have p1:=hF 48 (by decide) _ rfl;have p2:=hF 11 (by decide) _ rfl;obtain⟨_,A5,c5,A6,c6,e1,p3,j9,⟨tt,pl,a7,b6⟩,p4⟩:ER b (.slice B1 b.Ng.length d1) w3.heap.size _ wt:=p1;cases e1;obtain⟨_,e2,p5,b9⟩:ES w3.heap.size _ wt:=p2;cases e2;have n4:gk≠gp:=j9.ne b9 (by decide);have J:=sK b9 a7;have k7:=AZ b9 p4;have p0:=b9.cl 0;have f0:=b9.free 0;obtain⟨W4,k0⟩:=eQ (wt.setCell ⟨gp,0,none⟩ (.pointer (some ⟨gk,0,none⟩)));have h9:aa (fun k=>k≠gp) wt W4:=by rw[k0];exact kR.setCell (.inl fun h=>h rfl) _
 have s0:=j9.lt;have w6:=b9.lt;have k8:aa All w3 W4:=am (o9.all.trans (h9.mono fun k (C:k<w3.heap.size)=>by omega));have n5:al W4 gp 194 #[.pointer (some ⟨gk,0,none⟩)]:=by rw[k0];exact b9.set 0 _
 have n7:=j9.kept h9 n4;have k9:=ah.keep (h9.mono fun k (C:k<gk∧k≠gp)=>C.2) J;have j0:=aq.keep (h9.mono fun k (C:k<gk∧k≠gp)=>C.2) k7;obtain⟨rb,ro,rv,rfl,s3,n8,p6⟩:=bn j0 (mX (ll:=bM b) (k:=0) (by rw[HT.2.1];omega));rw[dj] at n8;obtain⟨RA,rc,rfl,r1,r2,r3,_⟩:=id p6;unfold maxLen at r2;have p0:=n5.cl 0;have k4:=n7.cl 4;have HX:=J9 k0 k8 n5 n7 k9 j0 b6 n4 p3;clear hF p3 p5 j9 a7 p4 b9 J k7 h9 k8 n5 n7 k9 j0 b6 k0 o9 p6 s3;simp only[dK];go_upto_region 10 with fail;rw[←HX.1];obtain⟨L,hL⟩:=eR (di (bM b) (bM b).length 0);rw[hL] at n8 r1 r3;by_cases s4:0<L.length;·obtain⟨y,hy⟩:∃y,y∈di (bM b) (bM b).length 0:=⟨L[0],by rw[hL];exact eL s4⟩;obtain⟨i,_,_,hi⟩:=jc.1 hy;have l0:Calls prog 102 #[.int .i64 0,.pointer (some ⟨w.heap.size,0,none⟩)] W4 fun e w'=>e=.returned (.int .i64 (fQ b 0))∧W4=w':=n0.out W4 (R.2.trans HX.2.1) 0 (by omega);have HN:=J2 (yp H0.1 H1.out hi) l0;clear hL hy hi l0;go_wp2_with fail;refine HN.2.mono ?_;rintro e w5 ⟨rfl,hw⟩;have s5:=hw.symm;subst s5;go_wp2_with fail;rw[Exit.noGoto_ret];exact⟨.tuple #[.int .i64 (fQ b 0),.int .i64 18],by simp[results,Tryz.f59,go_sem],.of HN.1 ((HW.2.1.trans R.2).trans HX.2.1)⟩
 have HN:=oH (BU H0.1 H1.out fun i hi=>by have hm:(i:Int)∈di (bM b) (bM b).length 0:=jc.2 ⟨i,rfl,lq hi,hi⟩;rw[hL,show L=[] from oD (by omega)] at hm;cases hm);clear hL;have j1:=HW.2.2.1.kept (R.2.trans HX.2.1) trivial;have j2:=fun wn (C:aa All W4 wn)=>Ed _ (.slice B1 b.Ng.length d1) b wn (HW.2.2.2.1 wn ((HW.2.1.trans R.2).trans (HX.2.1.trans C))) HG.1 HG.2.2.1;have HD:=oH j2;have p7:=oH (show∀wn,aa All W4 wn→wn.cell? ⟨w.heap.size,0,none⟩=some (.int .i64 b.params)∧wn.cell? ⟨w.heap.size,1,none⟩=some (.int .i64 b.vars)∧wn.cell? ⟨w.heap.size,2,none⟩=some (.slice B1 b.Ng.length d1)∧wn.cell? ⟨gp,0,none⟩=some (.pointer (some ⟨gk,0,none⟩)) from fun wn C=>⟨(j1.kept C trivial).cell 0,(j1.kept C trivial).cell 1,(j1.kept C trivial).cell 2,(HX.2.2.1.kept C trivial).cell 0⟩);have p8:=oH j1;clear j2 j1;have ek:=p7.out W4 kR;obtain⟨b0,b1,b2,b3⟩:=ek;have fk:=HX.2.2.2.1.free 5;have ck:=HX.2.2.2.1.cl 5;clear p0;go_upto_region 12 with fail;clear k4 n8;go_cut [] from 59 to 66 (fun wx=>∃A c,aa (fun k=>k≠gk) W4 wx∧al wx gk 198 #[.int .i64 b.params,.int .i64 b.vars,.slice B1 b.Ng.length d1,.slice A5 b.Ng.length c5,.slice (some ⟨rb,ro,none⟩) b.Ng.length c6,.slice A (jp b).length c]∧qay (fun k=>W4.heap.size≤k) wx (.slice A (jp b).length c) (jp b))
 case first=>(
 refine wp_region_noPanic ?_;go_region_with (go_at_call 107;refine(HD.out _ (kR.drew)).mono ?_;rintro e wq ⟨u,rfl,hkq,hu⟩;obtain⟨A,c,eu,_⟩:=id hu;subst eu;have c0:=(aa.refl All W4).drew.trans hkq;obtain⟨g0,g1,g2,g3⟩:=p7.out wq c0;have w7:=(HX.2.2.2.1.kept c0 trivial).free 5;have s6:=(HX.2.2.2.1.kept c0 trivial).cell 5;simp only[gc] at s6)
 all_goals
  refine NoPanic.normal ?_;go_wp2_with fail;go_meet;have e4:=(HX.2.2.2.1.kept c0 trivial).set 5 (.slice A (jp b).length c);simp only[ga] at e4;exact⟨A,c,c0.all.setCell (p:=⟨gk,5,none⟩) (.inl fun h=>h rfl) _,e4,bu.keep ((aa.refl (fun k=>W4.heap.size≤k) wq).setCell (p:=⟨gk,5,none⟩) (.inl (by have:=HX.2.2.2.1.lt;show¬(W4.heap.size≤gk);omega)) _) hu⟩)
 obtain⟨A7,c7,d9,e4,n9⟩:=hcut;have s0:=HX.2.2.2.1.lt;have l1:(jp b).length=b.vars.toNat:=by simp[jp]
 rw[l1] at e4 n9;have s7:=d9.size;have a8:rJ (fun k=>k<wc.heap.size) wc gk b tt:=⟨_,A5,c5,_,_,A7,c7,e4,ah.wide (fun k C=>by have:k<gk∧k≠gp:=C;omega) (ah.keep (d9.mono fun k (C:k<gk∧k≠gp)=>by show k≠gk;omega) HX.2.2.2.2.1),aq.wide (fun k C=>by have:k<gk∧k≠gp:=C;omega) (aq.keep (d9.mono fun k (C:k<gk∧k≠gp)=>by show k≠gk;omega) HX.2.2.2.2.2.1),xL n9⟩;have l2:gp≠gk:=fun e=>HX.2.2.2.2.2.2.2.1 e.symm;have l3:=HX.2.2.1.kept d9 l2;have j3:=p8.out.kept d9 (by have h1:=HW.2.2.1.lt;have h2:=R.2.size;have h3:=HX.2.2.2.2.2.2.2.2;show w.heap.size≠gk;omega);have o0:=J3 a8 l3 j3;have l4:aa All w wc:=am (((HW.2.1.trans R.2).trans HX.2.1).all.trans (d9.mono fun k (C:k<w.heap.size)=>by have h1:=HW.2.2.1.lt;have h2:=R.2.size;have h3:=HX.2.2.2.2.2.2.2.2;show k≠gk;omega));have e0:=oH l4;obtain⟨W7,e5⟩:=eQ ((wc.alloc (.cells #[.int .i64 0] 3)).alloc (.cells #[.int .i64 0] 33));have o1:=zy e5;have p9:=aA1 e5;have q0:=zo e5 vI;have q6:=aD2 e5;have q7:=j3.kept o1 trivial;obtain⟨b0,b1,b2⟩:=q7.c3;have e6:=J5 e5 o1 p9 q0 q6;clear e5 o1 p9 q0 q6 q7 a8 l3 j3 d9 e4 n9 l4 s7 l1 l2 fk ck b3;go_wp2_with fail
 go_step3
 rw[←e6.1];go_wp2_with fail;refine(zk _ _ _ _ _ _).mono ?_;rintro e w' ⟨rfl,rfl⟩;obtain⟨wl,k1⟩:=eQ (W7.alloc (.cells #[.int .i64 b.params,.int .i64 b.vars,.slice B1 b.Ng.length d1] 42));have e7:=yf k1;have q8:=yv k1;have q9:iJ (fun g=>g<w.heap.size) w wl:=(iJ.refl _ _).kept ((e0.out.trans e6.2.1).trans e7).all;have o2:wc.heap.size+2≤wl.heap.size:=by have:=e7.size;have:=e6.2.2.2.2;omega
 have r0:EH b wc wl.heap.size [] wl:=⟨e6.2.2.1.kept e7 trivial,e6.2.2.2.1.kept e7 trivial,e6.2.1.trans e7,cf _,o2,fun u hu=>by cases hu⟩;rw[←k1];have HL:=J4 q8 q9 r0 o2;clear k1 e7 q8 q9 r0 o2 b0 b1 b2;go_wp2_with fail
 refine wpIn_wide.1 (lW (F:=Fence.wide) (n:=8) rfl (by omega) (gf:=174) (lb:=#[.pointer (some ⟨W7.heap.size,0,none⟩)]) rfl trivial (enters_of func174 (by kernel_rfl) rfl)
  (tM 7 (by omega) (fun g=>g<w.heap.size) w b.params b.vars B1 d1 b.Ng A F HG.2.1 r8 _ wl HL.2.1 HL.1) BY (BX _) (fun W o h=>h.kept (kR.alloc _)) (Below.refl _ _) (fun _=>rfl)
  (EH b wc wl.heap.size) (fun c pre W=>c=.exit 0∧JZ b wc wl.heap.size pre W) CY (fun c=>OwnFrom.and (ownFrom_pure _ _) CX) (fun pre W h=>h.2.2.2.1) HL.2.2.1
  14 15 165 56 (fun x=>#[.int .i64 (x.1.1:Nat),.int .i64 (x.1.2.1:Nat)]) (fun x=>#[.int .u8 x.1.2.2.kind,.int .u8 x.1.2.2.op,.int .i64 x.1.2.2.dst,.int .i64 x.1.2.2.ref,.int .i64 x.1.2.2.Ni,A x.1.1 x.1.2.1,F x.1.1 x.1.2.1,.int .i64 x.1.2.2.num,.int .i64 x.1.2.2.Nj]) ?assign ?body ?done ?stop)
 case assign=>(intro l x W K hK;obtain⟨⟨i,k,x⟩,row,b4,hx⟩:=x;obtain⟨⟨aA,cA,eA,_⟩,⟨aF,cF,eF,_⟩,_⟩:=HG.2.1.ints i row b4 k x hx;dsimp only at hK⊢;rw[eA,eF] at hK⊢;simp only[List.zip_toArray,List.zip_cons_cons,List.zip_nil_right,List.foldl_toArray',List.size_toArray,kI,List.length_nil,List.foldl_cons,List.foldl_nil,ga] at hK;gi_wp2;exact hK)
 case body=>(
 rintro l pre x b1 b2 W n4 w8 w9 e8 b7 ⟨hf,he,b5,hs,e9,a1⟩ _;obtain⟨⟨i,k,x⟩,row,b4,hx⟩:=x;obtain⟨i5,i6,_⟩:=HG.2.1.ints i row b4 k x hx;have hW:=e0.out.trans b5;have j5:=fun wn (C:aa All W wn)=>ah.keep (hW.trans C).all i5;have j6:=fun wn (C:aa All W wn)=>ah.keep (hW.trans C).all i6;obtain⟨aA,cA,eA,_,u2,_⟩:=i5;obtain⟨aF,cF,eF,_⟩:=i6;unfold maxLen at u2;dsimp only at e8 b7⊢;rw[eA] at b7 j5⊢;rw[eF] at b7 j6⊢;have k2:=mG b4;have k3:=mG hx;have r4:=(lS.1 b4).1;have a8:=fun wn (C:aa All W wn)=>o0.1.keep (b5.trans C) (fun _ _=>trivial) trivial;have r5:=(o0.2.1.kept b5 trivial).cl 0;obtain⟨x0,x1⟩:=e8.c2;obtain⟨y0,y1,y2,y3,y4,y5,y6,y7,y8⟩:=b7.c9;have x2:=e0.out.size;have k5:∀z:iL,z∈(pre++[(⟨(i,k,x),row,b4,hx⟩:EK b.Ng)]).map Subtype.val→z∈pre.map Subtype.val∨z=(i,k,x):=fun z hz=>by
  rw[ic] at hz;rcases eD.1 hz with h|h;·exact .inl h
  exact .inr (cx.1 h)
 by_cases h3:x.kind=3;·(
 have t3:=yK x.kind 3 (by omega);have hC:=Ho _ _ _ gk b pl tt x _ _ i k W (a8 W kR) HG.1 HX.2.2.2.2.2.2.1 r4 (j5 W kR) (j6 W kR) (HG.1.phi row k2 x k3 h3) (HG.1.args row k2 x k3) (HG.1.Nh row k2 x k3);have b8:uo b i k x=mH b i x:=Ck h3;obtain⟨pf,r7⟩:=eR (mH b i x);rw[r7] at hC b8;have HC:=J6 hC b8 a1 b5 hs k5;clear hC b8 r7 a1 h3 a8 j5 j6 hW k5;by_cases hz:pf=0;·(
 have tz:(pf !=0)=false:=by rw[gj];exact hz
 gi_wp2_with (refine⟨trivial,?_⟩;gi_at_call 109;refine(CallsIn.inRound l (callsIn_wide.2 HC.1)).mono ?_;rintro e W8 ⟨rfl,I⟩;have fW:=hf.kept I trivial;have eW:=he.kept I trivial;have oW:=b7.kept I trivial;have q1:=eW.cell 0;have q2:=eW.free 0;have q3:=fW.cell 0;have q4:=fW.free 0;have q5:=oW.cell 8;simp only[gc] at q1 q3 q5;have l5:=I.size);refine⟨((KeepsOthers.of_kept I).trans (KeepsOthers.setCell _ _ _)).from _,fun h=>h.kept (I.all.setCell (p:=⟨wc.heap.size+1,0,none⟩) (.inl (by simp;omega)) _),fW.far (by simp) _,?_,(HC.2.2.2.1.trans I).setCell (p:=⟨wc.heap.size+1,0,none⟩) (.inr (by simp)) _,by simp;have:=HC.2.2.2.2.1;omega,e9,fun u hu=>?_⟩
 ·have:=eW.set 0 (.int .i64 0)
  simpa using this
 rcases HC.2.2.2.2.2 u hu with h|rfl;·exact HC.2.2.1 u h
 rw[HC.2.1];exact hz)
 have tz:(pf !=0)=true:=by rw[bne_iff_ne];exact hz
 gi_wp2_with (refine⟨trivial,?_⟩;gi_at_call 109;refine(CallsIn.inRound l (callsIn_wide.2 HC.1)).mono ?_;rintro e W8 ⟨rfl,I⟩;have fW:=hf.kept I trivial;have eW:=he.kept I trivial;have oW:=b7.kept I trivial;have q1:=eW.cell 0;have q2:=eW.free 0;have q3:=fW.cell 0;have q4:=fW.free 0;have q5:=oW.cell 8;simp only[gc] at q1 q3 q5;have l5:=I.size);refine⟨(((KeepsOthers.of_kept I).trans (KeepsOthers.setCell _ _ _)).trans (KeepsOthers.setCell _ _ _)).from _,rfl,pre,_,rfl,HC.2.2.1,by rw[HC.2.1];exact hz,?_,?_,((HC.2.2.2.1.trans I).setCell (p:=⟨wc.heap.size+1,0,none⟩) (.inr (by simp)) _).setCell (p:=⟨wc.heap.size,0,none⟩) (.inr (by simp)) _,by simp;have:=HC.2.2.2.2.1;omega,e9⟩
 ·have:=(fW.far (p:=⟨wc.heap.size+1,0,none⟩) (by simp) (.int .i64 pf)).set 0 (.int .i64 x.Nj)
  simpa using this
 have:=(eW.set 0 (.int .i64 pf)).far (p:=⟨wc.heap.size,0,none⟩) (by simp) (.int .i64 x.Nj);rw[HC.2.1];simpa using this)
 have t3:=nK x.kind 3 (by omega);have HJ:=J10 j5 a8 a1 b5 hs k5 e8 b7 hf he;have H3:=oH h3;clear j5 j6 a8 a1 h3 hW k5 r5 x0 x1 y1 y2 y3 y4 y6 y7 y8;gi_wp2
 gi_loopw [85] (fun s wr=>∃m:Nat,m≤x.args.length∧s=.int .i64 m∧aa All W wr∧∀(j:Nat) v,j<m→x.args[j]? =some v→iP b v i k) (fun s _=>x.args.length-(intOf s).toNat)
 ·exact⟨0,by omega,rfl,kR,fun j v hj=>by omega⟩
 obtain⟨m,hm,rfl,a6,c1⟩:=hrel;clear y0 y5;have e8:=HJ.2.2.2.2.2.2.1.kept a6 trivial;have b7:=HJ.2.2.2.2.2.2.2.1.kept a6 trivial;have hf:=HJ.2.2.2.2.2.2.2.2.1.kept a6 trivial;have he:=HJ.2.2.2.2.2.2.2.2.2.kept a6 trivial;have c8:=HJ.2.2.2.1.trans a6;have r5:=(o0.2.1.kept c8 trivial).cl 0;obtain⟨x0,x1⟩:=e8.c2;have x3:=a6.size;have x4:=HJ.2.2.2.2.1;by_cases s8:m<x.args.length;·(
 obtain⟨v,hv⟩:=eG s8;have k6:=HG.1.args row k2 x k3 v (mG hv);obtain⟨vn,o3⟩:∃vn:Nat,v=vn:=⟨v.toNat,by omega⟩;rw[o3] at hv k6;obtain⟨vb,vo,vv,rfl,_,x5,rfl,_⟩:=bn (HJ.1 wr a6) hv;have h4:=Br _ gk b pl tt vn i k wr (HJ.2.1 wr a6) HG.1 HX.2.2.2.2.2.2.1 k6.2 r4;by_cases ht:iP b vn i k;·(
 rw[av ht] at h4;have Y:=J5 h4 ht hv c1 a6;clear h4 ht hv c1 a6 k6 o3 e8 b7 hf he c8;gi_wp2_with (refine⟨trivial,?_⟩;gi_at_call 110;refine(CallsIn.inRound l (callsIn_wide.2 Y.1)).mono ?_;rintro e W8 ⟨rfl,I⟩)
 go_roundw
 case rel=>
  refine⟨m+1,by omega,by simp,Y.2.2.2.2.trans I,fun j v hj o4=>?_⟩;by_cases e:j=m;·subst e;rw[Y.2.2.1] at o4;cases o4;exact Y.2.1
  exact Y.2.2.2.1 j v (by omega) o4
 case measure=>simp[intOf];omega)
 rw[au ht] at h4;have b8:uo b i k x=19:=Gt H3.out (mG hv) ht;have Y:=J3 h4 b8 a6;clear h4 ht hv c1 b8 k6 o3;gi_wp2_with (refine⟨trivial,?_⟩;gi_at_call 110;refine(CallsIn.inRound l (callsIn_wide.2 Y.1)).mono ?_;rintro e W8 ⟨rfl,I⟩;have fW:=hf.kept I trivial;have eW:=he.kept I trivial;have oW:=b7.kept I trivial;have q1:=eW.cell 0;have q2:=eW.free 0;have q3:=fW.cell 0;have q4:=fW.free 0;have q5:=oW.cell 8;simp only[gc] at q1 q3 q5;have l5:=I.size);refine⟨(((KeepsOthers.of_kept (a6.trans I)).trans (KeepsOthers.setCell _ _ _)).trans (KeepsOthers.setCell _ _ _)).from _,rfl,pre,_,rfl,HJ.2.2.1,by rw[Y.2.1];decide,?_,?_,((c8.trans I).setCell (p:=⟨wc.heap.size,0,none⟩) (.inr (by simp)) _).setCell (p:=⟨wc.heap.size+1,0,none⟩) (.inr (by simp)) _,by simp;omega,e9⟩
 ·have:=(fW.set 0 (.int .i64 x.Nj)).far (p:=⟨wc.heap.size+1,0,none⟩) (by simp) (.int .i64 19)
  simpa using this
 have:=(eW.far (p:=⟨wc.heap.size,0,none⟩) (by simp) (.int .i64 x.Nj)).set 0 (.int .i64 19);rw[Y.2.1];simpa using this)
 obtain rfl:m=x.args.length:=by omega
 have b8:uo b i k x=0:=Kq H3.out fun v hv=>by obtain⟨j,hj⟩:=cY.1 hv;exact c1 j v (lS.1 hj).1 hj
 have Y:=J5 b8 a6 hf he c8;clear b8 c1 a6 hf he c8;gi_wp2;refine⟨(KeepsOthers.of_kept Y.2.1).from _,fun h=>h.kept Y.2.1.all,Y.2.2.1,Y.2.2.2.1,Y.2.2.2.2,by omega,e9,fun u hu=>?_⟩;rcases HJ.2.2.2.2.2.1 u hu with h|rfl;·exact HJ.2.2.1 u h
 exact Y.1)
 case done=>(rintro D xs W hD hS ⟨hf,he,b5,hs,e9,a1⟩ hK;rw[hS] at a1;have HZ:=J3 (show oh b=(0,0) by rw[HN.out];exact CW a1) (e0.out.trans b5) hK;have qf:=hf.cl 0;have qe:=he.cl 0;clear hf he b5 a1 hS hK;go_wp2;go_quiet (fail);go_wp2;rw[Exit.noGoto_ret];refine⟨by simp,.inl ⟨_,_,rfl,run_takeDeferred HZ.2.2,?_⟩⟩;exact⟨.tuple #[.int .i64 0,.int .i64 0],by simp[results,Tryz.f59,go_sem],.of HZ.1 (aa.put (HZ.2.1.drewN _) (.inr (by have:=e0.out.size;have:=HL.2.2.2;omega)) _)⟩)
 rintro D c pre W hD hS ⟨rfl,s9,x,rfl,a1,hx,hf,he,b5,hs,e9⟩ hK;rw[ic] at hS;have HZ:=J3 (show oh b=(x.1.2.2.Nj,uo b x.1.1 x.1.2.1 x.1.2.2) by rw[HN.out];exact Ah hS a1 hx) (e0.out.trans b5) hK;obtain⟨⟨i,k,x⟩,row,b4,x6⟩:=x;dsimp only at hf he HZ;obtain⟨z,hz⟩:=eR (uo b i k x);rw[hz] at he HZ;have qf:=hf.cl 0;have qe:=he.cl 0;clear hf he b5 a1 hS hK hx hz;rw[wpIn_wide];go_wp2;go_quiet (fail);go_wp2;rw[Exit.noGoto_ret];refine⟨by simp,.inl ⟨_,_,rfl,run_takeDeferred HZ.2.2,?_⟩⟩;exact⟨.tuple #[.int .i64 x.Nj,.int .i64 z],by simp[results,Tryz.f59,go_sem],.of HZ.1 (aa.put (HZ.2.1.drewN _) (.inr (by have:=e0.out.size;have:=HL.2.2.2;omega)) _)⟩
end
theorem Bg (S:Nat→Prop)(pv cv:Value)(p:aH)(c:aE)(w:World)(hp:dJ S w pv p)(hc:cQ S w cv c)(hl:gz w)(_hS:∀b,S b→b<w.heap.size)(b9:kj p)(c0:lY c)(hN:eM p c↔bJ p c):
 Calls prog 26 #[pv,cv] w (nH p c w):=by
 have c4:=cB.la hp;have c5:=dc.la hc;obtain⟨h3,vu,vi,vo,rfl,e2,e3,e4,e5,e6⟩:=hp;obtain⟨a1,n1,rfl,l1,l2,_⟩:=e2;obtain⟨a2,n2,rfl,_⟩:=e3;obtain⟨a3,n3,rfl,_⟩:=e4;obtain⟨a4,n4,rfl,_⟩:=e5;obtain⟨ka,kf,rfl,e7,c6,e8⟩:=hc;have c7:=bV.la c6;obtain⟨A1,c1,rfl,m1,m2,m3,_⟩:=e7;obtain⟨A2,c2,rfl,m4,m5,m6,_⟩:=c6;unfold maxLen at*;obtain⟨W0,J⟩:=eQ ((w.alloc (.cells #[.slice a1 p.MZ.length n1,.slice a2 p.up.length n2,.slice a3 p.Nb.length n3,.slice a4 p.Na.length n4,.int .i64 p.Nc] 26)).alloc (.cells #[.slice A1 c.Nd.length c1,.slice A2 c.Nf.length c2,.int .i64 c.main] 30));have R:=zy J;have bP:=aA1 J;have bK:=zo J vI;obtain⟨p0,p1,p2,p3,p4⟩:=bP.c5;obtain⟨k0,k1,k2⟩:=bK.c3;have HW:=J5 J R bP bK c7;have b7:=AI S _ _ p c W0 (c4 W0 R) (c5 W0 R) (hl.keep R) b9 c0;rw[kC hN] at b7;have HR:=oH b7;clear b7 hN hl _hS b9 c0;clear J R bP bK c4 c5 c7 e6 e8;go_enter func26,ntmps26;go_upto_region 1 with fail;rw[←HW.1];go_wp2_with fail;refine HR.out.mono ?_;rintro e w1 ⟨rfl,b8⟩;have c8:=oH b8;have c9:=oH (HW.2.1.trans b8);clear b8 p0 p1 p2 p3 p4 k0 k1 k2;have Y:=HW.2.2.2.1.kept c8.out trivial;obtain⟨k0,k1,k2⟩:=Y.c3;clear Y;by_cases o:bJ p c
 case neg=>(rw[au o];have HN:=oH (wy o);clear o;go_wp2_with fail;exact bodyPost_ret (v:=.tuple #[.int .i64 0,.int .i64 0,.int .i64 1]) (by simp[results,Tryz.f26,go_sem]) rfl (.of HN.out c9.out))
 rw[av o];have h4:=o.2.2.1;have a8:=oH o;clear o;go_wp2_with fail;go_loopg [18] c.Nf.length (fun g s wr=>∃j:Nat,j≤c.Nf.length∧g=c.Nf.length-j∧s=.int .i64 j∧aa All w1 wr∧∀i:Nat,i<j→∀b,c.Nf[i]? =some b→(oh b).2=0);·exact⟨0,by omega,by omega,rfl,kR,fun i hi=>by omega⟩
 obtain⟨j,hj,rfl,rfl,a6,I⟩:=hrel;have a7:=c9.out.trans a6;clear k0 k1 k2;have Y:=(HW.2.2.2.1.kept c8.out trivial).kept a6 trivial;obtain⟨k0,k1,k2⟩:=Y.c3;clear Y;by_cases e9:j<c.Nf.length;·(
 obtain⟨b,hb⟩:=eG e9;obtain⟨gb,go,h5,rfl,h0,d7,b0,bv,rfl,d8,h1,C⟩:=aZ (HW.2.2.2.2 wr a7) hb;have b6:=bg.la d8;obtain⟨vA,vc,rfl,_⟩:=d8;obtain⟨W5,b1⟩:=eQ (wr.alloc (.cells #[.int .i64 b.params,.int .i64 b.vars,.slice vA b.Ng.length vc] 42));have b3:=yf b1;have b5:=yv b1;obtain⟨y0,y1,y2⟩:=b5.c3;have d9:b.Ng.flatten.length≤4096:=fR (qz (dr.2 ⟨b,mG hb,rfl⟩)) a8.2.2.2.2.2.2.2.2;have b4:=Ef S _ b W5 (b6 W5 b3) (Kj (a8.2.2.2.2.2.2.2.1 b (mG hb))) d9;have z0:=b0 0 _ rfl;rw[dj] at z0;have z1:=b0 1 _ rfl;have z2:=b0 2 _ rfl;obtain⟨fx,fy,hf⟩:∃fx fy,oh b=(fx,fy):=⟨_,_,rfl⟩;unfold qk at b4;rw[hf] at b4;have HC:=J6 b4 (a6.trans b3) (a7.trans b3) I hb hf;have h2:=oH b1;clear b4 a6 a7 I hb hf b0 h1 C h0 d7 b1 b3 b5 b6 d9;go_upto_region 6 with fail;rw[←h2.out];clear z0 z1 z2 k0 k1 k2;go_wp2_with fail;refine HC.1.mono ?_;rintro e w2 ⟨rfl,e0⟩;have e1:=oH e0;clear e0;by_cases hz:fy=0;·(
 have tz:(fy !=0)=false:=by rw[gj];exact hz
 have HZ:=oH (show(oh b).2=0 by rw[HC.2.2.2.2.2];exact hz);clear hz;go_wp2_with fail;go_roundg (c.Nf.length-(j+1))
 ·refine⟨j+1,by omega,rfl,by go_num,HC.2.1.trans e1.out,fun i hi b2 C=>?_⟩
  by_cases e:i=j;·subst e;rw[HC.2.2.2.2.1] at C;cases C;exact HZ.out
  exact HC.2.2.2.1 i (by omega) b2 C
 omega)
 have tz:(fy !=0)=true:=by rw[bne_iff_ne];exact hz
 have HZ:=oH (show oK p c=((j:Int),fx,fy) by rw[nc a8.out,su HC.2.2.2.2.1 (fun i hi b2 C=>HC.2.2.2.1 i hi b2 C) (by rw[HC.2.2.2.2.2];exact hz),HC.2.2.2.2.2,cN]);clear hz;go_wp2_with fail;exact bodyPost_ret (v:=.tuple #[.int .i64 j,.int .i64 fx,.int .i64 fy]) (by simp[results,Tryz.f26,go_sem]) rfl (.of HZ.out (HC.2.2.1.trans e1.out)))
 obtain rfl:j=c.Nf.length:=by omega
 have HZ:=oH (show oK p c=(0,0,0) by rw[nc a8.out];exact mc fun b hb=>by obtain⟨i,hi⟩:=cY.1 hb;exact I i (lS.1 hi).1 b hi);have HK:=oH a7;clear a6 a7 I;go_wp2_with fail;exact bodyPost_ret (v:=.tuple #[.int .i64 0,.int .i64 0,.int .i64 0]) (by simp[results,Tryz.f26,go_sem]) rfl (.of HZ.out HK.out)
theorem Bq (S:Nat→Prop)(pv cv:Value)(p:aH)(c:aE)(w:World)(hp:dJ S w pv p)(hc:cQ S w cv c)(hl:gz w)(hS:∀b,S b→b<w.heap.size)(I:kj p)(J:lY c)(hN:eM p c↔bJ p c):
 Calls prog 15 #[pv,cv] w fun e w'=>e=.returned (.bool (pB (bJ p c∧jH c)))∧aa All w w':=by
 have R:=cB.la hp;have Y:=dc.la hc;obtain⟨b8,vu,vi,vo,rfl,b0,b1,b2,b3,b4⟩:=hp;obtain⟨a1,n1,rfl,l1,l2,_⟩:=b0;obtain⟨a2,n2,rfl,_⟩:=b1;obtain⟨a3,n3,rfl,_⟩:=b2;obtain⟨a4,n4,rfl,_⟩:=b3;obtain⟨ka,kf,rfl,b5,a6,b6⟩:=hc;have a7:=bV.la a6;obtain⟨A1,c1,rfl,m1,m2,m3,_⟩:=b5;obtain⟨A2,c2,rfl,m4,m5,m6,_⟩:=a6;unfold maxLen at*;obtain⟨W0,o⟩:=eQ ((w.alloc (.cells #[.slice a1 p.MZ.length n1,.slice a2 p.up.length n2,.slice a3 p.Nb.length n3,.slice a4 p.Na.length n4,.int .i64 p.Nc] 26)).alloc (.cells #[.slice A1 c.Nd.length c1,.slice A2 c.Nf.length c2,.int .i64 c.main] 30));have j:=zy o;have bP:=aA1 o;have bK:=zo o vI;obtain⟨p0,p1,p2,p3,p4⟩:=bP.c5;obtain⟨k0,k1,k2⟩:=bK.c3;have HW:=J5 o j bP bK a7;have HR:=oH (Bg S _ _ p c W0 (R W0 j) (Y W0 j) (hl.keep j) (fun b hb=>by have:=hS b hb;have:=j.size;omega) I J hN);clear hN hl hS I J;clear o j bP bK R Y a7 b4 b6;have hz:=uN (p:=p) (c:=c);unfold nH at HR;obtain⟨x,y,z,hx⟩:∃x y z,oK p c=(x,y,z):=⟨_,_,_,rfl⟩;rw[hx] at HR hz;have C:(z==0)=pB (bJ p c∧jH c):=by
  by_cases h:z=0;·rw[av (hz.1 h)];simpa using h
  rw[au fun h'=>h (hz.2 h')];simpa using h
 obtain⟨q,hq⟩:=eR ((z==0));rw[hq] at C;have HZ:=oH C;clear hz C hx;go_enter func15,ntmps15;go_upto_region 1 with fail;rw[←HW.1];go_wp2_with fail;refine HR.out.mono ?_;rintro e w1 ⟨rfl,a8⟩;have b7:=oH (HW.2.1.trans a8);clear a8;go_wp2_with fail;go_ret;exact⟨by rw[←HZ.out]<;>rfl,b7.out⟩
namespace Q
structure qaZ (p:aH)(c:aE):Prop where
 pol:qdE p
 code:qcq c
 psm:kj p
 csm:lY c
 names:eM p c↔bJ p c
theorem qhv {p:aH}{c:aE}{g:Gh}{w:World}{vs:List Value}{H:List HO}(j:qaZ p c)(C:gz w)(o:HR g w H)(h:da g w [.agg (qaY p),.agg (qax c)] vs):Calls prog 15 vs.toArray w fun e w'=>e=.returned (.bool (pB (bJ p c∧jH c)))∧aa All w w':=by obtain⟨a,_,rfl,I,b,_,rfl,J,rfl⟩:=h.inv;exact Bq (fun b=>b<w.heap.size) a b p c w (qfl o.lt j.pol I) (qct o.lt j.code J) C (fun b h=>h) j.psm j.csm j.names
end Q
end Go.Proofs.YtgdlhckhpolnnaaGreatDoor
