/- Part 36 of the proof (its last part says what is proved). No condition. -/
import Derived.Shelf.Sort.Plain
import Derived.Shelf.Slices.Clone
import Derived.Sort.OwnSortedInts
import Derived.Test.YtgdlhckhpolnnaaGreatDoorK27
import Derived.Test.YtgdlhckhpolnnaaGreatDoorK32
namespace Go.Proofs.YtgdlhckhpolnnaaGreatDoor
set_option maxRecDepth 100000
set_option maxHeartbeats 8000000
open Go.RowKit Go.Proofs.Tryz
section
open Go.Shelf
def Tryz.lays189_ren:Go.Shelf.Ren:=⟨fun|189=>176|125=>212|257=>211|128=>245|129=>246|294=>236|295=>237|296=>238|297=>239|298=>240|299=>241|216=>242|300=>243|301=>244|328=>260|329=>261|330=>262|331=>263|332=>264|215=>265|343=>268|n=>n,fun|28=>54|3=>3|46=>217|0=>0|51=>262|53=>163|4=>4|183=>303|182=>302|131=>122|5=>5|9=>9|218=>315|222=>319|228=>322|229=>44|n=>n,fun|n=>n⟩
theorem Tryz.lays189:Go.Proofs.Lays.n189 prog Tryz.lays189_ren:= {
 mixed:=by kernel_rfl
 f125:=func212.trans (congrArg some (by kernel_rfl))
 f128:=func245.trans (congrArg some (by kernel_rfl))
 f129:=func246.trans (congrArg some (by kernel_rfl))
 f189:=func176.trans (congrArg some (by kernel_rfl))
 f215:=func265.trans (congrArg some (by kernel_rfl))
 f216:=func242.trans (congrArg some (by kernel_rfl))
 f257:=func211.trans (congrArg some (by kernel_rfl))
 f294:=func236.trans (congrArg some (by kernel_rfl))
 f295:=func237.trans (congrArg some (by kernel_rfl))
 f296:=func238.trans (congrArg some (by kernel_rfl))
 f297:=func239.trans (congrArg some (by kernel_rfl))
 f298:=func240.trans (congrArg some (by kernel_rfl))
 f299:=func241.trans (congrArg some (by kernel_rfl))
 f300:=func243.trans (congrArg some (by kernel_rfl))
 f301:=func244.trans (congrArg some (by kernel_rfl))
 f328:=func260.trans (congrArg some (by kernel_rfl))
 f329:=func261.trans (congrArg some (by kernel_rfl))
 f330:=func262.trans (congrArg some (by kernel_rfl))
 f331:=func263.trans (congrArg some (by kernel_rfl))
 f332:=func264.trans (congrArg some (by kernel_rfl))
 f343:=func268.trans (congrArg some (by kernel_rfl))
 t0:=underlying0
 a0:=Tryz.isAgg0
 z0:=Tryz.sizeOf0
 v0:=Tryz.zeroValue0
 t3:=underlying3
 a3:=Tryz.isAgg3
 z3:=Tryz.sizeOf3
 v3:=Tryz.zeroValue3
 t4:=underlying4
 a4:=Tryz.isAgg4
 z4:=Tryz.sizeOf4
 v4:=Tryz.zeroValue4
 t5:=underlying5
 a5:=Tryz.isAgg5
 z5:=Tryz.sizeOf5
 v5:=Tryz.zeroValue5
 t9:=underlying9
 a9:=Tryz.isAgg9
 z9:=Tryz.sizeOf9
 v9:=Tryz.zeroValue9
 t28:=underlying54
 a28:=Tryz.isAgg54
 z28:=Tryz.sizeOf54
 v28:=Tryz.zeroValue54
 t46:=underlying217
 a46:=Tryz.isAgg217
 z46:=Tryz.sizeOf217
 v46:=Tryz.zeroValue217
 t51:=underlying262
 a51:=Tryz.isAgg262
 z51:=Tryz.sizeOf262
 v51:=Tryz.zeroValue262
 t53:=underlying163
 a53:=Tryz.isAgg163
 z53:=Tryz.sizeOf163
 v53:=Tryz.zeroValue163
 t131:=underlying122
 a131:=Tryz.isAgg122
 z131:=Tryz.sizeOf122
 v131:=Tryz.zeroValue122
 t182:=underlying302
 a182:=Tryz.isAgg302
 z182:=Tryz.sizeOf302
 v182:=Tryz.zeroValue302
 t183:=underlying303
 a183:=Tryz.isAgg303
 z183:=Tryz.sizeOf303
 v183:=Tryz.zeroValue303
 t218:=underlying315
 a218:=Tryz.isAgg315
 z218:=Tryz.sizeOf315
 v218:=Tryz.zeroValue315
 t222:=underlying319
 a222:=Tryz.isAgg319
 z222:=Tryz.sizeOf319
 v222:=Tryz.zeroValue319
 t228:=underlying322
 a228:=Tryz.isAgg322
 z228:=Tryz.sizeOf322
 v228:=Tryz.zeroValue322
 t229:=underlying44
 a229:=Tryz.isAgg44
 z229:=Tryz.sizeOf44
 v229:=Tryz.zeroValue44}
open Go.Sort Go.RowKit in
theorem Tryz.slices_Sort_int (blk off cap:Nat)(zs:List Int)(w:World)(hH:Holds (Value.int .i64) w blk off zs.toArray)(j:blk<w.heap.size)(o:zs.length<4611686018427387904):
 Calls prog 176 #[.slice (some ⟨blk,off,none⟩) zs.length cap] w fun e w'=>
  e=.returned (.tuple #[])∧∃n os,w'=grow (putRow (Value.int .i64) (Sort.ahead w n) blk off (zs.mergeSort fun x y=>decide (x≤y)).toArray) os:=Any.slices_Sort_int Tryz.lays189 blk off cap zs w hH j o
def Tryz.laysNm215_ren:Go.Shelf.Ren:=⟨fun|15=>175|n=>n,fun|22=>54|3=>3|4=>4|n=>n,fun|n=>n⟩
theorem Tryz.laysNm215:Go.Proofs.Lays2.n15 prog Tryz.laysNm215_ren:= {
 mixed:=by kernel_rfl
 f15:=func175.trans (congrArg some (by kernel_rfl))
 t3:=underlying3
 a3:=Tryz.isAgg3
 z3:=Tryz.sizeOf3
 v3:=Tryz.zeroValue3
 t4:=underlying4
 a4:=Tryz.isAgg4
 z4:=Tryz.sizeOf4
 v4:=Tryz.zeroValue4
 t22:=underlying54
 a22:=Tryz.isAgg54
 z22:=Tryz.sizeOf54
 v22:=Tryz.zeroValue54
 i3:=by kernel_rfl}
open Go.RowKit Go.Lib in
theorem Tryz.slices_Clone_int (b off n c:Nat)(zs:List Int)(w:World)(I:n≤zs.length)(o:n*8≤140737488355328)(J:∀j,j<zs.length→w.cell? ⟨b,off+j,none⟩=some (.int .i64 (zs.getD j 0))):
 Calls prog 175 #[.slice (some ⟨b,off,none⟩) n c] w fun e w'=>∃C,e=.returned C∧w'.ownsRow w.heap.size 3 1 C n ((zs.take n).map (Value.int .i64))∧C≠.slice none 0 0∧Below w.heap.size w w':=Any.slices_Clone_int Tryz.laysNm215 b off n c zs w I o J
end
theorem CK (S:Nat→Prop)(v:Value)(l:List Int)(w:World)(h:aK S w v l)(h1:1≤l.length):
 Calls prog 175 #[v] w fun e w'=>∃g c cur,e=.returned (.slice (some ⟨g,0,none⟩) l.length c)∧aa All w w'∧w.heap.size≤g∧al w' g 3 cur∧l.length≤c∧c≤maxLen∧cur.size=c*1∧cur.toList.take l.length=l.map (Value.int .i64):=by
 obtain⟨a,cap,rfl,h2,h3,h4,h⟩:=h;obtain⟨b,off,c,rfl,_⟩:=h 0 l[0] (lG (by omega));refine(Tryz.slices_Clone_int b off l.length cap l w (cf _) h4 fun j hj=>?_).mono ?_
 ·obtain⟨b',a6,c',e,_,hc,rfl,_⟩:=h j l[j] (lG hj)
  cases e;rw[hc,iG,lG hj];rfl
 rintro e w' ⟨v',rfl,⟨_,o⟩,_,J⟩;rcases o with ⟨_,h0⟩|⟨g,C,cur,rfl,hg,hh,R,Y,a1,I⟩;·omega
 rw[dZ,Nat.mul_one] at I;exact⟨g,C,cur,rfl,⟨J.os,J.output,J.size,fun k hk _=>J.block k hk⟩,hg,hh,R,Y,a1,I⟩
def LR (l:List Int):List Int:=l.mergeSort fun x y=>decide (x≤y)
theorem pX (l:List Int):(LR l).Perm l:=List.mergeSort_perm _ _
theorem LI (l:List Int):(LR l).Pairwise (·≤·):=by
 refine(List.pairwise_mergeSort (le:=fun x y:Int=>decide (x≤y)) (fun a b c j o=>?_) (fun a b=>?_) l).imp fun h=>by simpa using h
 ·simp only[qal] at j o⊢;omega
 simp only[Bool.or_eq_true,qal];omega
theorem Hm (g c:Nat)(cur:Array Value)(l:List Int)(w:World)(j:al w g 3 cur)(I:l.length≤c)(J:c≤maxLen)(R:cur.size=c*1)(Y:cur.toList.take l.length=l.map (Value.int .i64))(hl:l.length≤1000)(hw:∀x∈l,(Lit.int .i64 x).wf=true):
 Calls prog 176 #[.slice (some ⟨g,0,none⟩) l.length c] w fun e w'=>e=.returned (.tuple #[])∧aa (fun b=>b≠g) w w'∧aK (fun b=>b=g) w' (.slice (some ⟨g,0,none⟩) l.length c) (LR l):=by
 have hlen:(LR l).length=l.length:=(pX l).length_eq;refine(Tryz.slices_Sort_int g 0 c l w (holds_of_blockI j Y) j.lt (by omega)).mono ?_;rintro e w' ⟨rfl,n,os,rfl⟩;refine⟨rfl,kR.grown (grownBy_sortedI _) fun k e=>.inl fun h=>h (by cases e;rfl),?_⟩;have o:=ownsRow_sortedI (n:=n) (os:=os) (base:=0) hlen (Nat.zero_le g) j I J R;rw[←hlen] at o⊢;refine Sl.of_own o (by omega) (fun k e=>by cases e;rfl) fun i x C=>⟨_,by rw[cL,C];rfl,rfl,hw x ?_⟩;exact(pX l).mem_iff.1 (mG C)
theorem Ho (S R5 R6:Nat→Prop)(kb:Nat)(b:aw)(pl:Nat→Nat)(t:Nat→Int)(x:bz)(a5 a6:Value)(blk n:Nat)(w:World)(hC:rJ S w kb b t)(hG:gY b)(T:mz (bM b) t pl)(C:blk<b.Ng.length)
 (h5:aK R5 w a5 x.args) (h6:aK R6 w a6 x.Nh) (hx:x.Nh.length=x.args.length∧1≤x.Nh.length∧x.Nh.length≤64) (R:∀a∈x.args,0≤a∧a<b.vars) (b1:∀a∈x.Nh,0≤a∧a<b.Ng.length):
 Calls prog 109 #[.pointer (some ⟨kb,0,none⟩),.agg #[.int .u8 x.kind,.int .u8 x.op,.int .i64 x.dst,.int .i64 x.ref,.int .i64 x.Ni,a5,a6,.int .i64 x.num,.int .i64 x.Nj],.agg #[.int .i64 blk,.int .i64 n]] w fun e w'=>e=.returned (.int .i64 (mH b blk x))∧aa All w w':=by
 have Y:=fun wn (C:aa All w wn)=>hC.keep C (fun _ _=>trivial) trivial;have c7:=ah.la h5;have b4:=ah.la h6;have c8:=Jq h6;obtain⟨A5,c5,rfl,u1,u2,u3,_⟩:=h5;obtain⟨A6,c6,rfl,v1,v2,v3,_⟩:=h6;unfold maxLen at u2 v2;obtain⟨c9,e8,b7⟩:=hx;have h0:x.Nh.length≤x.args.length:=by omega
 have h3:x.args.length≤x.Nh.length:=by omega
 obtain⟨W0,a1⟩:=eQ ((w.alloc (.cells #[.int .u8 x.kind,.int .u8 x.op,.int .i64 x.dst,.int .i64 x.ref,.int .i64 x.Ni,.slice A5 x.args.length c5,.slice A6 x.Nh.length c6,.int .i64 x.num,.int .i64 x.Nj] 56)).alloc (.cells #[.int .i64 blk,.int .i64 n] 165));have b8:=aC2 a1;have bX:=aA1 a1;have bA:=aB0 a1 aE1;have x5:=bX.cl 5;have x6:=bX.cl 6;have d7:=CK _ _ _ W0 (b4 W0 b8) e8;have HG:=J6 hG T R b1 c8 c9;have HW:=J8 a1 b8 bX bA Y c7 b4 d7;clear hG T R b1 c8 a1 b8 bX bA Y c7 b4 d7 hC c9;go_enter func109,ntmps109;go_upto_region 1 with fail;rw[←HW.1];go_wp2_with fail;refine HW.2.2.2.2.2.2.2.mono ?_;rintro e w1 ⟨g,c,cur,rfl,d8,hg,hb,q1,q2,q3,q4⟩;have hs:=Hm g c cur x.Nh w1 hb q1 q2 q3 q4 (by omega) HG.2.2.2.2.1;have d9:=J2 d8 hs;unfold maxLen at q2;clear d8 hb q3 q4 hs;go_wp2_with fail;refine d9.2.mono ?_;rintro e w2 ⟨rfl,e0,e1⟩;have b0:aa All W0 w2:=am (d9.1.all.trans (e0.mono fun b (hb:b<W0.heap.size)=>by show b≠g;omega));have b9:=HW.2.1.trans b0;obtain⟨bv,A3,c3,A4,c4,h4,h7,m1,m2,m3,m4⟩:=HW.2.2.2.2.1 w2 b9;obtain⟨pb,po,pv,rfl,_,e2,e3⟩:=bn m3 (mX (k:=blk) (by rw[cS];exact C));have b2:=fun wn (C:aa All w2 wn)=>oP _ _ _ _ _ _ wn (ah.keep C.all e1) (ah.keep C.all e3);obtain⟨PA,pc,rfl,p1,p2,p3,_⟩:=e3;have b3:=(xp (ll:=bM b) (k:=blk) (pX x.Nh) (LI x.Nh)).trans mp.symm;have HF:=oH (show∀wn,aa All w2 wn→wn.cell? ⟨kb,4,none⟩=some (.slice (some ⟨pb,po,none⟩) b.Ng.length c4)∧wn.cell? ⟨w.heap.size+1,0,none⟩=some (.int .i64 blk)∧wn.cell? ⟨pb,po+blk,none⟩=some (.slice PA (di (bM b) (bM b).length blk).length pc) from fun wn C=>
  ⟨(m1.kept C trivial).cell 4,(HW.2.2.2.1.kept (b0.trans C) trivial).cell 0,C.cell trivial e2⟩)
 obtain⟨q,hq⟩:∃q,decide (LR x.Nh=di (bM b) (bM b).length blk)=q:=⟨_,rfl⟩;have hlen:(LR x.Nh).length=x.Nh.length:=(pX x.Nh).length_eq;have a7:∀wn,aa All w2 wn→Calls prog 177 #[.slice (some ⟨g,0,none⟩) x.Nh.length c,.slice PA (di (bM b) (bM b).length blk).length pc] wn fun e w'=>e=.returned (.bool q)∧aa All wn w':=fun wn C=>by have:=b2 wn C;rwa [hq] at this
 have HC:=J5 a7 b3 b0 b9 hq;clear b2 a7 b3 b0 b9 hq m1 m2 m3 m4 e2 e0 e1 x5 x6;go_wp2_with fail;refine R0 11 w2 (fun i=>if i=9 then some (·=.bool q) else none) ?_;iterate 9 first|refine O4 HF.out ?_|refine O0 ?_
 refine O5 (v:=.bool q) (fun wn C hp=>⟨_,_,by(skip;go_simp<;>with_reducible rfl),((HC.1 wn C).mono fun e w' h=>⟨h.1,C.trans h.2,fun _ h=>by cases h⟩)⟩) ?_;refine O0 ?_;refine aG fun wt e4 hF=>?_;have HT:=oH e4;clear e4 hF;simp only[dK];cases q with
 |false=>have HN:=oH (wZ fun h=>by have:=HC.2.1.2 h;have h2:=HC.2.2.2.2;rw[bL this] at h2;cases h2);go_wp2_with fail;go_ret;exact⟨by rw[HN.out]<;>rfl,HC.2.2.2.1.trans HT.out⟩
 |true=>
  have HP:=oH (HC.2.1.1 (of_decide_eq_true HC.2.2.2.2));obtain⟨w3,rfl⟩:=eQ wt;have I:=J2 (HC.2.2.1.trans HT.out) (HC.2.2.2.1.trans HT.out);have b7:=HW.2.2.1.kept I.1 trivial;have x5:=b7.cl 5;clear b7;go_wp2_with fail;go_loopg [29] x.args.length (fun gg s wr=>∃k:Nat,k≤x.args.length∧gg=x.args.length-k∧s=.int .i64 k∧aa All w3 wr∧∀(m:Nat) v f,m<k→x.args[m]? =some v→x.Nh[m]? =some f→jl b v f.toNat);·exact⟨0,by omega,by omega,rfl,kR,fun m v f hm=>by omega⟩
  obtain⟨k,C,rfl,rfl,o,J⟩:=hrel;clear x5;have hb:=HW.2.2.1.kept (I.1.trans o) trivial;have x6:=hb.cl 6;clear hb;by_cases e9:k<x.args.length;·(
 obtain⟨v,hv⟩:=eG e9;obtain⟨f,hf⟩:∃f,x.Nh[k]? =some f:=⟨_,lG (by omega)⟩;have c0:=HG.2.2.1 v (mG hv);have e5:=HG.2.2.2.1 f (mG hf);obtain⟨vn,e6⟩:∃vn:Nat,v=vn:=⟨v.toNat,by omega⟩;obtain⟨fn,e7⟩:∃fn:Nat,f=fn:=⟨f.toNat,by omega⟩;rw[e6] at hv c0;rw[e7] at hf e5;obtain⟨b5,o5,y5,rfl,_,h8,rfl,_⟩:=bn (HW.2.2.2.2.2.1 wr (I.2.trans o)) hv;obtain⟨b6,o6,y6,rfl,_,h9,rfl,_⟩:=bn (HW.2.2.2.2.2.2.1 wr (I.2.trans o)) hf;have j:=vU S kb b pl t vn fn wr (HW.2.2.2.2.1 wr (I.2.trans o)) HG.1 HG.2.1 c0.2 (by omega);have HV:=J4 o J hv hf;have j0:k<x.Nh.length:=by omega
 clear o J hv hf e6 e7 c0 e5;by_cases he:jl b vn fn
 ·rw[av he] at j;have HE:=J2 j he;clear j he;go_wp2_with fail;refine HE.1.mono ?_;rintro e w4 ⟨rfl,a8⟩;have c1:=oH a8;clear a8;go_wp2_with fail;go_roundg (x.args.length-(k+1))
  ·refine⟨k+1,by omega,rfl,by go_num,HV.1.trans c1.out,fun m v f hm h1 h2=>?_⟩
   by_cases e:m=k;·subst e;rw[HV.2.2.1] at h1;rw[HV.2.2.2] at h2;cases h1;cases h2;exact HE.2
   exact HV.2.1 m v f (by omega) h1 h2
  omega
 rw[au he] at j;have HE:=J2 j (Cl HP.out HV.2.2.1 HV.2.2.2 (by simpa using he));clear j he;go_wp2_with fail;refine HE.1.mono ?_;rintro e w4 ⟨rfl,a8⟩;have c1:=oH a8;clear a8;go_wp2_with fail;go_ret;exact⟨by rw[HE.2]<;>rfl,(I.2.trans HV.1).trans c1.out⟩)
  obtain rfl:k=x.args.length:=by omega
  have HE:=J2 o (GC HP.out fun m v f h1 h2=>J m v f (lS.1 h1).1 h1 h2);clear o J;go_wp2_with fail;go_ret;exact⟨by rw[HE.2]<;>rfl,I.2.trans HE.1⟩
end Go.Proofs.YtgdlhckhpolnnaaGreatDoor
