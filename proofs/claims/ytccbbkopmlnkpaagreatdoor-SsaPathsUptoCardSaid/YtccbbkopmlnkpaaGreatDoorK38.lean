/- Part 39 of the proof (its last part says what is proved). No condition. -/
import Derived.Shelf.Sort.Plain
import Derived.Shelf.Slices.Clone
import Derived.Sort.OwnSortedInts
import Derived.Test.YtccbbkopmlnkpaaGreatDoorK28
namespace Go.Proofs.YtccbbkopmlnkpaaGreatDoor
set_option maxRecDepth 100000
set_option maxHeartbeats 8000000
open Go.RowKit Go.Proofs.Tryz
section
open Go.Shelf
def Tryz.lays189_ren:Go.Shelf.Ren:=⟨fun|189=>64|125=>111|257=>110|128=>170|129=>171|294=>161|295=>162|296=>163|297=>164|298=>165|299=>166|216=>167|300=>168|301=>169|328=>215|329=>216|330=>217|331=>218|332=>219|215=>220|343=>241|n=>n,fun|28=>38|3=>3|46=>190|0=>0|51=>246|53=>52|4=>4|183=>241|182=>240|131=>57|5=>5|9=>9|218=>274|222=>278|228=>302|229=>66|n=>n,fun|n=>n⟩
theorem Tryz.lays189:Go.Proofs.Lays.n189 prog Tryz.lays189_ren:= {
 mixed:=by kernel_rfl
 f125:=func111.trans (congrArg some (by kernel_rfl))
 f128:=func170.trans (congrArg some (by kernel_rfl))
 f129:=func171.trans (congrArg some (by kernel_rfl))
 f189:=func64.trans (congrArg some (by kernel_rfl))
 f215:=func220.trans (congrArg some (by kernel_rfl))
 f216:=func167.trans (congrArg some (by kernel_rfl))
 f257:=func110.trans (congrArg some (by kernel_rfl))
 f294:=func161.trans (congrArg some (by kernel_rfl))
 f295:=func162.trans (congrArg some (by kernel_rfl))
 f296:=func163.trans (congrArg some (by kernel_rfl))
 f297:=func164.trans (congrArg some (by kernel_rfl))
 f298:=func165.trans (congrArg some (by kernel_rfl))
 f299:=func166.trans (congrArg some (by kernel_rfl))
 f300:=func168.trans (congrArg some (by kernel_rfl))
 f301:=func169.trans (congrArg some (by kernel_rfl))
 f328:=func215.trans (congrArg some (by kernel_rfl))
 f329:=func216.trans (congrArg some (by kernel_rfl))
 f330:=func217.trans (congrArg some (by kernel_rfl))
 f331:=func218.trans (congrArg some (by kernel_rfl))
 f332:=func219.trans (congrArg some (by kernel_rfl))
 f343:=func241.trans (congrArg some (by kernel_rfl))
 t0:=underlying0
 a0:=Tryz.isAgg0
 z0:=Tryz.sizeOf0
 v0:=Tryz.zeroValue0
 t3:=underlying3
 a3:=Tryz.isAgg3
 z3:=Tryz.sizeOf3
 v3:=Tryz.zeroValue3
 t4:=underlying4
 a4:=Tryz.isAgg4
 z4:=Tryz.sizeOf4
 v4:=Tryz.zeroValue4
 t5:=underlying5
 a5:=Tryz.isAgg5
 z5:=Tryz.sizeOf5
 v5:=Tryz.zeroValue5
 t9:=underlying9
 a9:=Tryz.isAgg9
 z9:=Tryz.sizeOf9
 v9:=Tryz.zeroValue9
 t28:=underlying38
 a28:=Tryz.isAgg38
 z28:=Tryz.sizeOf38
 v28:=Tryz.zeroValue38
 t46:=underlying190
 a46:=Tryz.isAgg190
 z46:=Tryz.sizeOf190
 v46:=Tryz.zeroValue190
 t51:=underlying246
 a51:=Tryz.isAgg246
 z51:=Tryz.sizeOf246
 v51:=Tryz.zeroValue246
 t53:=underlying52
 a53:=Tryz.isAgg52
 z53:=Tryz.sizeOf52
 v53:=Tryz.zeroValue52
 t131:=underlying57
 a131:=Tryz.isAgg57
 z131:=Tryz.sizeOf57
 v131:=Tryz.zeroValue57
 t182:=underlying240
 a182:=Tryz.isAgg240
 z182:=Tryz.sizeOf240
 v182:=Tryz.zeroValue240
 t183:=underlying241
 a183:=Tryz.isAgg241
 z183:=Tryz.sizeOf241
 v183:=Tryz.zeroValue241
 t218:=underlying274
 a218:=Tryz.isAgg274
 z218:=Tryz.sizeOf274
 v218:=Tryz.zeroValue274
 t222:=underlying278
 a222:=Tryz.isAgg278
 z222:=Tryz.sizeOf278
 v222:=Tryz.zeroValue278
 t228:=underlying302
 a228:=Tryz.isAgg302
 z228:=Tryz.sizeOf302
 v228:=Tryz.zeroValue302
 t229:=underlying66
 a229:=Tryz.isAgg66
 z229:=Tryz.sizeOf66
 v229:=Tryz.zeroValue66}
open Go.Sort Go.RowKit in
theorem Tryz.slices_Sort_int (blk off cap:Nat)(zs:List Int)(w:World)(C:Holds (Value.int .i64) w blk off zs.toArray)(j:blk<w.heap.size)(o:zs.length<4611686018427387904):
 Calls prog 64 #[.slice (some ⟨blk,off,none⟩) zs.length cap] w fun e I=>
  e=.returned (.tuple #[])∧∃n os,I=grow (putRow (Value.int .i64) (Sort.ahead w n) blk off (zs.mergeSort fun x y=>decide (x≤y)).toArray) os:=Any.slices_Sort_int Tryz.lays189 blk off cap zs w C j o
def Tryz.laysNm215_ren:Go.Shelf.Ren:=⟨fun|15=>63|n=>n,fun|22=>38|3=>3|4=>4|n=>n,fun|n=>n⟩
theorem Tryz.laysNm215:Go.Proofs.Lays2.n15 prog Tryz.laysNm215_ren:= {
 mixed:=by kernel_rfl
 f15:=func63.trans (congrArg some (by kernel_rfl))
 t3:=underlying3
 a3:=Tryz.isAgg3
 z3:=Tryz.sizeOf3
 v3:=Tryz.zeroValue3
 t4:=underlying4
 a4:=Tryz.isAgg4
 z4:=Tryz.sizeOf4
 v4:=Tryz.zeroValue4
 t22:=underlying38
 a22:=Tryz.isAgg38
 z22:=Tryz.sizeOf38
 v22:=Tryz.zeroValue38
 i3:=by kernel_rfl}
open Go.RowKit Go.Lib in
theorem Tryz.slices_Clone_int (b off n c:Nat)(zs:List Int)(w:World)(J:n≤zs.length)(o:n*8≤140737488355328)(R:∀j,j<zs.length→w.cell? ⟨b,off+j,none⟩=some (.int .i64 (zs.getD j 0))):
 Calls prog 63 #[.slice (some ⟨b,off,none⟩) n c] w fun e I=>∃C,e=.returned C∧I.ownsRow w.heap.size 3 1 C n ((zs.take n).map (Value.int .i64))∧C≠.slice none 0 0∧Below w.heap.size w I:=Any.slices_Clone_int Tryz.laysNm215 b off n c zs w J o R
end
theorem CH (S:Nat→Prop)(v:Value)(l:List Int)(w:World)(h:bu S w v l)(h1:1≤l.length):
 Calls prog 63 #[v] w fun e R=>∃g c cur,e=.returned (.slice (some ⟨g,0,none⟩) l.length c)∧aa All w R∧w.heap.size≤g∧al R g 3 cur∧l.length≤c∧c≤maxLen∧cur.size=c*1∧cur.toList.take l.length=l.map (Value.int .i64):=by
 obtain⟨a,cap,rfl,h2,h3,h4,h⟩:=h;obtain⟨b,off,c,rfl,_⟩:=h 0 l[0] (lG (by omega));refine(Tryz.slices_Clone_int b off l.length cap l w (bj _) h4 fun j hj=>?_).mono ?_
 ·obtain⟨b',a7,c',e,_,hc,rfl,_⟩:=h j l[j] (lG hj)
  cases e;rw[hc,iL,lG hj];rfl
 rintro e R ⟨v',rfl,⟨_,o⟩,_,J⟩;rcases o with ⟨_,h0⟩|⟨g,C,cur,rfl,hg,hh,Y,a1,a6,I⟩;·omega
 rw[jx,Nat.mul_one] at I;exact⟨g,C,cur,rfl,⟨J.os,J.output,J.size,fun k hk _=>J.block k hk⟩,hg,hh,Y,a1,a6,I⟩
def LC (l:List Int):List Int:=l.mergeSort fun x y=>decide (x≤y)
theorem pW (l:List Int):(LC l).Perm l:=List.mergeSort_perm _ _
theorem Ls (l:List Int):(LC l).Pairwise (·≤·):=by
 refine(List.pairwise_mergeSort (le:=fun x y:Int=>decide (x≤y)) (fun a b c j o=>?_) (fun a b=>?_) l).imp fun h=>by simpa using h
 ·simp only[eq] at j o⊢;omega
 simp only[Bool.or_eq_true,eq];omega
theorem Hb (g c:Nat)(cur:Array Value)(l:List Int)(w:World)(o:al w g 3 cur)(R:l.length≤c)(Y:c≤maxLen)(h3:cur.size=c*1)(ht:cur.toList.take l.length=l.map (Value.int .i64))(hl:l.length≤1000)(hw:∀x∈l,(Lit.int .i64 x).wf=true):
 Calls prog 64 #[.slice (some ⟨g,0,none⟩) l.length c] w fun e C=>e=.returned (.tuple #[])∧aa (fun b=>b≠g) w C∧bu (fun b=>b=g) C (.slice (some ⟨g,0,none⟩) l.length c) (LC l):=by
 have j:(LC l).length=l.length:=(pW l).length_eq;refine(Tryz.slices_Sort_int g 0 c l w (holds_of_blockI o ht) o.lt (by omega)).mono ?_;rintro e C ⟨rfl,n,os,rfl⟩;refine⟨rfl,kR.grown (grownBy_sortedI _) fun k e=>.inl fun h=>h (by cases e;rfl),?_⟩;have I:=ownsRow_sortedI (n:=n) (os:=os) (base:=0) j (Nat.zero_le g) o R Y h3;rw[←j] at I⊢;refine Sl.of_own I (by omega) (fun k e=>by cases e;rfl) fun i x J=>⟨_,by rw[cy,J];rfl,rfl,hw x ?_⟩;exact(pW l).mem_iff.1 (mG J)
theorem Hd (S R5 R6:Nat→Prop)(kb:Nat)(b:av)(pl:Nat→Nat)(t:Nat→Int)(x:bI)(a5 a6:Value)(blk n:Nat)(w:World)(hC:rR S w kb b t)(hG:jt b)(T:mg (aM b) t pl)(C:blk<b.Nm.length)
 (h5:bu R5 w a5 x.args) (h6:bu R6 w a6 x.Nn) (hx:x.Nn.length=x.args.length∧1≤x.Nn.length∧x.Nn.length≤64) (R:∀a∈x.args,0≤a∧a<b.vars) (b1:∀a∈x.Nn,0≤a∧a<b.Nm.length):
 Calls prog 35 #[.pointer (some ⟨kb,0,none⟩),.agg #[.int .u8 x.kind,.int .u8 x.op,.int .i64 x.dst,.int .i64 x.ref,.int .i64 x.No,a5,a6,.int .i64 x.num,.int .i64 x.Np],.agg #[.int .i64 blk,.int .i64 n]] w fun e w'=>e=.returned (.int .i64 (tA b blk x))∧aa All w w':=by
 have Y:=fun wn (C:aa All w wn)=>hC.keep C (fun _ _=>trivial) trivial;have c2:=ae.la h5;have b4:=ae.la h6;have c7:=Jj h6;obtain⟨A5,c5,rfl,u1,u2,u3,_⟩:=h5;obtain⟨A6,c6,rfl,v1,v2,v3,_⟩:=h6;unfold maxLen at u2 v2;obtain⟨c8,e7,b7⟩:=hx;have h0:x.Nn.length≤x.args.length:=by omega
 have h3:x.args.length≤x.Nn.length:=by omega
 obtain⟨W0,a1⟩:=eQ ((w.alloc (.cells #[.int .u8 x.kind,.int .u8 x.op,.int .i64 x.dst,.int .i64 x.ref,.int .i64 x.No,.slice A5 x.args.length c5,.slice A6 x.Nn.length c6,.int .i64 x.num,.int .i64 x.Np] 40)).alloc (.cells #[.int .i64 blk,.int .i64 n] 74));have b8:aa All w W0:=by rw[a1];exact(kR.alloc _).alloc _
 have bX:al W0 w.heap.size 40 #[.int .u8 x.kind,.int .u8 x.op,.int .i64 x.dst,.int .i64 x.ref,.int .i64 x.No,.slice A5 x.args.length c5,.slice A6 x.Nn.length c6,.int .i64 x.num,.int .i64 x.Np]:=by rw[a1];exact(al.new _ _ _).alloc _
 have bA:al W0 (w.heap.size+1) 74 #[.int .i64 blk,.int .i64 n]:=by rw[a1];exact ac (by simp)
 have x5:=bX.cell 5;have x6:=bX.cell 6;simp only[gc] at x5 x6;have c9:=CH _ _ _ W0 (b4 W0 b8) e7;have HG:=J6 hG T R b1 c7 c8;have HW:=J8 a1 b8 bX bA Y c2 b4 c9;clear hG T R b1 c7 a1 b8 bX bA Y c2 b4 c9 hC c8;go_enter func35,ntmps35;go_upto_region 1 with fail;rw[←HW.1];go_wp2_with fail;refine HW.2.2.2.2.2.2.2.mono ?_;rintro e w1 ⟨g,c,cur,rfl,d7,hg,hb,q1,q2,q3,q4⟩;have hs:=Hb g c cur x.Nn w1 hb q1 q2 q3 q4 (by omega) HG.2.2.2.2.1;have d8:=J2 d7 hs;unfold maxLen at q2;clear d7 hb q3 q4 hs;go_wp2_with fail;refine d8.2.mono ?_;rintro e w2 ⟨rfl,d9,e0⟩;have b0:aa All W0 w2:=aq (d8.1.all.trans (d9.mono fun b (hb:b<W0.heap.size)=>by show b≠g;omega));have b9:=HW.2.1.trans b0;obtain⟨bv,A3,c3,A4,c4,h4,h7,m1,m2,m3,m4⟩:=HW.2.2.2.2.1 w2 b9;obtain⟨pb,po,pv,rfl,_,e1,e2⟩:=de m3 (mD (k:=blk) (by rw[cB];exact C));have b2:=fun wn (C:aa All w2 wn)=>oI _ _ _ _ _ _ wn (ae.keep C.all e0) (ae.keep C.all e2);obtain⟨PA,pc,rfl,p1,p2,p3,_⟩:=e2;have b3:=(wZ (ll:=aM b) (k:=blk) (pW x.Nn) (Ls x.Nn)).trans AC.symm;have HF:=oH (show∀wn,aa All w2 wn→wn.cell? ⟨kb,4,none⟩=some (.slice (some ⟨pb,po,none⟩) b.Nm.length c4)∧wn.cell? ⟨w.heap.size+1,0,none⟩=some (.int .i64 blk)∧wn.cell? ⟨pb,po+blk,none⟩=some (.slice PA (cj (aM b) (aM b).length blk).length pc) from fun wn C=>
  ⟨(m1.kept C trivial).cell 4,(HW.2.2.2.1.kept (b0.trans C) trivial).cell 0,C.cell trivial e1⟩)
 obtain⟨q,hq⟩:∃q,decide (LC x.Nn=cj (aM b) (aM b).length blk)=q:=⟨_,rfl⟩;have e9:(LC x.Nn).length=x.Nn.length:=(pW x.Nn).length_eq;have a7:∀wn,aa All w2 wn→Calls prog 65 #[.slice (some ⟨g,0,none⟩) x.Nn.length c,.slice PA (cj (aM b) (aM b).length blk).length pc] wn fun e w'=>e=.returned (.bool q)∧aa All wn w':=fun wn C=>by have:=b2 wn C;rwa [hq] at this
 have HC:=J5 a7 b3 b0 b9 hq;clear b2 a7 b3 b0 b9 hq m1 m2 m3 m4 e1 d9 e0 x5 x6;go_wp2_with fail;refine R0 11 w2 (fun i=>if i=9 then some (·=.bool q) else none) ?_;iterate 4 refine O0 ?_
 refine O4 HF.out ?_;refine O0 ?_;refine O4 HF.out ?_;refine O0 ?_;refine O4 HF.out ?_;refine O5 (v:=.bool q) (fun wn C hp=>⟨_,_,by(skip;go_simp<;>with_reducible rfl),((HC.1 wn C).mono fun e w' h=>⟨h.1,C.trans h.2,fun _ h=>by cases h⟩)⟩) ?_;refine O0 ?_;refine aD fun wt e3 hF=>?_;have HT:=oH e3;clear e3 hF;simp only[dK];cases q with
 |false=>have HN:=oH (JE fun h=>by have:=HC.2.1.2 h;have h2:=HC.2.2.2.2;rw[be this] at h2;cases h2);go_wp2_with fail;go_ret;exact⟨by rw[HN.out]<;>rfl,HC.2.2.2.1.trans HT.out⟩
 |true=>
  have HP:=oH (HC.2.1.1 (of_decide_eq_true HC.2.2.2.2));obtain⟨w3,rfl⟩:=eQ wt;have I:=J2 (HC.2.2.1.trans HT.out) (HC.2.2.2.1.trans HT.out);have b7:=HW.2.2.1.kept I.1 trivial;have x5:=b7.cell 5;simp only[gc] at x5;clear b7;go_wp2_with fail;go_loopg [29] x.args.length (fun gg s wr=>∃k:Nat,k≤x.args.length∧gg=x.args.length-k∧s=.int .i64 k∧aa All w3 wr∧∀(m:Nat) v f,m<k→x.args[m]? =some v→x.Nn[m]? =some f→ju b v f.toNat);·exact⟨0,by omega,by omega,rfl,kR,fun m v f hm=>by omega⟩
  obtain⟨k,C,rfl,rfl,o,J⟩:=hrel;clear x5;have hb:=HW.2.2.1.kept (I.1.trans o) trivial;have x6:=hb.cell 6;simp only[gc] at x6;clear hb;by_cases e8:k<x.args.length;·(
 obtain⟨v,hv⟩:=eG e8;obtain⟨f,hf⟩:∃f,x.Nn[k]? =some f:=⟨_,lG (by omega)⟩;have c0:=HG.2.2.1 v (mG hv);have e4:=HG.2.2.2.1 f (mG hf);obtain⟨vn,e5⟩:∃vn:Nat,v=vn:=⟨v.toNat,by omega⟩;obtain⟨fn,e6⟩:∃fn:Nat,f=fn:=⟨f.toNat,by omega⟩;rw[e5] at hv c0;rw[e6] at hf e4;obtain⟨b5,o5,y5,rfl,_,h8,rfl,_⟩:=de (HW.2.2.2.2.2.1 wr (I.2.trans o)) hv;obtain⟨b6,o6,y6,rfl,_,h9,rfl,_⟩:=de (HW.2.2.2.2.2.2.1 wr (I.2.trans o)) hf;have j:=vO S kb b pl t vn fn wr (HW.2.2.2.2.1 wr (I.2.trans o)) HG.1 HG.2.1 c0.2 (by omega);have HV:=J4 o J hv hf;have i1:k<x.Nn.length:=by omega
 clear o J hv hf e5 e6 c0 e4;by_cases he:ju b vn fn
 ·rw[aw he] at j;have HE:=J2 j he;clear j he;go_wp2_with fail;refine HE.1.mono ?_;rintro e w4 ⟨rfl,a8⟩;have c1:=oH a8;clear a8;go_wp2_with fail;go_roundg (x.args.length-(k+1))
  ·refine⟨k+1,by omega,rfl,by go_num,HV.1.trans c1.out,fun m v f hm h1 h2=>?_⟩
   by_cases e:m=k;·subst e;rw[HV.2.2.1] at h1;rw[HV.2.2.2] at h2;cases h1;cases h2;exact HE.2
   exact HV.2.1 m v f (by omega) h1 h2
  omega
 rw[az he] at j;have HE:=J2 j (JF HP.out HV.2.2.1 HV.2.2.2 (by simpa using he));clear j he;go_wp2_with fail;refine HE.1.mono ?_;rintro e w4 ⟨rfl,a8⟩;have c1:=oH a8;clear a8;go_wp2_with fail;go_ret;exact⟨by rw[HE.2]<;>rfl,(I.2.trans HV.1).trans c1.out⟩)
  obtain rfl:k=x.args.length:=by omega
  have HE:=J2 o (Ll HP.out fun m v f h1 h2=>J m v f (lS.1 h1).1 h1 h2);clear o J;go_wp2_with fail;go_ret;exact⟨by rw[HE.2]<;>rfl,I.2.trans HE.1⟩
end Go.Proofs.YtccbbkopmlnkpaaGreatDoor
