/- Part 37 of the proof of CallsTo (its last part says what is proved). No condition. -/
import Derived.Test.YtceloincoomjeaaGreatDoorK35
namespace Go.Proofs.YtceloincoomjeaaGreatDoor
set_option maxRecDepth 100000
set_option maxHeartbeats 8000000
open Go.RowKit Go.Proofs.Tryz
def bH (k:Nat):Value:=match cw k with
 |some (n,d,r,a)=>.tuple #[.int .i64 n,.bool d,.bool r,.bool a,.bool true]
 |none=>.tuple #[.int .i64 0,.bool false,.bool false,.bool false,.bool false]
theorem df (k:Nat)(w:World):Calls prog 97 #[.int .u8 k] w fun e w'=>e=.returned (bH k)∧w=w':=by
 by_cases l:k=1
 ·have t1:((k:Int)==1)=true:=by rw[cy];omega
  have j:=oH (show bH k=.tuple #[.int .i64 0,.bool true,.bool false,.bool false,.bool true] by rw[l];rfl);clear l;go_enter func97,ntmps97;go_wp2_with fail;refine bodyPost_ret (v:=bH k) (by rw[j.out];simp[results,Tryz.f97,go_sem]) rfl ⟨rfl,rfl⟩
 skip;by_cases o:k=2
 ·have t1:((k:Int)==1)=false:=by rw[bE];omega
  have t2:((k:Int)==2)=true:=by rw[cy];omega
  have j:=oH (show bH k=.tuple #[.int .i64 2,.bool true,.bool false,.bool false,.bool true] by rw[o];rfl);clear l o;go_enter func97,ntmps97;go_wp2_with fail;refine bodyPost_ret (v:=bH k) (by rw[j.out];simp[results,Tryz.f97,go_sem]) rfl ⟨rfl,rfl⟩
 skip;by_cases C:k=3
 ·have t1:((k:Int)==1)=false:=by rw[bE];omega
  have t2:((k:Int)==2)=false:=by rw[bE];omega
  have t3:((k:Int)==3)=true:=by rw[cy];omega
  have j:=oH (show bH k=.tuple #[.int .i64 8,.bool true,.bool false,.bool false,.bool true] by rw[C];rfl);clear l o C;go_enter func97,ntmps97;go_wp2_with fail;refine bodyPost_ret (v:=bH k) (by rw[j.out];simp[results,Tryz.f97,go_sem]) rfl ⟨rfl,rfl⟩
 skip;by_cases J:k=4
 ·have t1:((k:Int)==1)=false:=by rw[bE];omega
  have t2:((k:Int)==2)=false:=by rw[bE];omega
  have t3:((k:Int)==3)=false:=by rw[bE];omega
  have t4:((k:Int)==4)=true:=by rw[cy];omega
  have j:=oH (show bH k=.tuple #[.int .i64 1,.bool true,.bool true,.bool false,.bool true] by rw[J];rfl);clear l o C J;go_enter func97,ntmps97;go_wp2_with fail;refine bodyPost_ret (v:=bH k) (by rw[j.out];simp[results,Tryz.f97,go_sem]) rfl ⟨rfl,rfl⟩
 skip;by_cases R:k=5;·(
 have t1:((k:Int)==1)=false:=by rw[bE];omega
 have t2:((k:Int)==2)=false:=by rw[bE];omega
 have t3:((k:Int)==3)=false:=by rw[bE];omega
 have t4:((k:Int)==4)=false:=by rw[bE];omega
 have t5:((k:Int)==5)=true:=by rw[cy];omega
 have j:=oH (show bH k=.tuple #[.int .i64 1,.bool true,.bool true,.bool false,.bool true] by rw[R];rfl);clear l o C J R;go_enter func97,ntmps97;go_wp2_with fail;refine bodyPost_ret (v:=bH k) (by rw[j.out];simp[results,Tryz.f97,go_sem]) rfl ⟨rfl,rfl⟩)
 skip;by_cases Z:k=6;·(
 have t1:((k:Int)==1)=false:=by rw[bE];omega
 have t2:((k:Int)==2)=false:=by rw[bE];omega
 have t3:((k:Int)==3)=false:=by rw[bE];omega
 have t4:((k:Int)==4)=false:=by rw[bE];omega
 have t5:((k:Int)==5)=false:=by rw[bE];omega
 have t6:((k:Int)==6)=true:=by rw[cy];omega
 have j:=oH (show bH k=.tuple #[.int .i64 2,.bool false,.bool true,.bool false,.bool true] by rw[Z];rfl);clear l o C J R Z;go_enter func97,ntmps97;go_wp2_with fail;refine bodyPost_ret (v:=bH k) (by rw[j.out];simp[results,Tryz.f97,go_sem]) rfl ⟨rfl,rfl⟩)
 skip;by_cases e7:k=7;·(
 have t1:((k:Int)==1)=false:=by rw[bE];omega
 have t2:((k:Int)==2)=false:=by rw[bE];omega
 have t3:((k:Int)==3)=false:=by rw[bE];omega
 have t4:((k:Int)==4)=false:=by rw[bE];omega
 have t5:((k:Int)==5)=false:=by rw[bE];omega
 have t6:((k:Int)==6)=false:=by rw[bE];omega
 have t7:((k:Int)==7)=true:=by rw[cy];omega
 have j:=oH (show bH k=.tuple #[.int .i64 9,.bool true,.bool true,.bool false,.bool true] by rw[e7];rfl);clear l o C J R Z e7;go_enter func97,ntmps97;go_wp2_with fail;refine bodyPost_ret (v:=bH k) (by rw[j.out];simp[results,Tryz.f97,go_sem]) rfl ⟨rfl,rfl⟩)
 skip;by_cases e8:k=8;·(
 have t1:((k:Int)==1)=false:=by rw[bE];omega
 have t2:((k:Int)==2)=false:=by rw[bE];omega
 have t3:((k:Int)==3)=false:=by rw[bE];omega
 have t4:((k:Int)==4)=false:=by rw[bE];omega
 have t5:((k:Int)==5)=false:=by rw[bE];omega
 have t6:((k:Int)==6)=false:=by rw[bE];omega
 have t7:((k:Int)==7)=false:=by rw[bE];omega
 have t8:((k:Int)==8)=true:=by rw[cy];omega
 have j:=oH (show bH k=.tuple #[.int .i64 0,.bool true,.bool true,.bool false,.bool true] by rw[e8];rfl);clear l o C J R Z e7 e8;go_enter func97,ntmps97;go_wp2_with fail;refine bodyPost_ret (v:=bH k) (by rw[j.out];simp[results,Tryz.f97,go_sem]) rfl ⟨rfl,rfl⟩)
 skip;by_cases e9:k=9;·(
 have t1:((k:Int)==1)=false:=by rw[bE];omega
 have t2:((k:Int)==2)=false:=by rw[bE];omega
 have t3:((k:Int)==3)=false:=by rw[bE];omega
 have t4:((k:Int)==4)=false:=by rw[bE];omega
 have t5:((k:Int)==5)=false:=by rw[bE];omega
 have t6:((k:Int)==6)=false:=by rw[bE];omega
 have t7:((k:Int)==7)=false:=by rw[bE];omega
 have t8:((k:Int)==8)=false:=by rw[bE];omega
 have t9:((k:Int)==9)=true:=by rw[cy];omega
 have j:=oH (show bH k=.tuple #[.int .i64 1,.bool false,.bool true,.bool false,.bool true] by rw[e9];rfl);clear l o C J R Z e7 e8 e9;go_enter func97,ntmps97;go_wp2_with fail;refine bodyPost_ret (v:=bH k) (by rw[j.out];simp[results,Tryz.f97,go_sem]) rfl ⟨rfl,rfl⟩)
 skip;by_cases I:k=10;·(
 have t1:((k:Int)==1)=false:=by rw[bE];omega
 have t2:((k:Int)==2)=false:=by rw[bE];omega
 have t3:((k:Int)==3)=false:=by rw[bE];omega
 have t4:((k:Int)==4)=false:=by rw[bE];omega
 have t5:((k:Int)==5)=false:=by rw[bE];omega
 have t6:((k:Int)==6)=false:=by rw[bE];omega
 have t7:((k:Int)==7)=false:=by rw[bE];omega
 have t8:((k:Int)==8)=false:=by rw[bE];omega
 have t9:((k:Int)==9)=false:=by rw[bE];omega
 have t10:((k:Int)==10)=true:=by rw[cy];omega
 have j:=oH (show bH k=.tuple #[.int .i64 1,.bool true,.bool true,.bool false,.bool true] by rw[I];rfl);clear l o C J R Z e7 e8 e9 I;go_enter func97,ntmps97;go_wp2_with fail;refine bodyPost_ret (v:=bH k) (by rw[j.out];simp[results,Tryz.f97,go_sem]) rfl ⟨rfl,rfl⟩)
 skip;by_cases Y:k=11;·(
 have t1:((k:Int)==1)=false:=by rw[bE];omega
 have t2:((k:Int)==2)=false:=by rw[bE];omega
 have t3:((k:Int)==3)=false:=by rw[bE];omega
 have t4:((k:Int)==4)=false:=by rw[bE];omega
 have t5:((k:Int)==5)=false:=by rw[bE];omega
 have t6:((k:Int)==6)=false:=by rw[bE];omega
 have t7:((k:Int)==7)=false:=by rw[bE];omega
 have t8:((k:Int)==8)=false:=by rw[bE];omega
 have t9:((k:Int)==9)=false:=by rw[bE];omega
 have t10:((k:Int)==10)=false:=by rw[bE];omega
 have t11:((k:Int)==11)=true:=by rw[cy];omega
 have j:=oH (show bH k=.tuple #[.int .i64 0,.bool false,.bool true,.bool false,.bool true] by rw[Y];rfl);clear l o C J R Z e7 e8 e9 I Y;go_enter func97,ntmps97;go_wp2_with fail;refine bodyPost_ret (v:=bH k) (by rw[j.out];simp[results,Tryz.f97,go_sem]) rfl ⟨rfl,rfl⟩)
 skip;by_cases a1:k=12;·(
 have t1:((k:Int)==1)=false:=by rw[bE];omega
 have t2:((k:Int)==2)=false:=by rw[bE];omega
 have t3:((k:Int)==3)=false:=by rw[bE];omega
 have t4:((k:Int)==4)=false:=by rw[bE];omega
 have t5:((k:Int)==5)=false:=by rw[bE];omega
 have t6:((k:Int)==6)=false:=by rw[bE];omega
 have t7:((k:Int)==7)=false:=by rw[bE];omega
 have t8:((k:Int)==8)=false:=by rw[bE];omega
 have t9:((k:Int)==9)=false:=by rw[bE];omega
 have t10:((k:Int)==10)=false:=by rw[bE];omega
 have t11:((k:Int)==11)=false:=by rw[bE];omega
 have t12:((k:Int)==12)=true:=by rw[cy];omega
 have j:=oH (show bH k=.tuple #[.int .i64 1,.bool false,.bool true,.bool true,.bool true] by rw[a1];rfl);clear l o C J R Z e7 e8 e9 I Y a1;go_enter func97,ntmps97;go_wp2_with fail;refine bodyPost_ret (v:=bH k) (by rw[j.out];simp[results,Tryz.f97,go_sem]) rfl ⟨rfl,rfl⟩)
 skip;by_cases a6:k=13;·(
 have t1:((k:Int)==1)=false:=by rw[bE];omega
 have t2:((k:Int)==2)=false:=by rw[bE];omega
 have t3:((k:Int)==3)=false:=by rw[bE];omega
 have t4:((k:Int)==4)=false:=by rw[bE];omega
 have t5:((k:Int)==5)=false:=by rw[bE];omega
 have t6:((k:Int)==6)=false:=by rw[bE];omega
 have t7:((k:Int)==7)=false:=by rw[bE];omega
 have t8:((k:Int)==8)=false:=by rw[bE];omega
 have t9:((k:Int)==9)=false:=by rw[bE];omega
 have t10:((k:Int)==10)=false:=by rw[bE];omega
 have t11:((k:Int)==11)=false:=by rw[bE];omega
 have t12:((k:Int)==12)=false:=by rw[bE];omega
 have t13:((k:Int)==13)=true:=by rw[cy];omega
 have j:=oH (show bH k=.tuple #[.int .i64 1,.bool false,.bool false,.bool false,.bool true] by rw[a6];rfl);clear l o C J R Z e7 e8 e9 I Y a1 a6;go_enter func97,ntmps97;go_wp2_with fail;refine bodyPost_ret (v:=bH k) (by rw[j.out];simp[results,Tryz.f97,go_sem]) rfl ⟨rfl,rfl⟩)
 skip;have t1:((k:Int)==1)=false:=by rw[bE];omega
 have t2:((k:Int)==2)=false:=by rw[bE];omega
 have t3:((k:Int)==3)=false:=by rw[bE];omega
 have t4:((k:Int)==4)=false:=by rw[bE];omega
 have t5:((k:Int)==5)=false:=by rw[bE];omega
 have t6:((k:Int)==6)=false:=by rw[bE];omega
 have t7:((k:Int)==7)=false:=by rw[bE];omega
 have t8:((k:Int)==8)=false:=by rw[bE];omega
 have t9:((k:Int)==9)=false:=by rw[bE];omega
 have t10:((k:Int)==10)=false:=by rw[bE];omega
 have t11:((k:Int)==11)=false:=by rw[bE];omega
 have t12:((k:Int)==12)=false:=by rw[bE];omega
 have t13:((k:Int)==13)=false:=by rw[bE];omega
 have j:=oH (show bH k=.tuple #[.int .i64 0,.bool false,.bool false,.bool false,.bool false] by
  have:cw k=none:=by unfold cw;split<;>first|rfl|contradiction
  unfold bH;rw[this])
 clear l o C J R Z e7 e8 e9 I Y a1 a6;go_enter func97,ntmps97;go_wp2_with fail;refine bodyPost_ret (v:=bH k) (by rw[j.out];simp[results,Tryz.f97,go_sem]) rfl ⟨rfl,rfl⟩
theorem GQ (k:Nat)(w:World):Calls prog 66 #[.int .u8 k] w fun e j=>e=.returned (.bool (decide (11≤k∧k≤13)))∧w=j:=by
 by_cases l:11≤k;·(
 by_cases o:k≤13
 ·have t1:decide ((11:Int)≤(k:Int))=true:=by simp;omega
  have t2:decide ((k:Int)≤13)=true:=by simp;omega
  rw[show decide (11≤k∧k≤13)=true by simp;omega];go_enter func66,ntmps66;go_wp2_with fail;go_ret;exact⟨rfl,rfl⟩
 have t1:decide ((11:Int)≤(k:Int))=true:=by simp;omega
 have t2:decide ((k:Int)≤13)=false:=by simp;omega
 rw[show decide (11≤k∧k≤13)=false by simp;omega];go_enter func66,ntmps66;go_wp2_with fail;go_ret;exact⟨rfl,rfl⟩)
 have t1:decide ((11:Int)≤(k:Int))=false:=by simp;omega
 rw[show decide (11≤k∧k≤13)=false by simp;omega];go_enter func66,ntmps66;go_wp2_with fail;go_ret;exact⟨rfl,rfl⟩
def MK (p:aH)(c:aE)(b:aw)(next:Int)(x:bz)(n:Int)(d r a:Bool):Prop:=x.dst=(if d=true then next else-1)∧(r=false→x.ref=0)∧(a=false→x.Ni=0)∧
 (x.kind≠1→x.num=0)∧(x.kind≠2→x.op=0)∧(x.kind=2→1≤x.op∧x.op≤12)∧(r=true→0≤x.ref∧x.ref<cW p c b x.kind)∧(a=true→0≤x.Ni∧x.Ni<b.Ng.length)∧
 (if x.kind=3 then x.Nh.length=x.args.length∧1≤x.Nh.length∧x.Nh.length≤64 else x.Nh=[]∧(x.args.length:Int)=if x.kind=7 then(c.Nf.getD x.ref.toNat ⟨0,0,[]⟩).params else n)∧
 (∀a∈x.args,0≤a∧a<b.vars)∧∀a∈x.Nh,0≤a∧a<b.Ng.length
theorem dY {p:aH}{c:aE}{b:aw}{next:Int}{x:bz}{n:Int}{d r a:Bool}(j:cw x.kind=some (n,d,r,a)):aT p c b next x↔MK p c b next x n d r a:=by
 constructor
 ·rintro⟨l,o,C,I,e,h⟩
  rw[j] at e;cases e;exact h
 exact fun h=>⟨n,d,r,a,j,h⟩
theorem Dz {p:aH}{c:aE}{b:aw}{next:Int}{x:bz}(j:cw x.kind=none):¬aT p c b next x:=by rintro⟨l,o,C,I,e,h⟩;rw[j] at e;cases e
theorem fu {x:bz}{n:Int}{d r a:Bool}(j:cw x.kind=some (n,d,r,a)):cz x=d:=by unfold cz;rw[j]
theorem xl {k:Nat}{n:Int}{d r a:Bool}(h:cw k=some (n,d,r,a)):(k=1∧d=true∧r=false∧a=false)∨(k=2∧d=true∧r=false∧a=false)∨((k≠1∧k≠2)∧d=true∧r=false∧a=false)∨
 ((k≠1∧k≠2)∧d=true∧r=true∧a=false)∨((k≠1∧k≠2)∧d=false∧r=true∧a=false)∨((k≠1∧k≠2)∧d=false∧r=true∧a=true)∨((k≠1∧k≠2)∧d=false∧r=false∧a=false):=by
 unfold cw at h;split at h<;>first|(cases h;done)|(cases h;simp)
def fl (p:aH)(c:aE)(b:aw)(next:Int)(x:bz)(w:World)(e:Ending)(w':World):Prop:=∃(n:Int) (ok:Bool),e=.returned (.tuple #[.int .i64 n,.bool ok])∧ok=pB (aT p c b next x)∧(aT p c b next x→n=if cz x=true then next+1 else next)∧aa All w w'
theorem fl.no {p:aH}{c:aE}{b:aw}{next:Int}{x:bz}{w j:World}{n:Int}(h:¬aT p c b next x)(l:aa All w j):fl p c b next x w (.returned (.tuple #[.int .i64 n,.bool false])) j:=
 ⟨n,false,rfl,(au h).symm,fun h'=>absurd h' h,l⟩
theorem eO {S:Nat→Prop}{pv cv bv a5 a6:Value}{p:aH}{c:aE}{b:aw}{x:bz}{w:World}(hp:dJ S w pv p)(hc:cQ S w cv c)(hb:bW S w bv b.Ng)(a7:aK S w a5 x.args)(a8:aK S w a6 x.Nh)(hx:jx x):
 ∃a1 J a2 n2 a3 R a4 Y A1 Z A2 o B1 d1 ua C va I j,pv=.agg #[.slice a1 p.MZ.length J,.slice a2 p.up.length n2,.slice a3 p.Nb.length R,.slice a4 p.Na.length Y,.int .i64 p.Nc]∧cv=.agg #[.slice A1 c.Nd.length Z,.slice A2 c.Nf.length o,.int .i64 c.main]∧bv=.slice B1 b.Ng.length d1∧a5=.slice ua x.args.length C∧a6=.slice va x.Nh.length I∧(p.MZ.length≤J∧J≤maxLen∧p.Nb.length≤R∧R≤maxLen∧p.Na.length≤Y∧Y≤maxLen∧c.Nd.length≤Z∧Z≤maxLen∧c.Nf.length≤o∧o≤maxLen∧b.Ng.length≤d1∧d1≤maxLen∧x.args.length≤C∧C≤maxLen∧x.args.length*8≤140737488355328∧x.Nh.length≤I∧I≤maxLen∧x.Nh.length*8≤140737488355328)∧(j.cell? ⟨w.heap.size,0,none⟩=some (.slice a1 p.MZ.length J)∧j.cell? ⟨w.heap.size,1,none⟩=some (.slice a2 p.up.length n2)∧j.cell? ⟨w.heap.size,2,none⟩=some (.slice a3 p.Nb.length R)∧j.cell? ⟨w.heap.size,3,none⟩=some (.slice a4 p.Na.length Y)∧j.cell? ⟨w.heap.size,4,none⟩=some (.int .i64 p.Nc)∧j.cell? ⟨w.heap.size+1,0,none⟩=some (.slice A1 c.Nd.length Z)∧j.cell? ⟨w.heap.size+1,1,none⟩=some (.slice A2 c.Nf.length o)∧j.cell? ⟨w.heap.size+1,2,none⟩=some (.int .i64 c.main)∧j.cell? ⟨w.heap.size+1+1,0,none⟩=some (.int .i64 b.params)∧j.cell? ⟨w.heap.size+1+1,1,none⟩=some (.int .i64 b.vars)∧j.cell? ⟨w.heap.size+1+1,2,none⟩=some (.slice B1 b.Ng.length d1)∧j.cell? ⟨w.heap.size+1+1+1,0,none⟩=some (.int .u8 x.kind)∧j.cell? ⟨w.heap.size+1+1+1,1,none⟩=some (.int .u8 x.op)∧j.cell? ⟨w.heap.size+1+1+1,2,none⟩=some (.int .i64 x.dst)∧j.cell? ⟨w.heap.size+1+1+1,3,none⟩=some (.int .i64 x.ref)∧j.cell? ⟨w.heap.size+1+1+1,4,none⟩=some (.int .i64 x.Ni)∧j.cell? ⟨w.heap.size+1+1+1,5,none⟩=some (.slice ua x.args.length C)∧j.cell? ⟨w.heap.size+1+1+1,6,none⟩=some (.slice va x.Nh.length I)∧j.cell? ⟨w.heap.size+1+1+1,7,none⟩=some (.int .i64 x.num)∧j.cell? ⟨w.heap.size+1+1+1,8,none⟩=some (.int .i64 x.Nj))∧Hid (j=(((w.alloc (.cells #[.slice a1 p.MZ.length J,.slice a2 p.up.length n2,.slice a3 p.Nb.length R,.slice a4 p.Na.length Y,.int .i64 p.Nc] 26)).alloc (.cells #[.slice A1 c.Nd.length Z,.slice A2 c.Nf.length o,.int .i64 c.main] 30)).alloc (.cells #[.int .i64 b.params,.int .i64 b.vars,.slice B1 b.Ng.length d1] 48)).alloc (.cells #[.int .u8 x.kind,.int .u8 x.op,.int .i64 x.dst,.int .i64 x.ref,.int .i64 x.Ni,.slice ua x.args.length C,.slice va x.Nh.length I,.int .i64 x.num,.int .i64 x.Nj] 52)∧aa All w j∧al j w.heap.size 26 #[.slice a1 p.MZ.length J,.slice a2 p.up.length n2,.slice a3 p.Nb.length R,.slice a4 p.Na.length Y,.int .i64 p.Nc]∧al j (w.heap.size+1) 30 #[.slice A1 c.Nd.length Z,.slice A2 c.Nf.length o,.int .i64 c.main]∧al j (w.heap.size+1+1) 48 #[.int .i64 b.params,.int .i64 b.vars,.slice B1 b.Ng.length d1]∧al j (w.heap.size+1+1+1) 52 #[.int .u8 x.kind,.int .u8 x.op,.int .i64 x.dst,.int .i64 x.ref,.int .i64 x.Ni,.slice ua x.args.length C,.slice va x.Nh.length I,.int .i64 x.num,.int .i64 x.Nj])∧Hid ((∀wn,aa All w wn→mL S wn (.slice A2 c.Nf.length o) c.Nf)∧(∀wn,aa All w wn→aK S wn (.slice ua x.args.length C) x.args)∧(∀wn,aa All w wn→aK S wn (.slice va x.Nh.length I) x.Nh)∧jx x):=by
 obtain⟨c5,vu,vi,vo,rfl,b4,b5,b6,b7,c6⟩:=hp;obtain⟨a1,J,rfl,l1,l2,_⟩:=b4;obtain⟨a2,n2,rfl,_⟩:=b5;obtain⟨a3,R,rfl,l3,l4,_⟩:=b6;obtain⟨a4,Y,rfl,l5,l6,_⟩:=b7;obtain⟨ka,kf,rfl,b8,b3,c7⟩:=hc;have b9:=bV.la b3;obtain⟨A1,Z,rfl,m1,m2,_⟩:=b8;obtain⟨A2,o,rfl,m3,m4,_⟩:=b3;obtain⟨B1,d1,rfl,m5,m6,_⟩:=hb;have c0:=ah.la a7;have c3:=ah.la a8;obtain⟨ua,C,rfl,u1,u2,u3,_⟩:=a7;obtain⟨va,I,rfl,v1,v2,v3,_⟩:=a8;obtain⟨j,l⟩:=eQ ((((w.alloc (.cells #[.slice a1 p.MZ.length J,.slice a2 p.up.length n2,.slice a3 p.Nb.length R,.slice a4 p.Na.length Y,.int .i64 p.Nc] 26)).alloc (.cells #[.slice A1 c.Nd.length Z,.slice A2 c.Nf.length o,.int .i64 c.main] 30)).alloc (.cells #[.int .i64 b.params,.int .i64 b.vars,.slice B1 b.Ng.length d1] 48)).alloc (.cells #[.int .u8 x.kind,.int .u8 x.op,.int .i64 x.dst,.int .i64 x.ref,.int .i64 x.Ni,.slice ua x.args.length C,.slice va x.Nh.length I,.int .i64 x.num,.int .i64 x.Nj] 52));have c4:aa All w j:=by rw[l];exact(((kR.alloc _).alloc _).alloc _).alloc _
 have bP:al j w.heap.size 26 #[.slice a1 p.MZ.length J,.slice a2 p.up.length n2,.slice a3 p.Nb.length R,.slice a4 p.Na.length Y,.int .i64 p.Nc]:=by rw[l];exact(((al.new _ _ _).alloc _).alloc _).alloc _
 have bK:al j (w.heap.size+1) 30 #[.slice A1 c.Nd.length Z,.slice A2 c.Nf.length o,.int .i64 c.main]:=by rw[l];exact((ac (by simp)).alloc _).alloc _
 have bB:al j (w.heap.size+1+1) 48 #[.int .i64 b.params,.int .i64 b.vars,.slice B1 b.Ng.length d1]:=by rw[l];exact(ac (by simp)).alloc _
 have bX:al j (w.heap.size+1+1+1) 52 #[.int .u8 x.kind,.int .u8 x.op,.int .i64 x.dst,.int .i64 x.ref,.int .i64 x.Ni,.slice ua x.args.length C,.slice va x.Nh.length I,.int .i64 x.num,.int .i64 x.Nj]:=by rw[l];exact ac (by simp)
 obtain⟨p0,p1,p2,p3,p4⟩:=bP.c5;obtain⟨k0,k1,k2⟩:=bK.c3;obtain⟨b0,b1,b2⟩:=bB.c3;obtain⟨x0,x1,x2,x3,x4,x5,x6,x7,x8⟩:=bX.c9;have HW:=J6 l c4 bP bK bB bX;have HP:=J4 b9 c0 c3 hx;exact⟨a1,J,a2,n2,a3,R,a4,Y,A1,Z,A2,o,B1,d1,ua,C,va,I,j,rfl,rfl,rfl,rfl,rfl,⟨l1,l2,l3,l4,l5,l6,m1,m2,m3,m4,m5,m6,u1,u2,u3,v1,v2,v3⟩,⟨p0,p1,p2,p3,p4,k0,k1,k2,b0,b1,b2,x0,x1,x2,x3,x4,x5,x6,x7,x8⟩,HW,HP⟩
end Go.Proofs.YtceloincoomjeaaGreatDoor
