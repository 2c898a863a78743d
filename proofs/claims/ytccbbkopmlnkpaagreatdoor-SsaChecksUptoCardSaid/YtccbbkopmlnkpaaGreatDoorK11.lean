/- Part 12 of the proof (its last part says what is proved). No condition. -/
import Derived.Deep.RegionWith
import Derived.Test.YtccbbkopmlnkpaaGreatDoorK9
namespace Go.Proofs.YtccbbkopmlnkpaaGreatDoor
set_option maxRecDepth 100000
set_option maxHeartbeats 8000000
open Go.RowKit Go.Proofs.Tryz
theorem zN (op:Nat)(h:op<13)(w:World)(j:gz w):Calls prog 231 #[.int .u8 op] w fun e o=>e=.returned (.string (nt op))∧w=o:=by have C:=j.2 op h;clear j;go_enter func231,ntmps231;go_wp2;go_ret;exact⟨rfl,rfl⟩
theorem CC (op:Nat)(h:13≤op)(o:op<256)(w:World):Calls prog 231 #[.int .u8 op] w fun e j=>e=.returned (.string ⟨#[]⟩)∧w=j:=by go_enter func231,ntmps231;go_wp2;go_ret;exact⟨rfl,rfl⟩
theorem Dy (op:Nat)(h:op<13)(j:op≠0):(nt op).toList.isEmpty=false:=by rw[jY];refine cI fun e=>?_;have:=congrArg ByteArray.size e;rcases op with _|_|_|_|_|_|_|_|_|_|_|_|_|k;all_goals first|(exfalso;omega)|(revert this;decide)
def Cq (x:cX):Prop:=¬((x.op≠0↔x.kind=2)∧x.op≤12∧(x.num≠0→x.kind=1)∧cC x.args∧cC x.Nh)
theorem DT (S:Nat→Prop)(a f:Value)(x:cX)(w:World)(h1:gB S w a x.args)(h2:gB S w f x.Nh)(hx:uB x)(hl:gz w):
 Calls prog 197 #[.agg #[.int .u8 x.kind,.int .u8 x.op,.string x.dst,.string x.ref,.string x.Ni,a,f,.int .i64 x.num,.int .i64 x.Nj]] w fun e w'=>e=.returned (.bool (pB (fj x)))∧aa All w w':=by
 have hA:=fun wn (hk:aa All w wn)=>nw S a x.args wn (ax.keep hk.all h1);have hF:=fun wn (hk:aa All w wn)=>nw S f x.Nh wn (ax.keep hk.all h2);have hL:=fun wn (hk:aa All w wn)=>hl.keep hk;obtain⟨A1,c1,rfl,_⟩:=h1;obtain⟨A2,c2,rfl,_⟩:=h2;have c4:aa All w (w.alloc (.cells #[.int .u8 x.kind,.int .u8 x.op,.string x.dst,.string x.ref,.string x.Ni,.slice A1 x.args.length c1,.slice A2 x.Nh.length c2,.int .i64 x.num,.int .i64 x.Nj] 185)):=(aa.refl All w).alloc _;have c5:∀wn,aa All (w.alloc (.cells #[.int .u8 x.kind,.int .u8 x.op,.string x.dst,.string x.ref,.string x.Ni,.slice A1 x.args.length c1,.slice A2 x.Nh.length c2,.int .i64 x.num,.int .i64 x.Nj] 185)) wn→∀i,wn.cell? ⟨w.heap.size,i,none⟩=(#[.int .u8 x.kind,.int .u8 x.op,.string x.dst,.string x.ref,.string x.Ni,.slice A1 x.args.length c1,.slice A2 x.Nh.length c2,.int .i64 x.num,.int .i64 x.Nj]:Array Value)[i]?:=fun wn h i=>sh h i;have HC:=J5 hA hF hL c4 c5;clear hA hF hL c4 c5 hl;obtain⟨x1,x2,_⟩:=hx;go_enter func197,ntmps197;go_upto_region 1 with fail;go_cut [44] (fun d7 wx=>d7=.bool (pB (Cq x))∧aa All (w.alloc (.cells #[.int .u8 x.kind,.int .u8 x.op,.string x.dst,.string x.ref,.string x.Ni,.slice A1 x.args.length c1,.slice A2 x.Nh.length c2,.int .i64 x.num,.int .i64 x.Nj] 185)) wx)
 case first=>(
 have hE:Cq x↔¬((x.op≠0↔x.kind=2)∧x.op≤12∧(x.num≠0→x.kind=1)∧cC x.args∧cC x.Nh):=Iff.rfl;by_cases e1:x.op=0;·(
 have t1:=wK x.op 0 (by omega);by_cases e2:x.kind=2;·have t2:=yK x.kind 2 (by omega);have C:=oH (av (hE.2 fun h=>h.1.2 e2 e1));clear e1 e2 hE;go_wp2_with fail;go_meet;exact⟨by rw[C.out],kR⟩
 have t2:=nK x.kind 2 (by omega);by_cases e3:x.num=0
 ·have t3:(x.num !=0)=false:=by rw[gj];exact e3
  have HB:=oH (show cC x.args∧cC x.Nh↔¬Cq x by rw[hE,Classical.not_not];exact⟨fun h=>⟨⟨fun h'=>absurd e1 h',fun h'=>absurd h' e2⟩,by omega,fun h'=>absurd e3 h',h.1,h.2⟩,fun h=>⟨h.2.2.2.1,h.2.2.2.2⟩⟩);clear e1 e2 e3 hE;have I:=fun wn (hk:aa All (w.alloc (.cells #[.int .u8 x.kind,.int .u8 x.op,.string x.dst,.string x.ref,.string x.Ni,.slice A1 x.args.length c1,.slice A2 x.Nh.length c2,.int .i64 x.num,.int .i64 x.Nj] 185)) wn)=>HC.1 wn (HC.2.2.2.1.trans hk);have J:=fun wn (hk:aa All (w.alloc (.cells #[.int .u8 x.kind,.int .u8 x.op,.string x.dst,.string x.ref,.string x.Ni,.slice A1 x.args.length c1,.slice A2 x.Nh.length c2,.int .i64 x.num,.int .i64 x.Nj] 185)) wn)=>HC.2.1 wn (HC.2.2.2.1.trans hk);by_cases ea:cC x.args
  ·rw[av ea] at I;by_cases ef:cC x.Nh;·rw[av ef] at J;have C:=oH (au (HB.1 ⟨ea,ef⟩));have HX:=J2 I J;clear I J ea ef;go_wp2_with fail;refine(HX.1 _ kR).mono ?_;rintro e w1 ⟨rfl,o⟩;have H1:=oH o;have g6:=HC.2.2.2.2 w1 o 6;simp only[gc] at g6;clear o;go_wp2_with fail;refine(HX.2 _ H1.out).mono ?_;rintro e w2 ⟨rfl,j⟩;have R:=oH (H1.out.trans j);clear j g6;go_wp2_with fail;go_meet;exact⟨by rw[C.out],R.out⟩
   rw[au ef] at J;have C:=oH (av (Classical.not_not.1 fun h=>ef (HB.2 h).2));have HX:=J2 I J;clear I J ea ef;go_wp2_with fail;refine(HX.1 _ kR).mono ?_;rintro e w1 ⟨rfl,o⟩;have H1:=oH o;have g6:=HC.2.2.2.2 w1 o 6;simp only[gc] at g6;clear o;go_wp2_with fail;refine(HX.2 _ H1.out).mono ?_;rintro e w2 ⟨rfl,j⟩;have R:=oH (H1.out.trans j);clear j g6;go_wp2_with fail;go_meet;exact⟨by rw[C.out],R.out⟩
  rw[au ea] at I;have C:=oH (av (Classical.not_not.1 fun h=>ea (HB.2 h).1));have HX:=J2 I J;clear I J ea;go_wp2_with fail;refine(HX.1 _ kR).mono ?_;rintro e w1 ⟨rfl,o⟩;have H1:=oH o;have g6:=HC.2.2.2.2 w1 o 6;simp only[gc] at g6;clear o;go_wp2_with fail;go_meet;exact⟨by rw[C.out],H1.out⟩
 have t3:(x.num !=0)=true:=by rw[bne_iff_ne];exact e3
 by_cases e4:x.kind=1
 ·have t4:=wK x.kind 1 (by omega);have HB:=oH (show cC x.args∧cC x.Nh↔¬Cq x by rw[hE,Classical.not_not];exact⟨fun h=>⟨⟨fun h'=>absurd e1 h',fun h'=>absurd h' e2⟩,by omega,fun _=>e4,h.1,h.2⟩,fun h=>⟨h.2.2.2.1,h.2.2.2.2⟩⟩);clear e1 e2 e3 e4 hE;have I:=fun wn (hk:aa All (w.alloc (.cells #[.int .u8 x.kind,.int .u8 x.op,.string x.dst,.string x.ref,.string x.Ni,.slice A1 x.args.length c1,.slice A2 x.Nh.length c2,.int .i64 x.num,.int .i64 x.Nj] 185)) wn)=>HC.1 wn (HC.2.2.2.1.trans hk);have J:=fun wn (hk:aa All (w.alloc (.cells #[.int .u8 x.kind,.int .u8 x.op,.string x.dst,.string x.ref,.string x.Ni,.slice A1 x.args.length c1,.slice A2 x.Nh.length c2,.int .i64 x.num,.int .i64 x.Nj] 185)) wn)=>HC.2.1 wn (HC.2.2.2.1.trans hk);by_cases ea:cC x.args
  ·rw[av ea] at I;by_cases ef:cC x.Nh;·rw[av ef] at J;have C:=oH (au (HB.1 ⟨ea,ef⟩));have HX:=J2 I J;clear I J ea ef;go_wp2_with fail;refine(HX.1 _ kR).mono ?_;rintro e w1 ⟨rfl,o⟩;have H1:=oH o;have g6:=HC.2.2.2.2 w1 o 6;simp only[gc] at g6;clear o;go_wp2_with fail;refine(HX.2 _ H1.out).mono ?_;rintro e w2 ⟨rfl,j⟩;have R:=oH (H1.out.trans j);clear j g6;go_wp2_with fail;go_meet;exact⟨by rw[C.out],R.out⟩
   rw[au ef] at J;have C:=oH (av (Classical.not_not.1 fun h=>ef (HB.2 h).2));have HX:=J2 I J;clear I J ea ef;go_wp2_with fail;refine(HX.1 _ kR).mono ?_;rintro e w1 ⟨rfl,o⟩;have H1:=oH o;have g6:=HC.2.2.2.2 w1 o 6;simp only[gc] at g6;clear o;go_wp2_with fail;refine(HX.2 _ H1.out).mono ?_;rintro e w2 ⟨rfl,j⟩;have R:=oH (H1.out.trans j);clear j g6;go_wp2_with fail;go_meet;exact⟨by rw[C.out],R.out⟩
  rw[au ea] at I;have C:=oH (av (Classical.not_not.1 fun h=>ea (HB.2 h).1));have HX:=J2 I J;clear I J ea;go_wp2_with fail;refine(HX.1 _ kR).mono ?_;rintro e w1 ⟨rfl,o⟩;have H1:=oH o;have g6:=HC.2.2.2.2 w1 o 6;simp only[gc] at g6;clear o;go_wp2_with fail;go_meet;exact⟨by rw[C.out],H1.out⟩
 have t4:=mK x.kind 1 (by omega);have C:=oH (av (hE.2 fun h=>e4 (h.2.2.1 e3)));clear e1 e2 e3 e4 hE;go_wp2_with fail;go_meet;exact⟨by rw[C.out],kR⟩)
 have t1:=mK x.op 0 (by omega);by_cases e2:x.kind=2;·(
 have t2:=yK x.kind 2 (by omega);by_cases c6:x.op<13;·(
 have a6:=fun wn (hk:aa All (w.alloc (.cells #[.int .u8 x.kind,.int .u8 x.op,.string x.dst,.string x.ref,.string x.Ni,.slice A1 x.args.length c1,.slice A2 x.Nh.length c2,.int .i64 x.num,.int .i64 x.Nj] 185)) wn)=>zN x.op c6 wn (HC.2.2.1 wn (HC.2.2.2.1.trans hk));have d9:=Dy x.op c6 e1;by_cases e3:x.num=0
 ·have t3:(x.num !=0)=false:=by rw[gj];exact e3
  have HB:=oH (show cC x.args∧cC x.Nh↔¬Cq x by rw[hE,Classical.not_not];exact⟨fun h=>⟨⟨fun _=>e2,fun _=>e1⟩,by omega,fun h'=>absurd e3 h',h.1,h.2⟩,fun h=>⟨h.2.2.2.1,h.2.2.2.2⟩⟩);clear e1 e2 e3 hE;have HM:=oH a6;clear a6;have I:=fun wn (hk:aa All (w.alloc (.cells #[.int .u8 x.kind,.int .u8 x.op,.string x.dst,.string x.ref,.string x.Ni,.slice A1 x.args.length c1,.slice A2 x.Nh.length c2,.int .i64 x.num,.int .i64 x.Nj] 185)) wn)=>HC.1 wn (HC.2.2.2.1.trans hk);have J:=fun wn (hk:aa All (w.alloc (.cells #[.int .u8 x.kind,.int .u8 x.op,.string x.dst,.string x.ref,.string x.Ni,.slice A1 x.args.length c1,.slice A2 x.Nh.length c2,.int .i64 x.num,.int .i64 x.Nj] 185)) wn)=>HC.2.1 wn (HC.2.2.2.1.trans hk);by_cases ea:cC x.args
  ·rw[av ea] at I;by_cases ef:cC x.Nh;·rw[av ef] at J;have C:=oH (au (HB.1 ⟨ea,ef⟩));have HX:=J2 I J;clear I J ea ef;go_wp2_with (go_at_call 231;refine(HM.out _ kR).mono ?_;rintro e w' ⟨rfl,rfl⟩);refine(HX.1 _ kR).mono ?_;rintro e w1 ⟨rfl,o⟩;have H1:=oH o;have g6:=HC.2.2.2.2 w1 o 6;simp only[gc] at g6;clear o;go_wp2_with fail;refine(HX.2 _ H1.out).mono ?_;rintro e w2 ⟨rfl,j⟩;have R:=oH (H1.out.trans j);clear j g6;go_wp2_with fail;go_meet;exact⟨by rw[C.out],R.out⟩
   rw[au ef] at J;have C:=oH (av (Classical.not_not.1 fun h=>ef (HB.2 h).2));have HX:=J2 I J;clear I J ea ef;go_wp2_with (go_at_call 231;refine(HM.out _ kR).mono ?_;rintro e w' ⟨rfl,rfl⟩);refine(HX.1 _ kR).mono ?_;rintro e w1 ⟨rfl,o⟩;have H1:=oH o;have g6:=HC.2.2.2.2 w1 o 6;simp only[gc] at g6;clear o;go_wp2_with fail;refine(HX.2 _ H1.out).mono ?_;rintro e w2 ⟨rfl,j⟩;have R:=oH (H1.out.trans j);clear j g6;go_wp2_with fail;go_meet;exact⟨by rw[C.out],R.out⟩
  rw[au ea] at I;have C:=oH (av (Classical.not_not.1 fun h=>ea (HB.2 h).1));have HX:=J2 I J;clear I J ea;go_wp2_with (go_at_call 231;refine(HM.out _ kR).mono ?_;rintro e w' ⟨rfl,rfl⟩);refine(HX.1 _ kR).mono ?_;rintro e w1 ⟨rfl,o⟩;have H1:=oH o;have g6:=HC.2.2.2.2 w1 o 6;simp only[gc] at g6;clear o;go_wp2_with fail;go_meet;exact⟨by rw[C.out],H1.out⟩
 have t3:(x.num !=0)=true:=by rw[bne_iff_ne];exact e3
 have t4:=mK x.kind 1 (by omega);have C:=oH (av (hE.2 fun h=>by have:=h.2.2.1 e3;omega));clear e1 e2 e3 hE;have HM:=oH a6;clear a6;go_wp2_with (go_at_call 231;refine(HM.out _ kR).mono ?_;rintro e w' ⟨rfl,rfl⟩);go_meet;exact⟨by rw[C.out],kR⟩)
 have a6:=fun wn=>CC x.op (by omega) x2 wn;have C:=oH (av (hE.2 fun h=>by have:=h.2.1;omega));clear e1 e2 hE;have HM:=oH a6;clear a6;go_wp2_with (go_at_call 231;refine(HM.out _).mono ?_;rintro e w' ⟨rfl,rfl⟩);go_meet;exact⟨by rw[C.out],kR⟩)
 have t2:=nK x.kind 2 (by omega);have C:=oH (av (hE.2 fun h=>e2 (h.1.1 e1)));clear e1 e2 hE;go_wp2_with fail;go_meet;exact⟨by rw[C.out],kR⟩)
 obtain⟨rfl,o⟩:=hcut;have g:=HC.2.2.2.2 wc o;have g0:=g 0;have g2:=g 2;have g3:=g 3;have g4:=g 4;have g5:=g 5;have g6:=g 6;simp only[gc] at g0 g2 g3 g4 g5 g6;have H1:=J2 o (HC.2.2.2.1.trans o);clear o g;by_cases eb:Cq x;·rw[av eb];have C:=oH (au (P:=fj x) fun h=>eb ⟨h.1,h.2.1,h.2.2.1,h.2.2.2.1,h.2.2.2.2.1⟩);clear eb;go_wp2_with fail;go_ret;exact⟨by rw[C.out];rfl,H1.2⟩
 rw[au eb];have HN:=oH (Classical.not_not.1 eb);clear eb;by_cases e3:x.kind=3;·(
 have t3:=yK x.kind 3 (by omega);have HI:=oH (show fj x↔aB x.dst=true∧x.ref=gR∧x.Ni=gR∧x.Nh.length=x.args.length∧1≤x.Nh.length∧x.Nh.length≤64 from⟨fun h=>h.2.2.2.2.2.1 e3,fun h=>⟨HN.1,HN.2.1,HN.2.2.1,HN.2.2.2.1,HN.2.2.2.2,fun _=>h,fun h'=>absurd e3 h'⟩⟩);clear e3;have a6:=fun wn=>gT x.dst wn;have nr:=jY x.ref;have na:=jY x.Ni;by_cases d1:aB x.dst=true;·(
 rw[d1] at a6;by_cases d2:x.ref=gR;·(
 rw[bL d2] at nr;by_cases d3:x.Ni=gR;·(
 rw[bL d3] at na;by_cases d4:x.Nh.length=x.args.length;·(
 have t4:((x.Nh.length:Int)==(x.args.length:Int))=true:=by rw[cy];omega
 by_cases d5:1≤x.Nh.length;·(
 have t5:decide ((1:Int)≤(x.Nh.length:Int))=true:=by simp;omega
 by_cases d6:x.Nh.length≤64
 ·have t6:decide ((x.Nh.length:Int)≤64)=true:=by simp;omega
  have C:=oH (av (HI.2 ⟨d1,d2,d3,d4,d5,d6⟩));clear d1 d2 d3 d4 d5 d6;go_wp2_with (go_at_call 130;refine(a6 _).mono ?_;rintro e w2 ⟨rfl,j⟩;have k3:=HC.2.2.2.2 w2 (H1.1.trans j);have q3:=k3 3;have q4:=k3 4;have q5:=k3 5;have q6:=k3 6;simp only[gc] at q3 q4 q5 q6;have R:=oH j;clear j k3);go_ret;exact⟨by rw[C.out];rfl,H1.2.trans R.out⟩
 have t6:decide ((x.Nh.length:Int)≤64)=false:=by simp;omega
 have C:=oH (au fun h=>d6 (HI.1 h).2.2.2.2.2);clear d1 d2 d3 d4 d5 d6;go_wp2_with (go_at_call 130;refine(a6 _).mono ?_;rintro e w2 ⟨rfl,j⟩;have k3:=HC.2.2.2.2 w2 (H1.1.trans j);have q3:=k3 3;have q4:=k3 4;have q5:=k3 5;have q6:=k3 6;simp only[gc] at q3 q4 q5 q6;have R:=oH j;clear j k3);go_ret;exact⟨by rw[C.out];rfl,H1.2.trans R.out⟩)
 have t5:decide ((1:Int)≤(x.Nh.length:Int))=false:=by simp;omega
 have C:=oH (au fun h=>d5 (HI.1 h).2.2.2.2.1);clear d1 d2 d3 d4 d5;go_wp2_with (go_at_call 130;refine(a6 _).mono ?_;rintro e w2 ⟨rfl,j⟩;have k3:=HC.2.2.2.2 w2 (H1.1.trans j);have q3:=k3 3;have q4:=k3 4;have q5:=k3 5;have q6:=k3 6;simp only[gc] at q3 q4 q5 q6;have R:=oH j;clear j k3);go_ret;exact⟨by rw[C.out];rfl,H1.2.trans R.out⟩)
 have t4:((x.Nh.length:Int)==(x.args.length:Int))=false:=by rw[bE];omega
 have C:=oH (au fun h=>d4 (HI.1 h).2.2.2.1);clear d1 d2 d3 d4;go_wp2_with (go_at_call 130;refine(a6 _).mono ?_;rintro e w2 ⟨rfl,j⟩;have k3:=HC.2.2.2.2 w2 (H1.1.trans j);have q3:=k3 3;have q4:=k3 4;have q5:=k3 5;have q6:=k3 6;simp only[gc] at q3 q4 q5 q6;have R:=oH j;clear j k3);go_ret;exact⟨by rw[C.out];rfl,H1.2.trans R.out⟩)
 rw[cI d3] at na;have C:=oH (au fun h=>d3 (HI.1 h).2.2.1);clear d1 d2 d3;go_wp2_with (go_at_call 130;refine(a6 _).mono ?_;rintro e w2 ⟨rfl,j⟩;have k3:=HC.2.2.2.2 w2 (H1.1.trans j);have q3:=k3 3;have q4:=k3 4;have q5:=k3 5;have q6:=k3 6;simp only[gc] at q3 q4 q5 q6;have R:=oH j;clear j k3);go_ret;exact⟨by rw[C.out];rfl,H1.2.trans R.out⟩)
 rw[cI d2] at nr;have C:=oH (au fun h=>d2 (HI.1 h).2.1);clear d1 d2;go_wp2_with (go_at_call 130;refine(a6 _).mono ?_;rintro e w2 ⟨rfl,j⟩;have k3:=HC.2.2.2.2 w2 (H1.1.trans j);have q3:=k3 3;have q4:=k3 4;have q5:=k3 5;have q6:=k3 6;simp only[gc] at q3 q4 q5 q6;have R:=oH j;clear j k3);go_ret;exact⟨by rw[C.out];rfl,H1.2.trans R.out⟩)
 have c7:aB x.dst=false:=by simpa using d1
 rw[c7] at a6;have C:=oH (au fun h=>d1 (HI.1 h).1);clear d1 c7;go_wp2_with (go_at_call 130;refine(a6 _).mono ?_;rintro e w2 ⟨rfl,j⟩;have k3:=HC.2.2.2.2 w2 (H1.1.trans j);have q3:=k3 3;have q4:=k3 4;have q5:=k3 5;have q6:=k3 6;simp only[gc] at q3 q4 q5 q6;have R:=oH j;clear j k3);go_ret;exact⟨by rw[C.out];rfl,H1.2.trans R.out⟩)
 have t3:=nK x.kind 3 (by omega);have HI:=oH (show fj x↔∃s,cJ x.kind=some s∧x.Nh=[]∧(0≤s.args→(x.args.length:Int)=s.args)∧x.args.length≤6∧fS x.dst s.dst∧fS x.ref s.ref∧fS x.Ni s.Ni from⟨fun h=>h.2.2.2.2.2.2 e3,fun h=>⟨HN.1,HN.2.1,HN.2.2.1,HN.2.2.2.1,HN.2.2.2.2,fun h'=>absurd h' e3,fun _=>h⟩⟩);clear e3;go_upto_region 5 with fail;go_cut [3,4] (fun s3 s4 wx=>∃b,s3=.pointer (some ⟨b,0,none⟩)∧s4=.bool (cJ x.kind).isSome∧aa All (w.alloc (.cells #[.int .u8 x.kind,.int .u8 x.op,.string x.dst,.string x.ref,.string x.Ni,.slice A1 x.args.length c1,.slice A2 x.Nh.length c2,.int .i64 x.num,.int .i64 x.Nj] 185)) wx∧al wx b 295 #[.int .i64 ((cJ x.kind).getD ⟨0,false,false,false⟩).args,.bool ((cJ x.kind).getD ⟨0,false,false,false⟩).dst,.bool ((cJ x.kind).getD ⟨0,false,false,false⟩).ref,.bool ((cJ x.kind).getD ⟨0,false,false,false⟩).Ni])
 case first=>(have b8:∀(_:Unit),(Instr.lookup 297 (.map (some (wc.heap.size))) (.int .u8 x.kind) true).run prog (wc.alloc (.map (mI 12) 12)).drew=.ok (.tuple #[Ig ((cJ x.kind).getD ⟨0,false,false,false⟩),.bool (cJ x.kind).isSome]) (wc.alloc (.map (mI 12) 12)).drew:=fun _=>qG _ x.kind x1 _ (by show(wc.heap.push _)[wc.heap.size]? =_;simp);have c8:∀(O:Obj),(Instr.lookup 297 (.map (some (wc.heap.size))) (.int .u8 x.kind) true).run prog ((wc.alloc (.map (mI 12) 12)).alloc O).drew=.ok (.tuple #[Ig ((cJ x.kind).getD ⟨0,false,false,false⟩),.bool (cJ x.kind).isSome]) ((wc.alloc (.map (mI 12) 12)).alloc O).drew:=fun O=>qG _ x.kind x1 _ (by show((wc.heap.push _).push _)[wc.heap.size]? =_;rw[Array.getElem?_push,ae (by simp)];simp);have c9:∀(O:Obj),(Instr.lookup 297 (.map (some (wc.heap.size+1))) (.int .u8 x.kind) true).run prog ((wc.alloc O).alloc (.map (mI 12) 12)).drew=.ok (.tuple #[Ig ((cJ x.kind).getD ⟨0,false,false,false⟩),.bool (cJ x.kind).isSome]) ((wc.alloc O).alloc (.map (mI 12) 12)).drew:=fun O=>qG _ x.kind x1 _ (by show((wc.heap.push O).push _)[wc.heap.size+1]? =_;rw[Array.getElem?_push,ap (by simp)]);have b8:=b8 ();unfold Ig at b8 c8 c9;generalize (cJ x.kind).getD ⟨0,false,false,false⟩=s at*;generalize (cJ x.kind).isSome=so at*;have gs:w.heap.size<wc.heap.size:=jy wc _ g0;have gn:wc.heap.size≠w.heap.size:=Nat.ne_of_gt gs;clear g2 g3 g4 g5 g6;go_region_with (go_at_call 232;refine(Bm _).mono ?_;rintro e w' ⟨rfl,rfl⟩);all_goals(go_wp2_with fail;go_meet;exact⟨_,rfl,rfl,((H1.1.alloc _).alloc _).drew,by first|exact(ac (by simp)).drew|exact((al.new _ _ _).alloc _).drew⟩))
 obtain⟨b,rfl,rfl,j,hb⟩:=hcut;have g:=HC.2.2.2.2 wc j;have q2:=g 2;have q3:=g 3;have q4:=g 4;have q5:=g 5;have q6:=g 6;have c0:=hb.cell 0;have c1:=hb.cell 1;have c2:=hb.cell 2;have c3:=hb.cell 3;simp only[gc] at q2 q3 q4 q5 q6 c0 c1 c2 c3;have R:=J3 j (HC.2.2.2.1.trans j) hb;clear g0 g2 g3 g4 g5 g6 g j hb;generalize cJ x.kind=so at*;cases so with
 |none=>have C:=oH (au fun h=>by obtain⟨s,e,_⟩:=HI.1 h;cases e);go_wp2_with fail;go_ret;exact⟨by rw[C.out];rfl,R.2.1⟩
 |some s=>
  have HJ:=oH (show fj x↔x.Nh=[]∧(0≤s.args→(x.args.length:Int)=s.args)∧x.args.length≤6∧fS x.dst s.dst∧fS x.ref s.ref∧fS x.Ni s.Ni from HI.out.trans ⟨fun⟨s',e,h⟩=>by cases e;exact h,fun h=>⟨s,rfl,h⟩⟩);clear HI;simp only[Option.getD_some] at c0 c1 c2 c3;by_cases p1:x.Nh=[];·(
 have t4:decide ((0:Int)<(x.Nh.length:Int))=false:=by rw[p1];rfl
 have d8:¬0<x.Nh.length:=by rw[p1];simp
 by_cases p2:0≤s.args;·(
 have t5:decide (0≤s.args)=true:=by simpa using p2
 by_cases p3:(x.args.length:Int)=s.args;·(
 have t6:((x.args.length:Int) !=s.args)=false:=by rw[gj];exact p3
 by_cases p4:x.args.length≤6
 ·have t7:decide ((6:Int)<(x.args.length:Int))=false:=by simp;omega
  have HK:=oH (show fj x↔fS x.dst s.dst∧fS x.ref s.ref∧fS x.Ni s.Ni from HJ.out.trans ⟨fun h=>h.2.2.2,fun h=>⟨p1,fun _=>p3,p4,h⟩⟩);clear p1 p2 p3;have f1:=fun wn=>lE x.dst s.dst wn;have f2:=fun wn=>lE x.ref s.ref wn;have f3:=fun wn=>lE x.Ni s.Ni wn;by_cases d1:fS x.dst s.dst
  ·rw[av d1] at f1;by_cases d2:fS x.ref s.ref;·rw[av d2] at f2;have C:=oH (show pB (fj x)=pB (fS x.Ni s.Ni) from kC (HK.out.trans ⟨fun h=>h.2.2,fun h=>⟨d1,d2,h⟩⟩));generalize pB (fS x.Ni s.Ni)=z at*;have HF:=J3 f1 f2 f3;clear d1 d2 f1 f2 f3;go_wp2_with fail;refine(HF.1 _).mono ?_;rintro e w3 ⟨rfl,Y⟩;have a1:=R.2.2.kept Y trivial;have a8:=HC.2.2.2.2 w3 (R.1.trans Y);have b0:=a8 3;have b1:=a8 4;have b2:=a1.cell 2;have b3:=a1.cell 3;simp only[gc] at b0 b1 b2 b3;have H3:=J3 (R.1.trans Y) a1 (R.2.1.trans Y);clear Y a1 a8;go_wp2_with fail;refine(HF.2.1 _).mono ?_;rintro e w4 ⟨rfl,b4⟩;have b5:=H3.2.1.kept b4 trivial;have b9:=HC.2.2.2.2 w4 (H3.1.trans b4);have b6:=b9 4;have b7:=b5.cell 3;simp only[gc] at b6 b7;have H4:=J3 (H3.1.trans b4) b5 (H3.2.2.trans b4);clear b4 b5 b9;go_wp2_with fail;refine(HF.2.2 _).mono ?_;rintro e w5 ⟨rfl,a7⟩;have H5:=oH (H4.2.2.trans a7);clear a7;go_wp2_with fail;go_ret;exact⟨by rw[C.out];rfl,H5.out⟩
   rw[au d2] at f2;have C:=oH (au fun h=>d2 (HK.1 h).2.1);have HF:=J2 f1 f2;clear d1 d2 f1 f2 f3;go_wp2_with fail;refine(HF.1 _).mono ?_;rintro e w3 ⟨rfl,Y⟩;have a1:=R.2.2.kept Y trivial;have a8:=HC.2.2.2.2 w3 (R.1.trans Y);have b0:=a8 3;have b1:=a8 4;have b2:=a1.cell 2;have b3:=a1.cell 3;simp only[gc] at b0 b1 b2 b3;have H3:=J3 (R.1.trans Y) a1 (R.2.1.trans Y);clear Y a1 a8;go_wp2_with fail;refine(HF.2 _).mono ?_;rintro e w5 ⟨rfl,a7⟩;have H5:=oH (H3.2.2.trans a7);clear a7;go_wp2_with fail;go_ret;exact⟨by rw[C.out];rfl,H5.out⟩
  rw[au d1] at f1;have C:=oH (au fun h=>d1 (HK.1 h).1);have HF:=oH f1;clear d1 f1 f2 f3;go_wp2_with fail;refine(HF.out _).mono ?_;rintro e w5 ⟨rfl,a7⟩;have H5:=oH (R.2.1.trans a7);clear a7;go_wp2_with fail;go_ret;exact⟨by rw[C.out];rfl,H5.out⟩
 have t7:decide ((6:Int)<(x.args.length:Int))=true:=by simp;omega
 have C:=oH (au fun h=>p4 (HJ.1 h).2.2.1);clear p1 p2 p3 p4;go_wp2_with fail;go_ret;exact⟨by rw[C.out];rfl,R.2.1⟩)
 have t6:((x.args.length:Int) !=s.args)=true:=by rw[bne_iff_ne];exact p3
 have C:=oH (au fun h=>p3 ((HJ.1 h).2.1 p2));clear p1 p2 p3;go_wp2_with fail;go_ret;exact⟨by rw[C.out];rfl,R.2.1⟩)
 have t5:decide (0≤s.args)=false:=by simpa using p2
 have p3:0≤s.args→(x.args.length:Int)=s.args:=fun h=>absurd h p2;by_cases p4:x.args.length≤6
 ·have t7:decide ((6:Int)<(x.args.length:Int))=false:=by simp;omega
  have HK:=oH (show fj x↔fS x.dst s.dst∧fS x.ref s.ref∧fS x.Ni s.Ni from HJ.out.trans ⟨fun h=>h.2.2.2,fun h=>⟨p1,p3,p4,h⟩⟩);clear p1 p2 p3;have f1:=fun wn=>lE x.dst s.dst wn;have f2:=fun wn=>lE x.ref s.ref wn;have f3:=fun wn=>lE x.Ni s.Ni wn;by_cases d1:fS x.dst s.dst
  ·rw[av d1] at f1;by_cases d2:fS x.ref s.ref;·rw[av d2] at f2;have C:=oH (show pB (fj x)=pB (fS x.Ni s.Ni) from kC (HK.out.trans ⟨fun h=>h.2.2,fun h=>⟨d1,d2,h⟩⟩));generalize pB (fS x.Ni s.Ni)=z at*;have HF:=J3 f1 f2 f3;clear d1 d2 f1 f2 f3;go_wp2_with fail;refine(HF.1 _).mono ?_;rintro e w3 ⟨rfl,Y⟩;have a1:=R.2.2.kept Y trivial;have a8:=HC.2.2.2.2 w3 (R.1.trans Y);have b0:=a8 3;have b1:=a8 4;have b2:=a1.cell 2;have b3:=a1.cell 3;simp only[gc] at b0 b1 b2 b3;have H3:=J3 (R.1.trans Y) a1 (R.2.1.trans Y);clear Y a1 a8;go_wp2_with fail;refine(HF.2.1 _).mono ?_;rintro e w4 ⟨rfl,b4⟩;have b5:=H3.2.1.kept b4 trivial;have b9:=HC.2.2.2.2 w4 (H3.1.trans b4);have b6:=b9 4;have b7:=b5.cell 3;simp only[gc] at b6 b7;have H4:=J3 (H3.1.trans b4) b5 (H3.2.2.trans b4);clear b4 b5 b9;go_wp2_with fail;refine(HF.2.2 _).mono ?_;rintro e w5 ⟨rfl,a7⟩;have H5:=oH (H4.2.2.trans a7);clear a7;go_wp2_with fail;go_ret;exact⟨by rw[C.out];rfl,H5.out⟩
   rw[au d2] at f2;have C:=oH (au fun h=>d2 (HK.1 h).2.1);have HF:=J2 f1 f2;clear d1 d2 f1 f2 f3;go_wp2_with fail;refine(HF.1 _).mono ?_;rintro e w3 ⟨rfl,Y⟩;have a1:=R.2.2.kept Y trivial;have a8:=HC.2.2.2.2 w3 (R.1.trans Y);have b0:=a8 3;have b1:=a8 4;have b2:=a1.cell 2;have b3:=a1.cell 3;simp only[gc] at b0 b1 b2 b3;have H3:=J3 (R.1.trans Y) a1 (R.2.1.trans Y);clear Y a1 a8;go_wp2_with fail;refine(HF.2 _).mono ?_;rintro e w5 ⟨rfl,a7⟩;have H5:=oH (H3.2.2.trans a7);clear a7;go_wp2_with fail;go_ret;exact⟨by rw[C.out];rfl,H5.out⟩
  rw[au d1] at f1;have C:=oH (au fun h=>d1 (HK.1 h).1);have HF:=oH f1;clear d1 f1 f2 f3;go_wp2_with fail;refine(HF.out _).mono ?_;rintro e w5 ⟨rfl,a7⟩;have H5:=oH (R.2.1.trans a7);clear a7;go_wp2_with fail;go_ret;exact⟨by rw[C.out];rfl,H5.out⟩
 have t7:decide ((6:Int)<(x.args.length:Int))=true:=by simp;omega
 have C:=oH (au fun h=>p4 (HJ.1 h).2.2.1);clear p1 p2 p3 p4;go_wp2_with fail;go_ret;exact⟨by rw[C.out];rfl,R.2.1⟩)
  have t4:decide ((0:Int)<(x.Nh.length:Int))=true:=by have:0<x.Nh.length:=List.length_pos_iff.2 p1;simp;omega
  have d8:0<x.Nh.length:=List.length_pos_iff.2 p1;have C:=oH (au fun h=>p1 (HJ.1 h).1);clear p1;go_wp2_with fail;go_ret;exact⟨by rw[C.out];rfl,R.2.1⟩
def lw (l:List eS):Nat:=(l.map fun b=>b.code.length).sum
theorem rp {l:List eS}{k:Nat}{b:eS}(h:l[k]? =some b):lw (l.take (k+1))=lw (l.take k)+b.code.length:=by unfold lw;rw[cU,h];simp
def vX (b:eS):Prop:=aB b.name=true∧∀x∈b.code,fj x
noncomputable def ox (f:cD):Nat:=if pB (fT f)=true then gl f else 0
theorem pG {f:cD}(h:pB (fT f)=false):ox f=0:=by unfold ox;rw[h];rfl
theorem vh {f:cD}(h:pB (fT f)=true):ox f=lw (f.Ng.take f.Ng.length):=by unfold ox;rw[ap h];unfold gl lw;rw[dZ]
def Cr (f:cD):Prop:=¬(aB f.name=true∧cC f.params∧f.params.length≤6∧1≤f.Ng.length∧f.Ng.length≤64)
theorem FK {f:cD}:fT f↔¬Cr f∧∀(i:Nat) b,f.Ng[i]? =some b→vX b:=by
 unfold Cr;rw[Classical.not_not];constructor
 ·rintro⟨j,o,C,I,J,R⟩
  exact⟨⟨j,o,C,I,J⟩,fun i b Y=>R b (mG Y)⟩
 rintro⟨⟨j,o,C,I,J⟩,R⟩;exact⟨j,o,C,I,J,fun b Y=>by obtain⟨i,hi⟩:=cY.1 Y;exact R i b hi⟩
theorem AP (S:Nat→Prop)(p v:Value)(f:cD)(w:World)(h1:gB S w p f.params)(h2:mJ S w v f.Ng)(hl:gz w):
 Calls prog 131 #[.agg #[.string f.name,p,v,.int .i64 f.Nj]] w fun e w'=>e=.returned (.tuple #[.int .i64 (ox f:Int),.bool (pB (fT f))])∧aa All w w':=by
 have hP:=fun wn (hk:aa All w wn)=>nw S p f.params wn (ax.keep hk.all h1);have hB:=fun wn (hk:aa All w wn)=>eH.keep (S:=S) hk.all h2;have hL:=fun wn (hk:aa All w wn)=>hl.keep hk;obtain⟨A1,c1,rfl,_⟩:=h1;obtain⟨A2,c2,rfl,m1,m2,m3,_⟩:=h2;unfold maxLen at m2;have c9:aa All w (w.alloc (.cells #[.string f.name,.slice A1 f.params.length c1,.slice A2 f.Ng.length c2,.int .i64 f.Nj] 148)):=(aa.refl All w).alloc _;have d7:∀wn,aa All (w.alloc (.cells #[.string f.name,.slice A1 f.params.length c1,.slice A2 f.Ng.length c2,.int .i64 f.Nj] 148)) wn→∀i,wn.cell? ⟨w.heap.size,i,none⟩=(#[.string f.name,.slice A1 f.params.length c1,.slice A2 f.Ng.length c2,.int .i64 f.Nj]:Array Value)[i]?:=fun wn h i=>sh h i;have HC:=J5 hP hB hL c9 d7;clear hP hB hL c9 d7 hl;obtain⟨W1,b9⟩:=eQ (w.alloc (.cells #[.string f.name,.slice A1 f.params.length c1,.slice A2 f.Ng.length c2,.int .i64 f.Nj] 148));rw[←b9] at HC;have HW:=oH b9;clear b9;go_enter func131,ntmps131;go_upto_region 1 with fail;rw[←HW.out];go_cut [36] (fun e3 wx=>e3=.bool (pB (Cr f))∧aa All W1 wx)
 case first=>(
 have g0:=HC.2.2.2.2 W1 kR 0;simp only[gc] at g0;have I:=fun wn=>gT f.name wn;have hE:Cr f↔¬(aB f.name=true∧cC f.params∧f.params.length≤6∧1≤f.Ng.length∧f.Ng.length≤64):=Iff.rfl;by_cases d1:aB f.name=true;·(
 rw[d1] at I;have a1:=HC.1;by_cases d2:cC f.params;·(
 rw[av d2] at a1;by_cases d3:f.params.length≤6;·(
 have t3:decide ((6:Int)<(f.params.length:Int))=false:=by simp;omega
 by_cases d4:1≤f.Ng.length;·(
 have t4:decide ((f.Ng.length:Int)<1)=false:=by simp;omega
 by_cases d5:f.Ng.length≤64
 ·have t5:decide ((64:Int)<(f.Ng.length:Int))=false:=by simp;omega
  have HR:=oH (au (P:=Cr f) (fun h=>hE.1 h ⟨d1,d2,d3,d4,d5⟩));have HN:=J2 I a1;clear I a1 d1 d2 hE;go_wp2_with fail;refine(HN.1 _).mono ?_;rintro e w1 ⟨rfl,C⟩;have q:=HC.2.2.2.2 w1 C;have q1:=q 1;have H1:=oH C;simp only[gc] at q1;clear C q;go_wp2_with fail;refine(HN.2 _ (HC.2.2.2.1.trans H1.out)).mono ?_;rintro e w2 ⟨rfl,J⟩;have q:=HC.2.2.2.2 w2 (H1.out.trans J);have r1:=q 1;have r2:=q 2;have H2:=oH (H1.out.trans J);simp only[gc] at r1 r2;clear J q;go_wp2_with fail;go_meet;exact⟨by rw[HR.out],H2.out⟩
 have t5:decide ((64:Int)<(f.Ng.length:Int))=true:=by simp;omega
 have HR:=oH (av (hE.2 fun h=>d5 h.2.2.2.2));have HN:=J2 I a1;clear I a1 d1 d2 hE;go_wp2_with fail;refine(HN.1 _).mono ?_;rintro e w1 ⟨rfl,C⟩;have q:=HC.2.2.2.2 w1 C;have q1:=q 1;have H1:=oH C;simp only[gc] at q1;clear C q;go_wp2_with fail;refine(HN.2 _ (HC.2.2.2.1.trans H1.out)).mono ?_;rintro e w2 ⟨rfl,J⟩;have q:=HC.2.2.2.2 w2 (H1.out.trans J);have r1:=q 1;have r2:=q 2;have H2:=oH (H1.out.trans J);simp only[gc] at r1 r2;clear J q;go_wp2_with fail;go_meet;exact⟨by rw[HR.out],H2.out⟩)
 have t4:decide ((f.Ng.length:Int)<1)=true:=by simp;omega
 have HR:=oH (av (hE.2 fun h=>d4 h.2.2.2.1));have HN:=J2 I a1;clear I a1 d1 d2 hE;go_wp2_with fail;refine(HN.1 _).mono ?_;rintro e w1 ⟨rfl,C⟩;have q:=HC.2.2.2.2 w1 C;have q1:=q 1;have H1:=oH C;simp only[gc] at q1;clear C q;go_wp2_with fail;refine(HN.2 _ (HC.2.2.2.1.trans H1.out)).mono ?_;rintro e w2 ⟨rfl,J⟩;have q:=HC.2.2.2.2 w2 (H1.out.trans J);have r1:=q 1;have r2:=q 2;have H2:=oH (H1.out.trans J);simp only[gc] at r1 r2;clear J q;go_wp2_with fail;go_meet;exact⟨by rw[HR.out],H2.out⟩)
 have t3:decide ((6:Int)<(f.params.length:Int))=true:=by simp;omega
 have HR:=oH (av (hE.2 fun h=>d3 h.2.2.1));have HN:=J2 I a1;clear I a1 d1 d2 hE;go_wp2_with fail;refine(HN.1 _).mono ?_;rintro e w1 ⟨rfl,C⟩;have q:=HC.2.2.2.2 w1 C;have q1:=q 1;have H1:=oH C;simp only[gc] at q1;clear C q;go_wp2_with fail;refine(HN.2 _ (HC.2.2.2.1.trans H1.out)).mono ?_;rintro e w2 ⟨rfl,J⟩;have q:=HC.2.2.2.2 w2 (H1.out.trans J);have r1:=q 1;have H2:=oH (H1.out.trans J);simp only[gc] at r1;clear J q;go_wp2_with fail;go_meet;exact⟨by rw[HR.out],H2.out⟩)
 rw[au d2] at a1;have HR:=oH (av (hE.2 fun h=>d2 h.2.1));have HN:=J2 I a1;clear I a1 d1 d2 hE;go_wp2_with fail;refine(HN.1 _).mono ?_;rintro e w1 ⟨rfl,C⟩;have q:=HC.2.2.2.2 w1 C;have q1:=q 1;have H1:=oH C;simp only[gc] at q1;clear C q;go_wp2_with fail;refine(HN.2 _ (HC.2.2.2.1.trans H1.out)).mono ?_;rintro e w2 ⟨rfl,J⟩;have H2:=oH (H1.out.trans J);clear J;go_wp2_with fail;go_meet;exact⟨by rw[HR.out],H2.out⟩)
 have a6:aB f.name=false:=by simpa using d1
 rw[a6] at I;have HR:=oH (av (hE.2 fun h=>d1 h.1));have HN:=oH I;clear I d1 a6 hE;go_wp2_with fail;refine(HN.out _).mono ?_;rintro e w1 ⟨rfl,C⟩;have H1:=oH C;clear C;go_wp2_with fail;go_meet;exact⟨by rw[HR.out],H1.out⟩)
 obtain⟨rfl,C⟩:=hcut;have hE:=FK (f:=f);by_cases eb:Cr f;·rw[av eb];have HR:=oH (au (P:=fT f) fun h=>(hE.1 h).1 eb);have H1:=oH (HC.2.2.2.1.trans C);clear eb hE C;go_wp2_with fail;go_ret2;exact⟨by rw[HR.out,pG HR.out];rfl,H1.out⟩
 rw[au eb];have HE:=oH (hE.trans ⟨fun h=>h.2,fun h=>⟨eb,h⟩⟩);have h0:f.Ng.length≤64:=by have:=Classical.not_not.1 eb;exact this.2.2.2.2
 have q2:=HC.2.2.2.2 wc C 2;simp only[gc] at q2;have H1:=oH C;clear eb hE C;go_wp2_with fail;clear q2;go_loopg [4,40] f.Ng.length (fun g s4 e4 wr=>∃k:Nat,k≤f.Ng.length∧g=f.Ng.length-k∧e4=.int .i64 k∧s4=.int .i64 (lw (f.Ng.take k):Nat)∧lw (f.Ng.take k)≤k*1200000000000∧aa All W1 wr∧∀(i:Nat) b,i<k→f.Ng[i]? =some b→vX b);·exact⟨0,by omega,by omega,rfl,rfl,by simp[lw],H1.out,fun i b hi=>by omega⟩
 obtain⟨k,hk,rfl,rfl,rfl,e9,c0,b6⟩:=hrel;obtain⟨wo,rfl⟩:=eQ wr;have HA:=J3 c0 b6 (HC.2.2.2.1.trans c0);clear c0 b6;by_cases e5:k<f.Ng.length;·(
 obtain⟨b,hb⟩:=eG e5;obtain⟨bb,o,cs,rfl,_,_,b2,vb,rfl,d8,_,_⟩:=aZ (HC.2.1 wo HA.2.2) hb;have z0:=b2 0 _ rfl;rw[dj] at z0;have z1:=b2 1 _ rfl;have z2:=b2 2 _ rfl;have d9:=rp hb;have hIn:=fun wn (hk:aa All wo wn)=>it.keep (S:=S) hk.all d8;obtain⟨A3,c3,rfl,n1,n2,n3,_⟩:=d8;unfold maxLen at n2;have I:=fun wn=>gT b.name wn;have HB:=J3 hb d9 hIn;clear b2 hb d9 hIn;have c4:vX b↔aB b.name=true∧∀x∈b.code,fj x:=Iff.rfl;have b7:∀wn,aa All (wo.alloc (.cells #[.string b.name,.slice A3 b.code.length c3,.int .i64 b.Nj] 171)) wn→∀i,wn.cell? ⟨wo.heap.size,i,none⟩=(#[.string b.name,.slice A3 b.code.length c3,.int .i64 b.Nj]:Array Value)[i]?:=fun wn h i=>sh h i;have HX:=oH b7;have e0:aa All wo (wo.alloc (.cells #[.string b.name,.slice A3 b.code.length c3,.int .i64 b.Nj] 171)):=kR.alloc _;have b3:=oH e0;clear b7 e0;by_cases d1:aB b.name=true;·(
 rw[d1] at I;have HO:=oH (c4.trans ⟨fun h=>h.2,fun h=>⟨d1,h⟩⟩);have HN:=oH I;clear I d1 c4;go_wp2_with fail;refine(HN.out _).mono ?_;rintro e w1 ⟨rfl,C⟩;have y1:=HX.out w1 C 1;simp only[gc] at y1;have H2:=oH C;clear C z0 z1 z2;go_wp2_with fail;clear y1;go_loopg [51] b.code.length (fun g e6 wr=>∃j:Nat,j≤b.code.length∧g=b.code.length-j∧e6=.int .i64 j∧aa All (wo.alloc (.cells #[.string b.name,.slice A3 b.code.length c3,.int .i64 b.Nj] 171)) wr∧∀(i:Nat) x,i<j→b.code[i]? =some x→fj x);·exact⟨0,by omega,by omega,rfl,H2.out,fun i x hi=>by omega⟩
 obtain⟨j,hj,rfl,rfl,c5,b8⟩:=hrel;have HJ:=J3 c5 b8 (b3.out.trans c5);clear c5 b8;by_cases e7:j<b.code.length;·(
 obtain⟨x,hx⟩:=eG e7;obtain⟨b5,o5,h3,rfl,_,_,R,va,vf,rfl,e1,e2,e8⟩:=aZ (HB.2.2 wr HJ.2.2) hx;have z0:=R 0 _ rfl;rw[dj] at z0;have z1:=R 1 _ rfl;have z2:=R 2 _ rfl;have z3:=R 3 _ rfl;have z4:=R 4 _ rfl;have z5:=R 5 _ rfl;have z6:=R 6 _ rfl;have z7:=R 7 _ rfl;have z8:=R 8 _ rfl;have Y:=fun wn (hk:aa All wr wn)=>DT S va vf x wn (ax.keep hk.all e1) (ax.keep hk.all e2) e8 (HC.2.2.1 wn ((HA.2.2.trans HJ.2.2).trans hk));have b4:∀O,aa All wr (wr.alloc O):=fun O=>kR.alloc _;obtain⟨a7,c7,rfl,_⟩:=e1;obtain⟨a8,c8,rfl,_⟩:=e2;by_cases d2:fj x
 ·rw[av d2] at Y;have HR:=J4 Y d2 hx b4;clear Y d2 hx R b4;go_wp2_with fail;refine(HR.1 _ (HR.2.2.2 _)).mono ?_;rintro e w3 ⟨rfl,b0⟩;have H3:=oH ((HJ.1.alloc _).trans b0);clear b0 z0 z1 z2 z3 z4 z5 z6 z7 z8;go_wp2_with fail;go_roundg (b.code.length-(j+1))
  ·refine⟨j+1,by omega,rfl,by go_num,H3.out,fun i y hi hy=>?_⟩
   by_cases e:i=j;·subst e;rw[HR.2.2.1] at hy;cases hy;exact HR.2.1
   exact HJ.2.1 i y (by omega) hy
  omega
 rw[au d2] at Y;have b1:=oH (au (P:=fT f) fun h=>d2 (HO.1 (HE.1 h k b HB.1) x (mG hx)));have HR:=J2 Y b4;clear Y d2 hx R b4;go_wp2_with fail;refine(HR.1 _ (HR.2 _)).mono ?_;rintro e w3 ⟨rfl,b0⟩;have H3:=oH ((HJ.1.alloc _).trans b0);clear b0 z0 z1 z2 z3 z4 z5 z6 z7 z8;go_wp2_with fail;go_ret2;exact⟨by rw[b1.out,pG b1.out];rfl,(HA.2.2.trans b3.out).trans H3.out⟩)
 obtain rfl:j=b.code.length:=by omega
 have y1:=HX.out wr HJ.1 1;simp only[gc] at y1;go_wp2_with fail;go_roundg (f.Ng.length-(k+1))
 ·refine⟨k+1,by omega,rfl,by go_num,?_,by rw[HB.2.1];omega,(HA.1.trans b3.out).trans HJ.1,fun i b' hi c6=>?_⟩;·rw[HB.2.1];go_num
  by_cases e:i=k;·subst e;rw[HB.1] at c6;cases c6;exact HO.2 fun x hx=>by obtain⟨i,hi⟩:=cY.1 hx;exact HJ.2.1 i x (lS.1 hi).1 hi
  exact HA.2.1 i b' (by omega) c6
 omega)
 have a6:aB b.name=false:=by simpa using d1
 rw[a6] at I;have b1:=oH (au (P:=fT f) fun h=>d1 (HE.1 h k b HB.1).1);have HN:=oH I;clear I d1 a6 c4;go_wp2_with fail;refine(HN.out _).mono ?_;rintro e w1 ⟨rfl,C⟩;have H2:=oH C;clear C z0 z1 z2;go_wp2_with fail;go_ret2;exact⟨by rw[b1.out,pG b1.out];rfl,(HA.2.2.trans b3.out).trans H2.out⟩)
 obtain rfl:k=f.Ng.length:=by omega
 have HY:=oH (av (P:=fT f) (HE.2 fun i b hb=>HA.2.1 i b (lS.1 hb).1 hb));go_wp2_with fail;go_ret2;exact⟨by rw[HY.out,vh HY.out];rfl,HA.2.2⟩
theorem CE {S:Nat→Prop}{w:World}{v:Value}{l:List eS}(h:mJ S w v l):∀k,lw (l.take k)≤k*1200000000000:=by
 intro k;induction k with
 |zero=>simp[lw]
 |succ k C=>
  cases j:l[k]? with
  |none=>rw[cU,j,Option.toList_none,List.append_nil];exact fR C (Nat.mul_le_mul_right _ (Nat.le_succ k))
  |some b=>rw[rp j];obtain⟨a,cap,rfl,_,_,_,h⟩:=h;obtain⟨_,_,cs,_,_,_,_,I,rfl,o,_⟩:=h k b j;obtain⟨_,_,_,_,_,J,_⟩:=o;omega
theorem FJ {S:Nat→Prop}{w:World}{v:Value}{f:cD}(h:mJ S w v f.Ng):ox f≤76800000000000:=by
 have o:=CE h f.Ng.length;by_cases j:fT f
 ·rw[vh (av j)]
  have:=j.2.2.2.2.1;omega
 rw[pG (au j)];omega
def jI (l:List cD):Nat:=(l.map gl).sum
theorem Bt {l:List cD}{k:Nat}{b:cD}(h:l[k]? =some b):jI (l.take (k+1))=jI (l.take k)+gl b:=by unfold jI;rw[cU,h];simp
theorem Hq (l:List cD)(k:Nat):jI (l.take k)≤jI l:=by
 have:jI l=jI (l.take k)+jI (l.drop k):=by
  conv=>lhs;rw[←List.take_append_drop k l]
  unfold jI;rw[ic,List.sum_append]
 omega
theorem yU (S:Nat→Prop)(va vf:Value)(q:dN)(w:World)(h1:Kx S w va q.Nd)(h2:BC S w vf q.Nf)(hl:gz w):
 Calls prog 81 #[.agg #[va,vf]] w fun e w'=>e=.returned (.bool (pB (fV q)))∧aa All w w':=by
 have hA:=fun wn (hk:aa All w wn)=>lJ.keep (S:=S) hk.all h1;have hB:=fun wn (hk:aa All w wn)=>iX.keep (S:=S) hk.all h2;have hL:=fun wn (hk:aa All w wn)=>hl.keep hk;obtain⟨A1,c1,rfl,l1,l2,l3,_⟩:=h1;obtain⟨A2,c2,rfl,m1,m2,m3,_⟩:=h2;unfold maxLen at m2 l2;have b8:aa All w (w.alloc (.cells #[.slice A1 q.Nd.length c1,.slice A2 q.Nf.length c2] 81)):=(aa.refl All w).alloc _;have b9:∀wn,aa All (w.alloc (.cells #[.slice A1 q.Nd.length c1,.slice A2 q.Nf.length c2] 81)) wn→∀i,wn.cell? ⟨w.heap.size,i,none⟩=(#[.slice A1 q.Nd.length c1,.slice A2 q.Nf.length c2]:Array Value)[i]?:=fun wn h i=>sh h i;have HC:=J5 hA hB hL b8 b9;clear hA hB hL b8 b9 hl;go_enter func81,ntmps81;by_cases d1:q.Nd.length≤16;·(
 have t1:decide ((16:Int)<(q.Nd.length:Int))=false:=by simp;omega
 by_cases d2:q.Nf.length≤64;·(
 have t2:decide ((64:Int)<(q.Nf.length:Int))=false:=by simp;omega
 go_wp2_with fail;go_loopg [23] q.Nd.length (fun g c9 wr=>∃k:Nat,k≤q.Nd.length∧g=q.Nd.length-k∧c9=.int .i64 k∧aa All (w.alloc (.cells #[.slice A1 q.Nd.length c1,.slice A2 q.Nf.length c2] 81)) wr∧∀(i:Nat) a,i<k→q.Nd[i]? =some a→xA a);·exact⟨0,by omega,by omega,rfl,kR,fun i a hi=>by omega⟩
 obtain⟨k,hk,rfl,rfl,a1,R⟩:=hrel;have HA:=J3 a1 R (HC.2.2.2.1.trans a1);clear a1 R;by_cases b5:k<q.Nd.length;·(
 obtain⟨a,ha⟩:=eG b5;obtain⟨bb,o,cs,rfl,_,_,Y,rfl,hz,_⟩:=aZ (HC.1 wr HA.2.2) ha;have z0:=Y 0 _ rfl;rw[dj] at z0;have z1:=Y 1 _ rfl;have z2:=Y 2 _ rfl;have z3:=Y 3 _ rfl;have hE:xA a↔aB a.name=true∧aB a.level=true∧1≤a.size∧a.size≤256:=Iff.rfl;have a6:¬xA a→pB (fV q)=false:=fun h=>au fun h'=>h (h'.2.2.1 a (mG ha));have b0:=fun wn=>gT a.name wn;have b1:=fun wn=>gT a.level wn;have b3:∀wn,aa All (wr.alloc (.cells #[.string a.name,.int .i64 a.size,.string a.level,.int .i64 a.Nj] 144)) wn→∀i,wn.cell? ⟨wr.heap.size,i,none⟩=(#[.string a.name,.int .i64 a.size,.string a.level,.int .i64 a.Nj]:Array Value)[i]?:=fun wn h i=>sh h i;have c0:aa All wr (wr.alloc (.cells #[.string a.name,.int .i64 a.size,.string a.level,.int .i64 a.Nj] 144)):=kR.alloc _;have HX:=J3 b3 c0 ha;clear Y b3 c0 ha;by_cases e1:aB a.name=true;·(
 rw[e1] at b0;by_cases e2:aB a.level=true;·(
 rw[e2] at b1;have HN:=J2 b0 b1;clear b0 b1;by_cases e3:1≤a.size;·(
 have u3:decide (a.size<1)=false:=by simp;omega
 by_cases e4:a.size≤256;·(
 have u4:decide (256<a.size)=false:=by simp;omega
 have HY:=oH (hE.2 ⟨e1,e2,e3,e4⟩);clear e1 e2 hE a6;go_wp2_with fail;refine(HN.1 _).mono ?_;rintro e w1 ⟨rfl,j⟩;have y2:=HX.1 w1 j 2;simp only[gc] at y2;have H1:=oH j;clear j z0 z1 z2 z3;go_wp2_with fail;refine(HN.2 _).mono ?_;rintro e w2 ⟨rfl,J⟩;have y1:=HX.1 w2 (H1.out.trans J) 1;simp only[gc] at y1;have H2:=oH (H1.out.trans J);clear J y2;go_wp2_with fail;go_roundg (q.Nd.length-(k+1))
 ·refine⟨k+1,by omega,rfl,by go_num,(HA.1.trans HX.2.1).trans H2.out,fun i b hi hb=>?_⟩
  by_cases e:i=k;·subst e;rw[HX.2.2] at hb;cases hb;exact HY.out
  exact HA.2.1 i b (by omega) hb
 omega)
 have u4:decide (256<a.size)=true:=by simp;omega
 have I:=oH (a6 fun h=>e4 (hE.1 h).2.2.2);clear e1 e2 hE a6;go_wp2_with fail;refine(HN.1 _).mono ?_;rintro e w1 ⟨rfl,j⟩;have y2:=HX.1 w1 j 2;simp only[gc] at y2;have H1:=oH j;clear j z0 z1 z2 z3;go_wp2_with fail;refine(HN.2 _).mono ?_;rintro e w2 ⟨rfl,J⟩;have y1:=HX.1 w2 (H1.out.trans J) 1;simp only[gc] at y1;have H2:=oH (H1.out.trans J);clear J y2;go_wp2_with fail;go_ret;exact⟨by rw[I.out];rfl,(HA.2.2.trans HX.2.1).trans H2.out⟩)
 have u3:decide (a.size<1)=true:=by simp;omega
 have I:=oH (a6 fun h=>e3 (hE.1 h).2.2.1);clear e1 e2 hE a6;go_wp2_with fail;refine(HN.1 _).mono ?_;rintro e w1 ⟨rfl,j⟩;have y2:=HX.1 w1 j 2;simp only[gc] at y2;have H1:=oH j;clear j z0 z1 z2 z3;go_wp2_with fail;refine(HN.2 _).mono ?_;rintro e w2 ⟨rfl,J⟩;have y1:=HX.1 w2 (H1.out.trans J) 1;simp only[gc] at y1;have H2:=oH (H1.out.trans J);clear J y2;go_wp2_with fail;go_ret;exact⟨by rw[I.out];rfl,(HA.2.2.trans HX.2.1).trans H2.out⟩)
 have c3:aB a.level=false:=by simpa using e2
 rw[c3] at b1;have HN:=J2 b0 b1;have I:=oH (a6 fun h=>e2 (hE.1 h).2.1);clear b0 b1 e1 e2 c3 hE a6;go_wp2_with fail;refine(HN.1 _).mono ?_;rintro e w1 ⟨rfl,j⟩;have y2:=HX.1 w1 j 2;simp only[gc] at y2;have H1:=oH j;clear j z0 z1 z2 z3;go_wp2_with fail;refine(HN.2 _).mono ?_;rintro e w2 ⟨rfl,J⟩;have H2:=oH (H1.out.trans J);clear J y2;go_wp2_with fail;go_ret;exact⟨by rw[I.out];rfl,(HA.2.2.trans HX.2.1).trans H2.out⟩)
 have c4:aB a.name=false:=by simpa using e1
 rw[c4] at b0;have HN:=oH b0;have I:=oH (a6 fun h=>e1 (hE.1 h).1);clear b0 b1 e1 c4 hE a6;go_wp2_with fail;refine(HN.out _).mono ?_;rintro e w1 ⟨rfl,j⟩;have H1:=oH j;clear j z0 z1 z2 z3;go_wp2_with fail;go_ret;exact⟨by rw[I.out];rfl,(HA.2.2.trans HX.2.1).trans H1.out⟩)
 obtain rfl:k=q.Nd.length:=by omega
 have c5:∀a∈q.Nd,xA a:=fun a ha=>by obtain⟨i,hi⟩:=cY.1 ha;exact HA.2.1 i a (lS.1 hi).1 hi
 have HP:=oH (show fV q↔(∀f∈q.Nf,fT f)∧jI q.Nf≤4096 from⟨fun h=>h.2.2.2,fun h=>⟨d1,d2,c5,h.1,h.2⟩⟩);have y1:=HC.2.2.2.2 wr HA.1 1;simp only[gc] at y1;obtain⟨wo,rfl⟩:=eQ wr;clear c5;go_wp2_with fail;clear y1;go_loopg [5,51] q.Nf.length (fun g s5 d7 wr=>∃k:Nat,k≤q.Nf.length∧g=q.Nf.length-k∧d7=.int .i64 k∧s5=.int .i64 (jI (q.Nf.take k):Nat)∧jI (q.Nf.take k)≤4096∧aa All w wr∧∀(i:Nat) f,i<k→q.Nf[i]? =some f→fT f);·exact⟨0,by omega,by omega,rfl,rfl,by simp[jI],HA.2.2,fun i f hi=>by omega⟩
 obtain⟨k,hk,rfl,rfl,rfl,b4,a1,R⟩:=hrel;have HF:=J2 a1 R;by_cases b5:k<q.Nf.length;·(
 obtain⟨f,hf⟩:=eG b5;obtain⟨bb,o,cs,rfl,_,_,Y,vp,vb,rfl,c6,b6,_⟩:=aZ (HC.2.1 wr a1) hf;have z0:=Y 0 _ rfl;rw[dj] at z0;have z1:=Y 1 _ rfl;have z2:=Y 2 _ rfl;have z3:=Y 3 _ rfl;have d8:=FJ b6;have b2:=Bt hf;have d9:=Hq q.Nf (k+1);have C:=AP S vp vb f (wr.alloc (.cells #[.string f.name,vp,vb,.int .i64 f.Nj] 148)) (ax.keep (kR.alloc _) c6) (eH.keep (kR.alloc _) b6) (HC.2.2.1 _ (a1.alloc _));obtain⟨a7,c7,rfl,_⟩:=c6;obtain⟨a8,c8,rfl,_⟩:=b6;clear a1 R Y;by_cases e1:fT f;·(
 have b7:ox f=gl f:=by unfold ox;rw[av e1];rfl
 rw[av e1] at C;by_cases e2:jI (q.Nf.take (k+1))≤4096;·(
 have u2:decide ((4096:Int)<(jI (q.Nf.take k):Int)+(ox f:Int))=false:=by simp;omega
 have HN:=J5 C hf e1 b2 b7;clear C hf e1 b2 b7;go_wp2_with fail;refine HN.1.mono ?_;rintro e w1 ⟨rfl,j⟩;have H1:=oH ((HF.1.alloc _).trans j);clear j z0 z1 z2 z3;go_wp2_with fail;go_roundg (q.Nf.length-(k+1))
 ·refine⟨k+1,by omega,rfl,by go_num,?_,e2,H1.out,fun i b hi hb=>?_⟩;·rw[HN.2.2.2.1,←HN.2.2.2.2];go_num
  by_cases e:i=k;·subst e;rw[HN.2.1] at hb;cases hb;exact HN.2.2.1
  exact HF.2 i b (by omega) hb
 omega)
 have u2:decide ((4096:Int)<(jI (q.Nf.take k):Int)+(ox f:Int))=true:=by simp;omega
 have I:=oH (au (P:=fV q) fun h=>by have:=(HP.1 h).2;omega);have HN:=oH C;clear C hf e1 b2 b7;go_wp2_with fail;refine HN.out.mono ?_;rintro e w1 ⟨rfl,j⟩;have H1:=oH ((HF.1.alloc _).trans j);clear j z0 z1 z2 z3;go_wp2_with fail;go_ret;exact⟨by rw[I.out];rfl,H1.out⟩)
 rw[au e1] at C;have I:=oH (au (P:=fV q) fun h=>e1 ((HP.1 h).1 f (mG hf)));have HN:=oH C;clear C hf e1 b2;go_wp2_with fail;refine HN.out.mono ?_;rintro e w1 ⟨rfl,j⟩;have H1:=oH ((HF.1.alloc _).trans j);clear j z0 z1 z2 z3;go_wp2_with fail;go_ret;exact⟨by rw[I.out];rfl,H1.out⟩)
 obtain rfl:k=q.Nf.length:=by omega
 rw[dZ] at b4;have HY:=oH (av (P:=fV q) (HP.2 ⟨fun f hf=>by obtain⟨i,hi⟩:=cY.1 hf;exact R i f (lS.1 hi).1 hi,b4⟩));clear a1 R;go_wp2_with fail;go_ret;exact⟨by rw[HY.out];rfl,HF.1⟩)
 have t2:decide ((64:Int)<(q.Nf.length:Int))=true:=by simp;omega
 have I:=oH (au (P:=fV q) fun h=>d2 h.2.1);go_wp2_with fail;go_ret;exact⟨by rw[I.out];rfl,HC.2.2.2.1⟩)
 have t1:decide ((16:Int)<(q.Nd.length:Int))=true:=by simp;omega
 have I:=oH (au (P:=fV q) fun h=>d1 h.1);go_wp2_with fail;go_ret;exact⟨by rw[I.out];rfl,HC.2.2.2.1⟩
end Go.Proofs.YtccbbkopmlnkpaaGreatDoor
