/- Part 29 of the proof of CallsShallow (its last part says what is proved). No condition. -/
import Derived.Test.YtncdbjponknakaaGreatDoorK10
namespace Go.Proofs.YtncdbjponknakaaGreatDoor
set_option maxRecDepth 100000
set_option maxHeartbeats 8000000
open Go.RowKit Go.Proofs.Tryz
theorem ng (k:Nat)(w:World):Calls prog 166 #[.int .u8 k] w fun e j=>e=.returned (.bool (decide (11≤k)))∧w=j:=by
 by_cases h:11≤k
 ·have t:decide ((11:Int)≤(k:Int))=true:=by simp;omega
  rw[bL h];have H:=oH h;clear h;go_enter func166,ntmps166;go_wp2;go_ret;exact⟨rfl,rfl⟩
 have t:decide ((11:Int)≤(k:Int))=false:=by simp;omega
 rw[cI h];have H:=oH h;clear h;go_enter func166,ntmps166;go_wp2;go_ret;exact⟨rfl,rfl⟩
def Ky (l:List cX)(i:Nat)(x:cX):Prop:=(11≤x.kind→i+1=l.length)∧(x.kind=3→i=0∨∃y,l[i-1]? =some y∧y.kind=3)
def vZ (l:List cX):Prop:=∃x,l[l.length-1]? =some x∧11≤x.kind
theorem nz {l:List cX}:mQ (l.map fun x=>x.kind)↔vZ l∧∀(i:Nat) x,l[i]? =some x→Ky l i x:=by
 constructor;·(
 rintro⟨Z,h1,h2⟩;have o:0<l.length:=by
  rcases l with _|⟨a,l⟩;·exact absurd rfl Z
  simp
 refine⟨?_,fun i x j=>⟨fun h=>?_,fun h=>?_⟩⟩
 ·obtain⟨x,j⟩:∃x,l[l.length-1]? =some x:=⟨_,lG (by omega)⟩
  exact⟨x,j,(h1 (l.length-1) x.kind (by rw[cL,j];rfl)).2 (by rw[ce];omega)⟩
 ·have:=(h1 i x.kind (by rw[cL,j];rfl)).1 h
  rwa [ce] at this
 rcases i with _|i;·exact .inl rfl
 have:=h2 i (by rw[cL,j];exact congrArg some h);rw[cL] at this;obtain⟨y,C,J⟩:=oE.1 this;exact .inr ⟨y,by simpa using C,J⟩)
 rintro⟨⟨z,hz,J⟩,h⟩;have o:0<l.length:=by have:=(lS.1 hz).1;omega
 refine⟨fun e=>?_,fun i k hi=>?_,fun i hi=>?_⟩;·rw[List.map_eq_nil_iff] at e;subst e;simp at o
 ·rw[cL] at hi;obtain⟨x,j,rfl⟩:=oE.1 hi;rw[ce];refine⟨(h i x j).1,fun e=>?_⟩;have e':i=l.length-1:=by omega
  subst e';rw[hz] at j;cases j;exact J
 rw[cL] at hi;obtain⟨x,j,R⟩:=oE.1 hi;rcases (h (i+1) x j).2 R with Z|⟨y,C,Y⟩;·omega
 rw[cL,show l[i]? =some y by simpa using C];exact congrArg some Y
def Cs (p:aH)(q:dN)(f:cD)(b:eS)(w:World)(e:Ending)(w':World):Prop:=
 ql (mQ (b.code.map fun x=>x.kind)∧∀x∈b.code,mO p q f x) (fun e w'=>aa All w w'∧∃u,e=.returned u∧tZ (fun b=>w.heap.size≤b∧b<w'.heap.size) w' u (b.code.map (pg p q f))) w e w'
theorem FT:(prog.info? 47).map (fun i=>(i.zero,i.size,i.bytes))=some (some (.agg #[.int .u8 0,.int .u8 0,.int .i64 0,.int .i64 0,.int .i64 0,.slice none 0 0,.slice none 0 0,.int .i64 0,.int .i64 0]),9,96):=by kernel_rfl
abbrev Kb:=dR 9 47 KD
theorem CD (S:Nat→Prop)(br:Nat)(p:aH)(q:dN)(f:cD)(b:eS)(b1 b2:Nat)(bv:Value)(w:World)(hr:rV S w br p q)(i5:cK w b1 (cn f))(i6:cK w b2 (bh f))(i7:Im S w bv b.code)(j0:aV b.Nj)
 (hI:∀x∈b.code,aV (dv p q f x)∧aV (dy f x)) (hd:∀x∈b.code,x.dst=gR∨x.dst∈bh f) (hz:∀x∈b.code,x.args.length≤1048576∧x.Nh.length≤1048576) (hv:(bh f).length≤1000000000) (hb:(cn f).length≤1000000000) (hl:b.code.length≤1048576):
 Calls prog 143 #[.pointer (some ⟨br,0,none⟩),.agg #[.map (some b1),.map (some b2)],.agg #[.string b.name,bv,.int .i64 b.Nj]] w (Cs p q f b w):=by
 obtain⟨iO,j1,j2,j3,j4⟩:=info_parts FT;have h2:=J4 j1 j2 j3 j4;clear j1 j2 j3 j4;have hV:=it.la i7;obtain⟨cA,cc,rfl,u1,u2,u3,_⟩:=i7;unfold maxLen at u2;obtain⟨W1,c2⟩:=eQ ((w.alloc (.cells #[.map (some b1),.map (some b2)] 249)).alloc (.cells #[.string b.name,.slice cA b.code.length cc,.int .i64 b.Nj] 229));have j5:W1.heap.size=w.heap.size+2:=by rw[c2];simp
 have j6:aa All w W1:=by rw[c2];exact(kR.alloc _).alloc _
 have bS:al W1 w.heap.size 249 #[.map (some b1),.map (some b2)]:=by rw[c2];exact(al.new _ _ _).alloc _
 have bB:al W1 (w.heap.size+1) 229 #[.string b.name,.slice cA b.code.length cc,.int .i64 b.Nj]:=by rw[c2];exact ac (by simp)
 have c1:=bB.cell 1;simp only[gc] at c1;have HW:=J5 c2 j5 j6 bS bB;have HM:=J8 hr i5 i6 hV j0 hI hd hz;clear c2 j5 j6 bS bB hr i5 i6 hV j0 hI hd hz;go_enter func143,ntmps143;go_upto_region 1 with fail;rw[←HW.1];go_upto_region 2 with fail;go_cut [] (fun wx=>aa All W1 wx∧vZ b.code)
 case first=>(
 have c3:=oH HM.2.2.2.2.1;rcases Nat.eq_zero_or_pos b.code.length with h0|h0;·(
 have HN:=oH (show¬vZ b.code from fun⟨x,hx,_⟩=>by have:=(lS.1 hx).1;omega);have HB:=oH (show∀wn,aa All W1 wn→wn.cell? ⟨w.heap.size+1,1,none⟩=some (.slice cA b.code.length cc)∧wn.cell? ⟨w.heap.size+1,2,none⟩=some (.int .i64 b.Nj)∧True from fun wn l=>⟨(HW.2.2.2.2.kept l trivial).cell 1,(HW.2.2.2.2.kept l trivial).cell 2,trivial⟩);have t0:decide ((1:Int)≤(b.code.length:Int))=false:=by simp;omega
 have m6:=oH h0;clear h0;refine bq 15 (aa All W1) [] (fun _ _ _=>True) (fun i=>if i=14 then some (·=.tuple #[]) else none) (fun i=>decide (i=14)) (fun ch wn=>∃a n:Int,n≠0∧aV a∧aV n∧ch=[{v:=.iface 236 (.agg #[.int .i64 a,.int .i64 n]),recovered:=false}]∧aa All W1 wn) (by kernel_rfl) (by kernel_rfl) (by kernel_rfl) (by kernel_rfl) kR.drew ?_ ?_
 ·rintro a ch wn ⟨an,nn,a7,a8,b0,rfl,b3⟩ b4
  exact⟨b4,.inr ⟨fun h=>HN.out (nz.1 h.1).1,⟨an,nn,a7,a8,b0,rfl⟩,(HW.2.2.1).trans b3⟩⟩
 simp only[tK];iterate 3 refine O0 ?_
 iterate 8 refine O2 ?_
 iterate 2 refine O0 ?_
 refine O4 HB.out ?_;refine O7 (.tuple #[]) (fun wn l C=>⟨_,_,by(go_simp<;>with_reducible rfl),(fP b.Nj 15 wn).mono fun e w' h=>⟨_,h.1,b.Nj,15,by decide,c3.out,by unfold aV;omega,rfl,h.2▸l⟩⟩) ?_;exact dG)
 obtain⟨m,hm⟩:∃m:Nat,b.code.length=m+1:=⟨b.code.length-1,by omega⟩;obtain⟨x,hx⟩:∃x,b.code[m]? =some x:=⟨_,lG (by omega)⟩;obtain⟨xb,xo,l2,rfl,l3,j7,R,xa,xf,rfl,_,_,j8⟩:=aZ (HM.2.2.2.1 W1 HW.2.2.1) hx;have z0:=R 0 _ rfl;rw[dj] at z0;have HB:=oH (show∀wn,aa All W1 wn→wn.cell? ⟨w.heap.size+1,1,none⟩=some (.slice (some ⟨xb,xo,none⟩) b.code.length cc)∧wn.cell? ⟨w.heap.size+1,2,none⟩=some (.int .i64 b.Nj)∧wn.cell? ⟨xb,xo+m*9,none⟩=some (.int .u8 x.kind) from fun wn l=>⟨(HW.2.2.2.2.kept l trivial).cell 1,(HW.2.2.2.2.kept l trivial).cell 2,l.cell trivial z0⟩);clear R z0;have t0:decide ((1:Int)≤(b.code.length:Int))=true:=by simp;omega
 have tm:(if(b.code.length:Int)-1<0 then(0:Int) else(b.code.length:Int)-1)=(m:Int):=by split<;>omega
 have tl:m<b.code.length:=by omega
 have hx:b.code[b.code.length-1]? =some x:=by rw[show b.code.length-1=m by omega];exact hx
 by_cases l:11≤x.kind
 ·have HX:=J2 hx l;have c4:=oH (fun wn=>ng x.kind wn);rw[bL l] at c4;have l4:=oH hm;clear hx l hm;refine R0 15 W1 (fun i=>if i=14 then some (·=.tuple #[]) else if i=10 then some (·=.bool true) else none) ?_;iterate 4 refine O0 ?_
  refine O4 HB.out ?_;iterate 4 refine O0 ?_
  refine O4 HB.out ?_;refine O5 (v:=.bool true) (fun wn l C=>⟨_,_,by(go_simp<;>with_reducible rfl),(c4.out wn).mono fun e w' h=>⟨h.1,h.2▸l,fun _ h=>by cases h⟩⟩) ?_;iterate 2 refine O0 ?_
  refine O4 HB.out ?_;refine O5 (v:=.tuple #[]) (fun wn l C=>⟨_,_,by(go_simp<;>with_reducible rfl),(dX b.Nj 15 wn).mono fun e w' h=>⟨h.1,h.2▸l,fun _ h=>by cases h⟩⟩) ?_;refine aG fun wt J hF=>?_;have HT:=oH J;clear J hF;simp only[dK];go_wp2_with fail;go_meet;exact⟨HT.out,x,HX.1,HX.2⟩
 have HX:=J2 hx l;have c4:=oH (fun wn=>ng x.kind wn);rw[cI l] at c4;have l4:=oH hm;clear hx l hm;have HN:=oH (show¬vZ b.code from fun⟨y,hy,l5⟩=>by have h1:=HX.1;rw[h1] at hy;cases hy;exact HX.2 l5);refine bq 15 (aa All W1) [] (fun _ _ _=>True) (fun i=>if i=14 then some (·=.tuple #[]) else if i=10 then some (·=.bool false) else none) (fun i=>decide (i=14)) (fun ch wn=>∃a n:Int,n≠0∧aV a∧aV n∧ch=[{v:=.iface 236 (.agg #[.int .i64 a,.int .i64 n]),recovered:=false}]∧aa All W1 wn) (by kernel_rfl) (by kernel_rfl) (by kernel_rfl) (by kernel_rfl) kR.drew ?_ ?_
 ·rintro a ch wn ⟨an,nn,a7,a8,b0,rfl,b3⟩ b4
  exact⟨b4,.inr ⟨fun h=>HN.out (nz.1 h.1).1,⟨an,nn,a7,a8,b0,rfl⟩,(HW.2.2.1).trans b3⟩⟩
 simp only[tK];iterate 4 refine O0 ?_
 refine O4 HB.out ?_;iterate 4 refine O0 ?_
 refine O4 HB.out ?_;refine O5 (v:=.bool false) (fun wn l C=>⟨_,_,by(go_simp<;>with_reducible rfl),(c4.out wn).mono fun e w' h=>⟨h.1,h.2▸l,fun _ h=>by cases h⟩⟩) ?_;iterate 2 refine O0 ?_
 refine O4 HB.out ?_;refine O7 (.tuple #[]) (fun wn l C=>⟨_,_,by(go_simp<;>with_reducible rfl),(fP b.Nj 15 wn).mono fun e w' h=>⟨_,h.1,b.Nj,15,by decide,c3.out,by unfold aV;omega,rfl,h.2▸l⟩⟩) ?_;exact dG)
 obtain⟨h6,c5⟩:=hcut;obtain⟨wz,rfl⟩:=eQ wc;have d1:=(HW.2.2.2.2.kept h6 trivial).cell 1;simp only[gc] at d1;have HC:=J2 h6 c5;clear h6 c5 c1;go_wp2_with fail;go_loopg [8,33] b.code.length (fun g s8 l6 wr=>∃j:Nat,j≤b.code.length∧g=b.code.length-j∧l6=.int .i64 j∧Kb wz.heap.size wr s8 ((b.code.map (pg p q f)).take j)∧aa All wz wr∧∀(i:Nat) x,i<j→b.code[i]? =some x→Ky b.code i x∧mO p q f x);·exact⟨0,by omega,by omega,rfl,dR.nil,kR,fun i a h=>by omega⟩
 obtain⟨j,hj,rfl,rfl,Z,b5,b8⟩:=hrel;obtain⟨E,ep,rfl⟩:=Z.form;have h9:((b.code.map (pg p q f)).take j).length=j:=by rw[fN,ce];omega
 rw[h9] at Z⊢;have c6:aa All w wr:=(HW.2.2.1.trans HC.1).trans b5;by_cases l7:j<b.code.length;·(
 obtain⟨x,hx⟩:=eG l7;have c7:=mG hx;have hV:=HM.2.2.2.1 wr c6;obtain⟨xb,xo,l2,rfl,l3,j7,R,xa,xf,rfl,j9,k0,j8⟩:=aZ hV hx;have k1:=ax.la j9;have k2:=ax.la k0;obtain⟨ua,uc,rfl,_⟩:=j9;obtain⟨va,vc,rfl,_⟩:=k0;have z0:=R 0 _ rfl;rw[dj] at z0;have z1:=R 1 _ rfl;have z2:=R 2 _ rfl;have z3:=R 3 _ rfl;have z4:=R 4 _ rfl;have z5:=R 5 _ rfl;have z6:=R 6 _ rfl;have z7:=R 7 _ rfl;have z8:=R 8 _ rfl;obtain⟨W2,h4⟩:=eQ (wr.alloc (.cells #[.int .u8 x.kind,.int .u8 x.op,.string x.dst,.string x.ref,.string x.Ni,.slice ua x.args.length uc,.slice va x.Nh.length vc,.int .i64 x.num,.int .i64 x.Nj] 231));have b6:aa All wr W2:=by rw[h4];exact kR.alloc _
 have k3:al W2 wr.heap.size 231 #[.int .u8 x.kind,.int .u8 x.op,.string x.dst,.string x.ref,.string x.Ni,.slice ua x.args.length uc,.slice va x.Nh.length vc,.int .i64 x.num,.int .i64 x.Nj]:=by rw[h4];exact ac rfl
 have k4:=oH (show∀y,0<j→b.code[j-1]? =some y→∀wn,aa All wr wn→wn.cell? ⟨xb,xo+(j-1)*9,none⟩=some (.int .u8 y.kind) from fun y _ hy wn l=>by obtain⟨b',o',m7,he,_,_,l8,a',f',rfl,_⟩:=aZ hV hy;injection he with he;injection he with l9 m0;subst l9 m0;have:=l8 0 _ rfl;rw[dj] at this;exact l.cell trivial this);have o:=oH (show∀wn,aa All W2 wn→∀i,wn.cell? ⟨wr.heap.size,i,none⟩=(#[.int .u8 x.kind,.int .u8 x.op,.string x.dst,.string x.ref,.string x.Ni,.slice ua x.args.length uc,.slice va x.Nh.length vc,.int .i64 x.num,.int .i64 x.Nj]:Array Value)[i]? from fun wn l i=>(k3.kept l trivial).cell i);have i0:=oH (show∀wn,aa All W2 wn→wn.cell? ⟨w.heap.size+1,1,none⟩=some (.slice (some ⟨xb,xo,none⟩) b.code.length cc)∧wn.cell? ⟨w.heap.size,0,none⟩=some (.map (some b1))∧wn.cell? ⟨w.heap.size,1,none⟩=some (.map (some b2)) from fun wn l=>⟨((((HW.2.2.2.2.kept HC.1 trivial).kept b5 trivial).kept b6 trivial).kept l trivial).cell 1,((((HW.2.2.2.1.kept HC.1 trivial).kept b5 trivial).kept b6 trivial).kept l trivial).cell 0,((((HW.2.2.2.1.kept HC.1 trivial).kept b5 trivial).kept b6 trivial).kept l trivial).cell 1⟩);have HR:=J10 Z b5 b8 c6 hx h4 b6 k1 k2 j8;clear Z b5 b8 c6 hx h4 b6 k1 k2 hV R k3;go_upto_region 7 with fail;rw[←HR.2.2.2.2.2.1];have c3:=oH HR.2.2.2.2.2.2.2.2.2.Nj;go_cut [] (fun wx=>aa All W2 wx∧(11≤x.kind→j+1=b.code.length))
 case first=>(
 by_cases l:11≤x.kind;·(
 by_cases c8:j+1=b.code.length
 ·have HE:=oH (fun wn=>ng x.kind wn);rw[bL l] at HE;have te:((j:Int)==(b.code.length:Int)-1)=true:=by rw[cy];omega
  have HK:=oH l;clear l;have k5:=oH c8;clear c8;refine R0 12 W2 (fun i=>if i=11 then some (·=.tuple #[]) else if i=2 then some (·=.bool true) else none) ?_;refine O0 ?_;refine O3 (fun wn l C=>by(have e0:=o.out wn l 0;simp only[gc] at e0;go_simp;with_reducible rfl)) ?_;refine O5 (v:=.bool true) (fun wn l C=>⟨_,_,by(go_simp<;>with_reducible rfl),(HE.out wn).mono fun e w' h=>⟨h.1,h.2▸l,fun _ h=>by cases h⟩⟩) ?_;iterate 7 refine O0 ?_
  refine O3 (fun wn l C=>by(have e8:=o.out wn l 8;simp only[gc] at e8;go_simp;with_reducible rfl)) ?_;refine O5 (v:=.tuple #[]) (fun wn l C=>⟨_,_,by(go_simp<;>with_reducible rfl),(dX x.Nj 15 wn).mono fun e w' h=>⟨h.1,h.2▸l,fun _ h=>by cases h⟩⟩) ?_;refine aG fun wt J hF=>?_;have HT:=oH J;clear J hF;simp only[dK];go_wp2_with fail;go_meet;exact⟨HT.out,fun _=>k5.out⟩
 have HE:=oH (fun wn=>ng x.kind wn);rw[bL l] at HE;have te:((j:Int)==(b.code.length:Int)-1)=false:=by rw[bE];omega
 have HN:=oH (show¬mQ (b.code.map fun x=>x.kind) from fun h=>c8 (((nz.1 h).2 j x HR.2.2.2.2.1).1 l));have HK:=oH l;clear l;have k5:=oH c8;clear c8;refine bq 12 (aa All W2) [] (fun _ _ _=>True) (fun i=>if i=11 then some (·=.tuple #[]) else if i=2 then some (·=.bool true) else none) (fun i=>decide (i=11)) (fun ch wn=>∃a n:Int,n≠0∧aV a∧aV n∧ch=[{v:=.iface 236 (.agg #[.int .i64 a,.int .i64 n]),recovered:=false}]∧aa All W2 wn) (by kernel_rfl) (by kernel_rfl) (by kernel_rfl) (by kernel_rfl) kR.drew ?_ ?_
 ·rintro a ch wn ⟨an,nn,a7,a8,b0,rfl,b3⟩ b4
  exact⟨b4,.inr ⟨fun h=>HN.out h.1,⟨an,nn,a7,a8,b0,rfl⟩,(HR.2.2.2.1.trans HR.2.2.2.2.2.2.1).trans b3⟩⟩
 simp only[tK];refine O0 ?_;refine O3 (fun wn l C=>by(have e0:=o.out wn l 0;simp only[gc] at e0;go_simp;with_reducible rfl)) ?_;refine O5 (v:=.bool true) (fun wn l C=>⟨_,_,by(go_simp<;>with_reducible rfl),(HE.out wn).mono fun e w' h=>⟨h.1,h.2▸l,fun _ h=>by cases h⟩⟩) ?_;iterate 7 refine O0 ?_
 refine O3 (fun wn l C=>by(have e8:=o.out wn l 8;simp only[gc] at e8;go_simp;with_reducible rfl)) ?_;refine O7 (.tuple #[]) (fun wn l C=>⟨_,_,by(go_simp<;>with_reducible rfl),(fP x.Nj 15 wn).mono fun e w' h=>⟨_,h.1,x.Nj,15,by decide,c3.out,by unfold aV;omega,rfl,h.2▸l⟩⟩) ?_;exact dG)
 have HE:=oH (fun wn=>ng x.kind wn);rw[cI l] at HE;have HK:=oH l;clear l;refine R0 12 W2 (fun i=>if i=11 then some (·=.tuple #[]) else if i=2 then some (·=.bool false) else none) ?_;refine O0 ?_;refine O3 (fun wn l C=>by(have e0:=o.out wn l 0;simp only[gc] at e0;go_simp;with_reducible rfl)) ?_;refine O5 (v:=.bool false) (fun wn l C=>⟨_,_,by(go_simp<;>with_reducible rfl),(HE.out wn).mono fun e w' h=>⟨h.1,h.2▸l,fun _ h=>by cases h⟩⟩) ?_;iterate 2 refine O0 ?_
 iterate 3 refine O2 ?_
 iterate 2 refine O0 ?_
 refine O3 (fun wn l C=>by(have e8:=o.out wn l 8;simp only[gc] at e8;go_simp;with_reducible rfl)) ?_;refine O5 (v:=.tuple #[]) (fun wn l C=>⟨_,_,by(go_simp<;>with_reducible rfl),(dX x.Nj 15 wn).mono fun e w' h=>⟨h.1,h.2▸l,fun _ h=>by cases h⟩⟩) ?_;refine aG fun wt J hF=>?_;have HT:=oH J;clear J hF;simp only[dK];go_wp2_with fail;go_meet;exact⟨HT.out,fun h=>absurd h HK.out⟩)
 obtain⟨k6,h7⟩:=hcut;obtain⟨w7,rfl⟩:=eQ wc;have H7:=J2 k6 h7;clear k6 h7;go_upto_region 8 with fail;go_cut [] (fun wx=>aa All W2 wx∧(x.kind=3→j=0∨∃y,b.code[j-1]? =some y∧y.kind=3))
 case first=>(
 by_cases h3:x.kind=3;·(
 by_cases h5:j=0
 ·have t3:=wK x.kind 3 (by omega);have tz:((j:Int)==0)=true:=by rw[cy];omega
  have H3:=J2 h3 h5;clear h3 h5;refine R0 20 w7 (fun i=>if i=19 then some (·=.tuple #[]) else none) ?_;refine O0 ?_;refine O3 (fun wn l C=>by(have e0:=o.out wn (H7.1.trans l) 0;simp only[gc] at e0;go_simp;with_reducible rfl)) ?_;iterate 6 refine O0 ?_
  iterate 8 refine O2 ?_
  iterate 2 refine O0 ?_
  refine O3 (fun wn l C=>by(have e8:=o.out wn (H7.1.trans l) 8;simp only[gc] at e8;go_simp;with_reducible rfl)) ?_;refine O5 (v:=.tuple #[]) (fun wn l C=>⟨_,_,by(go_simp<;>with_reducible rfl),(dX x.Nj 18 wn).mono fun e w' h=>⟨h.1,h.2▸l,fun _ h=>by cases h⟩⟩) ?_;refine aG fun wt J hF=>?_;have HT:=oH J;clear J hF;simp only[dK];go_wp2_with fail;go_meet;exact⟨H7.1.trans HT.out,fun _=>.inl H3.2⟩
 obtain⟨y,hy⟩:∃y,b.code[j-1]? =some y:=⟨_,lG (by omega)⟩;by_cases C:y.kind=3;·(
 have t3:=wK x.kind 3 (by omega);have i1:=oH (k4.out y (by omega) hy);obtain⟨m,rfl⟩:∃m,j=m+1:=⟨j-1,by omega⟩;have tz:((m:Int)+1==0)=false:=by rw[bE];omega
 have tp:=yK y.kind 3 (by omega);have tm:m<b.code.length:=by omega
 have m1:m≤1048576:=by omega
 have tw:IntKind.i64.wrap (m:Int)=(m:Int):=by rw[IntKind.wrap_i64];omega
 have H3:=J3 h3 hy C;clear h3 hy C h5;refine R0 20 w7 (fun i=>if i=19 then some (·=.tuple #[]) else none) ?_;refine O0 ?_;refine O3 (fun wn l C=>by(have e0:=o.out wn (H7.1.trans l) 0;simp only[gc] at e0;go_simp;with_reducible rfl)) ?_;iterate 7 refine O0 ?_
 refine O3 (fun wn l C=>by(have e5:=(i0.out wn (H7.1.trans l)).1;go_simp;with_reducible rfl)) ?_;iterate 4 refine O0 ?_
 refine O3 (fun wn l C=>by(have e6:=i1.out wn (HR.2.2.2.2.2.2.1.trans (H7.1.trans l));rw[Nat.add_sub_cancel] at e6;go_simp;with_reducible rfl)) ?_;iterate 3 refine O0 ?_
 refine O3 (fun wn l C=>by(have e8:=o.out wn (H7.1.trans l) 8;simp only[gc] at e8;go_simp;with_reducible rfl)) ?_;refine O5 (v:=.tuple #[]) (fun wn l C=>⟨_,_,by(go_simp<;>with_reducible rfl),(dX x.Nj 18 wn).mono fun e w' h=>⟨h.1,h.2▸l,fun _ h=>by cases h⟩⟩) ?_;refine aG fun wt J hF=>?_;have HT:=oH J;clear J hF;simp only[dK];go_wp2_with fail;go_meet;exact⟨H7.1.trans HT.out,fun _=>.inr ⟨y,H3.2.1,H3.2.2⟩⟩)
 have t3:=wK x.kind 3 (by omega);have i1:=oH (k4.out y (by omega) hy);obtain⟨m,rfl⟩:∃m,j=m+1:=⟨j-1,by omega⟩;have tz:((m:Int)+1==0)=false:=by rw[bE];omega
 have tp:=nK y.kind 3 (by omega);have tm:m<b.code.length:=by omega
 have m1:m≤1048576:=by omega
 have tw:IntKind.i64.wrap (m:Int)=(m:Int):=by rw[IntKind.wrap_i64];omega
 have HN:=oH (show¬mQ (b.code.map fun x=>x.kind) from fun h=>by
  rcases ((nz.1 h).2 _ x HR.2.2.2.2.1).2 h3 with h0|⟨y2,k7,b6⟩;·omega
  rw[hy] at k7;cases k7;exact C b6)
 have H3:=J3 h3 hy C;clear h3 hy C h5;refine bq 20 (aa All w7) [] (fun _ _ _=>True) (fun i=>if i=19 then some (·=.tuple #[]) else none) (fun i=>decide (i=19)) (fun ch wn=>∃a n:Int,n≠0∧aV a∧aV n∧ch=[{v:=.iface 236 (.agg #[.int .i64 a,.int .i64 n]),recovered:=false}]∧aa All w7 wn) (by kernel_rfl) (by kernel_rfl) (by kernel_rfl) (by kernel_rfl) kR.drew ?_ ?_
 ·rintro a ch wn ⟨an,nn,a7,a8,b0,rfl,b3⟩ b4
  exact⟨b4,.inr ⟨fun h=>HN.out h.1,⟨an,nn,a7,a8,b0,rfl⟩,((HR.2.2.2.1.trans HR.2.2.2.2.2.2.1).trans H7.1).trans b3⟩⟩
 simp only[tK];refine O0 ?_;refine O3 (fun wn l C=>by(have e0:=o.out wn (H7.1.trans l) 0;simp only[gc] at e0;go_simp;with_reducible rfl)) ?_;iterate 7 refine O0 ?_
 refine O3 (fun wn l C=>by(have e5:=(i0.out wn (H7.1.trans l)).1;go_simp;with_reducible rfl)) ?_;iterate 4 refine O0 ?_
 refine O3 (fun wn l C=>by(have e6:=i1.out wn (HR.2.2.2.2.2.2.1.trans (H7.1.trans l));rw[Nat.add_sub_cancel] at e6;go_simp;with_reducible rfl)) ?_;iterate 3 refine O0 ?_
 refine O3 (fun wn l C=>by(have e8:=o.out wn (H7.1.trans l) 8;simp only[gc] at e8;go_simp;with_reducible rfl)) ?_;refine O7 (.tuple #[]) (fun wn l C=>⟨_,_,by(go_simp<;>with_reducible rfl),(fP x.Nj 18 wn).mono fun e w' h=>⟨_,h.1,x.Nj,18,by decide,c3.out,by unfold aV;omega,rfl,h.2▸l⟩⟩) ?_;exact dG)
 have t3:=mK x.kind 3 (by omega);have H3:=oH h3;clear h3;refine R0 20 w7 (fun i=>if i=19 then some (·=.tuple #[]) else none) ?_;refine O0 ?_;refine O3 (fun wn l C=>by(have e0:=o.out wn (H7.1.trans l) 0;simp only[gc] at e0;go_simp;with_reducible rfl)) ?_;iterate 2 refine O0 ?_
 iterate 2 refine O2 ?_
 iterate 2 refine O0 ?_
 iterate 8 refine O2 ?_
 iterate 2 refine O0 ?_
 refine O3 (fun wn l C=>by(have e8:=o.out wn (H7.1.trans l) 8;simp only[gc] at e8;go_simp;with_reducible rfl)) ?_;refine O5 (v:=.tuple #[]) (fun wn l C=>⟨_,_,by(go_simp<;>with_reducible rfl),(dX x.Nj 18 wn).mono fun e w' h=>⟨h.1,h.2▸l,fun _ h=>by cases h⟩⟩) ?_;refine aG fun wt J hF=>?_;have HT:=oH J;clear J hF;simp only[dK];go_wp2_with fail;go_meet;exact⟨H7.1.trans HT.out,fun h=>absurd h H3.out⟩)
 obtain⟨Y,h8⟩:=hcut;obtain⟨w8,rfl⟩:=eQ wc;have i2:=i0.out w8 Y;have s0:=i2.2.1;have s1:=i2.2.2;have e0:=o.out w8 Y 0;have e1:=o.out w8 Y 1;have e2:=o.out w8 Y 2;have e3:=o.out w8 Y 3;have e4:=o.out w8 Y 4;have e5:=o.out w8 Y 5;have e6:=o.out w8 Y 6;have e7:=o.out w8 Y 7;have e8:=o.out w8 Y 8;simp only[gc] at e0 e1 e2 e3 e4 e5 e6 e7 e8;have a1:aa All wr w8:=HR.2.2.2.2.2.2.1.trans Y;have a6:aa All w w8:=HR.2.2.2.1.trans a1;have k8:=Ls S br p q f x b1 b2 _ _ w8 (HM.1.keep a6) (HM.2.1.keep a6 trivial) (HM.2.2.1.keep a6 trivial) (HR.2.2.2.2.2.2.2.1 w8 a1) (HR.2.2.2.2.2.2.2.2.1 w8 a1) HR.2.2.2.2.2.2.2.2.2 (HM.2.2.2.2.2.1 x c7) (HM.2.2.2.2.2.2.1 x c7) (HM.2.2.2.2.2.2.2 x c7) hv hb;have H8:=J5 k8 a1 a6 h8 c7;clear i2 Y h8 k8 a1 a6 c7;go_wp2_with fail;refine H8.1.mono ?_;rintro e w9 (⟨c9,b7,dd,rr,ss,y1,y2,y3,v1,v2,v3,rfl,hE⟩|⟨c9,⟨an,nn,hn,ha,hi,rfl⟩,b7⟩)
 case inr=>have HS:=J5 c9 hn ha hi b7;clear c9 hn ha hi b7;go_wp2_with fail;exact⟨rfl,.inr ⟨fun h=>HS.1 (h.2 x H8.2.2.2.2),⟨an,nn,HS.2.1,HS.2.2.1,HS.2.2.2.1,rfl⟩,H8.2.2.1.trans HS.2.2.2.2⟩⟩
 obtain⟨W9,d7⟩:=eQ (w9.alloc (.cells #[.int .u8 x.kind,.int .u8 x.op,.int .i64 dd,.int .i64 rr,.int .i64 ss,.slice y1 y2 y3,.slice v1 v2 v3,.int .i64 x.num,.int .i64 x.Nj] 47));have c0:aa All w9 W9:=by rw[d7];exact kR.alloc _
 have b9:al W9 w9.heap.size 47 #[.int .u8 x.kind,.int .u8 x.op,.int .i64 dd,.int .i64 rr,.int .i64 ss,.slice y1 y2 y3,.slice v1 v2 v3,.int .i64 x.num,.int .i64 x.Nj]:=by rw[d7];exact ac rfl
 have i4:W9.heap.size=w9.heap.size+1:=by rw[d7];simp
 have m4:=eE i4;have m5:=eE i4.symm;have m8:=H8.2.1.size;have m9:=b7.size;have n0:=HR.2.1.size;have d8:Kb wz.heap.size W9 (.slice E j ep) ((b.code.map (pg p q f)).take j):=HR.1.keep sH ((H8.2.1.trans b7).trans c0) fun _ _ _=>trivial;have H9:=J6 d7 b9 d8 (sH.keep c0.all hE) ((H8.2.1.trans b7).trans c0) c9;clear d7 c0 b9 i4 d8 hE c9 b7 e0 e1 e2 e3 e4 e5 e6 e7 e8 s0 s1 z0 z1 z2 z3 z4 z5 z6 z7 z8;go_wp2_with (
  at_builtin;go_loud (
  rw[←H9.1];refine bN (E:=KD) _ sH rfl (.tmp 70) (.tmp 75) 44 rfl iO _ 96 underlying44 h2.1 h2.2.1 h2.2.2.1 h2.2.2.2 rfl (by decide) _ _ rfl H9.2.2.1 w9.heap.size 0 1 rfl [.int .u8 x.kind,.int .u8 x.op,.int .i64 dd,.int .i64 rr,.int .i64 ss,.slice y1 y2 y3,.slice v1 v2 v3,.int .i64 x.num,.int .i64 x.Nj] (pg p q f x) rfl ?_ ?_ (by rw[h9];omega) (by omega) ?_ (fun b=>w8.heap.size≤b∧b<w9.heap.size) ?_ ?_ ?_;·intro j u hu;rw[cN,H9.2.1.cell,List.getElem?_toArray];exact hu
  ·intro u hu;simp only[fX,List.not_mem_nil,or_false] at hu;rcases hu with rfl|rfl|rfl|rfl|rfl|rfl|rfl|rfl|rfl<;>rfl
  ·omega
  ·intro b hb;have n1:w8.heap.size≤b∧b<w9.heap.size:=hb;obtain⟨_,m2⟩:=HR.1.own;exact⟨by omega,by omega,fun e=>by have:=(aD m2 e).2;omega⟩
  ·exact H9.2.2.2.1
  intro D2 n2 w4 d9 k9 l0;have H4:=J3 d9 k9 l0;clear d9 k9 l0))
 go_roundg (b.code.length-(j+1))
 ·refine⟨j+1,by omega,rfl,by go_num,?_,(HR.2.1.trans H9.2.2.2.2.1).grown H4.2.1 fun b hb=>.inr (H4.2.2 b hb),fun i' y hi hy=>?_⟩
  ·have e:(b.code.map (pg p q f)).take (j+1)=(b.code.map (pg p q f)).take j++[pg p q f x]:=by rw[cU,cL,HR.2.2.2.2.1];rfl
   rw[e];have h3:=H4.1;rw[h9] at h3;exact h3
  by_cases e:i'=j;·subst e;rw[HR.2.2.2.2.1] at hy;injection hy with hy;subst hy;exact⟨⟨H7.2,H8.2.2.2.1⟩,H9.2.2.2.2.2⟩
  exact HR.2.2.1 i' y (by omega) hy
 omega)
 obtain rfl:j=b.code.length:=by omega
 rw[oF (by rw[ce];omega)] at Z;have e9:∀(i:Nat) x,b.code[i]? =some x→Ky b.code i x∧mO p q f x:=fun i x hx=>b8 i x (lS.1 hx).1 hx;have hO:=Z.read (bw:=96) sH (by rw[ce];omega);have l1:=HC.1.size;have m3:=HW.2.2.1.size;have HQ:=J3 (cT.wide (fun b (hb:wz.heap.size≤b∧b<wr.heap.size)=>show w.heap.size≤b∧b<wr.heap.size by omega) hO) e9 c6;clear Z b5 b8 e9 hO c6 l1 m3;go_wp2_with fail;go_ret;exact .inl ⟨⟨nz.2 ⟨HC.2,fun i x hx=>(HQ.2.1 i x hx).1⟩,fun x hx=>by obtain⟨i,hi⟩:=List.getElem?_of_mem hx;exact(HQ.2.1 i x hi).2⟩,HQ.2.2,_,rfl,HQ.1⟩
theorem uq (j l o:Addr)(w:World):
 CallsD prog 136 #[.pointer (some j),.pointer (some l),.pointer (some o)] .returning w fun e C J=>e=.returned (.tuple #[])∧C=.returning∧J=w:=by
 refine callsD_of_wpS func136 rfl fun R cs hu=>?_;apply wpS_seq;apply wpS_region;simp[wpOpsS,go_sem,recoverD,hu,ntmps136,Exit.thenS];apply wpS_seq;apply wpS_region;simp[wpOpsS,go_sem,Exit.thenS];refine wpS_cond (t:=false) (by simp[Act.eval,Array.replicate]) ?_;simp only[jL,if_false];refine wpS_of_wp (wp_skip ?_);cases R;simp_all [bodyPostS,results,Tryz.results136]
theorem ur (j l o:Nat)(a n:Int)(v1 v2:Value)(m x5 x6:Int)(C:List PanicEntry)(w:World)(h4:al w j 30 #[v1,v2,.int .i64 m])(h5:al w l 3 #[.int .i64 x5])(h6:al w o 37 #[.int .i64 x6]):
 CallsD prog 136 #[.pointer (some ⟨j,0,none⟩),.pointer (some ⟨l,0,none⟩),.pointer (some ⟨o,0,none⟩)] (.panicking ({v:=.iface 236 (.agg #[.int .i64 a,.int .i64 n]),recovered:=false}::C)) w fun e u' w'=>e=.returned (.tuple #[])∧u'=.panicking ({v:=.iface 236 (.agg #[.int .i64 a,.int .i64 n]),recovered:=true}::C)∧
  aa (fun b=>b≠j∧b≠l∧b≠o) w w'∧al w' j 30 #[.slice none 0 0,.slice none 0 0,.int .i64 0]∧al w' l 3 #[.int .i64 a]∧al w' o 37 #[.int .i64 n]:=by
 refine callsD_of_wpS func136 rfl fun c₀ cs hu=>?_;apply wpS_seq;apply wpS_region;simp[wpOpsS,go_sem,recoverD,hu,ntmps136,Exit.thenS];apply wpS_seq;apply wpS_region;simp[wpOpsS,go_sem,Exit.thenS];refine wpS_cond (t:=true) (by simp[Act.eval,Array.replicate]) ?_;simp only[if_true];simp only[show Array.replicate 19 undef= #[undef,undef,undef,undef,undef,undef,undef,undef,undef,undef,undef,undef,undef,undef,undef,undef,undef,undef,undef] from rfl,List.setIfInBounds_toArray,List.set_cons_zero,List.set_cons_succ,List.append_toArray,List.cons_append,mF];refine wpS_of_wp ?_;have b0:(Instr.typeAssert (.iface 236 (.agg #[.int .i64 a,.int .i64 n])) 20 236 true).run prog w=.ok (.tuple #[.agg #[.int .i64 a,.int .i64 n],.bool true]) w:=by kernel_rfl
 go_upto_region 5 with fail;obtain⟨W1,J⟩:=eQ (w.alloc (.cells #[.int .i64 a,.int .i64 n] 236));rw[←J];have g4:=h4.alloc (.cells #[.int .i64 a,.int .i64 n] 236);have g5:=h5.alloc (.cells #[.int .i64 a,.int .i64 n] 236);have g6:=h6.alloc (.cells #[.int .i64 a,.int .i64 n] 236);rw[←J] at g4 g5 g6;have gs:al W1 w.heap.size 236 #[.int .i64 a,.int .i64 n]:=by rw[J];exact ac rfl
 have Z:aa All w W1:=by rw[J];exact kR.alloc _
 have a1:j≠l:=fun e=>al.ne h4 h5 (by decide) e;have a6:j≠o:=fun e=>al.ne h4 h6 (by decide) e;have a7:l≠o:=fun e=>al.ne h5 h6 (by decide) e;have m4:j≠w.heap.size:=by have:=h4.lt;omega
 have m5:l≠w.heap.size:=by have:=h5.lt;omega
 have m6:o≠w.heap.size:=by have:=h6.lt;omega
 have R:=a1.symm;have Y:=a6.symm;have a8:=a7.symm;have r4:=m4.symm;have r5:=m5.symm;have r6:=m6.symm;have q0:=g4.cell 0;have q1:=g4.cell 1;have q2:=g4.cell 2;have q5:=g5.cell 0;have q6:=g6.cell 0;have s0:=gs.cell 0;have s1:=gs.cell 1;have f0:=g4.free 0;have f1:=g4.free 1;have f2:=g4.free 2;have f5:=g5.free 0;have f6:=g6.free 0;simp only[gc] at q0 q1 q2 q5 q6 s0 s1;have HG:=J4 g4 g5 g6 Z;clear g4 g5 g6 gs Z J
 go_region
 all_goals go_wp2_with fail
 have e4:=(((((HG.1.set 0 (.slice none 0 0)).set 1 (.slice none 0 0)).set 2 (.int .i64 0)).far (p:=⟨l,0,none⟩) a1 (.int .i64 a)).far (p:=⟨o,0,none⟩) a6 (.int .i64 n)).drew;have e5:=(((((HG.2.1.far (p:=⟨j,0,none⟩) R (.slice none 0 0)).far (p:=⟨j,1,none⟩) R (.slice none 0 0)).far (p:=⟨j,2,none⟩) R (.int .i64 0)).set 0 (.int .i64 a)).far (p:=⟨o,0,none⟩) a7 (.int .i64 n)).drew;have e6:=(((((HG.2.2.1.far (p:=⟨j,0,none⟩) Y (.slice none 0 0)).far (p:=⟨j,1,none⟩) Y (.slice none 0 0)).far (p:=⟨j,2,none⟩) Y (.int .i64 0)).far (p:=⟨l,0,none⟩) a8 (.int .i64 a)).set 0 (.int .i64 n)).drew;have ek:=((((((HG.2.2.2.mono fun b (_:¬b=j∧¬b=l∧¬b=o)=>trivial).setCell (p:=⟨j,0,none⟩) (.inl fun h=>h.1 rfl) (.slice none 0 0)).setCell (p:=⟨j,1,none⟩) (.inl fun h=>h.1 rfl) (.slice none 0 0)).setCell (p:=⟨j,2,none⟩) (.inl fun h=>h.1 rfl) (.int .i64 0)).setCell (p:=⟨l,0,none⟩) (.inl fun h=>h.2.1 rfl) (.int .i64 a)).setCell (p:=⟨o,0,none⟩) (.inl fun h=>h.2.2 rfl) (.int .i64 n)).drew;simp only[ga] at e4 e5 e6;generalize (((((W1.setCell _ _).setCell _ _).setCell _ _).setCell _ _).setCell _ _).drew=W2 at*;simp[bodyPostS,results,Tryz.results136,e4,e5,e6,ek]
def MC:List (Nat×rT):=[(1,⟨0,true,false,false⟩),(2,⟨2,true,false,false⟩),(4,⟨1,true,true,false⟩),(5,⟨1,true,true,false⟩),(6,⟨2,false,true,false⟩),(7,⟨-1,true,true,false⟩),(8,⟨0,true,true,false⟩),(9,⟨1,false,true,false⟩),(10,⟨1,true,true,false⟩),(11,⟨0,false,true,false⟩),(12,⟨1,false,true,true⟩),(13,⟨1,false,false,false⟩)]
def Ig (s:rT):Value:=.agg #[.int .i64 s.args,.bool s.dst,.bool s.ref,.bool s.Ni]
def mI (n:Nat):Array MapEntry:=((MC.take n).mapIdx fun i e=> {key:=.int .u8 e.1,val:=Ig e.2,born:=i}).toArray
theorem dC (es:Array MapEntry)(clock:Nat)(k:Int)(v:Value)(J:Instr.findNow (.int .u8) (.int .u8 k) es.toList 0=some none)(w:World):
 (Instr.mapUpdate 299 (.map (some w.heap.size)) (.int .u8 k) v).run prog (w.alloc (.map es clock))=.ok () (w.alloc (.map (es.push ⟨.int .u8 k,v,clock⟩) (clock+1))):=by
 have C:(w.alloc (.map es clock)).heap[w.heap.size]? =some (.map es clock):=by show(w.heap.push _)[w.heap.size]? =_;simp
 simp only[Instr.mapUpdate,Sem.run_bind,run_underlying underlying299,MapKept.run_getObj_map C,MapKept.run_checkKey underlying5 (show MapKept.IsKey (.int .u8) (.int .u8 k) from rfl),MapKept.run_findKey underlying5 J,MapKept.run_setObj_map _ C,Result.andThen];have e:∀o l:Obj,(w.heap.push o).setIfInBounds w.heap.size l=w.heap.push l:=by(
 intro o l;apply Array.ext_getElem?;intro j;rw[Array.getElem?_setIfInBounds,Array.getElem?_push,Array.getElem?_push];by_cases h:w.heap.size=j;·subst h;simp
 rw[ae h,ae (fun h'=>h h'.symm),ae (fun h'=>h h'.symm)])
 show Result.ok () ({w with heap:=(w.heap.push (.map es clock)).setIfInBounds w.heap.size _}:World)=Result.ok () ({w with heap:=w.heap.push _}:World);rw[e]
theorem fI (i:Nat)(k:Nat)(s:rT)(h:MC[i]? =some (k,s)):mI (i+1)=(mI i).push ⟨.int .u8 k,Ig s,i⟩:=by have hi:=(lS.1 h).1;unfold mI;rw[cU,h,List.mapIdx_append];simp only[Option.toList_some,List.mapIdx_cons,List.mapIdx_nil,fN,cN,List.push_toArray];rw[Nat.min_eq_left (by omega)]
theorem Bm (w:World):Calls prog 195 #[] w fun e j=>e=.returned (.map (some w.heap.size))∧w.alloc (.map (mI 12) 12)=j:=by
 have l:=@run_makeMap prog;have J:(Instr.mapUpdate 299 (.map (some w.heap.size)) (.int .u8 1) (.agg #[.int .i64 0,.bool true,.bool false,.bool false])).run prog (w.alloc (.map #[] 0))=.ok () (w.alloc (.map (mI 1) 1)):=by rw[fI 0 1 _ rfl];exact dC _ _ _ _ (by rfl) w
 have R:(Instr.mapUpdate 299 (.map (some w.heap.size)) (.int .u8 2) (.agg #[.int .i64 2,.bool true,.bool false,.bool false])).run prog (w.alloc (.map (mI 1) 1))=.ok () (w.alloc (.map (mI 2) 2)):=by rw[fI 1 2 _ rfl];exact dC _ _ _ _ (by rfl) w
 have Y:(Instr.mapUpdate 299 (.map (some w.heap.size)) (.int .u8 4) (.agg #[.int .i64 1,.bool true,.bool true,.bool false])).run prog (w.alloc (.map (mI 2) 2))=.ok () (w.alloc (.map (mI 3) 3)):=by rw[fI 2 4 _ rfl];exact dC _ _ _ _ (by rfl) w
 have i3:(Instr.mapUpdate 299 (.map (some w.heap.size)) (.int .u8 5) (.agg #[.int .i64 1,.bool true,.bool true,.bool false])).run prog (w.alloc (.map (mI 3) 3))=.ok () (w.alloc (.map (mI 4) 4)):=by rw[fI 3 5 _ rfl];exact dC _ _ _ _ (by rfl) w
 have Z:(Instr.mapUpdate 299 (.map (some w.heap.size)) (.int .u8 6) (.agg #[.int .i64 2,.bool false,.bool true,.bool false])).run prog (w.alloc (.map (mI 4) 4))=.ok () (w.alloc (.map (mI 5) 5)):=by rw[fI 4 6 _ rfl];exact dC _ _ _ _ (by rfl) w
 have i5:(Instr.mapUpdate 299 (.map (some w.heap.size)) (.int .u8 7) (.agg #[.int .i64 (-1),.bool true,.bool true,.bool false])).run prog (w.alloc (.map (mI 5) 5))=.ok () (w.alloc (.map (mI 6) 6)):=by rw[fI 5 7 _ rfl];exact dC _ _ _ _ (by rfl) w
 have i6:(Instr.mapUpdate 299 (.map (some w.heap.size)) (.int .u8 8) (.agg #[.int .i64 0,.bool true,.bool true,.bool false])).run prog (w.alloc (.map (mI 6) 6))=.ok () (w.alloc (.map (mI 7) 7)):=by rw[fI 6 8 _ rfl];exact dC _ _ _ _ (by rfl) w
 have i7:(Instr.mapUpdate 299 (.map (some w.heap.size)) (.int .u8 9) (.agg #[.int .i64 1,.bool false,.bool true,.bool false])).run prog (w.alloc (.map (mI 7) 7))=.ok () (w.alloc (.map (mI 8) 8)):=by rw[fI 7 9 _ rfl];exact dC _ _ _ _ (by rfl) w
 have i8:(Instr.mapUpdate 299 (.map (some w.heap.size)) (.int .u8 10) (.agg #[.int .i64 1,.bool true,.bool true,.bool false])).run prog (w.alloc (.map (mI 8) 8))=.ok () (w.alloc (.map (mI 9) 9)):=by rw[fI 8 10 _ rfl];exact dC _ _ _ _ (by rfl) w
 have i9:(Instr.mapUpdate 299 (.map (some w.heap.size)) (.int .u8 11) (.agg #[.int .i64 0,.bool false,.bool true,.bool false])).run prog (w.alloc (.map (mI 9) 9))=.ok () (w.alloc (.map (mI 10) 10)):=by rw[fI 9 11 _ rfl];exact dC _ _ _ _ (by rfl) w
 have o:(Instr.mapUpdate 299 (.map (some w.heap.size)) (.int .u8 12) (.agg #[.int .i64 1,.bool false,.bool true,.bool true])).run prog (w.alloc (.map (mI 10) 10))=.ok () (w.alloc (.map (mI 11) 11)):=by rw[fI 10 12 _ rfl];exact dC _ _ _ _ (by rfl) w
 have C:(Instr.mapUpdate 299 (.map (some w.heap.size)) (.int .u8 13) (.agg #[.int .i64 1,.bool false,.bool false,.bool false])).run prog (w.alloc (.map (mI 11) 11))=.ok () (w.alloc (.map (mI 12) 12)):=by rw[fI 11 13 _ rfl];exact dC _ _ _ _ (by rfl) w
 go_enter func195,ntmps195;go_wp2;go_ret;exact⟨rfl,rfl⟩
theorem LG (k:Nat)(l:k<256):Instr.findNow (.int .u8) (.int .u8 k) (mI 12).toList 0=some (match cJ k with|some s=>some ((MC.findIdx fun e=>e.1==k),Ig s)|none=>none):=by
 have:∀k:Fin 256,Instr.findNow (.int .u8) (.int .u8 (k.1:Nat)) (mI 12).toList 0=some (match cJ k.1 with|some s=>some ((MC.findIdx fun e=>e.1==k.1),Ig s)|none=>none):=by(
 intro k;by_cases h:k.1<14
 ·obtain⟨k,l⟩:=k
  simp only at h;rcases k with _|_|_|_|_|_|_|_|_|_|_|_|_|_|k;all_goals first|rfl|(exfalso;omega)
 have o:cJ k.1=none:=by unfold cJ;split<;>first|omega|rfl
 rw[o];have j:∀m:Int,m<14→((k.1:Int)==m)=false:=fun m hm=>by rw[bE];omega
 simp[mI,MC,Instr.findNow,Instr.sameNow,j])
 exact this ⟨k,l⟩
theorem LH (w:World):(zeroValue 297).run prog w=.ok (Ig ⟨0,false,false,false⟩) w:=by kernel_rfl
theorem qG (b:Nat)(k:Nat)(C:k<256)(w:World)(l:w.heap[b]? =some (.map (mI 12) 12)):
 (Instr.lookup 299 (.map (some b)) (.int .u8 k) true).run prog w=.ok (.tuple #[Ig ((cJ k).getD ⟨0,false,false,false⟩),.bool (cJ k).isSome]) w:=by
 have j:=LG k C;have J:=LH w;cases o:cJ k with
 |some s=>rw[o] at j;simp[Instr.lookup,run_underlying underlying299,MapKept.run_getObj_map l,MapKept.run_checkKey underlying5 (show MapKept.IsKey (.int .u8) (.int .u8 k) from rfl),MapKept.run_findKey underlying5 j,Result.andThen]
 |none=>rw[o] at j;simp[Instr.lookup,run_underlying underlying299,MapKept.run_getObj_map l,MapKept.run_checkKey underlying5 (show MapKept.IsKey (.int .u8) (.int .u8 k) from rfl),MapKept.run_findKey underlying5 j,Result.andThen,J]
end Go.Proofs.YtncdbjponknakaaGreatDoor
