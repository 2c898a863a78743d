/- Part 22 of the proof (its last part says what is proved). No condition. -/
import Derived.Test.YtgdlhckhpolnnaaGreatDoorK20
namespace Go.Proofs.YtgdlhckhpolnnaaGreatDoor
set_option maxRecDepth 100000
set_option maxHeartbeats 8000000
open Go.RowKit Go.Proofs.Tryz
theorem ng (k:Nat)(w:World):Calls prog 98 #[.int .u8 k] w fun e w'=>e=.returned (.bool (decide (11≤k)))∧w=w':=by
 by_cases h:11≤k
 ·have t:decide ((11:Int)≤(k:Int))=true:=by simp;omega
  rw[bL h];have H:=oH h;clear h;go_enter func98,ntmps98;go_wp2;go_ret;exact⟨rfl,rfl⟩
 have t:decide ((11:Int)≤(k:Int))=false:=by simp;omega
 rw[cI h];have H:=oH h;clear h;go_enter func98,ntmps98;go_wp2;go_ret;exact⟨rfl,rfl⟩
def Ky (l:List cX)(i:Nat)(x:cX):Prop:=(11≤x.kind→i+1=l.length)∧(x.kind=3→i=0∨∃y,l[i-1]? =some y∧y.kind=3)
def vZ (l:List cX):Prop:=∃x,l[l.length-1]? =some x∧11≤x.kind
theorem nz {l:List cX}:mQ (l.map fun x=>x.kind)↔vZ l∧∀(i:Nat) x,l[i]? =some x→Ky l i x:=by
 constructor;·(
 rintro⟨Y,h1,h2⟩;have o:0<l.length:=by
  rcases l with _|⟨a,l⟩;·exact absurd rfl Y
  simp
 refine⟨?_,fun i x j=>⟨fun h=>?_,fun h=>?_⟩⟩
 ·obtain⟨x,j⟩:∃x,l[l.length-1]? =some x:=⟨_,lG (by omega)⟩
  exact⟨x,j,(h1 (l.length-1) x.kind (by rw[cL,j];rfl)).2 (by rw[ce];omega)⟩
 ·have:=(h1 i x.kind (by rw[cL,j];rfl)).1 h
  rwa [ce] at this
 rcases i with _|i;·exact .inl rfl
 have:=h2 i (by rw[cL,j];exact congrArg some h);rw[cL] at this;obtain⟨y,C,I⟩:=oE.1 this;exact .inr ⟨y,by simpa using C,I⟩)
 rintro⟨⟨z,hz,I⟩,h⟩;have o:0<l.length:=by have:=(lS.1 hz).1;omega
 refine⟨fun e=>?_,fun i k hi=>?_,fun i hi=>?_⟩;·rw[List.map_eq_nil_iff] at e;subst e;simp at o
 ·rw[cL] at hi;obtain⟨x,j,rfl⟩:=oE.1 hi;rw[ce];refine⟨(h i x j).1,fun e=>?_⟩;have e':i=l.length-1:=by omega
  subst e';rw[hz] at j;cases j;exact I
 rw[cL] at hi;obtain⟨x,j,J⟩:=oE.1 hi;rcases (h (i+1) x j).2 J with Y|⟨y,C,R⟩;·omega
 rw[cL,show l[i]? =some y by simpa using C];exact congrArg some R
def Cs (p:aH)(q:dN)(f:cD)(b:eS)(w:World)(e:Ending)(w':World):Prop:=
 ql (mQ (b.code.map fun x=>x.kind)∧∀x∈b.code,mO p q f x) (fun e w'=>aa All w w'∧∃u,e=.returned u∧tZ (fun b=>w.heap.size≤b∧b<w'.heap.size) w' u (b.code.map (pg p q f))) w e w'
theorem FT:(prog.info? 56).map (fun i=>(i.zero,i.size,i.bytes))=some (some (.agg #[.int .u8 0,.int .u8 0,.int .i64 0,.int .i64 0,.int .i64 0,.slice none 0 0,.slice none 0 0,.int .i64 0,.int .i64 0]),9,96):=by kernel_rfl
abbrev Kb:=dR 9 56 KD
theorem CD (S:Nat→Prop)(br:Nat)(p:aH)(q:dN)(f:cD)(b:eS)(b1 b2:Nat)(bv:Value)(w:World)(hr:rV S w br p q)(j2:cK w b1 (cn f))(j3:cK w b2 (bh f))(j4:Im S w bv b.code)(j5:aV b.Nj)
 (hI:∀x∈b.code,aV (dv p q f x)∧aV (dy f x)) (hd:∀x∈b.code,x.dst=gR∨x.dst∈bh f) (hz:∀x∈b.code,x.args.length≤1048576∧x.Nh.length≤1048576) (hv:(bh f).length≤1000000000) (hb:(cn f).length≤1000000000) (hl:b.code.length≤1048576):
 Calls prog 55 #[.pointer (some ⟨br,0,none⟩),.agg #[.map (some b1),.map (some b2)],.agg #[.string b.name,bv,.int .i64 b.Nj]] w (Cs p q f b w):=by
 obtain⟨iO,h2⟩:=iH FT;have hV:=it.la j4;obtain⟨cA,cc,rfl,u1,u2,u3,_⟩:=j4;unfold maxLen at u2;obtain⟨W1,b8⟩:=eQ ((w.alloc (.cells #[.map (some b1),.map (some b2)] 131)).alloc (.cells #[.string b.name,.slice cA b.code.length cc,.int .i64 b.Nj] 135));have j6:=aD2 b8;have j7:=aC2 b8;have bS:=aA1 b8;have bB:=aB0 b8 aE1;have c1:=bB.cl 1;have HW:=J5 b8 j6 j7 bS bB;have HM:=J8 hr j2 j3 hV j5 hI hd hz;clear b8 j6 j7 bS bB hr j2 j3 hV j5 hI hd hz;go_enter func55,ntmps55;go_upto_region 1 with fail;rw[←HW.1];go_upto_region 2 with fail;go_cut [] (fun wx=>aa All W1 wx∧vZ b.code)
 case first=>(
 have b0:=oH HM.2.2.2.2.1;rcases Nat.eq_zero_or_pos b.code.length with h0|h0
 case' inl=>(
 have J:=oH (show false=true↔vZ b.code from⟨fun h=>(by cases h),fun⟨x,hx,_⟩=>by have:=(lS.1 hx).1;omega⟩);have HB:=oH (show∀wn,aa All W1 wn→wn.cell? ⟨w.heap.size+1,1,none⟩=some (.slice cA b.code.length cc)∧wn.cell? ⟨w.heap.size+1,2,none⟩=some (.int .i64 b.Nj)∧True from fun wn o=>⟨(HW.2.2.2.2.kept o trivial).cell 1,(HW.2.2.2.2.kept o trivial).cell 2,trivial⟩);have t0:decide ((1:Int)≤(b.code.length:Int))=false:=by simp;omega
 clear h0;obtain⟨t,tE⟩:=eQ true;have HE:=oH trivial)
 case' inr=>(
 obtain⟨m,hm⟩:∃m:Nat,b.code.length=m+1:=⟨b.code.length-1,by omega⟩;obtain⟨x,hx⟩:∃x,b.code[m]? =some x:=⟨_,lG (by omega)⟩;obtain⟨xb,xo,l1,rfl,l2,j8,R,xa,xf,rfl,_,_,j9⟩:=aZ (HM.2.2.2.1 W1 HW.2.2.1) hx;have z0:=R 0 _ rfl;rw[dj] at z0;have HB:=oH (show∀wn,aa All W1 wn→wn.cell? ⟨w.heap.size+1,1,none⟩=some (.slice (some ⟨xb,xo,none⟩) b.code.length cc)∧wn.cell? ⟨w.heap.size+1,2,none⟩=some (.int .i64 b.Nj)∧wn.cell? ⟨xb,xo+m*9,none⟩=some (.int .u8 x.kind) from fun wn o=>⟨(HW.2.2.2.2.kept o trivial).cell 1,(HW.2.2.2.2.kept o trivial).cell 2,o.cell trivial z0⟩);clear R z0;have t0:decide ((1:Int)≤(b.code.length:Int))=true:=by simp;omega
 have tm:(if(b.code.length:Int)-1<0 then(0:Int) else(b.code.length:Int)-1)=(m:Int):=by split<;>omega
 have tl:m<b.code.length:=by omega
 have hx:b.code[b.code.length-1]? =some x:=by rw[show b.code.length-1=m by omega];exact hx
 have h4:vZ b.code↔11≤x.kind:=⟨fun⟨y,hy,l3⟩=>by rw[hx] at hy;cases hy;exact l3,fun h=>⟨x,hx,h⟩⟩;have n9:=oH hm;clear hx hm;have HE:=oH (fun wn=>ng x.kind wn);obtain⟨t,ht⟩:=eR (decide (11≤x.kind));rw[ht] at HE;refine Or.elim (Classical.em (11≤x.kind)) (fun o=>?p1) (fun o=>?n1)
 case' p1=>have J:=oH (show true=true↔vZ b.code from⟨fun _=>h4.2 o,fun _=>rfl⟩);have tE:=bL o;rw[ht] at tE;clear o h4 ht
 case' n1=>have J:=oH (show false=true↔vZ b.code from⟨fun h=>(by cases h),fun h=>absurd (h4.1 h) o⟩);have tE:=cI o;rw[ht] at tE;clear o h4 ht)
 all_goals
  refine RN 15 14 W1 (fun i=>if i=14 then some (·=.tuple #[]) else if i=10 then some (·=.bool t) else none) J (fun _ _ _ h hd=>⟨hd,.inr ⟨fun h1=>h.1 (nz.1 h1.1).1,h.stop HW.2.2.1⟩⟩) ?_;repeat first
  |refine O0 ?_
  |refine O2 ?_
  |refine O4 HB.out ?_
  first
  |(refine O8 (C:=fun _=>True) (fun _ _=>trivial) (fun wn o=>(HE.out wn).mono fun e w' h=>⟨h.1,h.2▸o,fun _ h=>by cases h⟩) ?_
    rw[tE];repeat first
    |refine O0 ?_
    |refine O2 ?_
    |refine O4 HB.out ?_)
  |skip
  first
  |refine O9 true (C:=fun _=>True) (fun _ _=>trivial) (fun wn o=>ZR (n:=15) b0.out (by decide) (by unfold aV;omega) J.2 o) ?_
  |refine O9 false (C:=fun _=>True) (fun _ _=>trivial) (fun wn o=>ZR (n:=15) b0.out (by decide) (by unfold aV;omega) J.2 o) ?_
  refine ZS fun hd wt a6 _=>?_;have HT:=J2 a6 (J.1 (by first|(simp;done)|(simp at hd;done)|simpa using hd));clear a6 hd;simp only[dK];go_wp2_with fail;go_meet;exact⟨HT.1,HT.2⟩)
 obtain⟨h6,c4⟩:=hcut;obtain⟨wz,rfl⟩:=eQ wc;have d1:=(HW.2.2.2.2.kept h6 trivial).cl 1;have J:=J2 h6 c4;clear h6 c4 c1;go_wp2_with fail;go_loopg [8,33] b.code.length (fun g s8 l4 wr=>∃j:Nat,j≤b.code.length∧g=b.code.length-j∧l4=.int .i64 j∧Kb wz.heap.size wr s8 ((b.code.map (pg p q f)).take j)∧aa All wz wr∧∀(i:Nat) x,i<j→b.code[i]? =some x→Ky b.code i x∧mO p q f x);·exact⟨0,by omega,by omega,rfl,dR.nil,kR,fun i a h=>by omega⟩
 obtain⟨j,hj,rfl,rfl,a1,b3,b6⟩:=hrel;obtain⟨E,ep,rfl⟩:=a1.form;have h9:((b.code.map (pg p q f)).take j).length=j:=by rw[fN,ce];omega
 rw[h9] at a1⊢;have c5:aa All w wr:=(HW.2.2.1.trans J.1).trans b3;by_cases l5:j<b.code.length;·(
 obtain⟨x,hx⟩:=eG l5;have c6:=mG hx;have hV:=HM.2.2.2.1 wr c5;obtain⟨xb,xo,l1,rfl,l2,j8,R,xa,xf,rfl,k0,k1,j9⟩:=aZ hV hx;have k2:=ax.la k0;have k3:=ax.la k1;obtain⟨ua,uc,rfl,_⟩:=k0;obtain⟨va,vc,rfl,_⟩:=k1;have z0:=R 0 _ rfl;rw[dj] at z0;have z1:=R 1 _ rfl;have z2:=R 2 _ rfl;have z3:=R 3 _ rfl;have z4:=R 4 _ rfl;have z5:=R 5 _ rfl;have z6:=R 6 _ rfl;have z7:=R 7 _ rfl;have z8:=R 8 _ rfl;obtain⟨W2,h5⟩:=eQ (wr.alloc (.cells #[.int .u8 x.kind,.int .u8 x.op,.string x.dst,.string x.ref,.string x.Ni,.slice ua x.args.length uc,.slice va x.Nh.length vc,.int .i64 x.num,.int .i64 x.Nj] 188));have b4:=aC1 h5;have k4:al W2 wr.heap.size 188 #[.int .u8 x.kind,.int .u8 x.op,.string x.dst,.string x.ref,.string x.Ni,.slice ua x.args.length uc,.slice va x.Nh.length vc,.int .i64 x.num,.int .i64 x.Nj]:=by rw[h5];exact ac rfl
 have l6:=oH (show∀y,0<j→b.code[j-1]? =some y→∀wn,aa All wr wn→wn.cell? ⟨xb,xo+(j-1)*9,none⟩=some (.int .u8 y.kind) from fun y _ hy wn o=>by obtain⟨b',o',o0,he,_,_,l7,a',f',rfl,_⟩:=aZ hV hy;injection he with he;injection he with l8 l9;subst l8 l9;have:=l7 0 _ rfl;rw[dj] at this;exact o.cell trivial this);have I:=oH (show∀wn,aa All W2 wn→∀i,wn.cell? ⟨wr.heap.size,i,none⟩=(#[.int .u8 x.kind,.int .u8 x.op,.string x.dst,.string x.ref,.string x.Ni,.slice ua x.args.length uc,.slice va x.Nh.length vc,.int .i64 x.num,.int .i64 x.Nj]:Array Value)[i]? from fun wn o i=>(k4.kept o trivial).cell i);have c7:=oH (show∀wn,aa All W2 wn→wn.cell? ⟨w.heap.size+1,1,none⟩=some (.slice (some ⟨xb,xo,none⟩) b.code.length cc)∧wn.cell? ⟨w.heap.size,0,none⟩=some (.map (some b1))∧wn.cell? ⟨w.heap.size,1,none⟩=some (.map (some b2)) from fun wn o=>⟨((((HW.2.2.2.2.kept J.1 trivial).kept b3 trivial).kept b4 trivial).kept o trivial).cell 1,((((HW.2.2.2.1.kept J.1 trivial).kept b3 trivial).kept b4 trivial).kept o trivial).cell 0,((((HW.2.2.2.1.kept J.1 trivial).kept b3 trivial).kept b4 trivial).kept o trivial).cell 1⟩);have HR:=J10 a1 b3 b6 c5 hx h5 b4 k2 k3 j9;clear a1 b3 b6 c5 hx h5 b4 k2 k3 hV R k4;go_upto_region 7 with fail;rw[←HR.2.2.2.2.2.1];have b0:=oH HR.2.2.2.2.2.2.2.2.2.Nj;go_cut [] (fun wx=>aa All W2 wx∧(11≤x.kind→j+1=b.code.length))
 case first=>(
 have HB:=oH (show∀wn,aa All W2 wn→wn.cell? ⟨wr.heap.size,0,none⟩=some (.int .u8 x.kind)∧wn.cell? ⟨wr.heap.size,8,none⟩=some (.int .i64 x.Nj)∧wn.cell? ⟨w.heap.size+1,1,none⟩=some (.slice (some ⟨xb,xo,none⟩) b.code.length cc) from fun wn o=>⟨I.out wn o 0,I.out wn o 8,(c7.out wn o).1⟩);have HE:=oH (fun wn=>ng x.kind wn);obtain⟨t,ht⟩:=eR (decide (11≤x.kind));rw[ht] at HE;refine Or.elim (Classical.em (11≤x.kind)) (fun o=>?p2) (fun o=>?n2)
 case' p2=>
  have tE:=bL o;rw[ht] at tE;clear ht;refine Or.elim (Classical.em (j+1=b.code.length)) (fun c0=>?p3) (fun c0=>?n3)
  case' p3=>(
 have te:((j:Int)==(b.code.length:Int)-1)=true:=by rw[cy];omega
 have J:=oH (show true=true↔(11≤x.kind→j+1=b.code.length) from⟨fun _ _=>c0,fun _=>rfl⟩);have o1:=oH c0;clear o c0)
  case' n3=>(
 have te:((j:Int)==(b.code.length:Int)-1)=false:=by rw[bE];omega
 have J:=oH (show false=true↔(11≤x.kind→j+1=b.code.length) from⟨fun h=>(by cases h),fun h=>absurd (h o) c0⟩);clear o c0)
 case' n2=>(have tE:=cI o;rw[ht] at tE;clear ht;have J:=oH (show true=true↔(11≤x.kind→j+1=b.code.length) from⟨fun _ h=>absurd h o,fun _=>rfl⟩);clear o)
 all_goals
  refine RN 12 11 W2 (fun i=>if i=11 then some (·=.tuple #[]) else if i=2 then some (·=.bool t) else none) J (fun _ _ _ h hd=>⟨hd,.inr ⟨fun h1=>h.1 ((nz.1 h1.1).2 j x HR.2.2.2.2.1).1,h.stop (HR.2.2.2.1.trans HR.2.2.2.2.2.2.1)⟩⟩) ?_;repeat first
  |refine O0 ?_
  |refine O2 ?_
  |refine O4 HB.out ?_
  first
  |(refine O8 (C:=fun _=>True) (fun _ _=>trivial) (fun wn o=>(HE.out wn).mono fun e w' h=>⟨h.1,h.2▸o,fun _ h=>by cases h⟩) ?_
    rw[tE];repeat first
    |refine O0 ?_
    |refine O2 ?_
    |refine O4 HB.out ?_)
  |skip
  first
  |refine O9 true (C:=fun _=>True) (fun _ _=>trivial) (fun wn o=>ZR (n:=15) b0.out (by decide) (by unfold aV;omega) J.2 o) ?_
  |refine O9 false (C:=fun _=>True) (fun _ _=>trivial) (fun wn o=>ZR (n:=15) b0.out (by decide) (by unfold aV;omega) J.2 o) ?_
  refine ZS fun hd wt a6 _=>?_;have HT:=J2 a6 (J.1 (by first|(simp;done)|(simp at hd;done)|simpa using hd));clear a6 hd;simp only[dK];go_wp2_with fail;go_meet;exact HT.out)
 obtain⟨k5,h7⟩:=hcut;obtain⟨w7,rfl⟩:=eQ wc;have H7:=J2 k5 h7;clear k5 h7;go_upto_region 8 with fail;go_cut [] (fun wx=>aa All W2 wx∧(x.kind=3→j=0∨∃y,b.code[j-1]? =some y∧y.kind=3))
 case first=>(
 have hC:∀h:x.kind=3,(j=0∨∃y,b.code[j-1]? =some y∧y.kind=3)→(x.kind=3→j=0∨∃y,b.code[j-1]? =some y∧y.kind=3):=fun _ h _=>h;refine Or.elim (Classical.em (x.kind=3)) (fun h3=>?p4) (fun h3=>?n4)
 case' p4=>
  have t3:=wK x.kind 3 (by omega);refine Or.elim (Classical.em (j=0)) (fun c8=>?p5) (fun c8=>?n5)
  case' p5=>(
 have tz:((j:Int)==0)=true:=by rw[cy];omega
 have HB:=oH (show∀wn,aa All w7 wn→wn.cell? ⟨wr.heap.size,0,none⟩=some (.int .u8 x.kind)∧wn.cell? ⟨wr.heap.size,8,none⟩=some (.int .i64 x.Nj)∧wn.cell? ⟨w.heap.size+1,1,none⟩=some (.slice (some ⟨xb,xo,none⟩) b.code.length cc) from fun wn o=>⟨I.out wn (H7.1.trans o) 0,I.out wn (H7.1.trans o) 8,(c7.out wn (H7.1.trans o)).1⟩);have J:=oH (show true=true↔(x.kind=3→j=0∨∃y,b.code[j-1]? =some y∧y.kind=3) from⟨fun _ _=>.inl c8,fun _=>rfl⟩);clear h3 c8 hC)
  case' n5=>(
 obtain⟨y,hy⟩:∃y,b.code[j-1]? =some y:=⟨_,lG (by omega)⟩;have HB:=oH (show∀wn,aa All w7 wn→wn.cell? ⟨wr.heap.size,0,none⟩=some (.int .u8 x.kind)∧wn.cell? ⟨wr.heap.size,8,none⟩=some (.int .i64 x.Nj)∧wn.cell? ⟨w.heap.size+1,1,none⟩=some (.slice (some ⟨xb,xo,none⟩) b.code.length cc)∧wn.cell? ⟨xb,xo+(j-1)*9,none⟩=some (.int .u8 y.kind) from fun wn o=>⟨I.out wn (H7.1.trans o) 0,I.out wn (H7.1.trans o) 8,(c7.out wn (H7.1.trans o)).1,l6.out y (by omega) hy wn (HR.2.2.2.2.2.2.1.trans (H7.1.trans o))⟩);obtain⟨m,rfl⟩:∃m,j=m+1:=⟨j-1,by omega⟩;simp only[Nat.add_sub_cancel] at HB;have tz:((m:Int)+1==0)=false:=by rw[bE];omega
 have tm:m<b.code.length:=by omega
 have o2:m≤1048576:=by omega
 have tw:IntKind.i64.wrap (m:Int)=(m:Int):=by rw[IntKind.wrap_i64];omega
 refine Or.elim (Classical.em (y.kind=3)) (fun hp=>?p6) (fun hp=>?n6)
 case' p6=>have tp:=yK y.kind 3 (by omega);have J:=oH (show true=true↔(x.kind=3→m+1=0∨∃y,b.code[m+1-1]? =some y∧y.kind=3) from⟨fun _ _=>.inr ⟨y,hy,hp⟩,fun _=>rfl⟩);clear h3 hy hp c8 hC
 case' n6=>(
 have tp:=nK y.kind 3 (by omega);have J:=oH (show false=true↔(x.kind=3→m+1=0∨∃y,b.code[m+1-1]? =some y∧y.kind=3) from⟨fun h=>(by cases h),fun h=>by
  rcases h h3 with h0|⟨y2,k6,b4⟩;·omega
  rw[hy] at k6;cases k6;exact absurd b4 hp⟩)
 clear h3 hy hp c8 hC))
 case' n4=>have t3:=mK x.kind 3 (by omega);have HB:=oH (show∀wn,aa All w7 wn→wn.cell? ⟨wr.heap.size,0,none⟩=some (.int .u8 x.kind)∧wn.cell? ⟨wr.heap.size,8,none⟩=some (.int .i64 x.Nj)∧wn.cell? ⟨w.heap.size+1,1,none⟩=some (.slice (some ⟨xb,xo,none⟩) b.code.length cc) from fun wn o=>⟨I.out wn (H7.1.trans o) 0,I.out wn (H7.1.trans o) 8,(c7.out wn (H7.1.trans o)).1⟩);have J:=oH (show true=true↔(x.kind=3→j=0∨∃y,b.code[j-1]? =some y∧y.kind=3) from⟨fun _ h=>absurd h h3,fun _=>rfl⟩);clear h3 hC
 all_goals
  refine RN 20 19 w7 (fun i=>if i=19 then some (·=.tuple #[]) else none) J (fun _ _ _ h hd=>⟨hd,.inr ⟨fun h1=>h.1 ((nz.1 h1.1).2 _ x HR.2.2.2.2.1).2,h.stop ((HR.2.2.2.1.trans HR.2.2.2.2.2.2.1).trans H7.1)⟩⟩) ?_;repeat first
  |refine O0 ?_
  |refine O2 ?_
  |refine O4 HB.out ?_
  first
  |refine O9 true (C:=fun _=>True) (fun _ _=>trivial) (fun wn o=>ZR (n:=18) b0.out (by decide) (by unfold aV;omega) J.2 o) ?_
  |refine O9 false (C:=fun _=>True) (fun _ _=>trivial) (fun wn o=>ZR (n:=18) b0.out (by decide) (by unfold aV;omega) J.2 o) ?_
  refine ZS fun hd wt a6 _=>?_;have HT:=J2 a6 (J.1 (by first|(simp;done)|(simp at hd;done)|simpa using hd));clear a6 hd;simp only[dK];go_wp2_with fail;go_meet;exact⟨H7.1.trans HT.1,HT.2⟩)
 obtain⟨Y,h8⟩:=hcut;obtain⟨w8,rfl⟩:=eQ wc;have j0:=c7.out w8 Y;have s0:=j0.2.1;have s1:=j0.2.2;have e0:=I.out w8 Y 0;have e1:=I.out w8 Y 1;have e2:=I.out w8 Y 2;have e3:=I.out w8 Y 3;have e4:=I.out w8 Y 4;have e5:=I.out w8 Y 5;have e6:=I.out w8 Y 6;have e7:=I.out w8 Y 7;have e8:=I.out w8 Y 8;simp only[gc] at e0 e1 e2 e3 e4 e5 e6 e7 e8;have a7:aa All wr w8:=HR.2.2.2.2.2.2.1.trans Y;have a8:aa All w w8:=HR.2.2.2.1.trans a7;have k7:=Ls S br p q f x b1 b2 _ _ w8 (HM.1.keep a8) (HM.2.1.keep a8 trivial) (HM.2.2.1.keep a8 trivial) (HR.2.2.2.2.2.2.2.1 w8 a7) (HR.2.2.2.2.2.2.2.2.1 w8 a7) HR.2.2.2.2.2.2.2.2.2 (HM.2.2.2.2.2.1 x c6) (HM.2.2.2.2.2.2.1 x c6) (HM.2.2.2.2.2.2.2 x c6) hv hb;have H8:=J5 k7 a7 a8 h8 c6;clear j0 Y h8 k7 a7 a8 c6;go_wp2_with fail;refine H8.1.mono ?_;rintro e w9 (⟨c9,b5,dd,rr,ss,y1,y2,y3,v1,v2,v3,rfl,hE⟩|⟨c9,⟨an,nn,hn,ha,hi,rfl⟩,b5⟩)
 case inr=>have HS:=J5 c9 hn ha hi b5;clear c9 hn ha hi b5;go_wp2_with fail;exact⟨rfl,.inr ⟨fun h=>HS.1 (h.2 x H8.2.2.2.2),⟨an,nn,HS.2.1,HS.2.2.1,HS.2.2.2.1,rfl⟩,H8.2.2.1.trans HS.2.2.2.2⟩⟩
 obtain⟨W9,d7⟩:=eQ (w9.alloc (.cells #[.int .u8 x.kind,.int .u8 x.op,.int .i64 dd,.int .i64 rr,.int .i64 ss,.slice y1 y2 y3,.slice v1 v2 v3,.int .i64 x.num,.int .i64 x.Nj] 56));have b7:=aC1 d7;have b9:=aA0 d7;have j1:=aD1 d7;have n7:=eE j1;have n8:=eE j1.symm;have o3:=H8.2.1.size;have o4:=b5.size;have o5:=HR.2.1.size;have d8:Kb wz.heap.size W9 (.slice E j ep) ((b.code.map (pg p q f)).take j):=HR.1.keep sH ((H8.2.1.trans b5).trans b7) fun _ _ _=>trivial;have H9:=J6 d7 b9 d8 (sH.keep b7.all hE) ((H8.2.1.trans b5).trans b7) c9;clear d7 b7 b9 j1 d8 hE c9 b5 e0 e1 e2 e3 e4 e5 e6 e7 e8 s0 s1 z0 z1 z2 z3 z4 z5 z6 z7 z8;go_wp2_with (
  at_builtin;go_loud (
  rw[←H9.1];refine bN (E:=KD) _ sH rfl (.tmp 70) (.tmp 75) 43 rfl iO _ 96 underlying43 h2.1 h2.2.1 h2.2.2.1 h2.2.2.2 rfl (by decide) _ _ rfl H9.2.2.1 w9.heap.size 0 1 rfl [.int .u8 x.kind,.int .u8 x.op,.int .i64 dd,.int .i64 rr,.int .i64 ss,.slice y1 y2 y3,.slice v1 v2 v3,.int .i64 x.num,.int .i64 x.Nj] (pg p q f x) rfl ?_ ?_ (by rw[h9];omega) (by omega) ?_ (fun b=>w8.heap.size≤b∧b<w9.heap.size) ?_ ?_ ?_;·intro j u hu;rw[cN,H9.2.1.cell,List.getElem?_toArray];exact hu
  ·intro u hu;simp only[fX,List.not_mem_nil,or_false] at hu;rcases hu with rfl|rfl|rfl|rfl|rfl|rfl|rfl|rfl|rfl<;>rfl
  ·omega
  ·intro b hb;have o6:w8.heap.size≤b∧b<w9.heap.size:=hb;obtain⟨_,m9⟩:=HR.1.own;exact⟨by omega,by omega,fun e=>by have:=(aD m9 e).2;omega⟩
  ·exact H9.2.2.2.1
  intro D2 o7 w4 d9 k8 k9;have H4:=J3 d9 k8 k9;clear d9 k8 k9))
 go_roundg (b.code.length-(j+1))
 ·refine⟨j+1,by omega,rfl,by go_num,?_,(HR.2.1.trans H9.2.2.2.2.1).grown H4.2.1 fun b hb=>.inr (H4.2.2 b hb),fun i' y hi hy=>?_⟩
  ·have e:(b.code.map (pg p q f)).take (j+1)=(b.code.map (pg p q f)).take j++[pg p q f x]:=by rw[cU,cL,HR.2.2.2.2.1];rfl
   rw[e];have h3:=H4.1;rw[h9] at h3;exact h3
  by_cases e:i'=j;·subst e;rw[HR.2.2.2.2.1] at hy;injection hy with hy;subst hy;exact⟨⟨H7.2,H8.2.2.2.1⟩,H9.2.2.2.2.2⟩
  exact HR.2.2.1 i' y (by omega) hy
 omega)
 obtain rfl:j=b.code.length:=by omega
 rw[oF (by rw[ce];omega)] at a1;have e9:∀(i:Nat) x,b.code[i]? =some x→Ky b.code i x∧mO p q f x:=fun i x hx=>b6 i x (lS.1 hx).1 hx;have hO:=a1.read (bw:=96) sH (by rw[ce];omega);have l0:=J.1.size;have n0:=HW.2.2.1.size;have HQ:=J3 (cT.wide (fun b (hb:wz.heap.size≤b∧b<wr.heap.size)=>show w.heap.size≤b∧b<wr.heap.size by omega) hO) e9 c5;clear a1 b3 b6 e9 hO c5 l0 n0;go_wp2_with fail;go_ret;exact .inl ⟨⟨nz.2 ⟨J.2,fun i x hx=>(HQ.2.1 i x hx).1⟩,fun x hx=>by obtain⟨i,hi⟩:=List.getElem?_of_mem hx;exact(HQ.2.1 i x hi).2⟩,HQ.2.2,_,rfl,HQ.1⟩
end Go.Proofs.YtgdlhckhpolnnaaGreatDoor
