/- Part 16 of the proof (its last part says what is proved). No condition. -/
import Derived.Test.YtccbbkopmlnkpaaGreatDoorK14
namespace Go.Proofs.YtccbbkopmlnkpaaGreatDoor
set_option maxRecDepth 100000
set_option maxHeartbeats 8000000
open Go.RowKit Go.Proofs.Tryz
section
theorem FC {b:av}{k:Nat}(h:cz (kJ (aM b)) b.Nm.length=k):oK b=(dH b k,16):=by unfold oK;rw[h,am (by omega),fD]
theorem CT {b:av}{k:Nat}(j:cz (kJ (aM b)) b.Nm.length= -1)(h:cz (iK (aM b)) b.Nm.length=k):oK b=(dH b k,17):=by unfold oK;rw[j,ah (by decide),h,am (by omega),fD]
open Classical in
theorem FD {b:av}(j:cz (kJ (aM b)) b.Nm.length= -1)(o:cz (iK (aM b)) b.Nm.length= -1){i:Nat}(h:fd (aM b) i 0):oK b=(dH b 0,18):=by unfold oK;rw[j,ah (by decide),o,ah (by decide),am ⟨i,h⟩]
open Classical in
theorem IM {b:av}(j:cz (kJ (aM b)) b.Nm.length= -1)(o:cz (iK (aM b)) b.Nm.length= -1)(h:∀i,¬fd (aM b) i 0):oK b=lH (uj b) b.Nm:=by unfold oK;rw[j,ah (by decide),o,ah (by decide),ah fun⟨i,hi⟩=>h i hi]
open Classical in
theorem Lg {b:av}{i k:Nat}{x:bI}(h:x.kind≠3){v:Int}(j:v∈x.args)(o:¬ky b v i k):uj b i k x=19:=by unfold uj;rw[ah h,ah fun h'=>o (h' v j)]
open Classical in
theorem Ms {b:av}{i k:Nat}{x:bI}(h:x.kind≠3)(j:∀v∈x.args,ky b v i k):uj b i k x=0:=by unfold uj;rw[ah h,am j]
def vV (b:av)(w:World)(e:Ending)(w':World):Prop:=e=.returned (.tuple #[.int .i64 (oK b).1,.int .i64 (oK b).2])∧aa All w w'
theorem vV.of {b:av}{w j:World}{x y:Int}(h:oK b=(x,y))(o:aa All w j):vV b w (.returned (.tuple #[.int .i64 x,.int .i64 y])) j:=by refine⟨?_,o⟩;rw[h]
theorem GC {b:av}{k:Nat}{l:List bI}{x:bI}(j:b.Nm[k]? =some l)(o:l[0]? =some x):dH b k=x.Np:=by
 unfold dH;have e:b.Nm.getD k []=l:=by rw[iL,j];rfl
 rw[e,iL,o];rfl
end
theorem mJ (k:Nat)(w:World):Calls prog 140 #[.int .u8 k] w fun e j=>e=.returned (.bool (decide (11≤k)))∧w=j:=by
 by_cases h:11≤k
 ·have t:decide ((11:Int)≤(k:Int))=true:=by simp;omega
  rw[be h];have H:=oH h;clear h;go_enter func140,ntmps140;go_wp2;go_ret;exact⟨rfl,rfl⟩
 have t:decide ((11:Int)≤(k:Int))=false:=by simp;omega
 rw[cN h];have H:=oH h;clear h;go_enter func140,ntmps140;go_wp2;go_ret;exact⟨rfl,rfl⟩
def Kq (l:List aB)(i:Nat)(x:aB):Prop:=(11≤x.kind→i+1=l.length)∧(x.kind=3→i=0∨∃y,l[i-1]? =some y∧y.kind=3)
def vX (l:List aB):Prop:=∃x,l[l.length-1]? =some x∧11≤x.kind
theorem nd {l:List aB}:kv (l.map fun x=>x.kind)↔vX l∧∀(i:Nat) x,l[i]? =some x→Kq l i x:=by
 constructor;·(
 rintro⟨Y,h1,h2⟩;have o:0<l.length:=by
  rcases l with _|⟨a,l⟩;·exact absurd rfl Y
  simp
 refine⟨?_,fun i x j=>⟨fun h=>?_,fun h=>?_⟩⟩
 ·obtain⟨x,j⟩:∃x,l[l.length-1]? =some x:=⟨_,lG (by omega)⟩
  exact⟨x,j,(h1 (l.length-1) x.kind (by rw[cy,j];rfl)).2 (by rw[aZ];omega)⟩
 ·have:=(h1 i x.kind (by rw[cy,j];rfl)).1 h
  rwa [aZ] at this
 rcases i with _|i;·exact .inl rfl
 have:=h2 i (by rw[cy,j];exact congrArg some h);rw[cy] at this;obtain⟨y,C,I⟩:=um.1 this;exact .inr ⟨y,by simpa using C,I⟩)
 rintro⟨⟨z,hz,I⟩,h⟩;have o:0<l.length:=by have:=(lS.1 hz).1;omega
 refine⟨fun e=>?_,fun i k hi=>?_,fun i hi=>?_⟩;·rw[List.map_eq_nil_iff] at e;subst e;simp at o
 ·rw[cy] at hi;obtain⟨x,j,rfl⟩:=um.1 hi;rw[aZ];refine⟨(h i x j).1,fun e=>?_⟩;have e':i=l.length-1:=by omega
  subst e';rw[hz] at j;cases j;exact I
 rw[cy] at hi;obtain⟨x,j,J⟩:=um.1 hi;rcases (h (i+1) x j).2 J with Y|⟨y,C,R⟩;·omega
 rw[cy,show l[i]? =some y by simpa using C];exact congrArg some R
def Cl (p:aI)(q:cf)(f:aR)(b:bM)(w:World)(e:Ending)(w':World):Prop:=
 qi (kv (b.code.map fun x=>x.kind)∧∀x∈b.code,kM p q f x) (fun e w'=>aa All w w'∧∃u,e=.returned u∧xn (fun b=>w.heap.size≤b∧b<w'.heap.size) w' u (b.code.map (pg p q f))) w e w'
theorem KR:(prog.info? 40).map (fun i=>(i.zero,i.size,i.bytes))=some (some (.agg #[.int .u8 0,.int .u8 0,.int .i64 0,.int .i64 0,.int .i64 0,.slice none 0 0,.slice none 0 0,.int .i64 0,.int .i64 0]),9,96):=by kernel_rfl
abbrev JV:=cq 9 40 Kw
theorem CB (S:Nat→Prop)(br:Nat)(p:aI)(q:cf)(f:aR)(b:bM)(b1 b2:Nat)(bv:Value)(w:World)(hr:se S w br p q)(j2:bN w b1 (bg f))(j3:bN w b2 (aO f))(j4:Ii S w bv b.code)(j5:aS b.Np)
 (hI:∀x∈b.code,aS (cK p q f x)∧aS (cR f x)) (hd:∀x∈b.code,x.dst=dQ∨x.dst∈aO f) (hz:∀x∈b.code,x.args.length≤1048576∧x.Nn.length≤1048576) (hv:(aO f).length≤1000000000) (hb:(bg f).length≤1000000000) (hl:b.code.length≤1048576):
 Calls prog 90 #[.pointer (some ⟨br,0,none⟩),.agg #[.map (some b1),.map (some b2)],.agg #[.string b.name,bv,.int .i64 b.Np]] w (Cl p q f b w):=by
 obtain⟨iO,j6,j7,j8,j9⟩:=info_parts KR;have h4:=J4 j6 j7 j8 j9;clear j6 j7 j8 j9;have hV:=fK.la j4;obtain⟨cA,cc,rfl,u1,u2,u3,_⟩:=j4;unfold maxLen at u2;obtain⟨W1,c3⟩:=eQ ((w.alloc (.cells #[.map (some b1),.map (some b2)] 167)).alloc (.cells #[.string b.name,.slice cA b.code.length cc,.int .i64 b.Np] 171));have k0:W1.heap.size=w.heap.size+2:=by rw[c3];simp
 have k1:aa All w W1:=by rw[c3];exact(kR.alloc _).alloc _
 have bS:al W1 w.heap.size 167 #[.map (some b1),.map (some b2)]:=by rw[c3];exact(al.new _ _ _).alloc _
 have bB:al W1 (w.heap.size+1) 171 #[.string b.name,.slice cA b.code.length cc,.int .i64 b.Np]:=by rw[c3];exact ac (by simp)
 have c1:=bB.cell 1;simp only[gc] at c1;have HW:=J5 c3 k0 k1 bS bB;have HM:=J8 hr j2 j3 hV j5 hI hd hz;clear c3 k0 k1 bS bB hr j2 j3 hV j5 hI hd hz;go_enter func90,ntmps90;go_upto_region 1 with fail;rw[←HW.1];go_upto_region 2 with fail;go_cut [] (fun wx=>aa All W1 wx∧vX b.code)
 case first=>(
 have c4:=oH HM.2.2.2.2.1;rcases Nat.eq_zero_or_pos b.code.length with h0|h0;·(
 have HN:=oH (show¬vX b.code from fun⟨x,hx,_⟩=>by have:=(lS.1 hx).1;omega);have HB:=oH (show∀wn,aa All W1 wn→wn.cell? ⟨w.heap.size+1,1,none⟩=some (.slice cA b.code.length cc)∧wn.cell? ⟨w.heap.size+1,2,none⟩=some (.int .i64 b.Np)∧True from fun wn o=>⟨(HW.2.2.2.2.kept o trivial).cell 1,(HW.2.2.2.2.kept o trivial).cell 2,trivial⟩);have t0:decide ((1:Int)≤(b.code.length:Int))=false:=by simp;omega
 have o1:=oH h0;clear h0;refine aK 15 (aa All W1) [] (fun _ _ _=>True) (fun i=>if i=14 then some (·=.tuple #[]) else none) (fun i=>decide (i=14)) (fun ch wn=>∃a n:Int,n≠0∧aS a∧aS n∧ch=[{v:=.iface 153 (.agg #[.int .i64 a,.int .i64 n]),recovered:=false}]∧aa All W1 wn) (by kernel_rfl) (by kernel_rfl) (by kernel_rfl) (by kernel_rfl) kR.drew ?_ ?_
 ·rintro a ch wn ⟨an,nn,a8,b0,b3,rfl,b4⟩ b5
  exact⟨b5,.inr ⟨fun h=>HN.out (nd.1 h.1).1,⟨an,nn,a8,b0,b3,rfl⟩,(HW.2.2.1).trans b4⟩⟩
 simp only[tK];iterate 3 refine O0 ?_
 iterate 8 refine O2 ?_
 iterate 2 refine O0 ?_
 refine O4 HB.out ?_;refine O7 (.tuple #[]) (fun wn o I=>⟨_,_,by(go_simp<;>with_reducible rfl),(eP b.Np 15 wn).mono fun e w' h=>⟨_,h.1,b.Np,15,by decide,c4.out,by unfold aS;omega,rfl,h.2▸o⟩⟩) ?_;exact cZ)
 obtain⟨m,hm⟩:∃m:Nat,b.code.length=m+1:=⟨b.code.length-1,by omega⟩;obtain⟨x,hx⟩:∃x,b.code[m]? =some x:=⟨_,lG (by omega)⟩;obtain⟨xb,xo,l7,rfl,l8,k2,R,xa,xf,rfl,_,_,k3⟩:=bh (HM.2.2.2.1 W1 HW.2.2.1) hx;have z0:=R 0 _ rfl;rw[cJ] at z0;have HB:=oH (show∀wn,aa All W1 wn→wn.cell? ⟨w.heap.size+1,1,none⟩=some (.slice (some ⟨xb,xo,none⟩) b.code.length cc)∧wn.cell? ⟨w.heap.size+1,2,none⟩=some (.int .i64 b.Np)∧wn.cell? ⟨xb,xo+m*9,none⟩=some (.int .u8 x.kind) from fun wn o=>⟨(HW.2.2.2.2.kept o trivial).cell 1,(HW.2.2.2.2.kept o trivial).cell 2,o.cell trivial z0⟩);clear R z0;have t0:decide ((1:Int)≤(b.code.length:Int))=true:=by simp;omega
 have tm:(if(b.code.length:Int)-1<0 then(0:Int) else(b.code.length:Int)-1)=(m:Int):=by split<;>omega
 have tl:m<b.code.length:=by omega
 have hx:b.code[b.code.length-1]? =some x:=by rw[show b.code.length-1=m by omega];exact hx
 by_cases o:11≤x.kind
 ·have HX:=J2 hx o;have c5:=oH (fun wn=>mJ x.kind wn);rw[be o] at c5;have l9:=oH hm;clear hx o hm;refine R0 15 W1 (fun i=>if i=14 then some (·=.tuple #[]) else if i=10 then some (·=.bool true) else none) ?_;iterate 4 refine O0 ?_
  refine O4 HB.out ?_;iterate 4 refine O0 ?_
  refine O4 HB.out ?_;refine O5 (v:=.bool true) (fun wn o I=>⟨_,_,by(go_simp<;>with_reducible rfl),(c5.out wn).mono fun e w' h=>⟨h.1,h.2▸o,fun _ h=>by cases h⟩⟩) ?_;iterate 2 refine O0 ?_
  refine O4 HB.out ?_;refine O5 (v:=.tuple #[]) (fun wn o I=>⟨_,_,by(go_simp<;>with_reducible rfl),(dl b.Np 15 wn).mono fun e w' h=>⟨h.1,h.2▸o,fun _ h=>by cases h⟩⟩) ?_;refine aD fun wt J hF=>?_;have HT:=oH J;clear J hF;simp only[dK];go_wp2_with fail;go_meet;exact⟨HT.out,x,HX.1,HX.2⟩
 have HX:=J2 hx o;have c5:=oH (fun wn=>mJ x.kind wn);rw[cN o] at c5;have l9:=oH hm;clear hx o hm;have HN:=oH (show¬vX b.code from fun⟨y,hy,n0⟩=>by have h1:=HX.1;rw[h1] at hy;cases hy;exact HX.2 n0);refine aK 15 (aa All W1) [] (fun _ _ _=>True) (fun i=>if i=14 then some (·=.tuple #[]) else if i=10 then some (·=.bool false) else none) (fun i=>decide (i=14)) (fun ch wn=>∃a n:Int,n≠0∧aS a∧aS n∧ch=[{v:=.iface 153 (.agg #[.int .i64 a,.int .i64 n]),recovered:=false}]∧aa All W1 wn) (by kernel_rfl) (by kernel_rfl) (by kernel_rfl) (by kernel_rfl) kR.drew ?_ ?_
 ·rintro a ch wn ⟨an,nn,a8,b0,b3,rfl,b4⟩ b5
  exact⟨b5,.inr ⟨fun h=>HN.out (nd.1 h.1).1,⟨an,nn,a8,b0,b3,rfl⟩,(HW.2.2.1).trans b4⟩⟩
 simp only[tK];iterate 4 refine O0 ?_
 refine O4 HB.out ?_;iterate 4 refine O0 ?_
 refine O4 HB.out ?_;refine O5 (v:=.bool false) (fun wn o I=>⟨_,_,by(go_simp<;>with_reducible rfl),(c5.out wn).mono fun e w' h=>⟨h.1,h.2▸o,fun _ h=>by cases h⟩⟩) ?_;iterate 2 refine O0 ?_
 refine O4 HB.out ?_;refine O7 (.tuple #[]) (fun wn o I=>⟨_,_,by(go_simp<;>with_reducible rfl),(eP b.Np 15 wn).mono fun e w' h=>⟨_,h.1,b.Np,15,by decide,c4.out,by unfold aS;omega,rfl,h.2▸o⟩⟩) ?_;exact cZ)
 obtain⟨h9,c6⟩:=hcut;obtain⟨wz,rfl⟩:=eQ wc;have d1:=(HW.2.2.2.2.kept h9 trivial).cell 1;simp only[gc] at d1;have HC:=J2 h9 c6;clear h9 c6 c1;go_wp2_with fail;go_loopg [8,33] b.code.length (fun g s8 n1 wr=>∃j:Nat,j≤b.code.length∧g=b.code.length-j∧n1=.int .i64 j∧JV wz.heap.size wr s8 ((b.code.map (pg p q f)).take j)∧aa All wz wr∧∀(i:Nat) x,i<j→b.code[i]? =some x→Kq b.code i x∧kM p q f x);·exact⟨0,by omega,by omega,rfl,cq.nil,kR,fun i a h=>by omega⟩
 obtain⟨j,hj,rfl,rfl,a1,b6,c0⟩:=hrel;obtain⟨E,ep,rfl⟩:=a1.form;have i1:((b.code.map (pg p q f)).take j).length=j:=by rw[kQ,aZ];omega
 rw[i1] at a1⊢;have c7:aa All w wr:=(HW.2.2.1.trans HC.1).trans b6;by_cases n2:j<b.code.length;·(
 obtain⟨x,hx⟩:=eG n2;have c8:=mG hx;have hV:=HM.2.2.2.1 wr c7;obtain⟨xb,xo,l7,rfl,l8,k2,R,xa,xf,rfl,k4,k5,k3⟩:=bh hV hx;have k6:=ap.la k4;have k7:=ap.la k5;obtain⟨ua,uc,rfl,_⟩:=k4;obtain⟨va,vc,rfl,_⟩:=k5;have z0:=R 0 _ rfl;rw[cJ] at z0;have z1:=R 1 _ rfl;have z2:=R 2 _ rfl;have z3:=R 3 _ rfl;have z4:=R 4 _ rfl;have z5:=R 5 _ rfl;have z6:=R 6 _ rfl;have z7:=R 7 _ rfl;have z8:=R 8 _ rfl;obtain⟨W2,h5⟩:=eQ (wr.alloc (.cells #[.int .u8 x.kind,.int .u8 x.op,.string x.dst,.string x.ref,.string x.No,.slice ua x.args.length uc,.slice va x.Nn.length vc,.int .i64 x.num,.int .i64 x.Np] 185));have b7:aa All wr W2:=by rw[h5];exact kR.alloc _
 have k8:al W2 wr.heap.size 185 #[.int .u8 x.kind,.int .u8 x.op,.string x.dst,.string x.ref,.string x.No,.slice ua x.args.length uc,.slice va x.Nn.length vc,.int .i64 x.num,.int .i64 x.Np]:=by rw[h5];exact ac rfl
 have k9:=oH (show∀y,0<j→b.code[j-1]? =some y→∀wn,aa All wr wn→wn.cell? ⟨xb,xo+(j-1)*9,none⟩=some (.int .u8 y.kind) from fun y _ hy wn o=>by obtain⟨b',o',o2,he,_,_,n3,a',f',rfl,_⟩:=bh hV hy;injection he with he;injection he with n4 n5;subst n4 n5;have:=n3 0 _ rfl;rw[cJ] at this;exact o.cell trivial this);have C:=oH (show∀wn,aa All W2 wn→∀i,wn.cell? ⟨wr.heap.size,i,none⟩=(#[.int .u8 x.kind,.int .u8 x.op,.string x.dst,.string x.ref,.string x.No,.slice ua x.args.length uc,.slice va x.Nn.length vc,.int .i64 x.num,.int .i64 x.Np]:Array Value)[i]? from fun wn o i=>(k8.kept o trivial).cell i);have i6:=oH (show∀wn,aa All W2 wn→wn.cell? ⟨w.heap.size+1,1,none⟩=some (.slice (some ⟨xb,xo,none⟩) b.code.length cc)∧wn.cell? ⟨w.heap.size,0,none⟩=some (.map (some b1))∧wn.cell? ⟨w.heap.size,1,none⟩=some (.map (some b2)) from fun wn o=>⟨((((HW.2.2.2.2.kept HC.1 trivial).kept b6 trivial).kept b7 trivial).kept o trivial).cell 1,((((HW.2.2.2.1.kept HC.1 trivial).kept b6 trivial).kept b7 trivial).kept o trivial).cell 0,((((HW.2.2.2.1.kept HC.1 trivial).kept b6 trivial).kept b7 trivial).kept o trivial).cell 1⟩);have HR:=J10 a1 b6 c0 c7 hx h5 b7 k6 k7 k3;clear a1 b6 c0 c7 hx h5 b7 k6 k7 hV R k8;go_upto_region 7 with fail;rw[←HR.2.2.2.2.2.1];have c4:=oH HR.2.2.2.2.2.2.2.2.2.Np;go_cut [] (fun wx=>aa All W2 wx∧(11≤x.kind→j+1=b.code.length))
 case first=>(
 by_cases o:11≤x.kind;·(
 by_cases c9:j+1=b.code.length
 ·have HE:=oH (fun wn=>mJ x.kind wn);rw[be o] at HE;have te:((j:Int)==(b.code.length:Int)-1)=true:=by rw[cX];omega
  have HK:=oH o;clear o;have l0:=oH c9;clear c9;refine R0 12 W2 (fun i=>if i=11 then some (·=.tuple #[]) else if i=2 then some (·=.bool true) else none) ?_;refine O0 ?_;refine O3 (fun wn o I=>by(have e0:=C.out wn o 0;simp only[gc] at e0;go_simp;with_reducible rfl)) ?_;refine O5 (v:=.bool true) (fun wn o I=>⟨_,_,by(go_simp<;>with_reducible rfl),(HE.out wn).mono fun e w' h=>⟨h.1,h.2▸o,fun _ h=>by cases h⟩⟩) ?_;iterate 7 refine O0 ?_
  refine O3 (fun wn o I=>by(have e8:=C.out wn o 8;simp only[gc] at e8;go_simp;with_reducible rfl)) ?_;refine O5 (v:=.tuple #[]) (fun wn o I=>⟨_,_,by(go_simp<;>with_reducible rfl),(dl x.Np 15 wn).mono fun e w' h=>⟨h.1,h.2▸o,fun _ h=>by cases h⟩⟩) ?_;refine aD fun wt J hF=>?_;have HT:=oH J;clear J hF;simp only[dK];go_wp2_with fail;go_meet;exact⟨HT.out,fun _=>l0.out⟩
 have HE:=oH (fun wn=>mJ x.kind wn);rw[be o] at HE;have te:((j:Int)==(b.code.length:Int)-1)=false:=by rw[bE];omega
 have HN:=oH (show¬kv (b.code.map fun x=>x.kind) from fun h=>c9 (((nd.1 h).2 j x HR.2.2.2.2.1).1 o));have HK:=oH o;clear o;have l0:=oH c9;clear c9;refine aK 12 (aa All W2) [] (fun _ _ _=>True) (fun i=>if i=11 then some (·=.tuple #[]) else if i=2 then some (·=.bool true) else none) (fun i=>decide (i=11)) (fun ch wn=>∃a n:Int,n≠0∧aS a∧aS n∧ch=[{v:=.iface 153 (.agg #[.int .i64 a,.int .i64 n]),recovered:=false}]∧aa All W2 wn) (by kernel_rfl) (by kernel_rfl) (by kernel_rfl) (by kernel_rfl) kR.drew ?_ ?_
 ·rintro a ch wn ⟨an,nn,a8,b0,b3,rfl,b4⟩ b5
  exact⟨b5,.inr ⟨fun h=>HN.out h.1,⟨an,nn,a8,b0,b3,rfl⟩,(HR.2.2.2.1.trans HR.2.2.2.2.2.2.1).trans b4⟩⟩
 simp only[tK];refine O0 ?_;refine O3 (fun wn o I=>by(have e0:=C.out wn o 0;simp only[gc] at e0;go_simp;with_reducible rfl)) ?_;refine O5 (v:=.bool true) (fun wn o I=>⟨_,_,by(go_simp<;>with_reducible rfl),(HE.out wn).mono fun e w' h=>⟨h.1,h.2▸o,fun _ h=>by cases h⟩⟩) ?_;iterate 7 refine O0 ?_
 refine O3 (fun wn o I=>by(have e8:=C.out wn o 8;simp only[gc] at e8;go_simp;with_reducible rfl)) ?_;refine O7 (.tuple #[]) (fun wn o I=>⟨_,_,by(go_simp<;>with_reducible rfl),(eP x.Np 15 wn).mono fun e w' h=>⟨_,h.1,x.Np,15,by decide,c4.out,by unfold aS;omega,rfl,h.2▸o⟩⟩) ?_;exact cZ)
 have HE:=oH (fun wn=>mJ x.kind wn);rw[cN o] at HE;have HK:=oH o;clear o;refine R0 12 W2 (fun i=>if i=11 then some (·=.tuple #[]) else if i=2 then some (·=.bool false) else none) ?_;refine O0 ?_;refine O3 (fun wn o I=>by(have e0:=C.out wn o 0;simp only[gc] at e0;go_simp;with_reducible rfl)) ?_;refine O5 (v:=.bool false) (fun wn o I=>⟨_,_,by(go_simp<;>with_reducible rfl),(HE.out wn).mono fun e w' h=>⟨h.1,h.2▸o,fun _ h=>by cases h⟩⟩) ?_;iterate 2 refine O0 ?_
 iterate 3 refine O2 ?_
 iterate 2 refine O0 ?_
 refine O3 (fun wn o I=>by(have e8:=C.out wn o 8;simp only[gc] at e8;go_simp;with_reducible rfl)) ?_;refine O5 (v:=.tuple #[]) (fun wn o I=>⟨_,_,by(go_simp<;>with_reducible rfl),(dl x.Np 15 wn).mono fun e w' h=>⟨h.1,h.2▸o,fun _ h=>by cases h⟩⟩) ?_;refine aD fun wt J hF=>?_;have HT:=oH J;clear J hF;simp only[dK];go_wp2_with fail;go_meet;exact⟨HT.out,fun h=>absurd h HK.out⟩)
 obtain⟨l1,h7⟩:=hcut;obtain⟨w7,rfl⟩:=eQ wc;have H7:=J2 l1 h7;clear l1 h7;go_upto_region 8 with fail;go_cut [] (fun wx=>aa All W2 wx∧(x.kind=3→j=0∨∃y,b.code[j-1]? =some y∧y.kind=3))
 case first=>(
 by_cases h3:x.kind=3;·(
 by_cases h6:j=0
 ·have t3:=wK x.kind 3 (by omega);have tz:((j:Int)==0)=true:=by rw[cX];omega
  have H3:=J2 h3 h6;clear h3 h6;refine R0 20 w7 (fun i=>if i=19 then some (·=.tuple #[]) else none) ?_;refine O0 ?_;refine O3 (fun wn o I=>by(have e0:=C.out wn (H7.1.trans o) 0;simp only[gc] at e0;go_simp;with_reducible rfl)) ?_;iterate 6 refine O0 ?_
  iterate 8 refine O2 ?_
  iterate 2 refine O0 ?_
  refine O3 (fun wn o I=>by(have e8:=C.out wn (H7.1.trans o) 8;simp only[gc] at e8;go_simp;with_reducible rfl)) ?_;refine O5 (v:=.tuple #[]) (fun wn o I=>⟨_,_,by(go_simp<;>with_reducible rfl),(dl x.Np 18 wn).mono fun e w' h=>⟨h.1,h.2▸o,fun _ h=>by cases h⟩⟩) ?_;refine aD fun wt J hF=>?_;have HT:=oH J;clear J hF;simp only[dK];go_wp2_with fail;go_meet;exact⟨H7.1.trans HT.out,fun _=>.inl H3.2⟩
 obtain⟨y,hy⟩:∃y,b.code[j-1]? =some y:=⟨_,lG (by omega)⟩;by_cases I:y.kind=3;·(
 have t3:=wK x.kind 3 (by omega);have i7:=oH (k9.out y (by omega) hy);obtain⟨m,rfl⟩:∃m,j=m+1:=⟨j-1,by omega⟩;have tz:((m:Int)+1==0)=false:=by rw[bE];omega
 have tp:=yK y.kind 3 (by omega);have tm:m<b.code.length:=by omega
 have n6:m≤1048576:=by omega
 have tw:IntKind.i64.wrap (m:Int)=(m:Int):=by rw[IntKind.wrap_i64];omega
 have H3:=J3 h3 hy I;clear h3 hy I h6;refine R0 20 w7 (fun i=>if i=19 then some (·=.tuple #[]) else none) ?_;refine O0 ?_;refine O3 (fun wn o I=>by(have e0:=C.out wn (H7.1.trans o) 0;simp only[gc] at e0;go_simp;with_reducible rfl)) ?_;iterate 7 refine O0 ?_
 refine O3 (fun wn o I=>by(have e5:=(i6.out wn (H7.1.trans o)).1;go_simp;with_reducible rfl)) ?_;iterate 4 refine O0 ?_
 refine O3 (fun wn o I=>by(have e6:=i7.out wn (HR.2.2.2.2.2.2.1.trans (H7.1.trans o));rw[Nat.add_sub_cancel] at e6;go_simp;with_reducible rfl)) ?_;iterate 3 refine O0 ?_
 refine O3 (fun wn o I=>by(have e8:=C.out wn (H7.1.trans o) 8;simp only[gc] at e8;go_simp;with_reducible rfl)) ?_;refine O5 (v:=.tuple #[]) (fun wn o I=>⟨_,_,by(go_simp<;>with_reducible rfl),(dl x.Np 18 wn).mono fun e w' h=>⟨h.1,h.2▸o,fun _ h=>by cases h⟩⟩) ?_;refine aD fun wt J hF=>?_;have HT:=oH J;clear J hF;simp only[dK];go_wp2_with fail;go_meet;exact⟨H7.1.trans HT.out,fun _=>.inr ⟨y,H3.2.1,H3.2.2⟩⟩)
 have t3:=wK x.kind 3 (by omega);have i7:=oH (k9.out y (by omega) hy);obtain⟨m,rfl⟩:∃m,j=m+1:=⟨j-1,by omega⟩;have tz:((m:Int)+1==0)=false:=by rw[bE];omega
 have tp:=nK y.kind 3 (by omega);have tm:m<b.code.length:=by omega
 have n6:m≤1048576:=by omega
 have tw:IntKind.i64.wrap (m:Int)=(m:Int):=by rw[IntKind.wrap_i64];omega
 have HN:=oH (show¬kv (b.code.map fun x=>x.kind) from fun h=>by
  rcases ((nd.1 h).2 _ x HR.2.2.2.2.1).2 h3 with h0|⟨y2,l2,b7⟩;·omega
  rw[hy] at l2;cases l2;exact I b7)
 have H3:=J3 h3 hy I;clear h3 hy I h6;refine aK 20 (aa All w7) [] (fun _ _ _=>True) (fun i=>if i=19 then some (·=.tuple #[]) else none) (fun i=>decide (i=19)) (fun ch wn=>∃a n:Int,n≠0∧aS a∧aS n∧ch=[{v:=.iface 153 (.agg #[.int .i64 a,.int .i64 n]),recovered:=false}]∧aa All w7 wn) (by kernel_rfl) (by kernel_rfl) (by kernel_rfl) (by kernel_rfl) kR.drew ?_ ?_
 ·rintro a ch wn ⟨an,nn,a8,b0,b3,rfl,b4⟩ b5
  exact⟨b5,.inr ⟨fun h=>HN.out h.1,⟨an,nn,a8,b0,b3,rfl⟩,((HR.2.2.2.1.trans HR.2.2.2.2.2.2.1).trans H7.1).trans b4⟩⟩
 simp only[tK];refine O0 ?_;refine O3 (fun wn o I=>by(have e0:=C.out wn (H7.1.trans o) 0;simp only[gc] at e0;go_simp;with_reducible rfl)) ?_;iterate 7 refine O0 ?_
 refine O3 (fun wn o I=>by(have e5:=(i6.out wn (H7.1.trans o)).1;go_simp;with_reducible rfl)) ?_;iterate 4 refine O0 ?_
 refine O3 (fun wn o I=>by(have e6:=i7.out wn (HR.2.2.2.2.2.2.1.trans (H7.1.trans o));rw[Nat.add_sub_cancel] at e6;go_simp;with_reducible rfl)) ?_;iterate 3 refine O0 ?_
 refine O3 (fun wn o I=>by(have e8:=C.out wn (H7.1.trans o) 8;simp only[gc] at e8;go_simp;with_reducible rfl)) ?_;refine O7 (.tuple #[]) (fun wn o I=>⟨_,_,by(go_simp<;>with_reducible rfl),(eP x.Np 18 wn).mono fun e w' h=>⟨_,h.1,x.Np,18,by decide,c4.out,by unfold aS;omega,rfl,h.2▸o⟩⟩) ?_;exact cZ)
 have t3:=mK x.kind 3 (by omega);have H3:=oH h3;clear h3;refine R0 20 w7 (fun i=>if i=19 then some (·=.tuple #[]) else none) ?_;refine O0 ?_;refine O3 (fun wn o I=>by(have e0:=C.out wn (H7.1.trans o) 0;simp only[gc] at e0;go_simp;with_reducible rfl)) ?_;iterate 2 refine O0 ?_
 iterate 2 refine O2 ?_
 iterate 2 refine O0 ?_
 iterate 8 refine O2 ?_
 iterate 2 refine O0 ?_
 refine O3 (fun wn o I=>by(have e8:=C.out wn (H7.1.trans o) 8;simp only[gc] at e8;go_simp;with_reducible rfl)) ?_;refine O5 (v:=.tuple #[]) (fun wn o I=>⟨_,_,by(go_simp<;>with_reducible rfl),(dl x.Np 18 wn).mono fun e w' h=>⟨h.1,h.2▸o,fun _ h=>by cases h⟩⟩) ?_;refine aD fun wt J hF=>?_;have HT:=oH J;clear J hF;simp only[dK];go_wp2_with fail;go_meet;exact⟨H7.1.trans HT.out,fun h=>absurd h H3.out⟩)
 obtain⟨Y,h8⟩:=hcut;obtain⟨w8,rfl⟩:=eQ wc;have j0:=i6.out w8 Y;have s0:=j0.2.1;have s1:=j0.2.2;have e0:=C.out w8 Y 0;have e1:=C.out w8 Y 1;have e2:=C.out w8 Y 2;have e3:=C.out w8 Y 3;have e4:=C.out w8 Y 4;have e5:=C.out w8 Y 5;have e6:=C.out w8 Y 6;have e7:=C.out w8 Y 7;have e8:=C.out w8 Y 8;simp only[gc] at e0 e1 e2 e3 e4 e5 e6 e7 e8;have a6:aa All wr w8:=HR.2.2.2.2.2.2.1.trans Y;have a7:aa All w w8:=HR.2.2.2.1.trans a6;have l3:=Li S br p q f x b1 b2 _ _ w8 (HM.1.keep a7) (HM.2.1.keep a7 trivial) (HM.2.2.1.keep a7 trivial) (HR.2.2.2.2.2.2.2.1 w8 a6) (HR.2.2.2.2.2.2.2.2.1 w8 a6) HR.2.2.2.2.2.2.2.2.2 (HM.2.2.2.2.2.1 x c8) (HM.2.2.2.2.2.2.1 x c8) (HM.2.2.2.2.2.2.2 x c8) hv hb;have H8:=J5 l3 a6 a7 h8 c8;clear j0 Y h8 l3 a6 a7 c8;go_wp2_with fail;refine H8.1.mono ?_;rintro e w9 (⟨d7,b8,dd,rr,ss,y1,y2,y3,v1,v2,v3,rfl,hE⟩|⟨d7,⟨an,nn,hn,ha,hi,rfl⟩,b8⟩)
 case inr=>have HS:=J5 d7 hn ha hi b8;clear d7 hn ha hi b8;go_wp2_with fail;exact⟨rfl,.inr ⟨fun h=>HS.1 (h.2 x H8.2.2.2.2),⟨an,nn,HS.2.1,HS.2.2.1,HS.2.2.2.1,rfl⟩,H8.2.2.1.trans HS.2.2.2.2⟩⟩
 obtain⟨W9,d8⟩:=eQ (w9.alloc (.cells #[.int .u8 x.kind,.int .u8 x.op,.int .i64 dd,.int .i64 rr,.int .i64 ss,.slice y1 y2 y3,.slice v1 v2 v3,.int .i64 x.num,.int .i64 x.Np] 40));have c2:aa All w9 W9:=by rw[d8];exact kR.alloc _
 have b9:al W9 w9.heap.size 40 #[.int .u8 x.kind,.int .u8 x.op,.int .i64 dd,.int .i64 rr,.int .i64 ss,.slice y1 y2 y3,.slice v1 v2 v3,.int .i64 x.num,.int .i64 x.Np]:=by rw[d8];exact ac rfl
 have j1:W9.heap.size=w9.heap.size+1:=by rw[d8];simp
 have n9:=dY j1;have o0:=dY j1.symm;have o3:=H8.2.1.size;have o4:=b8.size;have o5:=HR.2.1.size;have d9:JV wz.heap.size W9 (.slice E j ep) ((b.code.map (pg p q f)).take j):=HR.1.keep sD ((H8.2.1.trans b8).trans c2) fun _ _ _=>trivial;have H9:=J6 d8 b9 d9 (sD.keep c2.all hE) ((H8.2.1.trans b8).trans c2) d7;clear d8 c2 b9 j1 d9 hE d7 b8 e0 e1 e2 e3 e4 e5 e6 e7 e8 s0 s1 z0 z1 z2 z3 z4 z5 z6 z7 z8;go_wp2_with (
  at_builtin;go_loud (
  rw[←H9.1];refine bC (E:=Kw) _ sD rfl (.tmp 70) (.tmp 75) 36 rfl iO _ 96 underlying36 h4.1 h4.2.1 h4.2.2.1 h4.2.2.2 rfl (by decide) _ _ rfl H9.2.2.1 w9.heap.size 0 1 rfl [.int .u8 x.kind,.int .u8 x.op,.int .i64 dd,.int .i64 rr,.int .i64 ss,.slice y1 y2 y3,.slice v1 v2 v3,.int .i64 x.num,.int .i64 x.Np] (pg p q f x) rfl ?_ ?_ (by rw[i1];omega) (by omega) ?_ (fun b=>w8.heap.size≤b∧b<w9.heap.size) ?_ ?_ ?_;·intro j u hu;rw[dU,H9.2.1.cell,List.getElem?_toArray];exact hu
  ·intro u hu;simp only[fV,List.not_mem_nil,or_false] at hu;rcases hu with rfl|rfl|rfl|rfl|rfl|rfl|rfl|rfl|rfl<;>rfl
  ·omega
  ·intro b hb;have o6:w8.heap.size≤b∧b<w9.heap.size:=hb;obtain⟨_,n7⟩:=HR.1.own;exact⟨by omega,by omega,fun e=>by have:=(au n7 e).2;omega⟩
  ·exact H9.2.2.2.1
  intro D2 o7 w4 e9 l4 l5;have H4:=J3 e9 l4 l5;clear e9 l4 l5))
 go_roundg (b.code.length-(j+1))
 ·refine⟨j+1,by omega,rfl,by go_num,?_,(HR.2.1.trans H9.2.2.2.2.1).grown H4.2.1 fun b hb=>.inr (H4.2.2 b hb),fun i' y hi hy=>?_⟩
  ·have e:(b.code.map (pg p q f)).take (j+1)=(b.code.map (pg p q f)).take j++[pg p q f x]:=by rw[dT,cy,HR.2.2.2.2.1];rfl
   rw[e];have h3:=H4.1;rw[i1] at h3;exact h3
  by_cases e:i'=j;·subst e;rw[HR.2.2.2.2.1] at hy;injection hy with hy;subst hy;exact⟨⟨H7.2,H8.2.2.2.1⟩,H9.2.2.2.2.2⟩
  exact HR.2.2.1 i' y (by omega) hy
 omega)
 obtain rfl:j=b.code.length:=by omega
 rw[oz (by rw[aZ];omega)] at a1;have h2:∀(i:Nat) x,b.code[i]? =some x→Kq b.code i x∧kM p q f x:=fun i x hx=>c0 i x (lS.1 hx).1 hx;have hO:=a1.read (bw:=96) sD (by rw[aZ];omega);have l6:=HC.1.size;have n8:=HW.2.2.1.size;have HQ:=J3 (ez.wide (fun b (hb:wz.heap.size≤b∧b<wr.heap.size)=>show w.heap.size≤b∧b<wr.heap.size by omega) hO) h2 c7;clear a1 b6 c0 h2 hO c7 l6 n8;go_wp2_with fail;go_ret;exact .inl ⟨⟨nd.2 ⟨HC.2,fun i x hx=>(HQ.2.1 i x hx).1⟩,fun x hx=>by obtain⟨i,hi⟩:=List.getElem?_of_mem hx;exact(HQ.2.1 i x hi).2⟩,HQ.2.2,_,rfl,HQ.1⟩
theorem uw (j o C:Addr)(w:World):
 CallsD prog 82 #[.pointer (some j),.pointer (some o),.pointer (some C)] .returning w fun e I J=>e=.returned (.tuple #[])∧I=.returning∧J=w:=by
 refine callsD_of_wpS func82 rfl fun R cs hu=>?_;apply wpS_seq;apply wpS_region;simp[wpOpsS,go_sem,recoverD,hu,ntmps82,Exit.thenS];apply wpS_seq;apply wpS_region;simp[wpOpsS,go_sem,Exit.thenS];refine wpS_cond (t:=false) (by simp[Act.eval,Array.replicate]) ?_;simp only[Is,if_false];refine wpS_of_wp (wp_skip ?_);cases R;simp_all [bodyPostS,results,Tryz.results82]
theorem ux (j o C:Nat)(a n:Int)(v1 v2:Value)(m x5 x6:Int)(I:List PanicEntry)(w:World)(h4:al w j 30 #[v1,v2,.int .i64 m])(h5:al w o 3 #[.int .i64 x5])(h6:al w C 41 #[.int .i64 x6]):
 CallsD prog 82 #[.pointer (some ⟨j,0,none⟩),.pointer (some ⟨o,0,none⟩),.pointer (some ⟨C,0,none⟩)] (.panicking ({v:=.iface 153 (.agg #[.int .i64 a,.int .i64 n]),recovered:=false}::I)) w fun e u' w'=>e=.returned (.tuple #[])∧u'=.panicking ({v:=.iface 153 (.agg #[.int .i64 a,.int .i64 n]),recovered:=true}::I)∧
  aa (fun b=>b≠j∧b≠o∧b≠C) w w'∧al w' j 30 #[.slice none 0 0,.slice none 0 0,.int .i64 0]∧al w' o 3 #[.int .i64 a]∧al w' C 41 #[.int .i64 n]:=by
 refine callsD_of_wpS func82 rfl fun c₀ cs hu=>?_;apply wpS_seq;apply wpS_region;simp[wpOpsS,go_sem,recoverD,hu,ntmps82,Exit.thenS];apply wpS_seq;apply wpS_region;simp[wpOpsS,go_sem,Exit.thenS];refine wpS_cond (t:=true) (by simp[Act.eval,Array.replicate]) ?_;simp only[if_true];simp only[show Array.replicate 19 undef= #[undef,undef,undef,undef,undef,undef,undef,undef,undef,undef,undef,undef,undef,undef,undef,undef,undef,undef,undef] from rfl,List.setIfInBounds_toArray,List.set_cons_zero,List.set_cons_succ,List.append_toArray,List.cons_append,si];refine wpS_of_wp ?_;have b1:(Instr.typeAssert (.iface 153 (.agg #[.int .i64 a,.int .i64 n])) 20 153 true).run prog w=.ok (.tuple #[.agg #[.int .i64 a,.int .i64 n],.bool true]) w:=by kernel_rfl
 go_upto_region 5 with fail;obtain⟨W1,J⟩:=eQ (w.alloc (.cells #[.int .i64 a,.int .i64 n] 153));rw[←J];have g4:=h4.alloc (.cells #[.int .i64 a,.int .i64 n] 153);have g5:=h5.alloc (.cells #[.int .i64 a,.int .i64 n] 153);have g6:=h6.alloc (.cells #[.int .i64 a,.int .i64 n] 153);rw[←J] at g4 g5 g6;have gs:al W1 w.heap.size 153 #[.int .i64 a,.int .i64 n]:=by rw[J];exact ac rfl
 have a1:aa All w W1:=by rw[J];exact kR.alloc _
 have a6:j≠o:=fun e=>al.ne h4 h5 (by decide) e;have a7:j≠C:=fun e=>al.ne h4 h6 (by decide) e;have a8:o≠C:=fun e=>al.ne h5 h6 (by decide) e;have m4:j≠w.heap.size:=by have:=h4.lt;omega
 have m5:o≠w.heap.size:=by have:=h5.lt;omega
 have m6:C≠w.heap.size:=by have:=h6.lt;omega
 have R:=a6.symm;have Y:=a7.symm;have b0:=a8.symm;have r4:=m4.symm;have r5:=m5.symm;have r6:=m6.symm;have q0:=g4.cell 0;have q1:=g4.cell 1;have q2:=g4.cell 2;have q5:=g5.cell 0;have q6:=g6.cell 0;have s0:=gs.cell 0;have s1:=gs.cell 1;have f0:=g4.free 0;have f1:=g4.free 1;have f2:=g4.free 2;have f5:=g5.free 0;have f6:=g6.free 0;simp only[gc] at q0 q1 q2 q5 q6 s0 s1;have HG:=J4 g4 g5 g6 a1;clear g4 g5 g6 gs a1 J
 go_region
 all_goals go_wp2_with fail
 have e4:=(((((HG.1.set 0 (.slice none 0 0)).set 1 (.slice none 0 0)).set 2 (.int .i64 0)).far (p:=⟨o,0,none⟩) a6 (.int .i64 a)).far (p:=⟨C,0,none⟩) a7 (.int .i64 n)).drew;have e5:=(((((HG.2.1.far (p:=⟨j,0,none⟩) R (.slice none 0 0)).far (p:=⟨j,1,none⟩) R (.slice none 0 0)).far (p:=⟨j,2,none⟩) R (.int .i64 0)).set 0 (.int .i64 a)).far (p:=⟨C,0,none⟩) a8 (.int .i64 n)).drew;have e6:=(((((HG.2.2.1.far (p:=⟨j,0,none⟩) Y (.slice none 0 0)).far (p:=⟨j,1,none⟩) Y (.slice none 0 0)).far (p:=⟨j,2,none⟩) Y (.int .i64 0)).far (p:=⟨o,0,none⟩) b0 (.int .i64 a)).set 0 (.int .i64 n)).drew;have ek:=((((((HG.2.2.2.mono fun b (_:¬b=j∧¬b=o∧¬b=C)=>trivial).setCell (p:=⟨j,0,none⟩) (.inl fun h=>h.1 rfl) (.slice none 0 0)).setCell (p:=⟨j,1,none⟩) (.inl fun h=>h.1 rfl) (.slice none 0 0)).setCell (p:=⟨j,2,none⟩) (.inl fun h=>h.1 rfl) (.int .i64 0)).setCell (p:=⟨o,0,none⟩) (.inl fun h=>h.2.1 rfl) (.int .i64 a)).setCell (p:=⟨C,0,none⟩) (.inl fun h=>h.2.2 rfl) (.int .i64 n)).drew;simp only[ga] at e4 e5 e6;generalize (((((W1.setCell _ _).setCell _ _).setCell _ _).setCell _ _).setCell _ _).drew=W2 at*;simp[bodyPostS,results,Tryz.results82,e4,e5,e6,ek]
def Mu:List (Nat×rY):=[(1,⟨0,true,false,false⟩),(2,⟨2,true,false,false⟩),(4,⟨1,true,true,false⟩),(5,⟨1,true,true,false⟩),(6,⟨2,false,true,false⟩),(7,⟨-1,true,true,false⟩),(8,⟨0,true,true,false⟩),(9,⟨1,false,true,false⟩),(10,⟨1,true,true,false⟩),(11,⟨0,false,true,false⟩),(12,⟨1,false,true,true⟩),(13,⟨1,false,false,false⟩)]
def Ia (s:rY):Value:=.agg #[.int .i64 s.args,.bool s.dst,.bool s.ref,.bool s.No]
def mq (n:Nat):Array MapEntry:=((Mu.take n).mapIdx fun i e=> {key:=.int .u8 e.1,val:=Ia e.2,born:=i}).toArray
theorem cV (es:Array MapEntry)(clock:Nat)(k:Int)(v:Value)(J:Instr.findNow (.int .u8) (.int .u8 k) es.toList 0=some none)(w:World):
 (Instr.mapUpdate 297 (.map (some w.heap.size)) (.int .u8 k) v).run prog (w.alloc (.map es clock))=.ok () (w.alloc (.map (es.push ⟨.int .u8 k,v,clock⟩) (clock+1))):=by
 have I:(w.alloc (.map es clock)).heap[w.heap.size]? =some (.map es clock):=by show(w.heap.push _)[w.heap.size]? =_;simp
 simp only[Instr.mapUpdate,Sem.run_bind,run_underlying underlying297,MapKept.run_getObj_map I,MapKept.run_checkKey underlying5 (show MapKept.IsKey (.int .u8) (.int .u8 k) from rfl),MapKept.run_findKey underlying5 J,MapKept.run_setObj_map _ I,Result.andThen];have e:∀o C:Obj,(w.heap.push o).setIfInBounds w.heap.size C=w.heap.push C:=by(
 intro o C;apply Array.ext_getElem?;intro j;rw[Array.getElem?_setIfInBounds,Array.getElem?_push,Array.getElem?_push];by_cases h:w.heap.size=j;·subst h;simp
 rw[ah h,ah (fun h'=>h h'.symm),ah (fun h'=>h h'.symm)])
 show Result.ok () ({w with heap:=(w.heap.push (.map es clock)).setIfInBounds w.heap.size _}:World)=Result.ok () ({w with heap:=w.heap.push _}:World);rw[e]
theorem eH (i:Nat)(k:Nat)(s:rY)(h:Mu[i]? =some (k,s)):mq (i+1)=(mq i).push ⟨.int .u8 k,Ia s,i⟩:=by have hi:=(lS.1 h).1;unfold mq;rw[dT,h,List.mapIdx_append];simp only[Option.toList_some,List.mapIdx_cons,List.mapIdx_nil,kQ,dU,List.push_toArray];rw[Nat.min_eq_left (by omega)]
theorem AS (w:World):Calls prog 232 #[] w fun e j=>e=.returned (.map (some w.heap.size))∧w.alloc (.map (mq 12) 12)=j:=by
 have o:=@run_makeMap prog;have i0:(Instr.mapUpdate 297 (.map (some w.heap.size)) (.int .u8 1) (.agg #[.int .i64 0,.bool true,.bool false,.bool false])).run prog (w.alloc (.map #[] 0))=.ok () (w.alloc (.map (mq 1) 1)):=by rw[eH 0 1 _ rfl];exact cV _ _ _ _ (by rfl) w
 have J:(Instr.mapUpdate 297 (.map (some w.heap.size)) (.int .u8 2) (.agg #[.int .i64 2,.bool true,.bool false,.bool false])).run prog (w.alloc (.map (mq 1) 1))=.ok () (w.alloc (.map (mq 2) 2)):=by rw[eH 1 2 _ rfl];exact cV _ _ _ _ (by rfl) w
 have i2:(Instr.mapUpdate 297 (.map (some w.heap.size)) (.int .u8 4) (.agg #[.int .i64 1,.bool true,.bool true,.bool false])).run prog (w.alloc (.map (mq 2) 2))=.ok () (w.alloc (.map (mq 3) 3)):=by rw[eH 2 4 _ rfl];exact cV _ _ _ _ (by rfl) w
 have i3:(Instr.mapUpdate 297 (.map (some w.heap.size)) (.int .u8 5) (.agg #[.int .i64 1,.bool true,.bool true,.bool false])).run prog (w.alloc (.map (mq 3) 3))=.ok () (w.alloc (.map (mq 4) 4)):=by rw[eH 3 5 _ rfl];exact cV _ _ _ _ (by rfl) w
 have i4:(Instr.mapUpdate 297 (.map (some w.heap.size)) (.int .u8 6) (.agg #[.int .i64 2,.bool false,.bool true,.bool false])).run prog (w.alloc (.map (mq 4) 4))=.ok () (w.alloc (.map (mq 5) 5)):=by rw[eH 4 6 _ rfl];exact cV _ _ _ _ (by rfl) w
 have i5:(Instr.mapUpdate 297 (.map (some w.heap.size)) (.int .u8 7) (.agg #[.int .i64 (-1),.bool true,.bool true,.bool false])).run prog (w.alloc (.map (mq 5) 5))=.ok () (w.alloc (.map (mq 6) 6)):=by rw[eH 5 7 _ rfl];exact cV _ _ _ _ (by rfl) w
 have R:(Instr.mapUpdate 297 (.map (some w.heap.size)) (.int .u8 8) (.agg #[.int .i64 0,.bool true,.bool true,.bool false])).run prog (w.alloc (.map (mq 6) 6))=.ok () (w.alloc (.map (mq 7) 7)):=by rw[eH 6 8 _ rfl];exact cV _ _ _ _ (by rfl) w
 have Y:(Instr.mapUpdate 297 (.map (some w.heap.size)) (.int .u8 9) (.agg #[.int .i64 1,.bool false,.bool true,.bool false])).run prog (w.alloc (.map (mq 7) 7))=.ok () (w.alloc (.map (mq 8) 8)):=by rw[eH 7 9 _ rfl];exact cV _ _ _ _ (by rfl) w
 have i8:(Instr.mapUpdate 297 (.map (some w.heap.size)) (.int .u8 10) (.agg #[.int .i64 1,.bool true,.bool true,.bool false])).run prog (w.alloc (.map (mq 8) 8))=.ok () (w.alloc (.map (mq 9) 9)):=by rw[eH 8 10 _ rfl];exact cV _ _ _ _ (by rfl) w
 have i9:(Instr.mapUpdate 297 (.map (some w.heap.size)) (.int .u8 11) (.agg #[.int .i64 0,.bool false,.bool true,.bool false])).run prog (w.alloc (.map (mq 9) 9))=.ok () (w.alloc (.map (mq 10) 10)):=by rw[eH 9 11 _ rfl];exact cV _ _ _ _ (by rfl) w
 have C:(Instr.mapUpdate 297 (.map (some w.heap.size)) (.int .u8 12) (.agg #[.int .i64 1,.bool false,.bool true,.bool true])).run prog (w.alloc (.map (mq 10) 10))=.ok () (w.alloc (.map (mq 11) 11)):=by rw[eH 10 12 _ rfl];exact cV _ _ _ _ (by rfl) w
 have I:(Instr.mapUpdate 297 (.map (some w.heap.size)) (.int .u8 13) (.agg #[.int .i64 1,.bool false,.bool false,.bool false])).run prog (w.alloc (.map (mq 11) 11))=.ok () (w.alloc (.map (mq 12) 12)):=by rw[eH 11 13 _ rfl];exact cV _ _ _ _ (by rfl) w
 go_enter func232,ntmps232;go_wp2;go_ret;exact⟨rfl,rfl⟩
theorem Lo (k:Nat)(o:k<256):Instr.findNow (.int .u8) (.int .u8 k) (mq 12).toList 0=some (match bJ k with|some s=>some ((Mu.findIdx fun e=>e.1==k),Ia s)|none=>none):=by
 have:∀k:Fin 256,Instr.findNow (.int .u8) (.int .u8 (k.1:Nat)) (mq 12).toList 0=some (match bJ k.1 with|some s=>some ((Mu.findIdx fun e=>e.1==k.1),Ia s)|none=>none):=by(
 intro k;by_cases h:k.1<14
 ·obtain⟨k,o⟩:=k
  simp only at h;rcases k with _|_|_|_|_|_|_|_|_|_|_|_|_|_|k;all_goals first|rfl|(exfalso;omega)
 have C:bJ k.1=none:=by unfold bJ;split<;>first|omega|rfl
 rw[C];have j:∀m:Int,m<14→((k.1:Int)==m)=false:=fun m hm=>by rw[bE];omega
 simp[mq,Mu,Instr.findNow,Instr.sameNow,j])
 exact this ⟨k,o⟩
theorem Lp (w:World):(zeroValue 295).run prog w=.ok (Ia ⟨0,false,false,false⟩) w:=by kernel_rfl
theorem qH (b:Nat)(k:Nat)(I:k<256)(w:World)(o:w.heap[b]? =some (.map (mq 12) 12)):
 (Instr.lookup 297 (.map (some b)) (.int .u8 k) true).run prog w=.ok (.tuple #[Ia ((bJ k).getD ⟨0,false,false,false⟩),.bool (bJ k).isSome]) w:=by
 have j:=Lo k I;have J:=Lp w;cases C:bJ k with
 |some s=>rw[C] at j;simp[Instr.lookup,run_underlying underlying297,MapKept.run_getObj_map o,MapKept.run_checkKey underlying5 (show MapKept.IsKey (.int .u8) (.int .u8 k) from rfl),MapKept.run_findKey underlying5 j,Result.andThen]
 |none=>rw[C] at j;simp[Instr.lookup,run_underlying underlying297,MapKept.run_getObj_map o,MapKept.run_checkKey underlying5 (show MapKept.IsKey (.int .u8) (.int .u8 k) from rfl),MapKept.run_findKey underlying5 j,Result.andThen,J]
end Go.Proofs.YtccbbkopmlnkpaaGreatDoor
