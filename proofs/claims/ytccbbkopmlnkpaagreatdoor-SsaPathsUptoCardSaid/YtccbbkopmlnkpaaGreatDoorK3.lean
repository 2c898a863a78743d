/- Part 4 of the proof (its last part says what is proved). No condition. -/
import Derived.Test.YtccbbkopmlnkpaaGreatDoorK2
namespace Go.Proofs.YtccbbkopmlnkpaaGreatDoor
set_option maxRecDepth 100000
set_option maxHeartbeats 8000000
open Go.RowKit Go.Proofs.Tryz
noncomputable def pB (P:Prop):Bool:=@decide P (Classical.propDecidable P)
theorem aw {P:Prop}(h:P):pB P=true:=by unfold pB;exact @be P (Classical.propDecidable P) h
theorem az {P:Prop}(h:¬P):pB P=false:=by unfold pB;exact @cN P (Classical.propDecidable P) h
def mt (p:aI)(l:List (ByteArray×Int))(i:Nat)(x:ByteArray×Int):Prop:=ax x.1=true∧gA l x.1=i∧0≤x.2∧x.2<p.Ng.length
def dG (p:aI)(l:List (ByteArray×Int)):Prop:=l.length≤32∧∀(i:Nat) x,l[i]? =some x→mt p l i x
theorem zH {l:List (ByteArray×Int)}{k:Nat}{x:ByteArray×Int}(h:l[k]? =some x):0≤gA l x.1:=by unfold gA gt;have:l.any (fun y=>y.1.toList==x.1.toList)=true:=od.2 ⟨x,mG h,by simp⟩;rw[am this];omega
theorem zG {p:aI}{l:List (ByteArray×Int)}{k:Nat}{x:ByteArray×Int}(o:l[k]? =some x)(h:∀(i:Nat) y,i<k→l[i]? =some y→mt p l i y)(C:mt p l k x):∀(i:Nat) y,i<k+1→l[i]? =some y→mt p l i y:=by
 intro i y hi j;by_cases e:i=k;·subst e;rw[o] at j;cases j;exact C
 exact h i y (by omega) j
theorem qV (S T:Nat→Prop)(v vl:Value)(p:aI)(l:List (ByteArray×Int))(w:World)(hv:gR S w v p)(hl:mc T w vl l):
 Calls prog 105 #[v,vl] w fun e w'=>e=.returned (.bool (pB (dG p l)))∧aa All w w':=by
 obtain⟨a,b,c,d,rfl,h1,_⟩:=hv;obtain⟨a1,Y,rfl,k1,k2,k3,_⟩:=h1;have b9:=hl;obtain⟨A,cap,rfl,g1,g2,g3,b0⟩:=hl;unfold maxLen at g2 k2;have HL:=J2 b9 b0;have HK:=oH fun o=>(aa.refl All w).alloc o;clear b9 b0;by_cases c8:32<l.length
 ·have hd:decide ((32:Int)<l.length)=true:=by simp;omega
  have hr:pB (dG p l)=false:=az fun h=>by have:=h.1;omega
  rw[hr];go_enter func105,ntmps105;go_wp2;go_ret;exact⟨rfl,HK.out _⟩
 have hd:decide ((32:Int)<l.length)=false:=by simp;omega
 have c0:=fun wn (hk:aa All (w.alloc (.cells #[.slice a1 p.Ng.length Y,b,c,d,.int .i64 p.Nj] 26)) wn)=>((al.new w 26 #[.slice a1 p.Ng.length Y,b,c,d,.int .i64 p.Nj]).kept hk trivial).cell 0;have HB:=oH c0;clear c0;go_enter func105,ntmps105;go_wp2;go_loopg [14] l.length (fun g i wr=>∃k:Nat,k≤l.length∧g=l.length-k∧i=.int .i64 k∧aa All (w.alloc (.cells #[.slice a1 p.Ng.length Y,b,c,d,.int .i64 p.Nj] 26)) wr∧∀(i:Nat) y,i<k→l[i]? =some y→mt p l i y);·exact⟨0,by omega,by omega,rfl,kR,fun i y hi=>by omega⟩
 obtain⟨k,hk,rfl,rfl,R,b6⟩:=hrel;by_cases c3:k<l.length;·(
 obtain⟨x,hx⟩:=eG c3;obtain⟨bb,off,cs,rfl,hs,_,hc,rfl,c1⟩:=HL.2 k x hx;have b7:=(HK.out (.cells #[.slice a1 p.Ng.length Y,b,c,d,.int .i64 p.Nj] 26)).trans R;have c9:=b7.cell (p:=⟨bb,off+k*2,none⟩) trivial (hc 0 _ rfl);have d7:=b7.cell (p:=⟨bb,off+k*2+1,none⟩) trivial (hc 1 _ rfl);have b1:=fun wn (hk:aa All w wn)=>kX _ _ l x.1 wn (cG.keep hk.all HL.1);have b2:=fun wn=>qD x.1 wn;have b3:=zH hx;have b8:¬mt p l k x→pB (dG p l)=false:=fun h=>az fun h'=>h (h'.2 k x hx);have a6:mt p l k x↔ax x.1=true∧gA l x.1=k∧0≤x.2∧x.2<p.Ng.length:=Iff.rfl;have b4:=zG hx b6;obtain⟨x1,x2⟩:=x;simp only at*;have c2:∀wn,aa All w wn→Calls prog 155 #[.slice (some ⟨bb,off,none⟩) l.length cap,.func (.func 156) #[] #[],.string x1] wn fun e w'=>e=.returned (.tuple #[.int .i64 (gA l x1),.bool true])∧aa All wn w':=fun wn hk=>(b1 wn hk).mono fun e w' h=>⟨h.1.trans (by rw[show gt (fun x=>x.1.toList==x1.toList) l=gA l x1 from rfl,Int.max_eq_left b3,be b3]),h.2⟩;have c4:=nN (fun x:ByteArray×Int=>x.1.toList==x1.toList) l;rw[show gt (fun x=>x.1.toList==x1.toList) l=gA l x1 from rfl] at c4;have HC:=J5 c2 b2 b8 b4 R;have HW:=oH b7;obtain⟨w1,w2⟩:=zk c1;clear b1 b2 b8 b4 b6 c2 R b7 c1 hc hx;generalize ax x1=nm at*;generalize gA l x1=r at*;have j:aa All (w.alloc (.cells #[.slice a1 p.Ng.length Y,b,c,d,.int .i64 p.Nj] 26)) (wr.alloc (.cells #[.string x1,.int .i64 x2] 228)):=HC.2.2.2.2.alloc _;have b5:=oH j;clear j;cases nm with
 |false=>
  have HR:=oH (HC.2.2.1 fun h=>by rw[a6] at h;exact Bool.noConfusion h.1)
  go_wp2_with (first
   |(go_at_call 155
     refine(HC.1 _ (HW.out.alloc _)).mono ?_;rintro e wa ⟨rfl,C⟩;have I:=(al.new wr 228 #[.string x1,.int .i64 x2]).kept C trivial;have a7:=I.cell 0;simp only[gc] at a7;have HA:=J2 C I;clear C I)
   |(go_at_call 104
     refine(HC.2.1 _).mono ?_;rintro e wb ⟨rfl,j⟩;have J:=HA.2.kept j trivial;have a8:=J.cell 1;simp only[gc] at a8;have H3:=oH ((b5.out.trans HA.1).trans j);have cp:=HB.out _ H3.out;simp only[gc] at cp;have H2:=oH (((HW.out.alloc (.cells #[.string x1,.int .i64 x2] 228)).trans HA.1).trans j);clear j J))
  go_ret;exact⟨by rw[HR.out];rfl,H2.out⟩
 |true=>
  by_cases e1:r=(k:Int);·(
 have c5:(r !=(k:Int))=false:=by simpa using e1
 by_cases e2:x2<0;·(
 have c6:decide (x2<0)=true:=by simpa using e2
 have HR:=oH (HC.2.2.1 fun h=>by rw[a6] at h;omega);have HE:=oH e1;clear e1 a6
 go_wp2_with (first
  |(go_at_call 155
    refine(HC.1 _ (HW.out.alloc _)).mono ?_;rintro e wa ⟨rfl,C⟩;have I:=(al.new wr 228 #[.string x1,.int .i64 x2]).kept C trivial;have a7:=I.cell 0;simp only[gc] at a7;have HA:=J2 C I;clear C I)
  |(go_at_call 104
    refine(HC.2.1 _).mono ?_;rintro e wb ⟨rfl,j⟩;have J:=HA.2.kept j trivial;have a8:=J.cell 1;simp only[gc] at a8;have H3:=oH ((b5.out.trans HA.1).trans j);have cp:=HB.out _ H3.out;simp only[gc] at cp;have H2:=oH (((HW.out.alloc (.cells #[.string x1,.int .i64 x2] 228)).trans HA.1).trans j);clear j J))
 go_ret;exact⟨by rw[HR.out];rfl,H2.out⟩)
 have c6:decide (x2<0)=false:=by simpa using e2
 by_cases e3:(p.Ng.length:Int)≤x2;·(
 have c7:decide ((p.Ng.length:Int)≤x2)=true:=by simpa using e3
 have HR:=oH (HC.2.2.1 fun h=>by rw[a6] at h;omega);have HE:=oH e1;clear e1 a6
 go_wp2_with (first
  |(go_at_call 155
    refine(HC.1 _ (HW.out.alloc _)).mono ?_;rintro e wa ⟨rfl,C⟩;have I:=(al.new wr 228 #[.string x1,.int .i64 x2]).kept C trivial;have a7:=I.cell 0;simp only[gc] at a7;have HA:=J2 C I;clear C I)
  |(go_at_call 104
    refine(HC.2.1 _).mono ?_;rintro e wb ⟨rfl,j⟩;have J:=HA.2.kept j trivial;have a8:=J.cell 1;simp only[gc] at a8;have H3:=oH ((b5.out.trans HA.1).trans j);have cp:=HB.out _ H3.out;simp only[gc] at cp;have H2:=oH (((HW.out.alloc (.cells #[.string x1,.int .i64 x2] 228)).trans HA.1).trans j);clear j J))
 go_ret;exact⟨by rw[HR.out];rfl,H2.out⟩)
 have c7:decide ((p.Ng.length:Int)≤x2)=false:=by simpa using e3
 have HR:=oH (HC.2.2.2.1 (a6.2 ⟨rfl,e1,by omega,by omega⟩));have HE:=oH e1;clear e1 a6
 go_wp2_with (first
  |(go_at_call 155
    refine(HC.1 _ (HW.out.alloc _)).mono ?_;rintro e wa ⟨rfl,C⟩;have I:=(al.new wr 228 #[.string x1,.int .i64 x2]).kept C trivial;have a7:=I.cell 0;simp only[gc] at a7;have HA:=J2 C I;clear C I)
  |(go_at_call 104
    refine(HC.2.1 _).mono ?_;rintro e wb ⟨rfl,j⟩;have J:=HA.2.kept j trivial;have a8:=J.cell 1;simp only[gc] at a8;have H3:=oH ((b5.out.trans HA.1).trans j);have cp:=HB.out _ H3.out;simp only[gc] at cp;have H2:=oH (((HW.out.alloc (.cells #[.string x1,.int .i64 x2] 228)).trans HA.1).trans j);clear j J))
 go_roundg (l.length-(k+1));·exact⟨k+1,by omega,rfl,by go_num,H3.out,HR.out⟩
 omega)
  have c5:(r !=(k:Int))=true:=by simpa using e1
  have HR:=oH (HC.2.2.1 fun h=>by rw[a6] at h;exact e1 h.2.1);clear a6
  go_wp2_with (first
   |(go_at_call 155
     refine(HC.1 _ (HW.out.alloc _)).mono ?_;rintro e wa ⟨rfl,C⟩;have I:=(al.new wr 228 #[.string x1,.int .i64 x2]).kept C trivial;have a7:=I.cell 0;simp only[gc] at a7;have HA:=J2 C I;clear C I)
   |(go_at_call 104
     refine(HC.2.1 _).mono ?_;rintro e wb ⟨rfl,j⟩;have J:=HA.2.kept j trivial;have a8:=J.cell 1;simp only[gc] at a8;have H3:=oH ((b5.out.trans HA.1).trans j);have cp:=HB.out _ H3.out;simp only[gc] at cp;have H2:=oH (((HW.out.alloc (.cells #[.string x1,.int .i64 x2] 228)).trans HA.1).trans j);clear j J))
  go_ret;exact⟨by rw[HR.out];rfl,H2.out⟩)
 obtain rfl:k=l.length:=by omega
 have HR:=oH (aw (P:=dG p l) ⟨by omega,fun i y hy=>b6 i y (by obtain⟨h,_⟩:=lS.1 hy;exact h) hy⟩);have HW:=oH ((HK.out (.cells #[.slice a1 p.Ng.length Y,b,c,d,.int .i64 p.Nj] 26)).trans R);clear b6 R;go_wp2;go_ret;exact⟨by rw[HR.out];rfl,HW.out⟩
section
theorem jO (n:Int):IntKind.u64.wrap n=n%18446744073709551616:=by simp[IntKind.wrap,IntKind.bits,IntKind.signed]
theorem LO (n:Int):Value.int .u64 (n%18446744073709551616)=U (BitVec.ofInt 64 n):=by rw[U,BitVec.toNat_ofInt];congr 1;omega
theorem MH (x:BitVec 64):(x.toNat:Int)<18446744073709551616:=by have:=x.isLt;omega
section
variable {P:Program} {w:World} (t s:TypeId) (x y:BitVec 64)
theorem Be (f:BitVec 64→BitVec 64→BitVec 64)(a b:Int)(h:BitVec.ofInt 64 a=x)(h':BitVec.ofInt 64 b=y):Value.int .u64 (IntKind.u64.wrap ((f (BitVec.ofInt 64 a) (BitVec.ofInt 64 b)).toNat:Int))=U (f x y):=by rw[h,h',jO,U];congr 1;have:=MH (f x y);omega
theorem jl:BitVec.ofInt 64 (x.toNat:Int)=x:=by apply BitVec.eq_of_toNat_eq;rw[BitVec.toNat_ofInt];have:=x.isLt;omega
theorem pZ:(binOp .and t (U x) (U y)).run P w=.ok (U (x&&&y)) w:=by show Result.ok (Value.int .u64 (IntKind.u64.wrap ((BitVec.ofInt 64 x.toNat&&&BitVec.ofInt 64 y.toNat).toNat:Int))) w=_;rw[Be x y (·&&&·) _ _ (jl x) (jl y)]
theorem uy:(binOp .or t (U x) (U y)).run P w=.ok (U (x|||y)) w:=by show Result.ok (Value.int .u64 (IntKind.u64.wrap ((BitVec.ofInt 64 x.toNat|||BitVec.ofInt 64 y.toNat).toNat:Int))) w=_;rw[Be x y (·|||·) _ _ (jl x) (jl y)]
theorem iD:(binOp .andNot t (U x) (U y)).run P w=.ok (U (x&&& ~~~y)) w:=by show Result.ok (Value.int .u64 (IntKind.u64.wrap ((BitVec.ofInt 64 x.toNat&&& ~~~BitVec.ofInt 64 y.toNat).toNat:Int))) w=_;rw[Be x y (fun a b=>a&&& ~~~b) _ _ (jl x) (jl y)]
theorem ni:(binOp .and t (U x) (.int .u64 1)).run P w=.ok (U (x&&&1#64)) w:=pZ t x 1#64
theorem My:(binOp .sub t (U x) (U y)).run P w=.ok (U (x-y)) w:=by
 have h:BitVec.ofInt 64 ((x.toNat:Int)-(y.toNat:Int))=x-y:=by apply BitVec.eq_of_toNat_eq;rw[BitVec.toNat_ofInt,BitVec.toNat_sub];have:=x.isLt;have:=y.isLt;omega
 simp only[binOp,U,Op.intArith,jO];rw[LO,U,h];simp
theorem Mv:(binOp .mul t (U x) (U y)).run P w=.ok (U (x*y)) w:=by simp only[binOp,U,Op.intArith,jO];rw[LO,U];congr 2
theorem nq:(binOp .sub t (U x) (.int .u64 1)).run P w=.ok (U (x-1#64)) w:=My t x 1#64
theorem Lu:(binOp .quo t (U x) (.int .u64 2)).run P w=.ok (U (x>>>1)) w:=by
 have h:(x>>>1).toNat=x.toNat/2:=by rw[BitVec.toNat_ushiftRight,Nat.shiftRight_eq_div_pow]
 have:=x.isLt;simp only[binOp,U,Op.intDiv,jO,h];simp;omega
theorem Lv:(binOp .rem t (U x) (.int .u64 2)).run P w=.ok (U (x&&&1#64)) w:=by
 have h:(x&&&1#64).toNat=x.toNat%2:=by rw[BitVec.toNat_and];exact Nat.and_one_is_mod _
 simp only[binOp,U,Op.intDiv,h];simp;exact Int.tmod_eq_emod_of_nonneg (by omega)
theorem LU:((x.toNat:Int)==(y.toNat:Int))=(x==y):=by
 rw[Bool.eq_iff_iff,cX,cX];constructor;·intro h;exact BitVec.eq_of_toNat_eq (by omega)
 rintro rfl;rfl
theorem Kk:(binOp .eql t (U x) (U y)).run P w=.ok (.bool (x==y)) w:=by simp[binOp,U,Op.intCmp,LU]
theorem Kl:(binOp .neq t (U x) (U y)).run P w=.ok (.bool (x !=y)) w:=by simp[binOp,U,Op.intCmp,bne,LU]
theorem nj:(binOp .eql t (U x) (.int .u64 0)).run P w=.ok (.bool (x==0#64)) w:=Kk t x 0#64
theorem nk:(binOp .neq t (U x) (.int .u64 0)).run P w=.ok (.bool (x !=0#64)) w:=Kl t x 0#64
theorem lY:(binOp .eql t (U x) (.int .u64 1)).run P w=.ok (.bool (x==1#64)) w:=Kk t x 1#64
theorem rq (i:Nat)(hi:i<64):(binOp .shr t (U x) (.int .i64 i)).run P w=.ok (U (x>>>i)) w:=by
 have j:¬(i:Int)<0:=by omega
 have o:min i 64=i:=by omega
 have C:(x>>>i).toNat=x.toNat/2^i:=by rw[BitVec.toNat_ushiftRight,Nat.shiftRight_eq_div_pow]
 simp only[binOp,U,Op.shift,j,if_false,fD,IntKind.bits,o,C];rw[Int.fdiv_eq_ediv_of_nonneg _ (by exact_mod_cast Nat.zero_le _)];simp
theorem nl (i:Nat)(hi:i<64):(binOp .shl t (.int .u64 1) (.int .i64 i)).run P w=.ok (U (1#64<<<i)) w:=by
 have j:¬(i:Int)<0:=by omega
 have o:min i 64=i:=by omega
 have C:(1#64<<<i).toNat=2^i%18446744073709551616:=by rw[BitVec.toNat_shiftLeft,Nat.shiftLeft_eq];simp
 simp only[binOp,U,Op.shift,j,if_false,fD,IntKind.bits,o,C,jO];simp
theorem wD (op:BinOp)(p q:Operand):(eqGuard op t p q (U x) (U y)).run P w=.ok () w:=by cases op<;>simp[eqGuard,U]
theorem pz (op:BinOp)(p q:Operand)(n:Int):(eqGuard op t p q (U x) (.int .u64 n)).run P w=.ok () w:=by cases op<;>simp[eqGuard,U]
end
end
section
theorem Mx (i:Nat):Value.int .u64 (IntKind.u64.wrap (2^i))=U (1#64<<<i):=by
 have j:(1#64<<<i).toNat=2^i%18446744073709551616:=by rw[BitVec.toNat_shiftLeft,Nat.shiftLeft_eq];simp
 rw[U,j,jO];simp
theorem ko {P:Program}{w:World}(t:TypeId)(x:BitVec 64)(i:Nat):(binOp .or t (U x) (.int .u64 (IntKind.u64.wrap (2^i)))).run P w=.ok (U (x|||1#64<<<i)) w:=by rw[Mx i];exact uy t x _
attribute [local go_sem] ko pZ uy iD ni nq nj nk lY rq nl wD pz
theorem sR (i:Int)(w:World):Calls prog 188 #[.int .i64 i] w fun e j=>e=.returned (.bool (decide (0≤i∧i<64)))∧w=j:=by
 by_cases o:0≤i
 ·go_enter func188,ntmps188
  go_wp2;go_ret;exact⟨by simp[o],rfl⟩
 go_enter func188,ntmps188;go_wp2;go_ret;exact⟨by simp;omega,rfl⟩
theorem KD (x:BitVec 64)(i:Nat):((x>>>i)&&&1#64==1#64)=x.getLsbD i:=by
 rw[Bool.eq_iff_iff,cX];constructor
 ·intro h
  have:=congrArg (fun y=>y.getLsbD 0) h;simpa using this
 intro h;apply BitVec.eq_of_getLsbD_eq;intro j o;by_cases e:j=0;·subst e;simpa using h
 simp[e]
theorem lj (x:BitVec 64)(i:Nat)(hi:i<64)(w:World):Calls prog 119 #[U x,.int .i64 i] w fun e o=>e=.returned (.bool (x.getLsbD i))∧w=o:=by have j:=fun w=>sR i w;rw[be ⟨by omega,by omega⟩] at j;have I:=oH j;have C:=KD x i;have J:=oH C;clear j C;go_enter func119,ntmps119;go_wp2_with (go_at_call 188;refine(I.out _).mono ?_;rintro e o ⟨rfl,rfl⟩);go_ret;exact⟨by rw[←J.out];rfl,rfl⟩
theorem nR (x:BitVec 64)(i:Nat)(hi:i<64)(w:World):Calls prog 118 #[U x,.int .i64 i] w fun e o=>e=.returned (U (x|||1#64<<<i))∧w=o:=by have j:=fun w=>sR i w;rw[be ⟨by omega,by omega⟩] at j;have C:=oH j;clear j;go_enter func118,ntmps118;go_wp2_with (go_at_call 188;refine(C.out _).mono ?_;rintro e o ⟨rfl,rfl⟩);go_ret;exact⟨rfl,rfl⟩
def oP:Nat→BitVec 64
 |0=>0#64
 |n+1=>oP n|||1#64<<<n
theorem yt (n k:Nat)(j:k<64):(oP n).getLsbD k=decide (k<n):=by
 induction n with
 |zero=>simp[oP]
 |succ n o=>
  rw[oP,BitVec.getLsbD_or,o,BitVec.getLsbD_shiftLeft];by_cases h:k<n;·simp[h,j];omega
  by_cases e:k=n;·subst e;simp[j]
  have C:¬k<n+1:=by omega
  have I:k-n≠0:=by omega
  simp[h,C,I]
theorem Ag (n:Nat)(I:n≤64)(w:World):Calls prog 209 #[.int .i64 n] w fun e o=>e=.returned (U (oP n))∧w=o:=by
 have j:U (oP 0)=.int .u64 0:=rfl;have J:=oH j;clear j;go_enter func209,ntmps209;go_wp2;go_loopg [3,8] n (fun g m i wr=>∃k:Nat,k≤n∧g=n-k∧i=.int .i64 k∧m=U (oP k)∧w=wr);·exact⟨0,by omega,by omega,rfl,rfl,rfl⟩
 obtain⟨k,R,rfl,rfl,rfl,rfl⟩:=hrel;by_cases C:k<n
 ·go_wp2
  go_roundg (n-(k+1));·exact⟨k+1,by omega,rfl,by go_num,rfl,rfl⟩
  omega
 obtain rfl:k=n:=by omega
 go_wp2;go_ret;exact⟨rfl,rfl⟩
end
section
attribute [local go_sem] ko pZ uy iD ni nq nj nk lY rq nl wD pz
def Fp (i:Nat):Nat:=[0,1,56,2,57,49,28,3,61,58,42,50,38,29,17,4,62,47,59,36,45,43,51,22,53,39,33,30,24,18,12,5,63,55,48,27,60,41,37,16,46,35,44,21,52,32,23,11,54,26,40,15,34,20,31,10,25,14,19,9,13,8,7,6].getD i 0
def lT (i:Nat):ByteArray:=[⟨#[]⟩,⟨#[97,100,100]⟩,⟨#[115,117,98]⟩,⟨#[109,117,108]⟩,⟨#[100,105,118]⟩,⟨#[109,111,100]⟩,⟨#[97,110,100]⟩,⟨#[111,114]⟩,⟨#[120,111,114]⟩,⟨#[115,104,108]⟩,⟨#[115,104,114]⟩,⟨#[101,113]⟩,⟨#[108,101,115,115]⟩].getD i ⟨#[]⟩
def cP (w:World):Prop:=(∀i,i<64→w.cell? ⟨4,i,none⟩=some (.int .u8 (Fp i)))∧∀i,i<13→w.cell? ⟨3,i,none⟩=some (.string (lT i))
theorem cP.keep {w j:World}(h:cP w)(k:aa All w j):cP j:=
 ⟨fun i hi=>k.cell (p:=⟨4,i,none⟩) trivial (h.1 i hi),fun i hi=>k.cell (p:=⟨3,i,none⟩) trivial (h.2 i hi)⟩
def Df (y:BitVec 64):Nat:=(y>>>58).toNat
def vr (y:BitVec 64):BitVec 64:=y*285870213051353865#64
def pw (k:Nat):BitVec 64:=1#64<<<k
theorem Fq:∀k:Fin 64,Fp (Df (vr (pw k.val)))=k.val∧Df (vr (pw k.val))<64:=by decide+kernel
def Lz (x:BitVec 64)(k:Nat):Prop:=k<64∧x.getLsbD k=true∧∀j,j<k→x.getLsbD j=false
theorem BW {x:BitVec 64}{k:Nat}(h:Lz x k):x&&& -x=pw k:=by
 unfold pw;obtain⟨h1,J,R⟩:=h;apply BitVec.eq_of_getLsbD_eq;intro i hi;rw[BitVec.getLsbD_and,BitVec.getLsbD_neg,BitVec.getLsbD_shiftLeft];rcases Nat.lt_trichotomy i k with e|e|e;·simp[R i e,e]
 ·subst e
  have o:¬∃j,j<i∧x.getLsbD j=true:=by rintro⟨j,hj,Y⟩;rw[R j hj] at Y;cases Y
  simp[J,hi,o]
 have hex:∃j,j<i∧x.getLsbD j=true:=⟨k,e,J⟩;have C:i-k≠0:=by omega
 have I:¬i<k:=by omega
 simp[hi,hex,I,C]
theorem KT {x:BitVec 64}(h:x≠0#64):∃k,Lz x k:=by
 have hex:∃k,k<64∧x.getLsbD k=true:=by(
 apply Classical.byContradiction;intro I;apply h;apply BitVec.eq_of_getLsbD_eq;intro i hi;cases e:x.getLsbD i with
 |false=>simp
 |true=>exact absurd ⟨i,hi,e⟩ I)
 obtain⟨k,J,C⟩:=hex;have:∀n,∀k,k≤n→k<64→x.getLsbD k=true→∃k,Lz x k:=by(
 intro n;induction n with
 |zero=>intro k J o C;exact⟨k,o,C,fun j R=>by omega⟩
 |succ n ih=>
  intro k J o C;by_cases hl:∃j,j<k∧x.getLsbD j=true
  ·obtain⟨j,R,Y⟩:=hl
   exact ih j (by omega) (by omega) Y
  refine⟨k,o,C,fun j R=>?_⟩;cases e:x.getLsbD j with
  |false=>rfl
  |true=>exact absurd ⟨j,R,e⟩ hl)
 exact this k k (bj _) J C
theorem Mw {P:Program}{w:World}(x:BitVec 64):(Op.unary .neg (U x)).run P w=.ok (U (-x)) w:=by
 have h:BitVec.ofInt 64 (-(x.toNat:Int))= -x:=by apply BitVec.eq_of_toNat_eq;rw[BitVec.toNat_ofInt,BitVec.toNat_neg];have:=x.isLt;omega
 have j:((-x).toNat:Int)= -(x.toNat:Int)%18446744073709551616:=by rw[←h,BitVec.toNat_ofInt];omega
 simp only[U,j];simp[Op.unary,Op.intArith,jO]
theorem JL {P:Program}{w:World}(t:TypeId)(x:BitVec 64):(binOp .mul t (U x) (.int .u64 285870213051353865)).run P w=.ok (U (vr x)) w:=Mv t x 285870213051353865#64
theorem JM {P:Program}{w:World}(t:TypeId)(x:BitVec 64):(binOp .shr t (U x) (.int .u64 58)).run P w=.ok (.int .u64 (Df x:Nat)) w:=by
 have j:Df x=x.toNat/2^58:=by rw[Df,BitVec.toNat_ushiftRight,Nat.shiftRight_eq_div_pow]
 simp only[binOp,U,Op.shift,IntKind.bits,j];simp;exact Int.fdiv_eq_ediv_of_nonneg _ (by decide)
attribute [local go_sem] Mw
theorem MO (n:Nat)(h:n<64)(w:World):(Instr.indexAt 308 (.pointer (some ⟨4,0,none⟩)) (.int .u64 n)).run prog w=.ok (.pointer (some ⟨4,n,none⟩)) w:=by
 have hi:(n:Int)<64:=by omega
 have j:(0:Int)≤n:=by omega
 go_simp
theorem Lt (x:BitVec 64)(k:Nat)(w:World)(I:cP w)(o:Lz x k):Calls prog 239 #[U x] w fun e Y=>e=.returned (.int .i64 k)∧w=Y:=by
 have hx:(x==0#64)=false:=by rw[bE];rintro rfl;have:=o.2.1;simp at this
 have hn:=BW o;have C:=Fq ⟨k,o.1⟩;have J:=I.1 _ C.2;rw[C.1] at J;have j:=C.2;have R:k<64:=o.1;have a1:=fun t w=>JL (P:=prog) (w:=w) t (pw k);have a6:=fun t w=>JM (P:=prog) (w:=w) t (vr (pw k));simp only at J j;clear C I o;generalize Df (vr (pw k))=n at*;generalize vr (pw k)=y at*;generalize pw k=z at*;have a7:=MO n j;clear j;go_enter func239,ntmps239;go_wp2;go_ret;exact⟨rfl,rfl⟩
end
def sA (p:Nat→Bool)(n:Nat):Int:=match (List.range n).find? p with|some a=>(a:Int)|none=> -1
theorem pF {p:Nat→Bool}{n k:Nat}(C:k<n)(h:p k=true)(o:∀j,j<k→p j=false):sA p n=k:=by
 unfold sA;have:(List.range n).find? p=some k:=by rw[List.find?_range_eq_some];exact⟨h,dW.2 C,fun j I=>by rw[o j I];rfl⟩
 rw[this]
theorem nG {p:Nat→Bool}{n:Nat}(o:∀j,j<n→p j=false):sA p n= -1:=by
 unfold sA;have:(List.range n).find? p=none:=by rw[List.find?_eq_none];intro a C;rw[o a (dW.1 C)];exact lE
 rw[this]
theorem uW (p:Nat→Bool)(n:Nat):(∃k,k<n∧p k=true∧∀j,j<k→p j=false)∨∀j,j<n→p j=false:=by
 induction n with
 |zero=>exact .inr fun j C=>by omega
 |succ n I=>
  rcases I with ⟨k,Y,J,R⟩|h;·exact .inl ⟨k,by omega,J,R⟩
  cases o:p n with
  |true=>exact .inl ⟨n,by omega,o,h⟩
  |false=>
   refine .inr fun j C=>?_;by_cases e:j=n;·subst e;exact o
   exact h j (by omega)
theorem sB {p q:Nat→Bool}{n m:Nat}(R:n≤m)(h:∀j,j<n→p j=q j)(h':∀j,n≤j→j<m→q j=false):sA p n=sA q m:=by
 rcases uW p n with ⟨k,I,o,J⟩|o;·rw[pF I o J,pF (p:=q) (n:=m) (k:=k) (by omega) (by rw[←h k I];exact o) fun j C=>by rw[←h j (by omega)];exact J j C]
 rw[nG o,nG fun j C=>?_];by_cases e:j<n;·rw[←h j e];exact o j e
 exact h' j (by omega) C
theorem IN (p:Nat→Bool)(n:Nat): -1≤sA p n∧sA p n<n:=by
 rcases uW p n with ⟨k,o,j,C⟩|j;·rw[pF o j C];omega
 rw[nG j];omega
def aN (up:List (BitVec 64))(i:Nat):BitVec 64:=up.getD i 0#64
theorem JN {up:List (BitVec 64)}{i:Nat}{x:BitVec 64}(h:up[i]? =some x):aN up i=x:=by simp[aN,h]
theorem Ho {up:List (BitVec 64)}{i:Nat}(h:i<up.length):up[i]? =some (aN up i):=by simp[aN,h]
theorem xe {x y:BitVec 64}:(x&&& ~~~y=0#64)↔∀k,k<64→x.getLsbD k=true→y.getLsbD k=true:=by
 constructor
 ·intro h k o j
  have:=congrArg (fun z=>z.getLsbD k) h;simp[o,j] at this;exact this
 intro h;apply BitVec.eq_of_getLsbD_eq;intro i hi;have:=h i hi;cases j:x.getLsbD i with
 |false=>simp[j]
 |true=>simp[j,this j]
def eM (up:List (BitVec 64)):Prop:=1≤up.length∧up.length≤64∧∀i,i<up.length→(aN up i).getLsbD i=true∧
 ∀k,k<64→(aN up i).getLsbD k=true→k<up.length∧(k≠i→(aN up k).getLsbD i=false)∧aN up k&&& ~~~(aN up i)=0#64
def iN (up:List (BitVec 64))(set:BitVec 64)(k:Nat):Bool:=set.getLsbD k&&(set&&& ~~~(aN up k)==0#64)
def fi (up:List (BitVec 64))(set:BitVec 64):Int:=sA (iN up set) 64
def Kf (up:List (BitVec 64))(a b k:Nat):Bool:=(aN up a).getLsbD k&&(aN up b).getLsbD k&&(List.range up.length).all fun m=>!(aN up a).getLsbD m||!(aN up b).getLsbD m||(aN up k).getLsbD m
def Ga (up:List (BitVec 64))(a b:Nat):Int:=sA (Kf up a b) up.length
def Kg (up:List (BitVec 64))(a b k:Nat):Bool:=(aN up k).getLsbD a&&(aN up k).getLsbD b&&(List.range up.length).all fun m=>!(aN up m).getLsbD a||!(aN up m).getLsbD b||(aN up m).getLsbD k
def Gg (up:List (BitVec 64))(a b:Nat):Int:=sA (Kg up a b) up.length
def vY (up:List (BitVec 64)):Prop:=eM up∧∀a,a<up.length→∀b,b<a→0≤Ga up a b∧0≤Gg up a b
def yX (f:Nat→Bool):Nat→BitVec 64
 |0=>0#64
 |n+1=>if f n then yX f n|||1#64<<<n else yX f n
theorem yY (f:Nat→Bool)(n k:Nat)(I:k<64):(yX f n).getLsbD k=(decide (k<n)&&f k):=by
 induction n with
 |zero=>simp[yX]
 |succ n C=>
  have J:(1#64<<<n).getLsbD k=decide (k=n):=by(
 rw[BitVec.getLsbD_shiftLeft];by_cases e:k=n;·subst e;simp[I]
 by_cases h:k<n;·simp[h,e]
 have R:k-n≠0:=by omega
 simp[h,R,e])
  rw[yX];by_cases j:f n=true
  ·rw[am j,BitVec.getLsbD_or,C,J];by_cases e:k=n;·subst e;simp[j]
   have o:(k<n+1)↔(k<n):=by omega
   simp[e,o]
  rw[ah j,C];by_cases e:k=n
  ·subst e;have:f k=false:=by simpa using j
   simp[this]
  have o:(k<n+1)↔(k<n):=by omega
  simp[o]
def oq (up:List (BitVec 64))(n k:Nat):BitVec 64:=yX (fun i=>(aN up i).getLsbD k) n
def cY (up:List (BitVec 64)):List (BitVec 64):=(List.range up.length).map (oq up up.length)
theorem jK (up:List (BitVec 64)):(cY up).length=up.length:=by simp[cY]
theorem vS {up:List (BitVec 64)}{k:Nat}(h:k<up.length):aN (cY up) k=oq up up.length k:=by simp[aN,cY,h]
theorem dF {up:List (BitVec 64)}{i k:Nat}(h:k<up.length)(hi:i<64):(aN (cY up) k).getLsbD i=(decide (i<up.length)&&(aN up i).getLsbD k):=by rw[vS h,oq,yY _ _ _ hi]
theorem uD {n:Nat}{p:Nat→Bool}:(List.range n).all p=true↔∀m,m<n→p m=true:=by rw[List.all_eq_true];exact⟨fun h m hm=>h m (dW.2 hm),fun h m hm=>h m (dW.1 hm)⟩
theorem sL {up:List (BitVec 64)}(Y:eM up){a b:Nat}(ha:a<up.length)(_:b<up.length):fi up (aN up a&&&aN up b)=Ga up a b:=by
 obtain⟨h1,I,h⟩:=Y;have o:∀k,k<64→(aN up a).getLsbD k=true→k<up.length:=fun k R hb=>((h a ha).2 k R hb).1;refine(sB I (fun k R=>?_) fun k h1 h2=>?_).symm;·(
 unfold Kf iN;rw[BitVec.getLsbD_and];congr 1;rw[Bool.eq_iff_iff,uD,cX,xe];constructor
 ·intro hm m C j
  rw[BitVec.getLsbD_and,dX] at j;have:=hm m (o m C j.1);simpa [j.1,j.2] using this
 intro hm m a1;cases J:(aN up a).getLsbD m with
 |false=>rfl
 |true=>
  cases hy:(aN up b).getLsbD m with
  |false=>rfl
  |true=>simpa using hm m (by omega) (by rw[BitVec.getLsbD_and,J,hy];rfl))
 unfold iN;rw[BitVec.getLsbD_and];cases J:(aN up a).getLsbD k with
 |false=>rfl
 |true=>have:=o k h2 J;omega
theorem sM {up:List (BitVec 64)}(ho:eM up){a b:Nat}(I:a<up.length)(J:b<up.length):fi (cY up) (aN (cY up) a&&&aN (cY up) b)=Gg up a b:=by
 obtain⟨h1,R,h⟩:=ho;refine(sB R (fun k Y=>?_) fun k h1 h2=>?_).symm;·(
 unfold Kg iN;rw[BitVec.getLsbD_and,dF I (by omega),dF J (by omega),be Y,Bool.true_and,Bool.true_and];congr 1;rw[Bool.eq_iff_iff,uD,cX,xe];constructor;·intro hm m j o;rw[BitVec.getLsbD_and,dF I j,dF J j,dX,dX,dX,eq] at o;have:=hm m o.1.1;rw[dF Y j,be o.1.1];simpa [o.1.2,o.2.2] using this
 intro hm m C;cases hx:(aN up m).getLsbD a with
 |false=>rfl
 |true=>
  cases hy:(aN up m).getLsbD b with
  |false=>rfl
  |true=>have:=hm m (by omega) (by rw[BitVec.getLsbD_and,dF I (by omega),dF J (by omega),hx,hy,be C];rfl);rw[dF Y (by omega),be C] at this;simpa using this)
 unfold iN;rw[BitVec.getLsbD_and,dF I h2,cN (by omega)];rfl
def Ab:Nat→Nat→List UInt8
 |0,_=>[]
 |f+1,u=>UInt8.ofNat (48+u%10)::(if u/10=0 then [] else Ab f (u/10))
def jS (u:Nat):List UInt8:=(Ab 20 u).reverse
def gN (n:Int):List UInt8:=(if n<0 then [45] else [])++jS n.natAbs
def tg (c:UInt8)(n:Int):List UInt8:=c::gN n
def aG (c:UInt8)(n:Int):ByteArray:=⟨(tg c n).toArray⟩
def JO:List UInt8→Nat
 | []=>0
 |d::l=>(d.toNat-48)+10*JO l
theorem nF (u:Nat):(UInt8.ofNat (48+u%10)).toNat=48+u%10:=by rw[UInt8.toNat_ofNat'];have:u%10<10:=Nat.mod_lt _ (by decide);omega
theorem wH:∀(f u:Nat),u<10^f→JO (Ab f u)=u
 |0,u,h=>by simp at h;subst h;rfl
 |f+1,u,h=>by
  rw[Ab,JO,nF];by_cases j:u/10=0;·rw[am j,JO];omega
  rw[ah j,wH f (u/10) (by rw[Nat.pow_succ] at h;omega)];omega
theorem sI:∀(f u:Nat),∀d∈Ab f u,48≤d.toNat∧d.toNat≤57
 |0,_,d,h=>by simp[Ab] at h
 |f+1,u,d,h=>by(
 rw[Ab] at h;rcases fV.1 h with rfl|h;·rw[nF];omega
 by_cases j:u/10=0;·rw[am j] at h;simp at h
 rw[ah j] at h;exact sI f _ d h)
theorem BU:∀(f u:Nat),(Ab f u).length≤f
 |0,_=>by simp[Ab]
 |f+1,u=>by
  rw[Ab];by_cases j:u/10=0;·rw[am j];simp
  rw[ah j];have:=BU f (u/10);simp;omega
theorem Jq (f u:Nat)(j:0<f):0<(Ab f u).length:=by
 cases f with
 |zero=>omega
 |succ f=>rw[Ab];simp
theorem xS {u v:Nat}(hu:u<10^20)(j:v<10^20)(h:jS u=jS v):u=v:=by have:=List.reverse_inj.1 h;rw[←wH 20 u hu,←wH 20 v j,this]
theorem mH (u:Nat):∀d∈jS u,48≤d.toNat∧d.toNat≤57:=fun d h=>sI 20 u d (by simpa [jS] using h)
theorem sw (u:Nat):1≤(jS u).length∧(jS u).length≤20:=by have j:=BU 20 u;have o:=Jq 20 u (by decide);simp[jS];omega
def aS (n:Int):Prop:= -9223372036854775808≤n∧n≤9223372036854775807
theorem sk {n:Int}(h:aS n):n.natAbs<10^20:=by unfold aS at h;omega
theorem uM (u:Nat):∀d,(jS u).head? =some d→d≠45:=by intro d h;have hm:d∈jS u:=List.mem_of_mem_head? h;have:=mH u d hm;rintro rfl;revert this;decide
theorem Eb {n m:Int}(C:aS n)(hm:aS m)(h:gN n=gN m):n=m:=by
 unfold gN at h;by_cases o:n<0
 ·by_cases j:m<0
  ·rw[am o,am j] at h
   have:=xS (sk C) (sk hm) (List.append_cancel_left h);omega
  rw[am o,ah j] at h;exfalso;refine uM m.natAbs 45 ?_ rfl;rw[show jS m.natAbs=[45]++jS n.natAbs from by simpa using h.symm];rfl
 by_cases j:m<0
 ·rw[ah o,am j] at h
  exfalso;refine uM n.natAbs 45 ?_ rfl;rw[show jS n.natAbs=[45]++jS m.natAbs from by simpa using h];rfl
 rw[ah o,ah j] at h;have:=xS (sk C) (sk hm) (List.append_cancel_left h);omega
theorem Gn {c d:UInt8}{n m:Int}(j:aS n)(hm:aS m)(h:tg c n=tg d m):c=d∧n=m:=by unfold tg at h;injection h with o C;exact⟨o,Eb j hm C⟩
theorem pS {c d:UInt8}{n m:Int}(j:aS n)(hm:aS m)(h:aG c n=aG d m):c=d∧n=m:=by apply Gn j hm;unfold aG at h;injection h with h;simpa using congrArg Array.toList h
theorem vP (n:Int):1≤(gN n).length∧(gN n).length≤21:=by unfold gN;have:=sw n.natAbs;split<;>simp<;>omega
end Go.Proofs.YtccbbkopmlnkpaaGreatDoor
