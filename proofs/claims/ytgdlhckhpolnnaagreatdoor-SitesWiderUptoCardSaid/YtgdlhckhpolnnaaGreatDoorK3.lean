/- Part 4 of the proof (its last part says what is proved). No condition. -/
import Derived.Test.YtgdlhckhpolnnaaGreatDoorK2
namespace Go.Proofs.YtgdlhckhpolnnaaGreatDoor
set_option maxRecDepth 100000
set_option maxHeartbeats 8000000
open Go.RowKit Go.Proofs.Tryz
noncomputable def pB (P:Prop):Bool:=@decide P (Classical.propDecidable P)
theorem av {P:Prop}(h:P):pB P=true:=by unfold pB;exact @bL P (Classical.propDecidable P) h
theorem au {P:Prop}(h:¬P):pB P=false:=by unfold pB;exact @cI P (Classical.propDecidable P) h
def lj (p:aH)(l:List (ByteArray×Int))(i:Nat)(x:ByteArray×Int):Prop:=aB x.1=true∧fD l x.1=i∧0≤x.2∧x.2<p.MZ.length
def cE (p:aH)(l:List (ByteArray×Int)):Prop:=l.length≤32∧∀(i:Nat) x,l[i]? =some x→lj p l i x
theorem sq {l:List (ByteArray×Int)}{k:Nat}{x:ByteArray×Int}(h:l[k]? =some x):0≤fD l x.1:=by unfold fD gJ;have:l.any (fun y=>y.1.toList==x.1.toList)=true:=mW.2 ⟨x,mG h,by simp⟩;rw[ap this];omega
theorem sn {p:aH}{l:List (ByteArray×Int)}{k:Nat}{x:ByteArray×Int}(j:l[k]? =some x)(h:∀(i:Nat) y,i<k→l[i]? =some y→lj p l i y)(o:lj p l k x):∀(i:Nat) y,i<k+1→l[i]? =some y→lj p l i y:=by
 intro i y hi hy;by_cases e:i=k;·subst e;rw[j] at hy;cases hy;exact o
 exact h i y (by omega) hy
theorem qU (S T:Nat→Prop)(v vl:Value)(p:aH)(l:List (ByteArray×Int))(w:World)(hv:dJ S w v p)(hl:kh T w vl l):
 Calls prog 87 #[v,vl] w fun e w'=>e=.returned (.bool (pB (cE p l)))∧aa All w w':=by
 obtain⟨a,b,c,d,rfl,h1,_⟩:=hv;obtain⟨a1,Y,rfl,k1,k2,k3,_⟩:=h1;have b9:=hl;obtain⟨A,cap,rfl,g1,g2,g3,a7⟩:=hl;unfold maxLen at g2 k2;have HL:=J2 b9 a7;have HK:=oH fun o=>(aa.refl All w).alloc o;clear b9 a7;by_cases d7:32<l.length
 ·have hd:decide ((32:Int)<l.length)=true:=by simp;omega
  have hr:pB (cE p l)=false:=au fun h=>by have:=h.1;omega
  rw[hr];go_enter func87,ntmps87;go_wp2;go_ret;exact⟨rfl,HK.out _⟩
 have hd:decide ((32:Int)<l.length)=false:=by simp;omega
 have c0:=fun wn (hk:aa All (w.alloc (.cells #[.slice a1 p.MZ.length Y,b,c,d,.int .i64 p.Nc] 26)) wn)=>((al.new w 26 #[.slice a1 p.MZ.length Y,b,c,d,.int .i64 p.Nc]).kept hk trivial).cell 0;have HB:=oH c0;clear c0;go_enter func87,ntmps87;go_wp2;go_loopg [14] l.length (fun g i wr=>∃k:Nat,k≤l.length∧g=l.length-k∧i=.int .i64 k∧aa All (w.alloc (.cells #[.slice a1 p.MZ.length Y,b,c,d,.int .i64 p.Nc] 26)) wr∧∀(i:Nat) y,i<k→l[i]? =some y→lj p l i y);·exact⟨0,by omega,by omega,rfl,kR,fun i y hi=>by omega⟩
 obtain⟨k,hk,rfl,rfl,R,b4⟩:=hrel;by_cases c5:k<l.length;·(
 obtain⟨x,hx⟩:=eG c5;obtain⟨bb,off,cs,rfl,hs,_,hc,rfl,c1⟩:=HL.2 k x hx;have b5:=(HK.out (.cells #[.slice a1 p.MZ.length Y,b,c,d,.int .i64 p.Nc] 26)).trans R;have d8:=b5.cell (p:=⟨bb,off+k*2,none⟩) trivial (hc 0 _ rfl);have d9:=b5.cell (p:=⟨bb,off+k*2+1,none⟩) trivial (hc 1 _ rfl);have a8:=fun wn (hk:aa All w wn)=>qt _ _ l x.1 wn (aX.keep hk.all HL.1);have b0:=fun wn=>vK x.1 wn;have b1:=sq hx;have b8:¬lj p l k x→pB (cE p l)=false:=fun h=>au fun h'=>h (h'.2 k x hx);have a6:lj p l k x↔aB x.1=true∧fD l x.1=k∧0≤x.2∧x.2<p.MZ.length:=Iff.rfl;have b2:=sn hx b4;obtain⟨x1,x2⟩:=x;simp only at*;have c4:∀wn,aa All w wn→Calls prog 150 #[.slice (some ⟨bb,off,none⟩) l.length cap,.func (.func 151) #[] #[],.string x1] wn fun e w'=>e=.returned (.tuple #[.int .i64 (fD l x1),.bool true])∧aa All wn w':=fun wn hk=>(a8 wn hk).mono fun e w' h=>⟨h.1.trans (by rw[show gJ (fun x=>x.1.toList==x1.toList) l=fD l x1 from rfl,Int.max_eq_left b1,bL b1]),h.2⟩;have c6:=kT (fun x:ByteArray×Int=>x.1.toList==x1.toList) l;rw[show gJ (fun x=>x.1.toList==x1.toList) l=fD l x1 from rfl] at c6;have HC:=J5 c4 b0 b8 b2 R;have HW:=oH b5;obtain⟨w1,w2⟩:=rs c1;clear a8 b0 b8 b2 b4 c4 R b5 c1 hc hx;generalize aB x1=nm at*;generalize fD l x1=r at*;have j:aa All (w.alloc (.cells #[.slice a1 p.MZ.length Y,b,c,d,.int .i64 p.Nc] 26)) (wr.alloc (.cells #[.string x1,.int .i64 x2] 226)):=HC.2.2.2.2.alloc _;have b3:=oH j;clear j;cases nm with
 |false=>
  have HR:=oH (HC.2.2.1 fun h=>by rw[a6] at h;exact Bool.noConfusion h.1)
  go_wp2_with (first
   |(go_at_call 150
     refine(HC.1 _ (HW.out.alloc _)).mono ?_;rintro e wa ⟨rfl,C⟩;have I:=(al.new wr 226 #[.string x1,.int .i64 x2]).kept C trivial;have b6:=I.cl 0;have HA:=J2 C I;clear C I)
   |(go_at_call 72
     refine(HC.2.1 _).mono ?_;rintro e wb ⟨rfl,j⟩;have J:=HA.2.kept j trivial;have b7:=J.cl 1;have H3:=oH ((b3.out.trans HA.1).trans j);have cp:=HB.out _ H3.out;simp only[gc] at cp;have H2:=oH (((HW.out.alloc (.cells #[.string x1,.int .i64 x2] 226)).trans HA.1).trans j);clear j J))
  go_ret;exact⟨by rw[HR.out];rfl,H2.out⟩
 |true=>
  by_cases e1:r=(k:Int);·(
 have c7:(r !=(k:Int))=false:=by simpa using e1
 by_cases e2:x2<0;·(
 have c8:decide (x2<0)=true:=by simpa using e2
 have HR:=oH (HC.2.2.1 fun h=>by rw[a6] at h;omega);have HE:=oH e1;clear e1 a6
 go_wp2_with (first
  |(go_at_call 150
    refine(HC.1 _ (HW.out.alloc _)).mono ?_;rintro e wa ⟨rfl,C⟩;have I:=(al.new wr 226 #[.string x1,.int .i64 x2]).kept C trivial;have b6:=I.cl 0;have HA:=J2 C I;clear C I)
  |(go_at_call 72
    refine(HC.2.1 _).mono ?_;rintro e wb ⟨rfl,j⟩;have J:=HA.2.kept j trivial;have b7:=J.cl 1;have H3:=oH ((b3.out.trans HA.1).trans j);have cp:=HB.out _ H3.out;simp only[gc] at cp;have H2:=oH (((HW.out.alloc (.cells #[.string x1,.int .i64 x2] 226)).trans HA.1).trans j);clear j J))
 go_ret;exact⟨by rw[HR.out];rfl,H2.out⟩)
 have c8:decide (x2<0)=false:=by simpa using e2
 by_cases e3:(p.MZ.length:Int)≤x2;·(
 have c9:decide ((p.MZ.length:Int)≤x2)=true:=by simpa using e3
 have HR:=oH (HC.2.2.1 fun h=>by rw[a6] at h;omega);have HE:=oH e1;clear e1 a6
 go_wp2_with (first
  |(go_at_call 150
    refine(HC.1 _ (HW.out.alloc _)).mono ?_;rintro e wa ⟨rfl,C⟩;have I:=(al.new wr 226 #[.string x1,.int .i64 x2]).kept C trivial;have b6:=I.cl 0;have HA:=J2 C I;clear C I)
  |(go_at_call 72
    refine(HC.2.1 _).mono ?_;rintro e wb ⟨rfl,j⟩;have J:=HA.2.kept j trivial;have b7:=J.cl 1;have H3:=oH ((b3.out.trans HA.1).trans j);have cp:=HB.out _ H3.out;simp only[gc] at cp;have H2:=oH (((HW.out.alloc (.cells #[.string x1,.int .i64 x2] 226)).trans HA.1).trans j);clear j J))
 go_ret;exact⟨by rw[HR.out];rfl,H2.out⟩)
 have c9:decide ((p.MZ.length:Int)≤x2)=false:=by simpa using e3
 have HR:=oH (HC.2.2.2.1 (a6.2 ⟨rfl,e1,by omega,by omega⟩));have HE:=oH e1;clear e1 a6
 go_wp2_with (first
  |(go_at_call 150
    refine(HC.1 _ (HW.out.alloc _)).mono ?_;rintro e wa ⟨rfl,C⟩;have I:=(al.new wr 226 #[.string x1,.int .i64 x2]).kept C trivial;have b6:=I.cl 0;have HA:=J2 C I;clear C I)
  |(go_at_call 72
    refine(HC.2.1 _).mono ?_;rintro e wb ⟨rfl,j⟩;have J:=HA.2.kept j trivial;have b7:=J.cl 1;have H3:=oH ((b3.out.trans HA.1).trans j);have cp:=HB.out _ H3.out;simp only[gc] at cp;have H2:=oH (((HW.out.alloc (.cells #[.string x1,.int .i64 x2] 226)).trans HA.1).trans j);clear j J))
 go_roundg (l.length-(k+1));·exact⟨k+1,by omega,rfl,by go_num,H3.out,HR.out⟩
 omega)
  have c7:(r !=(k:Int))=true:=by simpa using e1
  have HR:=oH (HC.2.2.1 fun h=>by rw[a6] at h;exact e1 h.2.1);clear a6
  go_wp2_with (first
   |(go_at_call 150
     refine(HC.1 _ (HW.out.alloc _)).mono ?_;rintro e wa ⟨rfl,C⟩;have I:=(al.new wr 226 #[.string x1,.int .i64 x2]).kept C trivial;have b6:=I.cl 0;have HA:=J2 C I;clear C I)
   |(go_at_call 72
     refine(HC.2.1 _).mono ?_;rintro e wb ⟨rfl,j⟩;have J:=HA.2.kept j trivial;have b7:=J.cl 1;have H3:=oH ((b3.out.trans HA.1).trans j);have cp:=HB.out _ H3.out;simp only[gc] at cp;have H2:=oH (((HW.out.alloc (.cells #[.string x1,.int .i64 x2] 226)).trans HA.1).trans j);clear j J))
  go_ret;exact⟨by rw[HR.out];rfl,H2.out⟩)
 obtain rfl:k=l.length:=by omega
 have HR:=oH (av (P:=cE p l) ⟨by omega,fun i y hy=>b4 i y (by obtain⟨h,_⟩:=lS.1 hy;exact h) hy⟩);have HW:=oH ((HK.out (.cells #[.slice a1 p.MZ.length Y,b,c,d,.int .i64 p.Nc] 26)).trans R);clear b4 R;go_wp2;go_ret;exact⟨by rw[HR.out];rfl,HW.out⟩
section
theorem jw (n:Int):IntKind.u64.wrap n=n%18446744073709551616:=by simp[IntKind.wrap,IntKind.bits,IntKind.signed]
theorem KI (n:Int):Value.int .u64 (n%18446744073709551616)=U (BitVec.ofInt 64 n):=by rw[U,BitVec.toNat_ofInt];congr 1;omega
theorem MM (x:BitVec 64):(x.toNat:Int)<18446744073709551616:=by have:=x.isLt;omega
section
variable {P:Program} {w:World} (t s:TypeId) (x y:BitVec 64)
theorem Bv (f:BitVec 64→BitVec 64→BitVec 64)(a b:Int)(h:BitVec.ofInt 64 a=x)(h':BitVec.ofInt 64 b=y):Value.int .u64 (IntKind.u64.wrap ((f (BitVec.ofInt 64 a) (BitVec.ofInt 64 b)).toNat:Int))=U (f x y):=by rw[h,h',jw,U];congr 1;have:=MM (f x y);omega
theorem jZ:BitVec.ofInt 64 (x.toNat:Int)=x:=by apply BitVec.eq_of_toNat_eq;rw[BitVec.toNat_ofInt];have:=x.isLt;omega
theorem qb:(binOp .and t (U x) (U y)).run P w=.ok (U (x&&&y)) w:=by show Result.ok (Value.int .u64 (IntKind.u64.wrap ((BitVec.ofInt 64 x.toNat&&&BitVec.ofInt 64 y.toNat).toNat:Int))) w=_;rw[Bv x y (·&&&·) _ _ (jZ x) (jZ y)]
theorem xr:(binOp .or t (U x) (U y)).run P w=.ok (U (x|||y)) w:=by show Result.ok (Value.int .u64 (IntKind.u64.wrap ((BitVec.ofInt 64 x.toNat|||BitVec.ofInt 64 y.toNat).toNat:Int))) w=_;rw[Bv x y (·|||·) _ _ (jZ x) (jZ y)]
theorem ju:(binOp .andNot t (U x) (U y)).run P w=.ok (U (x&&& ~~~y)) w:=by show Result.ok (Value.int .u64 (IntKind.u64.wrap ((BitVec.ofInt 64 x.toNat&&& ~~~BitVec.ofInt 64 y.toNat).toNat:Int))) w=_;rw[Bv x y (fun a b=>a&&& ~~~b) _ _ (jZ x) (jZ y)]
theorem nA:(binOp .and t (U x) (.int .u64 1)).run P w=.ok (U (x&&&1#64)) w:=qb t x 1#64
theorem MF:(binOp .sub t (U x) (U y)).run P w=.ok (U (x-y)) w:=by
 have h:BitVec.ofInt 64 ((x.toNat:Int)-(y.toNat:Int))=x-y:=by apply BitVec.eq_of_toNat_eq;rw[BitVec.toNat_ofInt,BitVec.toNat_sub];have:=x.isLt;have:=y.isLt;omega
 simp only[binOp,U,Op.intArith,jw];rw[KI,U,h];simp
theorem Kt:(binOp .mul t (U x) (U y)).run P w=.ok (U (x*y)) w:=by simp only[binOp,U,Op.intArith,jw];rw[KI,U];congr 2
theorem nE:(binOp .sub t (U x) (.int .u64 1)).run P w=.ok (U (x-1#64)) w:=MF t x 1#64
theorem LK:(binOp .quo t (U x) (.int .u64 2)).run P w=.ok (U (x>>>1)) w:=by
 have h:(x>>>1).toNat=x.toNat/2:=by rw[BitVec.toNat_ushiftRight,Nat.shiftRight_eq_div_pow]
 have:=x.isLt;simp only[binOp,U,Op.intDiv,jw,h];simp;omega
theorem LL:(binOp .rem t (U x) (.int .u64 2)).run P w=.ok (U (x&&&1#64)) w:=by
 have h:(x&&&1#64).toNat=x.toNat%2:=by rw[BitVec.toNat_and];exact Nat.and_one_is_mod _
 simp only[binOp,U,Op.intDiv,h];simp;exact Int.tmod_eq_emod_of_nonneg (by omega)
theorem Mf:((x.toNat:Int)==(y.toNat:Int))=(x==y):=by
 rw[Bool.eq_iff_iff,cy,cy];constructor;·intro h;exact BitVec.eq_of_toNat_eq (by omega)
 rintro rfl;rfl
theorem Ks:(binOp .eql t (U x) (U y)).run P w=.ok (.bool (x==y)) w:=by simp[binOp,U,Op.intCmp,Mf]
theorem Ku:(binOp .neq t (U x) (U y)).run P w=.ok (.bool (x !=y)) w:=by simp[binOp,U,Op.intCmp,bne,Mf]
theorem nB:(binOp .eql t (U x) (.int .u64 0)).run P w=.ok (.bool (x==0#64)) w:=Ks t x 0#64
theorem nC:(binOp .neq t (U x) (.int .u64 0)).run P w=.ok (.bool (x !=0#64)) w:=Ku t x 0#64
theorem ms:(binOp .eql t (U x) (.int .u64 1)).run P w=.ok (.bool (x==1#64)) w:=Ks t x 1#64
theorem rq (i:Nat)(hi:i<64):(binOp .shr t (U x) (.int .i64 i)).run P w=.ok (U (x>>>i)) w:=by
 have j:¬(i:Int)<0:=by omega
 have o:min i 64=i:=by omega
 have C:(x>>>i).toNat=x.toNat/2^i:=by rw[BitVec.toNat_ushiftRight,Nat.shiftRight_eq_div_pow]
 simp only[binOp,U,Op.shift,j,if_false,dP,IntKind.bits,o,C];rw[Int.fdiv_eq_ediv_of_nonneg _ (by exact_mod_cast Nat.zero_le _)];simp
theorem nD (i:Nat)(hi:i<64):(binOp .shl t (.int .u64 1) (.int .i64 i)).run P w=.ok (U (1#64<<<i)) w:=by
 have j:¬(i:Int)<0:=by omega
 have o:min i 64=i:=by omega
 have C:(1#64<<<i).toNat=2^i%18446744073709551616:=by rw[BitVec.toNat_shiftLeft,Nat.shiftLeft_eq];simp
 simp only[binOp,U,Op.shift,j,if_false,dP,IntKind.bits,o,C,jw];simp
theorem wL (op:BinOp)(p q:Operand):(eqGuard op t p q (U x) (U y)).run P w=.ok () w:=by cases op<;>simp[eqGuard,U]
theorem pD (op:BinOp)(p q:Operand)(n:Int):(eqGuard op t p q (U x) (.int .u64 n)).run P w=.ok () w:=by cases op<;>simp[eqGuard,U]
end
end
section
theorem ME (i:Nat):Value.int .u64 (IntKind.u64.wrap (2^i))=U (1#64<<<i):=by
 have j:(1#64<<<i).toNat=2^i%18446744073709551616:=by rw[BitVec.toNat_shiftLeft,Nat.shiftLeft_eq];simp
 rw[U,j,jw];simp
theorem lh {P:Program}{w:World}(t:TypeId)(x:BitVec 64)(i:Nat):(binOp .or t (U x) (.int .u64 (IntKind.u64.wrap (2^i)))).run P w=.ok (U (x|||1#64<<<i)) w:=by rw[ME i];exact xr t x _
attribute [local go_sem] lh qb xr ju nA nE nB nC ms rq nD wL pD
theorem sW (i:Int)(w:World):Calls prog 138 #[.int .i64 i] w fun e w'=>e=.returned (.bool (decide (0≤i∧i<64)))∧w=w':=by
 by_cases h1:0≤i
 ·go_enter func138,ntmps138
  go_wp2;go_ret;exact⟨by simp[h1],rfl⟩
 go_enter func138,ntmps138;go_wp2;go_ret;exact⟨by simp;omega,rfl⟩
theorem EX (x:BitVec 64)(i:Nat):((x>>>i)&&&1#64==1#64)=x.getLsbD i:=by
 rw[Bool.eq_iff_iff,cy];constructor
 ·intro h
  have:=congrArg (fun y=>y.getLsbD 0) h;simpa using this
 intro h;apply BitVec.eq_of_getLsbD_eq;intro j o;by_cases e:j=0;·subst e;simpa using h
 simp[e]
theorem yJ (x:BitVec 64)(i:Nat)(hi:i<64)(w:World):Calls prog 75 #[U x,.int .i64 i] w fun e w'=>e=.returned (.bool (x.getLsbD i))∧w=w':=by have hr:=fun w=>sW i w;rw[bL ⟨by omega,by omega⟩] at hr;have HR:=oH hr;have j:=EX x i;have o:=oH j;clear hr j;go_enter func75,ntmps75;go_wp2_with (go_at_call 138;refine(HR.out _).mono ?_;rintro e w' ⟨rfl,rfl⟩);go_ret;exact⟨by rw[←o.out];rfl,rfl⟩
theorem Dq (x:BitVec 64)(i:Nat)(hi:i<64)(w:World):Calls prog 74 #[U x,.int .i64 i] w fun e w'=>e=.returned (U (x|||1#64<<<i))∧w=w':=by have hr:=fun w=>sW i w;rw[bL ⟨by omega,by omega⟩] at hr;have HR:=oH hr;clear hr;go_enter func74,ntmps74;go_wp2_with (go_at_call 138;refine(HR.out _).mono ?_;rintro e w' ⟨rfl,rfl⟩);go_ret;exact⟨rfl,rfl⟩
def oU:Nat→BitVec 64
 |0=>0#64
 |n+1=>oU n|||1#64<<<n
theorem yD (n k:Nat)(j:k<64):(oU n).getLsbD k=decide (k<n):=by
 induction n with
 |zero=>simp[oU]
 |succ n o=>
  rw[oU,BitVec.getLsbD_or,o,BitVec.getLsbD_shiftLeft];by_cases h:k<n;·simp[h,j];omega
  by_cases e:k=n;·subst e;simp[j]
  have h1:¬k<n+1:=by omega
  have C:k-n≠0:=by omega
  simp[h,h1,C]
theorem AD (n:Nat)(C:n≤64)(w:World):Calls prog 193 #[.int .i64 n] w fun e w'=>e=.returned (U (oU n))∧w=w':=by
 have j:U (oU 0)=.int .u64 0:=rfl;have I:=oH j;clear j;go_enter func193,ntmps193;go_wp2;go_loopg [3,8] n (fun g m i wr=>∃k:Nat,k≤n∧g=n-k∧i=.int .i64 k∧m=U (oU k)∧w=wr);·exact⟨0,by omega,by omega,rfl,rfl,rfl⟩
 obtain⟨k,J,rfl,rfl,rfl,rfl⟩:=hrel;by_cases o:k<n
 ·go_wp2
  go_roundg (n-(k+1));·exact⟨k+1,by omega,rfl,by go_num,rfl,rfl⟩
  omega
 obtain rfl:k=n:=by omega
 go_wp2;go_ret;exact⟨rfl,rfl⟩
end
section
attribute [local go_sem] lh qb xr ju nA nE nB nC ms rq nD wL pD
def Fp (i:Nat):Nat:=[0,1,56,2,57,49,28,3,61,58,42,50,38,29,17,4,62,47,59,36,45,43,51,22,53,39,33,30,24,18,12,5,63,55,48,27,60,41,37,16,46,35,44,21,52,32,23,11,54,26,40,15,34,20,31,10,25,14,19,9,13,8,7,6].getD i 0
def nt (i:Nat):ByteArray:=[⟨#[]⟩,⟨#[97,100,100]⟩,⟨#[115,117,98]⟩,⟨#[109,117,108]⟩,⟨#[100,105,118]⟩,⟨#[109,111,100]⟩,⟨#[97,110,100]⟩,⟨#[111,114]⟩,⟨#[120,111,114]⟩,⟨#[115,104,108]⟩,⟨#[115,104,114]⟩,⟨#[101,113]⟩,⟨#[108,101,115,115]⟩].getD i ⟨#[]⟩
def gz (w:World):Prop:=(∀i,i<64→w.cell? ⟨4,i,none⟩=some (.int .u8 (Fp i)))∧∀i,i<13→w.cell? ⟨3,i,none⟩=some (.string (nt i))
theorem gz.keep {w w':World}(h:gz w)(k:aa All w w'):gz w':=
 ⟨fun i hi=>k.cell (p:=⟨4,i,none⟩) trivial (h.1 i hi),fun i hi=>k.cell (p:=⟨3,i,none⟩) trivial (h.2 i hi)⟩
def Dk (y:BitVec 64):Nat:=(y>>>58).toNat
def vD (y:BitVec 64):BitVec 64:=y*285870213051353865#64
def pw (k:Nat):BitVec 64:=1#64<<<k
theorem Fq:∀k:Fin 64,Fp (Dk (vD (pw k.val)))=k.val∧Dk (vD (pw k.val))<64:=by decide+kernel
def LO (x:BitVec 64)(k:Nat):Prop:=k<64∧x.getLsbD k=true∧∀j,j<k→x.getLsbD j=false
theorem Cd {x:BitVec 64}{k:Nat}(h:LO x k):x&&& -x=pw k:=by
 unfold pw;obtain⟨h1,J,R⟩:=h;apply BitVec.eq_of_getLsbD_eq;intro i hi;rw[BitVec.getLsbD_and,BitVec.getLsbD_neg,BitVec.getLsbD_shiftLeft];rcases Nat.lt_trichotomy i k with e|e|e;·simp[R i e,e]
 ·subst e
  have o:¬∃j,j<i∧x.getLsbD j=true:=by rintro⟨j,hj,Y⟩;rw[R j hj] at Y;cases Y
  simp[J,hi,o]
 have hex:∃j,j<i∧x.getLsbD j=true:=⟨k,e,J⟩;have C:i-k≠0:=by omega
 have I:¬i<k:=by omega
 simp[hi,hex,I,C]
theorem Lf {x:BitVec 64}(h:x≠0#64):∃k,LO x k:=by
 have hex:∃k,k<64∧x.getLsbD k=true:=by(
 apply Classical.byContradiction;intro I;apply h;apply BitVec.eq_of_getLsbD_eq;intro i hi;cases e:x.getLsbD i with
 |false=>simp
 |true=>exact absurd ⟨i,hi,e⟩ I)
 obtain⟨k,J,C⟩:=hex;have:∀n,∀k,k≤n→k<64→x.getLsbD k=true→∃k,LO x k:=by(
 intro n;induction n with
 |zero=>intro k J o C;exact⟨k,o,C,fun j R=>by omega⟩
 |succ n ih=>
  intro k J o C;by_cases hl:∃j,j<k∧x.getLsbD j=true
  ·obtain⟨j,R,Y⟩:=hl
   exact ih j (by omega) (by omega) Y
  refine⟨k,o,C,fun j R=>?_⟩;cases e:x.getLsbD j with
  |false=>rfl
  |true=>exact absurd ⟨j,R,e⟩ hl)
 exact this k k (cf _) J C
theorem MD {P:Program}{w:World}(x:BitVec 64):(Op.unary .neg (U x)).run P w=.ok (U (-x)) w:=by
 have h:BitVec.ofInt 64 (-(x.toNat:Int))= -x:=by apply BitVec.eq_of_toNat_eq;rw[BitVec.toNat_ofInt,BitVec.toNat_neg];have:=x.isLt;omega
 have j:((-x).toNat:Int)= -(x.toNat:Int)%18446744073709551616:=by rw[←h,BitVec.toNat_ofInt];omega
 simp only[U,j];simp[Op.unary,Op.intArith,jw]
theorem JQ {P:Program}{w:World}(t:TypeId)(x:BitVec 64):(binOp .mul t (U x) (.int .u64 285870213051353865)).run P w=.ok (U (vD x)) w:=Kt t x 285870213051353865#64
theorem JR {P:Program}{w:World}(t:TypeId)(x:BitVec 64):(binOp .shr t (U x) (.int .u64 58)).run P w=.ok (.int .u64 (Dk x:Nat)) w:=by
 have j:Dk x=x.toNat/2^58:=by rw[Dk,BitVec.toNat_ushiftRight,Nat.shiftRight_eq_div_pow]
 simp only[binOp,U,Op.shift,IntKind.bits,j];simp;exact Int.fdiv_eq_ediv_of_nonneg _ (by decide)
attribute [local go_sem] MD
theorem MN (n:Nat)(h:n<64)(w:World):(Instr.indexAt 311 (.pointer (some ⟨4,0,none⟩)) (.int .u64 n)).run prog w=.ok (.pointer (some ⟨4,n,none⟩)) w:=by
 have hi:(n:Int)<64:=by omega
 have j:(0:Int)≤n:=by omega
 go_simp
theorem LJ (x:BitVec 64)(k:Nat)(w:World)(hl:gz w)(o:LO x k):Calls prog 224 #[U x] w fun e w'=>e=.returned (.int .i64 k)∧w=w':=by
 have hx:(x==0#64)=false:=by rw[bE];rintro rfl;have:=o.2.1;simp at this
 have hn:=Cd o;have C:=Fq ⟨k,o.1⟩;have I:=hl.1 _ C.2;rw[C.1] at I;have j:=C.2;have J:k<64:=o.1;have R:=fun t w=>JQ (P:=prog) (w:=w) t (pw k);have Y:=fun t w=>JR (P:=prog) (w:=w) t (vD (pw k));simp only at I j;clear C hl o;generalize Dk (vD (pw k))=n at*;generalize vD (pw k)=y at*;generalize pw k=z at*;have a1:=MN n j;clear j;go_enter func224,ntmps224;go_wp2;go_ret;exact⟨rfl,rfl⟩
end
def sE (p:Nat→Bool)(n:Nat):Int:=match (List.range n).find? p with|some a=>(a:Int)|none=> -1
theorem lI {p:Nat→Bool}{n k:Nat}(C:k<n)(h:p k=true)(o:∀j,j<k→p j=false):sE p n=k:=by
 unfold sE;have:(List.range n).find? p=some k:=by rw[List.find?_range_eq_some];exact⟨h,fg.2 C,fun j I=>by rw[o j I];rfl⟩
 rw[this]
theorem jW {p:Nat→Bool}{n:Nat}(o:∀j,j<n→p j=false):sE p n= -1:=by
 unfold sE;have:(List.range n).find? p=none:=by rw[List.find?_eq_none];intro a C;rw[o a (fg.1 C)];exact oG
 rw[this]
theorem vg (p:Nat→Bool)(n:Nat):(∃k,k<n∧p k=true∧∀j,j<k→p j=false)∨∀j,j<n→p j=false:=by
 induction n with
 |zero=>exact .inr fun j C=>by omega
 |succ n I=>
  rcases I with ⟨k,R,h1,J⟩|h;·exact .inl ⟨k,by omega,h1,J⟩
  cases o:p n with
  |true=>exact .inl ⟨n,by omega,o,h⟩
  |false=>
   refine .inr fun j C=>?_;by_cases e:j=n;·subst e;exact o
   exact h j (by omega)
theorem sF {p q:Nat→Bool}{n m:Nat}(J:n≤m)(h:∀j,j<n→p j=q j)(h':∀j,n≤j→j<m→q j=false):sE p n=sE q m:=by
 rcases vg p n with ⟨k,C,h1,I⟩|h1;·rw[lI C h1 I,lI (p:=q) (n:=m) (k:=k) (by omega) (by rw[←h k C];exact h1) fun j o=>by rw[←h j (by omega)];exact I j o]
 rw[jW h1,jW fun j o=>?_];by_cases e:j<n;·rw[←h j e];exact h1 j e
 exact h' j (by omega) o
theorem wP (p:Nat→Bool)(n:Nat): -1≤sE p n∧sE p n<n:=by
 rcases vg p n with ⟨k,j,h1,o⟩|h1;·rw[lI j h1 o];omega
 rw[jW h1];omega
def aJ (up:List (BitVec 64))(i:Nat):BitVec 64:=up.getD i 0#64
theorem JS {up:List (BitVec 64)}{i:Nat}{x:BitVec 64}(h:up[i]? =some x):aJ up i=x:=by simp[aJ,h]
theorem Hw {up:List (BitVec 64)}{i:Nat}(h:i<up.length):up[i]? =some (aJ up i):=by simp[aJ,h]
theorem pZ {x y:BitVec 64}:(x&&& ~~~y=0#64)↔∀k,k<64→x.getLsbD k=true→y.getLsbD k=true:=by
 constructor
 ·intro h k o j
  have:=congrArg (fun z=>z.getLsbD k) h;simp[o,j] at this;exact this
 intro h;apply BitVec.eq_of_getLsbD_eq;intro i hi;have:=h i hi;cases j:x.getLsbD i with
 |false=>simp[j]
 |true=>simp[j,this j]
def dI (up:List (BitVec 64)):Prop:=1≤up.length∧up.length≤64∧∀i,i<up.length→(aJ up i).getLsbD i=true∧
 ∀k,k<64→(aJ up i).getLsbD k=true→k<up.length∧(k≠i→(aJ up k).getLsbD i=false)∧aJ up k&&& ~~~(aJ up i)=0#64
def jB (up:List (BitVec 64))(set:BitVec 64)(k:Nat):Bool:=set.getLsbD k&&(set&&& ~~~(aJ up k)==0#64)
def qan (up:List (BitVec 64))(set:BitVec 64):Int:=sE (jB up set) 64
def sM (up:List (BitVec 64))(a b k:Nat):Bool:=(aJ up a).getLsbD k&&(aJ up b).getLsbD k&&(List.range up.length).all fun m=>!(aJ up a).getLsbD m||!(aJ up b).getLsbD m||(aJ up k).getLsbD m
def iY (up:List (BitVec 64))(a b:Nat):Int:=sE (sM up a b) up.length
def sV (up:List (BitVec 64))(a b k:Nat):Bool:=(aJ up k).getLsbD a&&(aJ up k).getLsbD b&&(List.range up.length).all fun m=>!(aJ up m).getLsbD a||!(aJ up m).getLsbD b||(aJ up m).getLsbD k
def iZ (up:List (BitVec 64))(a b:Nat):Int:=sE (sV up a b) up.length
def ue (up:List (BitVec 64)):Prop:=dI up∧∀a,a<up.length→∀b,b<a→0≤iY up a b∧0≤iZ up a b
def zt (f:Nat→Bool):Nat→BitVec 64
 |0=>0#64
 |n+1=>if f n then zt f n|||1#64<<<n else zt f n
theorem zu (f:Nat→Bool)(n k:Nat)(C:k<64):(zt f n).getLsbD k=(decide (k<n)&&f k):=by
 induction n with
 |zero=>simp[zt]
 |succ n o=>
  have I:(1#64<<<n).getLsbD k=decide (k=n):=by(
 rw[BitVec.getLsbD_shiftLeft];by_cases e:k=n;·subst e;simp[C]
 by_cases h:k<n;·simp[h,e]
 have J:k-n≠0:=by omega
 simp[h,J,e])
  rw[zt];by_cases j:f n=true
  ·rw[ap j,BitVec.getLsbD_or,o,I];by_cases e:k=n;·subst e;simp[j]
   have h1:(k<n+1)↔(k<n):=by omega
   simp[e,h1]
  rw[ae j,o];by_cases e:k=n
  ·subst e;have:f k=false:=by simpa using j
   simp[this]
  have h1:(k<n+1)↔(k<n):=by omega
  simp[h1]
def ow (up:List (BitVec 64))(n k:Nat):BitVec 64:=zt (fun i=>(aJ up i).getLsbD k) n
def dE (up:List (BitVec 64)):List (BitVec 64):=(List.range up.length).map (ow up up.length)
theorem kF (up:List (BitVec 64)):(dE up).length=up.length:=by simp[dE]
theorem vW {up:List (BitVec 64)}{k:Nat}(h:k<up.length):aJ (dE up) k=ow up up.length k:=by simp[aJ,dE,h]
theorem eI {up:List (BitVec 64)}{i k:Nat}(h:k<up.length)(hi:i<64):(aJ (dE up) k).getLsbD i=(decide (i<up.length)&&(aJ up i).getLsbD k):=by rw[vW h,ow,zu _ _ _ hi]
theorem nJ {n:Nat}{p:Nat→Bool}:(List.range n).all p=true↔∀m,m<n→p m=true:=by rw[List.all_eq_true];exact⟨fun h m hm=>h m (fg.2 hm),fun h m hm=>h m (fg.1 hm)⟩
theorem sQ {up:List (BitVec 64)}(Y:dI up){a b:Nat}(ha:a<up.length)(_:b<up.length):qan up (aJ up a&&&aJ up b)=iY up a b:=by
 obtain⟨h1,I,h⟩:=Y;have o:∀k,k<64→(aJ up a).getLsbD k=true→k<up.length:=fun k R hb=>((h a ha).2 k R hb).1;refine(sF I (fun k R=>?_) fun k h1 h2=>?_).symm;·(
 unfold sM jB;rw[BitVec.getLsbD_and];congr 1;rw[Bool.eq_iff_iff,nJ,cy,pZ];constructor
 ·intro hm m C j
  rw[BitVec.getLsbD_and,gE] at j;have:=hm m (o m C j.1);simpa [j.1,j.2] using this
 intro hm m a1;cases J:(aJ up a).getLsbD m with
 |false=>rfl
 |true=>
  cases hy:(aJ up b).getLsbD m with
  |false=>rfl
  |true=>simpa using hm m (by omega) (by rw[BitVec.getLsbD_and,J,hy];rfl))
 unfold jB;rw[BitVec.getLsbD_and];cases J:(aJ up a).getLsbD k with
 |false=>rfl
 |true=>have:=o k h2 J;omega
theorem sR {up:List (BitVec 64)}(ho:dI up){a b:Nat}(I:a<up.length)(J:b<up.length):qan (dE up) (aJ (dE up) a&&&aJ (dE up) b)=iZ up a b:=by
 obtain⟨h1,R,h⟩:=ho;refine(sF R (fun k Y=>?_) fun k h1 h2=>?_).symm;·(
 unfold sV jB;rw[BitVec.getLsbD_and,eI I (by omega),eI J (by omega),bL Y,Bool.true_and,Bool.true_and];congr 1;rw[Bool.eq_iff_iff,nJ,cy,pZ];constructor;·intro hm m j o;rw[BitVec.getLsbD_and,eI I j,eI J j,gE,gE,gE,qal] at o;have:=hm m o.1.1;rw[eI Y j,bL o.1.1];simpa [o.1.2,o.2.2] using this
 intro hm m C;cases hx:(aJ up m).getLsbD a with
 |false=>rfl
 |true=>
  cases hy:(aJ up m).getLsbD b with
  |false=>rfl
  |true=>have:=hm m (by omega) (by rw[BitVec.getLsbD_and,eI I (by omega),eI J (by omega),hx,hy,bL C];rfl);rw[eI Y (by omega),bL C] at this;simpa using this)
 unfold jB;rw[BitVec.getLsbD_and,eI I h2,cI (by omega)];rfl
def Aw:Nat→Nat→List UInt8
 |0,_=>[]
 |f+1,u=>UInt8.ofNat (48+u%10)::(if u/10=0 then [] else Aw f (u/10))
def kK (u:Nat):List UInt8:=(Aw 20 u).reverse
def iK (n:Int):List UInt8:=(if n<0 then [45] else [])++kK n.natAbs
def tr (c:UInt8)(n:Int):List UInt8:=c::iK n
def aL (c:UInt8)(n:Int):ByteArray:=⟨(tr c n).toArray⟩
def JT:List UInt8→Nat
 | []=>0
 |d::l=>(d.toNat-48)+10*JT l
theorem nL (u:Nat):(UInt8.ofNat (48+u%10)).toNat=48+u%10:=by rw[UInt8.toNat_ofNat'];have:u%10<10:=Nat.mod_lt _ (by decide);omega
theorem wV:∀(f u:Nat),u<10^f→JT (Aw f u)=u
 |0,u,h=>by simp at h;subst h;rfl
 |f+1,u,h=>by
  rw[Aw,JT,nL];by_cases j:u/10=0;·rw[ap j,JT];omega
  rw[ae j,wV f (u/10) (by rw[Nat.pow_succ] at h;omega)];omega
theorem sP:∀(f u:Nat),∀d∈Aw f u,48≤d.toNat∧d.toNat≤57
 |0,_,d,h=>by simp[Aw] at h
 |f+1,u,d,h=>by(
 rw[Aw] at h;rcases fX.1 h with rfl|h;·rw[nL];omega
 by_cases j:u/10=0;·rw[ap j] at h;simp at h
 rw[ae j] at h;exact sP f _ d h)
theorem Cb:∀(f u:Nat),(Aw f u).length≤f
 |0,_=>by simp[Aw]
 |f+1,u=>by
  rw[Aw];by_cases j:u/10=0;·rw[ap j];simp
  rw[ae j];have:=Cb f (u/10);simp;omega
theorem Ju (f u:Nat)(j:0<f):0<(Aw f u).length:=by
 cases f with
 |zero=>omega
 |succ f=>rw[Aw];simp
theorem xX {u v:Nat}(hu:u<10^20)(j:v<10^20)(h:kK u=kK v):u=v:=by have:=List.reverse_inj.1 h;rw[←wV 20 u hu,←wV 20 v j,this]
theorem nd (u:Nat):∀d∈kK u,48≤d.toNat∧d.toNat≤57:=fun d h=>sP 20 u d (by simpa [kK] using h)
theorem sw (u:Nat):1≤(kK u).length∧(kK u).length≤20:=by have h1:=Cb 20 u;have j:=Ju 20 u (by decide);simp[kK];omega
def aV (n:Int):Prop:= -9223372036854775808≤n∧n≤9223372036854775807
theorem rZ {n:Int}(h:aV n):n.natAbs<10^20:=by unfold aV at h;omega
theorem uS (u:Nat):∀d,(kK u).head? =some d→d≠45:=by intro d h;have hm:d∈kK u:=List.mem_of_mem_head? h;have:=nd u d hm;rintro rfl;revert this;decide
theorem Eg {n m:Int}(o:aV n)(hm:aV m)(h:iK n=iK m):n=m:=by
 unfold iK at h;by_cases h1:n<0
 ·by_cases j:m<0
  ·rw[ap h1,ap j] at h
   have:=xX (rZ o) (rZ hm) (List.append_cancel_left h);omega
  rw[ap h1,ae j] at h;exfalso;refine uS m.natAbs 45 ?_ rfl;rw[show kK m.natAbs=[45]++kK n.natAbs from by simpa using h.symm];rfl
 by_cases j:m<0
 ·rw[ae h1,ap j] at h
  exfalso;refine uS n.natAbs 45 ?_ rfl;rw[show kK n.natAbs=[45]++kK m.natAbs from by simpa using h];rfl
 rw[ae h1,ae j] at h;have:=xX (rZ o) (rZ hm) (List.append_cancel_left h);omega
theorem Gq {c d:UInt8}{n m:Int}(j:aV n)(hm:aV m)(h:tr c n=tr d m):c=d∧n=m:=by unfold tr at h;injection h with h1 o;exact⟨h1,Eg j hm o⟩
theorem pQ {c d:UInt8}{n m:Int}(j:aV n)(hm:aV m)(h:aL c n=aL d m):c=d∧n=m:=by apply Gq j hm;unfold aL at h;injection h with h;simpa using congrArg Array.toList h
theorem vV (n:Int):1≤(iK n).length∧(iK n).length≤21:=by unfold iK;have:=sw n.natAbs;split<;>simp<;>omega
end Go.Proofs.YtgdlhckhpolnnaaGreatDoor
