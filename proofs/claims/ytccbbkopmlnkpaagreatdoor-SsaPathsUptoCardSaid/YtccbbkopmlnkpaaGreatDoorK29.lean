/- Part 30 of the proof (its last part says what is proved). No condition. -/
import Derived.Deep.RegionHeld3
import Derived.Test.YtccbbkopmlnkpaaGreatDoorK26
namespace Go.Proofs.YtccbbkopmlnkpaaGreatDoor
set_option maxRecDepth 100000
set_option maxHeartbeats 8000000
open Go.RowKit Go.Proofs.Tryz
theorem st (z:ByteArray):z.toList=z.data.toList:=by
 have:∀(i:Nat) (r:List UInt8),i≤z.size→ByteArray.toList.loop z i r=r.reverse++z.data.toList.drop i:=by(
 intro i;induction I:z.size-i generalizing i with
 |zero=>
  intro r hi;rw[ByteArray.toList.loop];have e:¬i<z.size:=by omega
  rw[ah e,List.drop_of_length_le (by simp only[Array.length_toList];show z.size≤i;omega)];simp
 |succ n C=>
  intro r hi;have j:i<z.size:=by omega
  have o:i<z.data.toList.length:=by simpa using j
  rw[ByteArray.toList.loop,am j,C (i+1) (by omega) _ (by omega),List.drop_eq_getElem_cons o];simp[ByteArray.get!,j])
 unfold ByteArray.toList;rw[this 0 [] (by omega)];simp
theorem qm {l:List UInt8}{i:Nat}{b:UInt8}(h:l[i]? =some b)(j:b.toNat<128):Utf8.decode ⟨l.toArray⟩ i=(b.toNat,1):=by
 have hi:=(lS.1 h).1;have e:(ByteArray.mk l.toArray).get! (i+0)=b:=by have o:=(lS.1 h).2;simp[ByteArray.get!,hi,o]
 unfold Utf8.decode;simp only[e,j,if_true]
theorem jq (l:List UInt8):(ByteArray.mk l.toArray).size=l.length:=by simp[ByteArray.size]
theorem yV {l:List UInt8}(I:0<l.length)(o:l.length≤24)(C:∀i b,l[i]? =some b→b.toNat<128∧(fj b.toNat||(i !=0&&ey b.toNat))=true):
 ∀(k f i:Nat),l.length-i=k→i≤l.length→k<f→eY ⟨l.toArray⟩ f i i=true
 |0,f+1,i,J,hi,R=>by rw[lR (by rw[jq];omega)];exact be (by omega)
 |k+1,f+1,i,J,hi,R=>by(
 have j:i<l.length:=by omega
 obtain⟨Y,h2⟩:=C i l[i] (lG j);rw[ij (by rw[jq];exact j),qm (lG j) Y];rw[dX,dX];exact⟨⟨h2,be (by omega)⟩,yV I o C k f (i+1) (by omega) (by omega) (by omega)⟩)
theorem yC {l:List UInt8}(o:0<l.length)(j:l.length≤24)(C:∀i b,l[i]? =some b→b.toNat<128∧(fj b.toNat||(i !=0&&ey b.toNat))=true):gE ⟨l.toArray⟩=true:=by unfold gE;exact yV o j C l.length _ 0 (by omega) (by omega) (by rw[jq];omega)
theorem JQ:(xi.all fun l=>match l with|_::b::_=>decide (97≤b.toNat)|_=>false)=true:=by decide
theorem JP {c d:UInt8}{r:List UInt8}(o:d.toNat<97):fu ⟨(c::d::r).toArray⟩=false:=by unfold fu;rw[List.any_eq_false];intro l j;rw[st];have h:=List.all_eq_true.1 JQ l j;rw[cX];rintro e;rw[←e] at h;have:=of_decide_eq_true h;omega
theorem AT (n:Int):∃d r,gN n=d::r∧d.toNat<97:=by
 unfold gN;by_cases h:n<0
 ·rw[am h]
  exact⟨45,_,rfl,by decide⟩
 rw[ah h,si];have j:=sw n.natAbs;cases o:jS n.natAbs with
 |nil=>rw[o] at j;simp at j
 |cons d r=>have:=mH n.natAbs d (by rw[o];exact List.mem_cons_self ..);exact⟨d,r,rfl,by omega⟩
theorem names:jT:=by
 constructor;·(
 intro c n R hn;have Y:97≤c.toNat∧c.toNat≤122:=by rcases R with rfl|rfl|rfl|rfl<;>decide
 have o:fj (c.toNat:Int)=true:=by unfold fj oe;simp only[Bool.or_eq_true,dX,eq];exact .inl (.inl (.inl (.inl ⟨by omega,by omega⟩)))
 have hw:fu (aG c n)=false:=by obtain⟨d,r,e,C⟩:=AT n;unfold aG tg;rw[e];exact JP C
 unfold ax;rw[hw,Bool.not_false,Bool.and_true];by_cases h:0≤n;·(
 rw[be h];have I:gN n=jS n.natAbs:=by unfold gN;rw[ah (by omega)];rfl
 have J:=sw n.natAbs;unfold aG tg;rw[I];refine yC (by simp) (by simp;omega) fun i b j=>?_;rcases i with _|i
 ·cases j
  rw[o];exact⟨by omega,rfl⟩
 have:=mH n.natAbs b (mG (by simpa using j));refine⟨by omega,?_⟩;have C:ey (b.toNat:Int)=true:=by unfold ey oe;rw[dX];exact⟨be (by omega),be (by omega)⟩
 rw[C];simp)
 rw[cN h];have I:gN n=45::jS n.natAbs:=by unfold gN;rw[am (by omega)];rfl
 unfold aG tg;rw[I];unfold gE;rw[ij (by rw[jq];simp),qm (b:=c) (i:=0) rfl (by omega),jq];rw[show(c::45::jS n.natAbs).length=(jS n.natAbs).length+1+1 by simp,ij (by rw[jq];simp),show Utf8.decode ⟨(c::45::jS n.natAbs).toArray⟩ (0+(c.toNat,1).2)=((45:UInt8).toNat,1) from qm (l:=c::45::jS n.natAbs) (i:=1) (b:=45) rfl (by decide)];have e1:fj ((45:UInt8).toNat:Int)=false:=by decide
 have e2:ey ((45:UInt8).toNat:Int)=false:=by decide
 simp only[e1,e2,Bool.and_false,Bool.or_false,Bool.false_and])
 ·unfold ax
  have J:gE eO=true:=yC (l:=[109,97,105,110]) (by decide) (by decide) fun i b j=>by(
 rcases i with _|_|_|_|i;·cases j;decide
 ·cases j;decide
 ·cases j;decide
 ·cases j;decide
 simp at j)
  have h2:fu eO=false:=by unfold fu;rw[st];decide
  rw[J,h2];rfl
 unfold ax;have:gE dQ=false:=by unfold gE;rw[lR (by simp[dQ,ByteArray.size])];rfl
 rw[this];rfl
def MU (c:aU):Prop:=c.Nl.length≤100∧c.Nk.length≤100∧∀b∈c.Nl,b.Nm.length≤100∧∀l∈b.Nm,l.length≤300
def vU (c:aU)(w:World)(e:Ending)(w':World):Prop:=∃b:Bool,e=.returned (.bool b)∧(b=true→MU c)∧aa All w w'
theorem vU.no {c:aU}{w j:World}(h:aa All w j):vU c w (.returned (.bool false)) j:=⟨false,rfl,fun h=>Bool.noConfusion h,h⟩
theorem Ha (S:Nat→Prop)(cv:Value)(c:aU)(w:World)(hc:mu S w cv c):
 Calls prog 7 #[cv,.int .i64 300] w (vU c w):=by
 obtain⟨ka,kf,rfl,b9,a6,c0⟩:=hc;have a7:=cE.la a6;obtain⟨A1,c1,rfl,m1,m2,m3,_⟩:=b9;obtain⟨A2,c2,rfl,m4,m5,m6,_⟩:=a6;unfold maxLen at*;obtain⟨W0,C⟩:=eQ (w.alloc (.cells #[.slice A1 c.Nk.length c1,.slice A2 c.Nl.length c2,.int .i64 c.main] 30));have J:aa All w W0:=by rw[C];exact kR.alloc _
 have bK:al W0 w.heap.size 30 #[.slice A1 c.Nk.length c1,.slice A2 c.Nl.length c2,.int .i64 c.main]:=by rw[C];exact ac rfl
 obtain⟨k0,k1,k2⟩:=bK.c3;have R:=J2 C J;have HP:=oH (a7 W0 J);clear C J bK a7 c0;go_enter func7,ntmps7;go_upto_region 1 with fail;rw[←R.1];by_cases h0:c.Nl.length≤100;·(
 have a8:decide ((100:Int)<(c.Nl.length:Int))=false:=by simp;omega
 by_cases h1:c.Nk.length≤100;·(
 have b0:decide ((100:Int)<(c.Nk.length:Int))=false:=by simp;omega
 have HS:=J2 h0 h1;clear h0 h1;go_wp2_with fail;go_loopg [5,6] c.Nl.length (fun g s5 s6 wr=>∃(j n:Nat),j≤c.Nl.length∧g=c.Nl.length-j∧s6=.int .i64 j∧s5=.int .i64 n∧n≤300∧wr=W0∧∀(i:Nat) b,i<j→c.Nl[i]? =some b→b.Nm.length≤100∧∀l∈b.Nm,l.length≤300);·exact⟨0,0,by omega,by omega,rfl,rfl,by omega,rfl,fun i l hi=>by omega⟩
 obtain⟨j,n,hj,rfl,rfl,rfl,hn,hw,o⟩:=hrel;have Y:=hw.symm;subst Y;by_cases c3:j<c.Nl.length;·(
 obtain⟨b,hb⟩:=eG c3;obtain⟨gb,go,d8,rfl,c4,b1,b2,bv,rfl,a1,c5,c6⟩:=bh HP.out hb;obtain⟨vA,vc,rfl,v1,v2,v3,_⟩:=id a1;unfold maxLen at v2;have z2:=b2 2 _ rfl;have HB:=J3 o hb a1;clear o hb a1 b2 c5 c6 b1 c4;by_cases g0:b.Nm.length≤100;·(
 have b3:decide ((100:Int)<(b.Nm.length:Int))=false:=by simp;omega
 have c7:=oH g0;go_wp2_with fail;go_loopg [5,7] b.Nm.length (fun g s5 s7 wr=>∃(k I:Nat),k≤b.Nm.length∧g=b.Nm.length-k∧s7=.int .i64 k∧s5=.int .i64 I∧I≤300+k*300∧wr=W0∧∀(i:Nat) l,i<k→b.Nm[i]? =some l→l.length≤300);·exact⟨0,n,by omega,by omega,rfl,rfl,by omega,rfl,fun i l hi=>by omega⟩
 obtain⟨k,I,hk,rfl,rfl,rfl,d9,hw,o⟩:=hrel;have Y:=hw.symm;subst Y;have e0:k*300≤100*300:=Nat.mul_le_mul_right _ (by omega);by_cases b4:k<b.Nm.length;·(
 obtain⟨l,hl⟩:=eG b4;obtain⟨rb,ro,rv,rfl,c8,e1,b5⟩:=de HB.2.2 hl;obtain⟨LA,lc,rfl,l1,l2,l3,_⟩:=id b5;unfold maxLen at l2;have HL:=J2 o hl;clear o hl b5 c8;by_cases g1:l.length≤300;·(
 have b6:decide ((300:Int)<(l.length:Int))=false:=by simp;omega
 have c9:=oH g1;go_wp2_with fail;go_roundg (b.Nm.length-(k+1))
 ·refine⟨k+1,I+l.length,by omega,rfl,by go_num,by go_num,by omega,rfl,fun i z hi hz=>?_⟩
  by_cases e:i=k;·subst e;rw[HL.2] at hz;cases hz;exact c9.out
  exact HL.1 i z (by omega) hz
 omega)
 have b6:decide ((300:Int)<(l.length:Int))=true:=by simp;omega
 clear g1;go_wp2_with fail;go_ret;exact .no R.2)
 obtain rfl:k=b.Nm.length:=by omega
 have HA:=oH o;clear o;by_cases g2:I≤300;·(
 have b7:decide ((300:Int)<(I:Int))=false:=by simp;omega
 have d7:=oH g2;go_wp2_with fail;go_roundg (c.Nl.length-(j+1))
 ·refine⟨j+1,I,by omega,rfl,by go_num,rfl,d7.out,rfl,fun i z hi hz=>?_⟩
  by_cases e:i=j;·subst e;rw[HB.2.1] at hz;cases hz;refine⟨c7.out,fun l hl=>?_⟩;obtain⟨i2,b8⟩:=fB.1 hl;exact HA.out i2 l (lS.1 b8).1 b8
  exact HB.1 i z (by omega) hz
 omega)
 have b7:decide ((300:Int)<(I:Int))=true:=by simp;omega
 clear g2;go_wp2_with fail;go_ret;exact .no R.2)
 have b3:decide ((100:Int)<(b.Nm.length:Int))=true:=by simp;omega
 clear g0;go_wp2_with fail;go_ret;exact .no R.2)
 obtain rfl:j=c.Nl.length:=by omega
 have HY:=oH (show MU c from⟨HS.1,HS.2,fun b hb=>by obtain⟨i,hi⟩:=fB.1 hb;exact o i b (lS.1 hi).1 hi⟩);clear o;go_wp2_with fail;go_ret;exact⟨true,rfl,fun _=>HY.out,R.2⟩)
 have b0:decide ((100:Int)<(c.Nk.length:Int))=true:=by simp;omega
 clear h1;go_wp2_with fail;go_ret;exact .no R.2)
 have a8:decide ((100:Int)<(c.Nl.length:Int))=true:=by simp;omega
 clear h0;go_wp2_with fail;go_ret;exact .no R.2
section
section
variable {ll:List (List Int)}
def uB (ll:List (List Int))(s t:Nat)(n:Nat→Int):Prop:=1≤n s∧∀x,x<ll.length→0≤n x∧(n x=0∨(Ew ll s (n x).toNat x∧bm ll x t))
def Bu (ll:List (List Int))(s t r:Nat)(n:Nat→Int):Prop:=∀x m,m≤r+1→Ew ll s m x→bm ll x t→(m:Int)≤n x
def rX (ll:List (List Int))(t:Nat)(n0 n:Nat→Int)(i k:Nat):Prop:=(∀x,n0 x≤n x)∧
 (∀b c,b<i→fd ll b c→bm ll c t→1≤n0 b→n0 b+1≤n c)∧∀row,ll[i]? =some row→∀c:Nat,(c:Int)∈row.take k→bm ll c t→1≤n0 i→n0 i+1≤n c
theorem uB.start {s t:Nat}(h:bm ll s t):uB ll s t (rz (fun _=>0) s 1):=by
 refine⟨by rw[jp];decide,fun x _=>?_⟩;by_cases e:x=s;·subst e;rw[jp];exact⟨by decide,.inr ⟨.one,h⟩⟩
 rw[rK e];exact⟨by decide,.inl rfl⟩
theorem Bu.start {s t:Nat}:Bu ll s t 0 (rz (fun _=>0) s 1):=by
 intro x m hm hw _;have:=hw.pos;obtain rfl:m=1:=by omega
 cases hw with
 |one=>rw[jp];decide
 |step h _=>have:=h.pos;omega
theorem uB.upd {s t i j:Nat}{n:Nat→Int}(h:uB ll s t n)(hi:i<ll.length)(e:fd ll i j)(I:bm ll j t)(Y:0<n i)(J:n j<n i+1):uB ll s t (rz n j (n i+1)):=by
 refine⟨?_,fun x R=>?_⟩
 ·by_cases o:s=j
  ·subst o;rw[jp];omega
  rw[rK o];exact h.1
 by_cases o:x=j
 ·subst o;rw[jp];refine⟨by omega,.inr ⟨?_,I⟩⟩;rcases (h.2 i hi).2 with C|⟨C,_⟩;·omega
  have:=Ew.step C e;rwa [show(n i+1).toNat=(n i).toNat+1 by omega]
 rw[rK o];exact h.2 x R
theorem rX.start {t:Nat}{n:Nat→Int}:rX ll t n n 0 0:=⟨fun x=>Int.le_refl _,fun b c h=>by omega,fun row _ c h=>by simp at h⟩
theorem rX.more {t i k j:Nat}{R n n':Nat→Int}{row:List Int}(h:rX ll t R n i k)(hr:ll[i]? =some row)(hk:row[k]? =some (j:Int))(o:∀x,n x≤n' x)(hj:bm ll j t→1≤R i→R i+1≤n' j):rX ll t R n' i (k+1):=by
 obtain⟨h1,h2,h3⟩:=h;refine⟨fun x=>Int.le_trans (h1 x) (o x),fun b c hb e C Y=>Int.le_trans (h2 b c hb e C Y) (o c),fun a1 I c C J Y=>?_⟩;rw[hr] at I;cases I;rw[dT,hk] at C;rcases dV.1 C with C|C;·exact Int.le_trans (h3 row hr c C J Y) (o c)
 obtain rfl:c=j:=by have:(c:Int)=j:=by simpa using C
                    omega
 exact hj J Y
theorem rX.next {t i k:Nat}{R n:Nat→Int}{row:List Int}(h:rX ll t R n i k)(Y:ll[i]? =some row)(C:row.length≤k∨n i≤0):rX ll t R n (i+1) 0:=by
 obtain⟨h1,h2,h3⟩:=h;refine⟨h1,fun b c hb e I hp=>?_,fun j _ c I=>by simp at I⟩;by_cases J:b=i
 ·subst J;rcases C with C|C
  ·obtain⟨j,o,hm⟩:=e
   rw[Y] at o;cases o;exact h3 row Y c (by rw[oz C];exact hm) I hp
  have:=h1 b;omega
 exact h2 b c (by omega) e I hp
theorem rX.done {s t r:Nat}{j n:Nat→Int}(h:rX ll t j n ll.length 0)(J:uB ll s t j)(R:Bu ll s t r j):Bu ll s t (r+1) n:=by
 intro x m hm hw C;cases hw with
 |one=>have:=J.1;have:=h.1 s;omega
 | @step Y b _ hw e=>
   have h1:=R b Y (by omega) hw (.head e C);have:=hw.pos;have o:b<ll.length:=by(
 obtain⟨row,I,_⟩:=e;rcases Nat.lt_or_ge b ll.length with h|h;·exact h
 rw[kS h] at I;cases I)
   have:=h.2.1 b x o e C (by omega);omega
end
end
theorem aa.low {w j:World}(h:aa (fun b=>b<w.heap.size) w j):aa All w j:=⟨h.os,h.output,h.size,fun b o _=>h.block b o o⟩


section
structure Nc {α:Type}(E:aT α):Prop where
 any:∀ {S T:Nat→Prop} {w w':World} {cs:List Value} {x:α},E S w cs x→E T w' cs x
 one:∀ {S:Nat→Prop} {w:World} {cs:List Value} {x:α},E S w cs x→∀u∈cs,u.oneCell'=true
section
variable {α:Type} {n bw:Nat} {E:aT α}
end
end




end Go.Proofs.YtccbbkopmlnkpaaGreatDoor
