/- Part 2 of the proof of CallsTo (its last part says what is proved). No condition. -/
import Derived.Laws.EntriesVeiled
import Derived.Test.YtceloincoomjeaaGreatDoorK0
namespace Go.Proofs.YtceloincoomjeaaGreatDoor
set_option maxRecDepth 100000
set_option maxHeartbeats 8000000
open Go.RowKit Go.Proofs.Tryz
theorem Dx (n:Nat):∀(row:List Int),(∀k∈row,0≤k∧k<n)→row.Nodup→row.length≤n:=by
 induction n with
 |zero=>intro row h _;cases row with
        |nil=>simp
        |cons x l=>have:=h x (by simp);omega
 |succ n C=>
  intro row h o;by_cases hm:(n:Int)∈row;·have J:=C (row.erase n) (fun k j=>by have I:=(List.Nodup.mem_erase_iff o).1 j;have:=h k I.2;have:k≠n:=I.1;omega) (o.erase _);have:=List.length_erase_of_mem hm;omega
  have:=C row (fun k j=>by have J:=h k j;have:k≠n:=fun e=>hm (e▸j);omega) o;omega
theorem du {row:List Int}{n:Nat}(h:eV n row):row.length≤n:=Dx n row h.1 h.2
theorem pV (S:Nat→Prop)(v:Value)(ll:List (List Int))(w:World)(hv:Rows S w v ll):
 Calls prog 31 #[v] w fun e w'=>e=.returned (.bool (decide (aP ll)))∧aa All w w':=by
 obtain⟨a,cap,rfl,h1,h2,_,h⟩:=hv;unfold maxLen at h2;have H:=oH h;have hl:ll.length≤9223372036854775807:=by omega
 clear h h1 h2;by_cases h0:ll.length<1
 ·have hR:¬aP ll:=fun h=>by have:=h.1;omega
  rw[cI hR];go_enter func31,ntmps31;go_wp2;go_ret;exact⟨rfl,kR⟩
 by_cases h3:256<ll.length
 ·have hR:¬aP ll:=fun h=>by have:=h.2.1;omega
  rw[cI hR];go_enter func31,ntmps31;go_wp2;go_ret;exact⟨rfl,kR⟩
 have d1:decide ((ll.length:Int)<1)=false:=by simp;omega
 have d2:decide ((256:Int)<(ll.length:Int))=false:=by simp;omega
 have h4:ll.length≤256:=by omega
 go_enter func31,ntmps31;go_wp2;go_loopg [3] ll.length (fun g i wr=>∃k:Nat,k≤ll.length∧g=ll.length-k∧i=.int .i64 k∧(∀row∈ll.take k,eV ll.length row)∧aa All w wr);·exact⟨0,by omega,by omega,rfl,by simp,kR⟩
 obtain⟨k,hk,rfl,rfl,R,C⟩:=hrel;by_cases b7:k<ll.length;·(
 obtain⟨b1,o1,c1,rfl,h5,b8,he⟩:=H.out k ll[k] (lG b7);obtain⟨ra,e7,rfl,r1,r2,_,rh⟩:=he;have a1:=C.cell (p:=⟨b1,o1+k,none⟩) trivial b8;have RH:=oH rh;have Y:eV ll.length ll[k]→∀row∈ll.take (k+1),eV ll.length row:=fun h=>xK b7 R h;have a7:¬eV ll.length ll[k]→¬aP ll:=fun h h'=>h (h'.2.2 _ (eL b7));have b9:=oH Y;have a8:=oH a7;unfold maxLen at r2;have hr:ll[k].length≤9223372036854775807:=by omega
 have c4:=oH b8;clear b8 rh R Y a7 r1 r2;generalize ll[k]=row at*;by_cases e1:256<row.length
 ·have hR:¬eV ll.length row:=fun h=>by have:=du h;omega
  have HR:=oH hR;clear hR;go_wp2;go_ret;exact⟨by rw[cI (a8.out HR.out)];rfl,C⟩
 go_wp2;obtain⟨wo,rfl⟩:=eQ wr;clear a1;go_loopg [4] row.length (fun g i wr=>∃m:Nat,m≤row.length∧g=row.length-m∧i=.int .i64 m∧eV ll.length (row.take m)∧aa All w wr);·exact⟨0,by omega,by omega,rfl,⟨by simp,by simp⟩,C⟩
 obtain⟨m,hm,rfl,rfl,I,l⟩:=hrel;have a1:=l.cell (p:=⟨b1,o1+k,none⟩) trivial c4.out;by_cases b0:m<row.length;·(
 obtain⟨b2,o2,c2,rfl,h6,c0,rfl,e2⟩:=RH.out m row[m] (lG b0);have c5:=l.cell (p:=⟨b2,o2+m,none⟩) trivial c0;have c6:=tG b0 I;have c7:eV ll.length row→eV ll.length (row.take (m+1)):=tH;have HF:=J2 c6 c7;have e3:=oH c0;clear c6 c7 c0;obtain⟨y1,y2⟩:=rs e2;generalize row[m]=y at*;have Z:¬((0≤y∧y<(ll.length:Int))∧y∉row.take m)→¬aP ll:=fun h=>a8.out fun hr=>h (HF.1.1 (HF.2 hr));have J:=oH Z;have b4:=oH I;clear Z I;by_cases h7:y<0
 ·go_wp2
  go_ret;exact⟨by rw[cI (J.out (by omega))];rfl,l⟩
 have h8:decide (y<0)=false:=by simp;omega
 by_cases h9:(ll.length:Int)≤y
 ·go_wp2
  go_ret;exact⟨by rw[cI (J.out (by omega))];rfl,l⟩
 have i0:decide ((ll.length:Int)≤y)=false:=by simp;omega
 go_wp2;obtain⟨wp,rfl⟩:=eQ wr;clear a1 c5;go_loopg [5] m (fun g i wr=>∃j:Nat,j≤m∧g=m-j∧i=.int .i64 j∧y∉row.take j∧aa All w wr);·exact⟨0,by omega,by omega,rfl,by simp,l⟩
 obtain⟨j,hj,rfl,rfl,a6,o⟩:=hrel;have a1:=o.cell (p:=⟨b1,o1+k,none⟩) trivial c4.out;have c5:=o.cell (p:=⟨b2,o2+m,none⟩) trivial e3.out;by_cases e8:j<m;·(
 obtain⟨b3,o3,c3,e4,i1,c8,rfl,e9⟩:=RH.out j row[j] (lG (by omega));cases e4;have i2:=o.cell (p:=⟨b2,o2+j,none⟩) trivial c8;have c9:row.take (j+1)=row.take j++[row[j]]:=by rw[cU,lG (by omega)];rfl
 have b5:row[j]∈row.take m:=by rw[List.mem_take_iff_getElem];exact⟨j,by omega,rfl⟩
 have HG:=J3 c9 b5 a6;clear c9 b5 a6 c8;generalize row[j]=z at*;by_cases hz:z=y
 ·have e5:(z==y)=true:=by simpa using hz
  have Hz:=oH hz;clear hz;go_wp2;go_quiet (fail);go_wp2;go_ret;exact⟨by rw[cI (J.out (fun h=>h.2 (Hz.out▸HG.2.1)))];rfl,by repeat(first|assumption|apply aa.drewN|apply aa.drew)⟩
 have e5:(z==y)=false:=by simpa using hz
 have Hz:=oH hz;clear hz;go_wp2;go_quiet (fail);go_wp2;go_roundg (m-(j+1));·exact⟨j+1,by omega,rfl,by go_num,by rw[HG.1];simp[HG.2.2];exact fun e=>Hz.out e.symm,by repeat(first|assumption|apply aa.drewN|apply aa.drew)⟩
 omega)
 have d7:j=m:=by omega
 have b6:eV ll.length (row.take (m+1)):=HF.1.2 ⟨by omega,by rw[←d7];exact a6⟩;have d8:=oH b6;clear b6 a6 d7;go_wp2;go_roundg (row.length-(m+1));·exact⟨m+1,by omega,rfl,by go_num,d8.out,o⟩
 omega)
 have d9:m=row.length:=by omega
 have b4:=oH I;have e6:=oH d9;clear I d9;go_wp2;go_roundg (ll.length-(k+1));·exact⟨k+1,by omega,rfl,by go_num,b9.out (by have:=b4.out;rwa [e6.out,dZ] at this),l⟩
 omega)
 have e0:k=ll.length:=by omega
 have hR:aP ll:=⟨by omega,by omega,by rw[e0,dZ] at R;exact R⟩;have HR:=oH hR;clear hR R e0;go_wp2;go_ret;exact⟨by rw[bL HR.out];rfl,C⟩
theorem zp (S T:Nat→Prop)(va vb:Value)(o lb:List (List Int))(w:World)(ha:Rows S w va o)(hb:Rows T w vb lb):
 Calls prog 12 #[va,vb] w fun e w'=>e=.returned (.bool (decide (o=lb)))∧aa All w w':=by
 obtain⟨a,cap,rfl,h1,h2,_,h⟩:=ha;obtain⟨b,e7,rfl,h3,h4,_,h'⟩:=hb;unfold maxLen at h2 h4;have hl:o.length≤9223372036854775807:=by omega
 have h0:lb.length≤9223372036854775807:=by omega
 have H:=oH h;have H':=oH h';clear h h' h1 h2 h3 h4;by_cases l:o.length=lb.length;·(
 have R:=oH l;have h5:o.length≤lb.length:=by omega
 have e2:(o.length !=lb.length)=false:=by simpa using l
 clear l;go_enter func12,ntmps12;go_wp2;go_loopg [5] o.length (fun g i wr=>∃k:Nat,k≤o.length∧g=o.length-k∧i=.int .i64 k∧o.take k=lb.take k∧aa All w wr);·exact⟨0,by omega,by omega,rfl,by simp,kR⟩
 obtain⟨k,hk,rfl,rfl,a1,C⟩:=hrel;by_cases c0:k<o.length;·(
 have a7:k<lb.length:=by omega
 obtain⟨b1,o1,c1,rfl,h6,b6,ra,e8,rfl,r1,r2,_,rh⟩:=H.out k o[k] (lG c0);obtain⟨b2,o2,c2,rfl,h7,b7,rb,e3,rfl,r3,r4,_,c5⟩:=H'.out k lb[k] (lG a7);have c6:=C.cell (p:=⟨b1,o1+k,none⟩) trivial b6;have c7:=C.cell (p:=⟨b2,o2+k,none⟩) trivial b7;have c8:=qH c0 a7 a1;have a8:o[k]≠lb[k]→o≠lb:=fun h e=>h (by subst e;rfl);have HF:=J2 c8 a8;have RH:=oH rh;have e4:=oH c5;have e5:=oH b6;have e6:=oH b7;unfold maxLen at r2 r4;have hr:o[k].length≤9223372036854775807:=by omega
 have h8:lb[k].length≤9223372036854775807:=by omega
 clear b6 b7 a1 c8 a8 rh c5 r1 r2 r3 r4;generalize o[k]=x at*;generalize lb[k]=y at*;by_cases a6:x.length=y.length;·(
 have b8:=oH a6;have e9:x.length≤y.length:=by omega
 have c9:((x.length:Int) !=(y.length:Int))=false:=by rw[gj];omega
 clear a6;go_wp2;go_quiet (fail);go_wp2;go_loopg [6] x.length (fun g i wr=>∃m:Nat,m≤x.length∧g=x.length-m∧i=.int .i64 m∧x.take m=y.take m∧aa All w wr);·exact⟨0,by omega,by omega,rfl,by simp,by repeat(first|assumption|apply aa.drewN|apply aa.drew)⟩
 clear c6 c7 C;obtain⟨m,hm,rfl,rfl,I,j⟩:=hrel;have c6:=j.cell (p:=⟨b1,o1+k,none⟩) trivial e5.out;have c7:=j.cell (p:=⟨b2,o2+k,none⟩) trivial e6.out;by_cases b0:m<x.length;·(
 have Y:m<y.length:=by omega
 obtain⟨b3,o3,c3,rfl,h9,d7,rfl,i0⟩:=RH.out m x[m] (lG b0);obtain⟨b4,o4,c4,rfl,i1,d8,rfl,i2⟩:=e4.out m y[m] (lG Y);have i4:=j.cell (p:=⟨b3,o3+m,none⟩) trivial d7;have i5:=j.cell (p:=⟨b4,o4+m,none⟩) trivial d8;have b5:=qH b0 Y I;have Z:x[m]≠y[m]→x≠y:=fun h e=>h (by subst e;rfl);have HG:=J2 b5 Z;clear d7 d8 I b5 Z;generalize x[m]=p at*;generalize y[m]=q at*;by_cases J:p=q
 ·have d9:(p !=q)=false:=by simpa using J
  have b9:=oH J;clear J;go_wp2;go_quiet (fail);go_wp2;go_roundg (x.length-(m+1));·exact⟨m+1,by omega,rfl,by go_num,HG.1.2 b9.out,by repeat(first|assumption|apply aa.drewN|apply aa.drew)⟩
  omega
 have d9:(p !=q)=true:=by simpa using J
 have b9:=oH J;clear J;go_wp2;go_quiet (fail);go_wp2;go_ret;exact⟨by rw[cI (HF.2 (HG.2 b9.out))];rfl,by repeat(first|assumption|apply aa.drewN|apply aa.drew)⟩)
 have e0:m=x.length:=by omega
 have HG:=J2 I e0;clear I e0;go_wp2;go_roundg (o.length-(k+1));·exact⟨k+1,by omega,rfl,by go_num,HF.1.2 (by have:=HG.1;rwa [HG.2,dZ,b8.out,dZ] at this),j⟩
 omega)
 have c9:((x.length:Int) !=(y.length:Int))=true:=by rw[bne_iff_ne];omega
 have b8:=oH a6;clear a6;go_wp2;go_quiet (fail);go_wp2;go_ret;exact⟨by rw[cI (HF.2 fun e=>b8.out (by rw[e]))];rfl,by repeat(first|assumption|apply aa.drewN|apply aa.drew)⟩)
 have e1:k=o.length:=by omega
 have HF:=J2 a1 e1;clear a1 e1;go_wp2;go_ret;exact⟨by have:=HF.1;rw[HF.2,dZ,R.out,dZ] at this;simp[this],C⟩)
 have e2:(o.length !=lb.length)=true:=by simpa using l
 have R:=oH l;clear l;go_enter func12,ntmps12;go_wp2;go_ret;exact⟨by rw[cI (fun e=>R.out (by rw[e]))];rfl,kR⟩
theorem yw:(prog.info? 3).map (fun i=>(i.zero,i.size,i.bytes))=some (some (.int .i64 0),1,8):=by kernel_rfl
theorem FR:(prog.info? 50).map (fun i=>(i.zero,i.size,i.bytes))=some (some (.slice none 0 0),1,24):=by kernel_rfl
def aI (l:List Int):List Value:=l.map fun x=>Value.int .i64 x
theorem jr {S:Nat→Prop}{w:World}{base:Nat}{e:TypeId}{v:Value}{n:Nat}{l:List Int}(h:w.ownsRow base e 1 v n (aI l))(o:n=l.length)(C:l.length*8≤140737488355328)
 (I:∀g,v.ownBlock=some g→S g) (hw:∀x∈l,(Lit.int .i64 x).wf=true):aK S w v l:=by
 subst o;refine Sl.of_own h C I (fun i x j=>⟨.int .i64 x,by simp[aI,j],rfl,hw x (mG j)⟩)
theorem Jq {S:Nat→Prop}{w:World}{v:Value}{l:List Int}(h:aK S w v l):∀x∈l,(Lit.int .i64 x).wf=true:=by obtain⟨a,cap,o,C,I,_,h⟩:=h;intro x j;obtain⟨i,hi,rfl⟩:=List.getElem_of_mem j;obtain⟨_,_,_,_,_,_,_,hw⟩:=h i _ (lG hi);exact hw
section
def dH (ll:List (List Int))(a b:Nat):Prop:=∃row,ll[a]? =some row∧(b:Int)∈row
inductive aQ (ll:List (List Int)) (a:Nat):Nat→Prop
 |refl:aQ ll a a
 |step {b c:Nat}:aQ ll a b→dH ll b c→aQ ll a c
theorem aQ.trans {ll:List (List Int)}{a b c:Nat}(h:aQ ll a b)(k:aQ ll b c):aQ ll a c:=by
 induction k with
 |refl=>exact h
 |step _ e j=>exact .step j e
theorem aQ.head {ll:List (List Int)}{a b c:Nat}(e:dH ll a b)(k:aQ ll b c):aQ ll a c:=aQ.trans (.step .refl e) k
theorem mq {ll:List (List Int)}{a:Nat}{p:Nat→Bool}(l:p a=true)(o:∀i,p i=true→∀j,dH ll i j→p j=true):∀k,aQ ll a k→p k=true:=by
 intro k h;induction h with
 |refl=>exact l
 |step _ e C=>exact o _ C _ e
open Classical in
noncomputable def ay (ll:List (List Int))(a k:Nat):Bool:=decide (aQ ll a k)
theorem aY {ll:List (List Int)}{a k:Nat}:ay ll a k=true↔aQ ll a k:=by simp[ay]
theorem nT {ll:List (List Int)}{a:Nat}{p:Nat→Bool}{k:Nat}(h:p k=true↔aQ ll a k):p k=ay ll a k:=by rw[Bool.eq_iff_iff,h,aY]
def nX (p:Nat→Bool)(i:Nat):Nat→Bool:=fun k=>if k=i then true else p k
theorem dF (p:Nat→Bool)(i:Nat):nX p i i=true:=by simp[nX]
theorem je (p:Nat→Bool)(i k:Nat)(h:p k=true):nX p i k=true:=by unfold nX;split<;>first|rfl|exact h
theorem fd {p:Nat→Bool}{i k:Nat}(h:k≠i):nX p i k=p k:=by simp[nX,h]
def ph:Nat→(Nat→Bool)→Nat
 |0,_=>0
 |n+1,p=>ph n p+if p n then 0 else 1
theorem ly {p q:Nat→Bool}:∀n,(∀k,k<n→p k=true→q k=true)→ph n q≤ph n p
 |0,_=>cf _
 |n+1,h=>by(
 have j:=ly n (fun k C=>h k (by omega));have l:=h n (by omega);unfold ph;cases o:p n with
 |true=>rw[l o];simp;exact j
 |false=>cases q n<;>simp<;>omega)
theorem jj {p:Nat→Bool}{i:Nat}:∀n,i<n→p i=false→ph n (nX p i)<ph n p
 |0,h,_=>by omega
 |n+1,h,j=>by(
 unfold ph;by_cases e:i=n
 ·subst e
  have l:=ly (p:=p) (q:=nX p i) i (fun k _ h=>je p i k h);rw[dF,j];simp;omega
 have l:=jj n (by omega) j;rw[fd (fun o=>e o.symm)];omega)
theorem qI (p:Nat→Bool):∀n,ph n p≤n
 |0=>cf _
 |n+1=>by have:=qI p n;unfold ph;split<;>omega
end
theorem Mp:(prog.info? 4).map (fun i=>(i.zero,i.size,i.bytes))=some (some (.bool false),1,1):=by kernel_rfl
theorem iy (n:Nat)(Y:n≤281474976710656)(w:World):(Instr.makeSlice 38 (.int .i64 n) (.int .i64 n)).run prog w=.ok (.slice (some ⟨w.heap.size,0,none⟩) n n) (w.alloc (.cells (az n fun _=>false) 4)):=by
 obtain⟨J,l,o,C,I⟩:=info_parts Mp;rw[run_make (P:=prog) w 38 4 J (.bool false) underlying38 l o .i64 .i64 n n (by omega) (by omega) (by rw[I];omega) (by omega)];have e:madeCells (Value.bool false).cells ((n:Int).toNat*J.size)=az n fun _=>false:=by(
 rw[C,dP,Nat.mul_one];apply Array.ext_getElem?;intro j;by_cases R:j<n;·rw[bj R];simp[madeCells,R,Value.cells,Nat.mod_one]
 rw[jK (by rw[size_madeCells];omega),jK (by rw[im];omega)])
 rw[e,dP]
noncomputable def en (ll:List (List Int))(f:Nat):List Bool:=(List.range ll.length).map (ay ll f)
theorem iT {S:Nat→Prop}{w:World}{g n:Nat}{t:TypeId}{p q:Nat→Bool}(h:al w g t (az n p))(R:S g)(Z:n≤256)(Y:∀k,k<n→p k=q k):gD S w (.slice (some ⟨g,0,none⟩) n n) ((List.range n).map q):=by
 have e:((List.range n).map q).length=n:=by simp
 have:=Sl.of_blk (bw:=1) (E:=xC) (S:=S) (l:=(List.range n).map q) (cap:=n) h R (by omega) (by unfold maxLen;omega) (by omega) (fun i x I=>by
  simp only[cL,oE] at I;obtain⟨j,o,rfl⟩:=I;have hi:i<n:=by(
 rcases Nat.lt_or_ge i n with h|h;·exact h
 rw[jz (by simp;omega)] at o;cases o)
  have C:j=i:=by
   have J:(List.range n)[i]? =some i:=by simp[hi]
   rw[o] at J;exact kJ J
  subst C;exact⟨.bool (p j),bj hi,by rw[Y j hi];rfl⟩)
 rwa [e] at this
theorem gw {ll:List (List Int)}(h:aP ll){k:Nat}(j:k<ll.length):∀x∈ll[k],0≤x∧x<ll.length:=(h.2.2 _ (eL j)).1
theorem kQ {ll:List (List Int)}{k j:Nat}(l:k<ll.length):dH ll k j↔(j:Int)∈ll[k]:=by
 constructor
 ·rintro⟨row,o,hm⟩
  rw[lG l] at o;cases o;exact hm
 intro h;exact⟨_,lG l,h⟩
theorem tB {ll:List (List Int)}(h:aP ll){a b:Nat}(l:a<ll.length)(o:aQ ll a b):b<ll.length:=by
 induction o with
 |refl=>exact l
 |step _ e j=>have:=gw h j _ ((kQ j).1 e);omega
def Mb (ll:List (List Int))(f:Nat)(p0 p:Nat→Bool)(again:Bool)(i:Nat):Prop:=
 p f=true∧(∀k,p k=true→aQ ll f k)∧(∀k,p0 k=true→p k=true)∧(again=true→ph ll.length p<ph ll.length p0)∧
 (again=false→∀a,a<i→p a=true→∀j,dH ll a j→p j=true)
theorem nF (S:Nat→Prop)(v:Value)(ll:List (List Int))(f:Nat)(w:World)(hv:Rows S w v ll)(hR:aP ll)(hf:f<ll.length):
 Calls prog 47 #[v,.int .i64 f,.int .i64 (-1)] w fun e w'=>∃u,e=.returned u∧aa All w w'∧gD (fun b=>w.heap.size≤b) w' u (en ll f):=by
 obtain⟨a,cap,rfl,h1,h2,d8,h⟩:=hv;have H:=oH h;have hl:ll.length≤256:=hR.2.1;have HR:=oH hR;clear h h1 h2 d8 hR;have d9:=fun w=>iy ll.length (by omega) w;have e0:((f:Int)== -1)=false:=by rw[bE];omega
 have Z:(az ll.length fun _=>false)[f]? =some (.bool false):=bj hf;have c6:(az ll.length fun _=>false).setIfInBounds f (.bool true)=az ll.length (nX (fun _=>false) f):=dg (dF _ _) (fun j _ hj=>fd hj);go_enter func47,ntmps47;go_wp2;clear Z c6 d9 e0
 go_loopg [8] (2*ph ll.length (nX (fun _=>false) f)+1) (fun g ag wr=>∃(p:Nat→Bool) (again:Bool),ag=.bool again∧g=2*ph ll.length p+(if again then 1 else 0)∧al wr w.heap.size 4 (az ll.length p)∧aa All w wr∧
  p f=true∧(∀k,p k=true→aQ ll f k)∧(again=false→∀a,a<ll.length→p a=true→∀j,dH ll a j→p j=true))
 case atStart=>
  refine⟨nX (fun _=>false) f,true,rfl,rfl,al.new _ _ _,kR.alloc _,dF _ _,fun k hk=>?_,fun h=>by cases h⟩;by_cases e:k=f;·subst e;exact .refl
  rw[fd e] at hk;cases hk
 obtain⟨p0,again,rfl,rfl,o,l,b4,b5,c3⟩:=hrel;cases again with
 |false=>
  have b8:∀k,k<ll.length→p0 k=ay ll f k:=by(
 intro k hk;apply nT;refine⟨b5 k,fun hr=>?_⟩;have key:∀k,aQ ll f k→p0 k=true:=by
  intro k h;induction h with
  |refl=>exact b4
  |step e1 e ih=>exact c3 rfl _ (tB HR.out hf e1) ih _ e
 exact key k hr)
  have c7:=oH b8;clear b8 c3 b5 b4;go_wp2;go_ret;exact⟨_,rfl,l,iT o (cf _) hl c7.out⟩
 |true=>
  have HP:=J2 b4 b5;clear b4 b5 c3;go_wp2;obtain⟨wo,rfl⟩:=eQ wr;go_loopg [8,9] ll.length (fun g ag i wr=>∃(k:Nat) (p:Nat→Bool) (again:Bool),k≤ll.length∧g=ll.length-k∧i=.int .i64 k∧ag=.bool again∧al wr w.heap.size 4 (az ll.length p)∧aa All w wr∧Mb ll f p0 p again k);·exact⟨0,p0,false,by omega,by omega,rfl,rfl,o,l,HP.1,HP.2,fun _ h=>h,(fun h=>by cases h),fun _ a ha=>by omega⟩
  clear o l;obtain⟨k,p,again,hk,rfl,rfl,rfl,o,l,C⟩:=hrel;have Y:=oH C;clear C;by_cases b0:k<ll.length;·(
 obtain⟨b1,o1,c1,rfl,e7,c4,he⟩:=H.out k ll[k] (lG b0);obtain⟨ra,e5,rfl,r1,r2,_,rh⟩:=he;have c8:=l.cell (p:=⟨b1,o1+k,none⟩) trivial c4;have b9:=gw HR.out b0;have a1:=fun j=>kQ (j:=j) b0;have e2:ll[k].length≤256:=by have:=du (HR.2.2 _ (eL b0));omega
 have HG:=J4 b9 a1 rh c4;clear b9 a1 rh c4 r1 r2;generalize ll[k]=row at*;have J:wr.cell? ⟨w.heap.size,k,none⟩=some (.bool (p k)):=by rw[o.cell,bj b0]
 cases a7:p k with
 |false=>
  rw[a7] at J;have b6:=oH a7;clear a7;go_wp2;go_roundg (ll.length-(k+1))
  ·obtain⟨q1,q2,q3,q4,q5⟩:=Y.out;refine⟨k+1,p,again,by omega,rfl,by go_num,rfl,o,l,q1,q2,q3,q4,fun h a ha b3=>?_⟩;by_cases e:a=k;·subst e;rw[b6.out] at b3;cases b3
   exact q5 h a (by omega) b3
  omega
 |true=>
  rw[a7] at J;have b6:=oH a7;clear a7;go_wp2;obtain⟨wp,rfl⟩:=eQ wr;clear J c8;go_loopg [8,10] row.length (fun g ag i wr=>∃(m:Nat) (q:Nat→Bool) (again:Bool),m≤row.length∧g=row.length-m∧i=.int .i64 m∧ag=.bool again∧al wr w.heap.size 4 (az ll.length q)∧aa All w wr∧Mb ll f p0 q again k∧q k=true∧(again=false→∀(i:Nat) x,i<m→row[i]? =some x→q x.toNat=true));·exact⟨0,p,again,by omega,by omega,rfl,rfl,o,l,Y.out,b6.out,fun _ i x hi=>by omega⟩
  clear o l Y b6;obtain⟨m,q,again,hm,rfl,rfl,rfl,o,l,C,R,I⟩:=hrel;have Y:=J3 C R I;clear C R I;have c8:=l.cell (p:=⟨b1,o1+k,none⟩) trivial HG.2.2.2;by_cases a6:m<row.length;·(
 obtain⟨b2,o2,c2,rfl,e8,c9,rfl,e9⟩:=HG.2.2.1 m row[m] (lG a6);have h0:=l.cell (p:=⟨b2,o2+m,none⟩) trivial c9;obtain⟨x0,x1⟩:=HG.1 row[m] (eL a6);have c0:row[m]∈row:=eL a6;have Z:row[m]? =some row[m]:=lG a6;have HM:=J2 c0 Z;clear c0 Z c9;generalize row[m]=x at*;obtain⟨j,rfl⟩:∃j:Nat,x=j:=⟨x.toNat,by omega⟩;have d7:j<ll.length:=by omega
 have J:wr.cell? ⟨w.heap.size,j,none⟩=some (.bool (q j)):=by rw[o.cell,bj d7]
 have e3:=o.free j;have e6:((j:Int) != -1)=true:=by rw[bne_iff_ne];omega
 cases a8:q j with
 |true=>
  rw[a8] at J;have c5:=oH a8;clear a8;go_wp2;go_roundg (row.length-(m+1));·(
 obtain⟨C,R,I⟩:=Y.out;refine⟨m+1,q,again,by omega,rfl,by go_num,rfl,o,l,C,R,fun h i x hi hx=>?_⟩;by_cases e:i=m
 ·subst e
  rw[HM.2] at hx;cases hx;rw[dP];exact c5.out
 exact I h i x (by omega) hx)
  omega
 |false=>
  rw[a8] at J;have c5:=oH a8;clear a8;go_wp2;go_roundg (row.length-(m+1));·(
 obtain⟨⟨q1,q2,q3,q4,q5⟩,R,I⟩:=Y.out;have a1:dH ll k j:=(HG.2.1 j).2 HM.1;refine⟨m+1,nX q j,true,by omega,rfl,by go_num,rfl,?_,l.setCell (p:=⟨w.heap.size,j,none⟩) (.inr (cf _)) _,⟨je _ _ _ q1,fun a ha=>?_,fun a ha=>je _ _ _ (q3 a ha),fun _=>?_,fun h=>by cases h⟩,je _ _ _ R,fun h=>by cases h⟩
 ·rw[←dg (p:=q) (i:=j) (b:=true) (dF _ _) (fun i _ hi=>fd hi)]
  exact o.set _ _
 ·by_cases e:a=j
  ·subst e;exact .step (q2 k R) a1
  rw[fd e] at ha;exact q2 a ha
 exact Nat.lt_of_lt_of_le (jj _ d7 c5.out) (ly _ fun a _ ha=>q3 a ha))
  omega)
  go_wp2;go_roundg (ll.length-(k+1))
  ·obtain⟨⟨q1,q2,q3,q4,q5⟩,R,I⟩:=Y.out;refine⟨k+1,q,again,by omega,rfl,by go_num,rfl,o,l,q1,q2,q3,q4,fun h a ha b3 j hj=>?_⟩;by_cases e:a=k;·subst e;have e4:=(HG.2.1 j).1 hj;obtain⟨i,hi,hx⟩:=List.getElem_of_mem e4;have:=I h i (j:Int) (by omega) (by rw[lG hi,hx]);rwa [dP] at this
   exact q5 h a (by omega) b3 j hj
  omega)
  cases b7:again with
  |true=>
   rw[b7] at Y;clear b7;go_wp2;go_roundg (2*ph ll.length p+1)
   case measure=>have:=Y.2.2.2.1 rfl;simp;omega
   case rel=>exact⟨p,true,rfl,rfl,o,l,Y.1,Y.2.1,fun h=>by cases h⟩
  |false=>
   rw[b7] at Y;clear b7;go_wp2;go_roundg (2*ph ll.length p)
   case measure=>have:=ly ll.length (fun a _ ha=>Y.2.2.1 a ha);simp;omega
   case rel=>exact⟨p,false,rfl,rfl,o,l,Y.1,Y.2.1,fun h a ha=>Y.2.2.2.2 h a (by omega)⟩
theorem El (x:Value)(w:World):Calls prog 60 #[x] w fun e j=>e=.returned (.tuple #[])∧w=j:=by
 go_enter func60,ntmps60;go_wp2
 go_end0
 exact⟨rfl,rfl⟩
structure LV (ll:List (List Int))(v:Value)(bb bt bv bl g:Nat)(w:World):Prop where
 been:al w bb 38 #[.slice (some ⟨g,0,none⟩) ll.length ll.length]
 tou:al w bt 32 #[v]
 visit:al w bv 111 #[.func (.func 90) #[] #[.pointer (some ⟨bb,0,none⟩),.pointer (some ⟨bt,0,none⟩),.pointer (some ⟨bv,0,none⟩),.pointer (some ⟨bl,0,none⟩)]]
 tell:al w bl 111 #[.func (.func 60) #[] #[]]
 rows:Rows (fun b=>b≠g) w v ll
 ne:bb≠g∧bt≠g∧bv≠g∧bl≠g
theorem LV.keep {ll:List (List Int)}{v:Value}{j l o C g:Nat}{w I:World}(h:LV ll v j l o C g w)(k:aa (fun b=>b≠g) w I):LV ll v j l o C g I:=
 ⟨h.been.kept k h.ne.1,h.tou.kept k h.ne.2.1,h.visit.kept k h.ne.2.2.1,h.tell.kept k h.ne.2.2.2,aq.keep k h.rows,h.ne⟩
def Kv (ll:List (List Int))(p q:Nat→Bool)(i:Nat):Prop:=
 (∀k,p k=true→q k=true)∧q i=true∧(∀k,q k=true→p k=true∨aQ ll i k)∧(∀k,q k=true→p k=false→∀j,dH ll k j→q j=true)
theorem Er (ll:List (List Int))(hR:aP ll)(v:Value)(bb bt bv bl g:Nat)(m:Nat):∀(i:Nat) (p:Nat→Bool) (w:World),ph ll.length p≤m→i<ll.length→p i=false→LV ll v bb bt bv bl g w→al w g 4 (az ll.length p)→
 Calls prog 90 #[.int .i64 i,.pointer (some ⟨bb,0,none⟩),.pointer (some ⟨bt,0,none⟩),.pointer (some ⟨bv,0,none⟩),.pointer (some ⟨bl,0,none⟩)] w fun e w'=>
  e=.returned (.tuple #[])∧∃q,al w' g 4 (az ll.length q)∧aa (fun b=>b≠g) w w'∧Kv ll p q i:=by
 induction m with
 |zero=>intro i p w hm hi hp;have:=jj ll.length hi hp;omega
 |succ m ih=>
  intro i p w hm hi hp env o;have IH:=oH ih;clear ih;have hl:ll.length≤256:=hR.2.1;have b6:=gw hR hi;have a8:=fun j=>kQ (ll:=ll) (j:=j) hi;have c9:ll[i].length≤256:=by have:=du (hR.2.2 _ (eL hi));omega
  have c0:=oH env;obtain⟨a,cap,rfl,_,_,_,h⟩:=env.rows;obtain⟨b1,o1,c1,rfl,d7,c3,ra,e3,rfl,_,_,_,rh⟩:=h i ll[i] (lG hi);have Y:=bj (p:=p) hi;have h1:=env.been.cell 0;have h2:=env.tou.cell 0;have h4:=o.cell i;rw[Y,hp] at h4;have h5:=o.free i;simp only[gc] at h1 h2;have b4:aa (fun b=>b≠g) w (w.setCell ⟨g,i,none⟩ (.bool true)):=(aa.refl _ w).setCell (.inl fun h=>h rfl) _;have b0:al (w.setCell ⟨g,i,none⟩ (.bool true)) g 4 (az ll.length (nX p i)):=by rw[←dg (p:=p) (i:=i) (b:=true) (dF _ _) (fun j _ hj=>fd hj)];exact o.set _ _
  have Z:=c0.out.keep b4;have h6:=Z.tou.cell 0;simp only[gc] at h6;have h7:=b4.cell (p:=⟨b1,o1+i,none⟩) d7 c3;have e5:=jj ll.length hi hp;have HF:=J7 b6 a8 rh hp b4 b0 Z;clear b6 a8 rh hp b4 b0 Z o c3 h Y env;generalize ll[i]=row at*;go_enter func90,ntmps90;go_wp2_with fail;clear h1 h2 h4 h5 h6 h7
  go_loopg [16] row.length (fun gg x wr=>∃(k:Nat) (q:Nat→Bool),k≤row.length∧gg=row.length-k∧x=.int .i64 k∧al wr g 4 (az ll.length q)∧aa (fun b=>b≠g) w wr∧
   (∀k,nX p i k=true→q k=true)∧(∀k,q k=true→p k=true∨aQ ll i k)∧(∀k,q k=true→nX p i k=false→∀j,dH ll k j→q j=true)∧(∀(j:Nat) x,j<k→row[j]? =some x→q x.toNat=true))
  case atStart=>(
 refine⟨0,nX p i,by omega,by omega,rfl,HF.2.2.2.2.2.1,HF.2.2.2.2.1,fun _ h=>h,fun k hk=>?_,fun k h1 h2=>(by rw[h1] at h2;cases h2),fun j x hj=>by omega⟩;by_cases e:k=i;·subst e;exact .inr .refl
 rw[fd e] at hk;exact .inl hk)
  obtain⟨k,q,hk,rfl,rfl,o,R,C,I,J,l⟩:=hrel;have HQ:=J4 C I J l;clear C I J l;have env:=c0.out.keep R;by_cases b5:k<row.length;·(
 obtain⟨b2,o2,c2,rfl,d8,c4,rfl,e6⟩:=HF.2.2.1 k row[k] (lG b5);have d9:=R.cell (p:=⟨b2,o2+k,none⟩) d8 c4;obtain⟨x0,x1⟩:=HF.1 row[k] (eL b5);have b7:row[k]∈row:=eL b5;have Y:row[k]? =some row[k]:=lG b5;have HM:=J2 b7 Y;clear b7 Y c4;generalize row[k]=x at*;obtain⟨j,rfl⟩:∃j:Nat,x=j:=⟨x.toNat,by omega⟩;have c5:j<ll.length:=by omega
 have a6:wr.cell? ⟨g,j,none⟩=some (.bool (q j)):=by rw[o.cell,bj c5]
 have h1:=env.been.cell 0;have h3:=env.visit.cell 0;simp only[gc] at h1 h3;cases a7:q j with
 |true=>
  rw[a7] at a6;have c6:=oH a7;clear a7;go_wp2;go_roundg (row.length-(k+1));·(
 obtain⟨C,I,J,l⟩:=HQ.out;refine⟨k+1,q,by omega,rfl,by go_num,o,R,C,I,J,fun a x ha hx=>?_⟩;by_cases e:a=k
 ·subst e
  rw[HM.2] at hx;cases hx;rw[dP];exact c6.out
 exact l a x (by omega) hx)
  omega
 |false=>
  rw[a7] at a6;have e4:=ly ll.length (fun a _ ha=>HQ.1 a ha);have b3:=IH.out j q wr (by omega) c5 a7 env o;have b8:=oH b3;have c6:=oH a7;clear a7 b3;go_wp2_with fail;refine b8.out.mono ?_;rintro e w' ⟨rfl,c7⟩;have e0:=oH c7;clear c7 a6 d9 h1 h3;go_wp2_with fail;go_roundg (row.length-(k+1));·(
 obtain⟨C,I,J,l⟩:=HQ.out;obtain⟨q',b9,e1,a1,a2,a3,a4⟩:=e0.out;have a8:dH ll i j:=(HF.2.1 j).2 HM.1;refine⟨k+1,q',by omega,rfl,by go_num,b9,R.trans e1,fun a ha=>a1 a (C a ha),fun a ha=>?_,fun a ha hn b hb=>?_,fun a x ha hx=>?_⟩
 ·rcases a3 a ha with h|h
  ·exact I a h
  exact .inr (aQ.head a8 h)
 ·cases c8:q a with
  |true=>exact a1 b (J a c8 hn b hb)
  |false=>exact a4 a ha c8 b hb
 by_cases e:a=k
 ·subst e
  rw[HM.2] at hx;cases hx;rw[dP];exact a2
 exact a1 _ (l a x (by omega) hx))
  omega)
  have h4:=env.tell.cell 0;simp only[gc] at h4;go_wp2_with (go_at_call 60;refine(El _ _).mono ?_;rintro e w' ⟨rfl,rfl⟩)
  go_end0
  obtain⟨C,I,J,l⟩:=HQ.out;refine⟨rfl,q,o,R,fun a ha=>C a (je _ _ _ ha),C i (dF _ _),I,fun a ha hn b hb=>?_⟩;by_cases e:a=i;·subst e;have e2:=(HF.2.1 b).1 hb;obtain⟨c,hc,hx⟩:=List.getElem_of_mem e2;have:=l c (b:Int) (by omega) (by rw[lG hc,hx]);rwa [dP] at this
  exact J a ha (by rw[fd e];exact hn) b hb
theorem kV {S:Nat→Prop}{w:World}{v:Value}{l:List Int}(h:aK S w v l):aK (fun b=>b<w.heap.size) w v l:=by obtain⟨a,cap,o,C,I,J,h⟩:=h;refine⟨a,cap,o,C,I,J,fun i x R=>?_⟩;obtain⟨b,off,c,e,Y,j,he⟩:=h i x R;exact⟨b,off,c,e,jy w _ j,j,he⟩
theorem jh {S:Nat→Prop}{w:World}{v:Value}{ll:List (List Int)}(h:Rows S w v ll):Rows (fun b=>b<w.heap.size) w v ll:=by obtain⟨a,cap,l,o,C,I,h⟩:=h;refine⟨a,cap,l,o,C,I,fun i x J=>?_⟩;obtain⟨b,off,c,e,R,j,he⟩:=h i x J;exact⟨b,off,c,e,jy w _ j,j,kV he⟩
def Cp (v:Value)(n:Nat)(w:World):World:=
 (((((w.alloc (.cells #[v] 32)).alloc (.cells #[.func (.func 60) #[] #[]] 111)).alloc (.cells (az n fun _=>false) 4)).alloc (.cells #[.slice (some ⟨w.heap.size+1+1,0,none⟩) n n] 38)).alloc
   (.cells #[.func (.func 90) #[] #[.pointer (some ⟨w.heap.size+1+1+1,0,none⟩),.pointer (some ⟨w.heap.size,0,none⟩),.pointer (some ⟨w.heap.size+1+1+1+1,0,none⟩),.pointer (some ⟨w.heap.size+1,0,none⟩)]] 111))
theorem ac {w:World}{t:TypeId}{cs:Array Value}{g:Nat}(h:g=w.heap.size):al (w.alloc (.cells cs t)) g t cs:=by subst h;exact al.new _ _ _
theorem Eu {v:Value}{ll:List (List Int)}{w:World}(h:Rows (fun b=>b<w.heap.size) w v ll):
 LV ll v (w.heap.size+1+1+1) w.heap.size (w.heap.size+1+1+1+1) (w.heap.size+1) (w.heap.size+1+1) (Cp v ll.length w)∧al (Cp v ll.length w) (w.heap.size+1+1) 4 (az ll.length fun _=>false)∧aa All w (Cp v ll.length w):=by
 have j:aa All w (Cp v ll.length w):=((((kR.alloc _).alloc _).alloc _).alloc _).alloc _;refine⟨⟨?_,?_,?_,?_,?_,by omega⟩,?_,j⟩;·exact(ac (by simp)).alloc _
 ·exact((((al.new _ _ _).alloc _).alloc _).alloc _).alloc _
 ·exact ac (by simp)
 ·exact(((ac (by simp)).alloc _).alloc _).alloc _
 ·exact aq.wide (fun b l=>by omega) (aq.keep j.all h)
 exact((ac (by simp)).alloc _).alloc _
theorem Ia (S:Nat→Prop)(v:Value)(ll:List (List Int))(f:Nat)(w:World)(hv:Rows S w v ll)(hR:aP ll)(hf:f<ll.length):
 Calls prog 59 #[v,.int .i64 f,.func (.func 60) #[] #[]] w fun e w'=>∃u,e=.returned u∧aa All w w'∧gD (fun b=>w.heap.size≤b) w' u (en ll f):=by
 have I:=jh hv;have o:=Eu I;obtain⟨a,cap,rfl,h1,h2,a6,h⟩:=hv;have hl:ll.length≤256:=hR.2.1;have J:=Er ll hR _ _ _ _ _ _ _ f (fun _=>false) _ (cf _) hf rfl o.1 o.2.1;have HR:=J3 hR o J;clear h h1 h2 a6 hR I o J;have a7:=fun w=>iy ll.length (by omega) w;go_enter func59,ntmps59;go_wp2_with fail;refine HR.2.2.mono ?_;rintro e w' ⟨rfl,q,C,l,R⟩;have HA:=J3 C l R;have Y:=HR.2.1.1.keep l;have hc:=Y.been.cell 0;simp only[gc] at hc;clear C l R Y;go_wp2_with fail;go_ret;obtain⟨C,l,a1,a2,a3,a4⟩:=HA.out;have hk:aa (fun b=>b<w.heap.size) w w':=HR.2.1.2.2.all.trans (l.mono fun b hb=>by omega);refine⟨_,rfl,⟨hk.os,hk.output,hk.size,fun k Z _=>hk.block k Z Z⟩,iT C (by omega) hl fun k Z=>?_⟩;apply nT;refine⟨fun h=>by rcases a3 k h with h|h;cases h;exact h,fun hr=>?_⟩;exact mq a2 (fun i hi j hj=>a4 i hi rfl j hj) k hr
theorem ri (S:Nat→Prop)(v:Value)(ll:List (List Int))(f:Nat)(w:World)(J:Rows S w v ll)(I:aP ll)(hf:f<ll.length):
 Calls prog 37 #[v,.int .i64 f] w fun e w'=>∃u,e=.returned u∧aa All w w'∧gD (fun b=>w.heap.size≤b) w' u (en ll f):=by
 have j:=gt S v ll w J;rw[bL I] at j;have l:=fun R (hk:aa All w R)=>Ia S v ll f R (aq.keep hk.all J) I hf;obtain⟨a,cap,rfl,h1,h2,Y,h⟩:=J;have hl:ll.length≤256:=I.2.1;have d1:decide ((f:Int)<0)=false:=by simp
 have d2:decide ((ll.length:Int)≤f)=false:=by simp;omega
 have HR:=J2 j l;clear h h1 h2 Y I j l;go_enter func37,ntmps37;go_wp2_with fail;refine HR.1.mono ?_;rintro e R ⟨rfl,o⟩;have Z:=oH o;clear o;go_wp2_with fail;refine(HR.2 _ Z.out).mono ?_;rintro e w2 ⟨u,rfl,C,hb⟩;have HB:=J2 C hb;clear C hb;go_wp2_with fail;go_ret;exact⟨u,rfl,Z.out.trans HB.1,cR.wide (fun b hb=>by have:=Z.out.size;omega) HB.2⟩
def od (a b r:Int):Bool:=decide (a≤r)&&decide (r≤b)
def ey (r:Int):Bool:=od 97 122 r||od 65 90 r||r==95||od 945 969 r||(od 913 937 r&&r !=930)
def fY (r:Int):Bool:=od 48 57 r
theorem xO (a b r:Int)(g:Nat)(w:World)(j:al w g 21 #[.int .i32 r]):
 Calls prog 191 #[.int .i32 a,.int .i32 b,.pointer (some ⟨g,0,none⟩)] w fun e l=>e=.returned (.bool (od a b r))∧w=l:=by
 have o:=j.cell 0;simp only[gc] at o;unfold od;by_cases C:a≤r
 ·go_enter func191,ntmps191
  go_wp2;go_ret;exact⟨by simp[C],rfl⟩
 go_enter func191,ntmps191;go_wp2;go_ret;exact⟨by simp;omega,rfl⟩
theorem CM (r:Int)(w:World):Calls prog 172 #[.int .i32 r] w fun e j=>e=.returned (.bool (fY r))∧w=j:=by
 unfold fY od;by_cases l:48≤r
 ·go_enter func172,ntmps172
  go_wp2;go_ret;exact⟨by simp[l],rfl⟩
 go_enter func172,ntmps172;go_wp2;go_ret;exact⟨by simp;omega,rfl⟩
theorem Ay (r:Int)(w:World):Calls prog 171 #[.int .i32 r] w fun e j=>e=.returned (.bool (ey r))∧aa All w j:=by
 have hk:∀o o2,aa All w ((w.alloc o).alloc o2):=fun o o2=>((aa.refl _ w).alloc o).alloc o2;have Y:∀o,aa All w (w.alloc o):=fun o=>(aa.refl _ w).alloc o;have Z:=fun a b w1 (hb:al w1 w.heap.size 21 #[.int .i32 r])=>xO a b r w.heap.size w1 hb;have J:=oH Z;have R:=J2 hk Y;clear Z hk Y;unfold ey;cases h:od 97 122 r with
 |true=>have H1:=oH h;clear h;go_enter func171,ntmps171;go_wp2_with (go_at_call 191;refine(J.out _ _ _ (al.new _ _ _)).mono ?_;rintro e j ⟨rfl,rfl⟩;first|rw[H1.out]|rw[l.out]|rw[C.out]|rw[I.out]);go_ret;exact⟨rfl,R.2 _⟩
 |false=>
  have H1:=oH h;clear h;cases h:od 65 90 r with
  |true=>have l:=oH h;clear h;go_enter func171,ntmps171;go_wp2_with (go_at_call 191;refine(J.out _ _ _ (al.new _ _ _)).mono ?_;rintro e j ⟨rfl,rfl⟩;first|rw[H1.out]|rw[l.out]|rw[C.out]|rw[I.out]);go_ret;exact⟨rfl,R.2 _⟩
  |false=>
   have l:=oH h;clear h;cases h:r==95 with
   |true=>go_enter func171,ntmps171;go_wp2_with (go_at_call 191;refine(J.out _ _ _ (al.new _ _ _)).mono ?_;rintro e j ⟨rfl,rfl⟩;first|rw[H1.out]|rw[l.out]|rw[C.out]|rw[I.out]);go_ret;exact⟨rfl,R.2 _⟩
   |false=>
    cases h:od 945 969 r with
    |true=>have C:=oH h;clear h;go_enter func171,ntmps171;go_wp2_with (go_at_call 191;refine(J.out _ _ _ (al.new _ _ _)).mono ?_;rintro e j ⟨rfl,rfl⟩;first|rw[H1.out]|rw[l.out]|rw[C.out]|rw[I.out]);go_ret;exact⟨rfl,R.2 _⟩
    |false=>
     have C:=oH h;clear h;cases h':od 913 937 r with
     |false=>have I:=oH h';clear h';go_enter func171,ntmps171;go_wp2_with (go_at_call 191;refine(J.out _ _ _ (al.new _ _ _)).mono ?_;rintro e j ⟨rfl,rfl⟩;first|rw[H1.out]|rw[l.out]|rw[C.out]|rw[I.out]);go_ret;exact⟨rfl,R.2 _⟩
     |true=>
      have I:=oH h';clear h';cases h2:r !=930 with
      |true=>go_enter func171,ntmps171;go_wp2_with (go_at_call 191;refine(J.out _ _ _ (al.new _ _ _)).mono ?_;rintro e j ⟨rfl,rfl⟩;first|rw[H1.out]|rw[l.out]|rw[C.out]|rw[I.out]);go_ret;exact⟨rfl,R.2 _⟩
      |false=>go_enter func171,ntmps171;go_wp2_with (go_at_call 191;refine(J.out _ _ _ (al.new _ _ _)).mono ?_;rintro e j ⟨rfl,rfl⟩;first|rw[H1.out]|rw[l.out]|rw[C.out]|rw[I.out]);go_ret;exact⟨rfl,R.2 _⟩
end Go.Proofs.YtceloincoomjeaaGreatDoor
