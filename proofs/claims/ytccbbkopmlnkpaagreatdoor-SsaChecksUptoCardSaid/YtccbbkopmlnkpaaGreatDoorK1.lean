/- Part 2 of the proof (its last part says what is proved). No condition. -/
import Derived.Laws.EntriesVeiled
import Derived.Test.YtccbbkopmlnkpaaGreatDoorK0
namespace Go.Proofs.YtccbbkopmlnkpaaGreatDoor
set_option maxRecDepth 100000
set_option maxHeartbeats 8000000
open Go.RowKit Go.Proofs.Tryz
theorem Dx (n:Nat):∀(row:List Int),(∀k∈row,0≤k∧k<n)→row.Nodup→row.length≤n:=by
 induction n with
 |zero=>intro row h _;cases row with
        |nil=>simp
        |cons x l=>have:=h x (by simp);omega
 |succ n C=>
  intro row h o;by_cases hm:(n:Int)∈row;·have J:=C (row.erase n) (fun k j=>by have I:=(List.Nodup.mem_erase_iff o).1 j;have:=h k I.2;have:k≠n:=I.1;omega) (o.erase _);have:=List.length_erase_of_mem hm;omega
  have:=C row (fun k j=>by have J:=h k j;have:k≠n:=fun e=>hm (e▸j);omega) o;omega
theorem du {row:List Int}{n:Nat}(h:eV n row):row.length≤n:=Dx n row h.1 h.2
theorem pV (S:Nat→Prop)(v:Value)(ll:List (List Int))(w:World)(hv:Rows S w v ll):
 Calls prog 97 #[v] w fun e w'=>e=.returned (.bool (decide (aP ll)))∧aa All w w':=by
 obtain⟨a,cap,rfl,h1,h2,_,h⟩:=hv;unfold maxLen at h2;have H:=oH h;have hl:ll.length≤9223372036854775807:=by omega
 clear h h1 h2;by_cases h4:ll.length<1
 ·have hR:¬aP ll:=fun h=>by have:=h.1;omega
  rw[cI hR];go_enter func97,ntmps97;go_wp2;go_ret;exact⟨rfl,kR⟩
 by_cases h5:256<ll.length
 ·have hR:¬aP ll:=fun h=>by have:=h.2.1;omega
  rw[cI hR];go_enter func97,ntmps97;go_wp2;go_ret;exact⟨rfl,kR⟩
 have d1:decide ((ll.length:Int)<1)=false:=by simp;omega
 have d2:decide ((256:Int)<(ll.length:Int))=false:=by simp;omega
 have h6:ll.length≤256:=by omega
 go_enter func97,ntmps97;go_wp2;go_loopg [3] ll.length (fun g i wr=>∃k:Nat,k≤ll.length∧g=ll.length-k∧i=.int .i64 k∧(∀row∈ll.take k,eV ll.length row)∧aa All w wr);·exact⟨0,by omega,by omega,rfl,by simp,kR⟩
 obtain⟨k,hk,rfl,rfl,Y,I⟩:=hrel;by_cases b9:k<ll.length;·(
 obtain⟨b1,o1,c1,rfl,h7,c0,he⟩:=H.out k ll[k] (lG b9);obtain⟨ra,e9,rfl,r1,r2,_,rh⟩:=he;have a7:=I.cell (p:=⟨b1,o1+k,none⟩) trivial c0;have RH:=oH rh;have a1:eV ll.length ll[k]→∀row∈ll.take (k+1),eV ll.length row:=fun h=>xK b9 Y h;have b0:¬eV ll.length ll[k]→¬aP ll:=fun h h'=>h (h'.2.2 _ (eL b9));have c4:=oH a1;have b4:=oH b0;unfold maxLen at r2;have hr:ll[k].length≤9223372036854775807:=by omega
 have c6:=oH c0;clear c0 rh Y a1 b0 r1 r2;generalize ll[k]=row at*;by_cases e3:256<row.length
 ·have hR:¬eV ll.length row:=fun h=>by have:=du h;omega
  have HR:=oH hR;clear hR;go_wp2;go_ret;exact⟨by rw[cI (b4.out HR.out)];rfl,I⟩
 go_wp2;obtain⟨wo,rfl⟩:=eQ wr;clear a7;go_loopg [4] row.length (fun g i wr=>∃m:Nat,m≤row.length∧g=row.length-m∧i=.int .i64 m∧eV ll.length (row.take m)∧aa All w wr);·exact⟨0,by omega,by omega,rfl,⟨by simp,by simp⟩,I⟩
 obtain⟨m,hm,rfl,rfl,J,o⟩:=hrel;have a7:=o.cell (p:=⟨b1,o1+k,none⟩) trivial c6.out;by_cases b5:m<row.length;·(
 obtain⟨b2,o2,c2,rfl,h8,c5,rfl,e4⟩:=RH.out m row[m] (lG b5);have c7:=o.cell (p:=⟨b2,o2+m,none⟩) trivial c5;have c8:=tG b5 J;have c9:eV ll.length row→eV ll.length (row.take (m+1)):=tH;have HF:=J2 c8 c9;have e5:=oH c5;clear c8 c9 c5;obtain⟨y1,y2⟩:=rs e4;generalize row[m]=y at*;have a6:¬((0≤y∧y<(ll.length:Int))∧y∉row.take m)→¬aP ll:=fun h=>b4.out fun hr=>h (HF.1.1 (HF.2 hr));have R:=oH a6;have b6:=oH J;clear a6 J;by_cases h9:y<0
 ·go_wp2
  go_ret;exact⟨by rw[cI (R.out (by omega))];rfl,o⟩
 have i1:decide (y<0)=false:=by simp;omega
 by_cases i6:(ll.length:Int)≤y
 ·go_wp2
  go_ret;exact⟨by rw[cI (R.out (by omega))];rfl,o⟩
 have i7:decide ((ll.length:Int)≤y)=false:=by simp;omega
 go_wp2;obtain⟨wp,rfl⟩:=eQ wr;clear a7 c7;go_loopg [5] m (fun g i wr=>∃j:Nat,j≤m∧g=m-j∧i=.int .i64 j∧y∉row.take j∧aa All w wr);·exact⟨0,by omega,by omega,rfl,by simp,o⟩
 obtain⟨j,hj,rfl,rfl,a8,C⟩:=hrel;have a7:=C.cell (p:=⟨b1,o1+k,none⟩) trivial c6.out;have c7:=C.cell (p:=⟨b2,o2+m,none⟩) trivial e5.out;by_cases h0:j<m;·(
 obtain⟨b3,o3,c3,e6,j0,d7,rfl,h3⟩:=RH.out j row[j] (lG (by omega));cases e6;have j1:=C.cell (p:=⟨b2,o2+j,none⟩) trivial d7;have d8:row.take (j+1)=row.take j++[row[j]]:=by rw[cU,lG (by omega)];rfl
 have b7:row[j]∈row.take m:=by rw[List.mem_take_iff_getElem];exact⟨j,by omega,rfl⟩
 have HG:=J3 d8 b7 a8;clear d8 b7 a8 d7;generalize row[j]=z at*;by_cases hz:z=y
 ·have e7:(z==y)=true:=by simpa using hz
  have Hz:=oH hz;clear hz;go_wp2;go_quiet (fail);go_wp2;go_ret;exact⟨by rw[cI (R.out (fun h=>h.2 (Hz.out▸HG.2.1)))];rfl,by repeat(first|assumption|apply aa.drewN|apply aa.drew)⟩
 have e7:(z==y)=false:=by simpa using hz
 have Hz:=oH hz;clear hz;go_wp2;go_quiet (fail);go_wp2;go_roundg (m-(j+1));·exact⟨j+1,by omega,rfl,by go_num,by rw[HG.1];simp[HG.2.2];exact fun e=>Hz.out e.symm,by repeat(first|assumption|apply aa.drewN|apply aa.drew)⟩
 omega)
 have d9:j=m:=by omega
 have b8:eV ll.length (row.take (m+1)):=HF.1.2 ⟨by omega,by rw[←d9];exact a8⟩;have e0:=oH b8;clear b8 a8 d9;go_wp2;go_roundg (row.length-(m+1));·exact⟨m+1,by omega,rfl,by go_num,e0.out,C⟩
 omega)
 have e1:m=row.length:=by omega
 have b6:=oH J;have e8:=oH e1;clear J e1;go_wp2;go_roundg (ll.length-(k+1));·exact⟨k+1,by omega,rfl,by go_num,c4.out (by have:=b6.out;rwa [e8.out,dZ] at this),o⟩
 omega)
 have e2:k=ll.length:=by omega
 have hR:aP ll:=⟨by omega,by omega,by rw[e2,dZ] at Y;exact Y⟩;have HR:=oH hR;clear hR Y e2;go_wp2;go_ret;exact⟨by rw[bL HR.out];rfl,I⟩
theorem yw:(prog.info? 3).map (fun i=>(i.zero,i.size,i.bytes))=some (some (.int .i64 0),1,8):=by kernel_rfl
theorem Lc:(prog.info? 38).map (fun i=>(i.zero,i.size,i.bytes))=some (some (.slice none 0 0),1,24):=by kernel_rfl
def aI (l:List Int):List Value:=l.map fun x=>Value.int .i64 x
theorem jr {S:Nat→Prop}{w:World}{base:Nat}{e:TypeId}{v:Value}{n:Nat}{l:List Int}(h:w.ownsRow base e 1 v n (aI l))(o:n=l.length)(C:l.length*8≤140737488355328)
 (I:∀g,v.ownBlock=some g→S g) (hw:∀x∈l,(Lit.int .i64 x).wf=true):aK S w v l:=by
 subst o;refine Sl.of_own h C I (fun i x j=>⟨.int .i64 x,by simp[aI,j],rfl,hw x (mG j)⟩)
theorem Jq {S:Nat→Prop}{w:World}{v:Value}{l:List Int}(h:aK S w v l):∀x∈l,(Lit.int .i64 x).wf=true:=by obtain⟨a,cap,o,C,I,_,h⟩:=h;intro x j;obtain⟨i,hi,rfl⟩:=List.getElem_of_mem j;obtain⟨_,_,_,_,_,_,_,hw⟩:=h i _ (lG hi);exact hw
section
def dH (ll:List (List Int))(a b:Nat):Prop:=∃row,ll[a]? =some row∧(b:Int)∈row
inductive aQ (ll:List (List Int)) (a:Nat):Nat→Prop
 |refl:aQ ll a a
 |step {b c:Nat}:aQ ll a b→dH ll b c→aQ ll a c
theorem aQ.trans {ll:List (List Int)}{a b c:Nat}(h:aQ ll a b)(k:aQ ll b c):aQ ll a c:=by
 induction k with
 |refl=>exact h
 |step _ e j=>exact .step j e
theorem aQ.head {ll:List (List Int)}{a b c:Nat}(e:dH ll a b)(k:aQ ll b c):aQ ll a c:=aQ.trans (.step .refl e) k
theorem mq {ll:List (List Int)}{a:Nat}{p:Nat→Bool}(o:p a=true)(C:∀i,p i=true→∀j,dH ll i j→p j=true):∀k,aQ ll a k→p k=true:=by
 intro k h;induction h with
 |refl=>exact o
 |step _ e I=>exact C _ I _ e
open Classical in
noncomputable def ay (ll:List (List Int))(a k:Nat):Bool:=decide (aQ ll a k)
theorem aY {ll:List (List Int)}{a k:Nat}:ay ll a k=true↔aQ ll a k:=by simp[ay]
theorem nT {ll:List (List Int)}{a:Nat}{p:Nat→Bool}{k:Nat}(h:p k=true↔aQ ll a k):p k=ay ll a k:=by rw[Bool.eq_iff_iff,h,aY]
def nX (p:Nat→Bool)(i:Nat):Nat→Bool:=fun k=>if k=i then true else p k
theorem dF (p:Nat→Bool)(i:Nat):nX p i i=true:=by simp[nX]
theorem je (p:Nat→Bool)(i k:Nat)(h:p k=true):nX p i k=true:=by unfold nX;split<;>first|rfl|exact h
theorem fd {p:Nat→Bool}{i k:Nat}(h:k≠i):nX p i k=p k:=by simp[nX,h]
def unv:Nat→(Nat→Bool)→Nat
 |0,_=>0
 |n+1,p=>unv n p+if p n then 0 else 1
theorem ly {p q:Nat→Bool}:∀n,(∀k,k<n→p k=true→q k=true)→unv n q≤unv n p
 |0,_=>cf _
 |n+1,h=>by(
 have j:=ly n (fun k I=>h k (by omega));have o:=h n (by omega);unfold unv;cases C:p n with
 |true=>rw[o C];simp;exact j
 |false=>cases q n<;>simp<;>omega)
theorem jj {p:Nat→Bool}{i:Nat}:∀n,i<n→p i=false→unv n (nX p i)<unv n p
 |0,h,_=>by omega
 |n+1,h,j=>by(
 unfold unv;by_cases e:i=n
 ·subst e
  have o:=ly (p:=p) (q:=nX p i) i (fun k _ h=>je p i k h);rw[dF,j];simp;omega
 have o:=jj n (by omega) j;rw[fd (fun C=>e C.symm)];omega)
end
theorem Mp:(prog.info? 4).map (fun i=>(i.zero,i.size,i.bytes))=some (some (.bool false),1,1):=by kernel_rfl
theorem iy (n:Nat)(Y:n≤281474976710656)(w:World):(Instr.makeSlice 49 (.int .i64 n) (.int .i64 n)).run prog w=.ok (.slice (some ⟨w.heap.size,0,none⟩) n n) (w.alloc (.cells (az n fun _=>false) 4)):=by
 obtain⟨i4,o,C,I,J⟩:=info_parts Mp;rw[run_make (P:=prog) w 49 4 i4 (.bool false) underlying49 o C .i64 .i64 n n (by omega) (by omega) (by rw[J];omega) (by omega)];have e:madeCells (Value.bool false).cells ((n:Int).toNat*i4.size)=az n fun _=>false:=by(
 rw[I,dP,Nat.mul_one];apply Array.ext_getElem?;intro j;by_cases R:j<n;·rw[bj R];simp[madeCells,R,Value.cells,Nat.mod_one]
 rw[jK (by rw[size_madeCells];omega),jK (by rw[im];omega)])
 rw[e,dP]
noncomputable def en (ll:List (List Int))(f:Nat):List Bool:=(List.range ll.length).map (ay ll f)
theorem iT {S:Nat→Prop}{w:World}{g n:Nat}{t:TypeId}{p q:Nat→Bool}(h:al w g t (az n p))(R:S g)(hn:n≤256)(Y:∀k,k<n→p k=q k):gD S w (.slice (some ⟨g,0,none⟩) n n) ((List.range n).map q):=by
 have e:((List.range n).map q).length=n:=by simp
 have:=Sl.of_blk (bw:=1) (E:=xC) (S:=S) (l:=(List.range n).map q) (cap:=n) h R (by omega) (by unfold maxLen;omega) (by omega) (fun i x I=>by
  simp only[cL,oE] at I;obtain⟨j,o,rfl⟩:=I;have hi:i<n:=by(
 rcases Nat.lt_or_ge i n with h|h;·exact h
 rw[jz (by simp;omega)] at o;cases o)
  have C:j=i:=by
   have J:(List.range n)[i]? =some i:=by simp[hi]
   rw[o] at J;exact kJ J
  subst C;exact⟨.bool (p j),bj hi,by rw[Y j hi];rfl⟩)
 rwa [e] at this
theorem gw {ll:List (List Int)}(h:aP ll){k:Nat}(j:k<ll.length):∀x∈ll[k],0≤x∧x<ll.length:=(h.2.2 _ (eL j)).1
theorem kQ {ll:List (List Int)}{k j:Nat}(o:k<ll.length):dH ll k j↔(j:Int)∈ll[k]:=by
 constructor
 ·rintro⟨row,C,hm⟩
  rw[lG o] at C;cases C;exact hm
 intro h;exact⟨_,lG o,h⟩
theorem tB {ll:List (List Int)}(h:aP ll){a b:Nat}(o:a<ll.length)(C:aQ ll a b):b<ll.length:=by
 induction C with
 |refl=>exact o
 |step _ e j=>have:=gw h j _ ((kQ j).1 e);omega
def Mb (ll:List (List Int))(f:Nat)(o p:Nat→Bool)(again:Bool)(i:Nat):Prop:=
 p f=true∧(∀k,p k=true→aQ ll f k)∧(∀k,o k=true→p k=true)∧(again=true→unv ll.length p<unv ll.length o)∧
 (again=false→∀a,a<i→p a=true→∀j,dH ll a j→p j=true)
theorem nF (S:Nat→Prop)(v:Value)(ll:List (List Int))(f:Nat)(w:World)(hv:Rows S w v ll)(hR:aP ll)(hf:f<ll.length):
 Calls prog 98 #[v,.int .i64 f,.int .i64 (-1)] w fun e w'=>∃u,e=.returned u∧aa All w w'∧gD (fun b=>w.heap.size≤b) w' u (en ll f):=by
 obtain⟨a,cap,rfl,h1,h2,d9,h⟩:=hv;have H:=oH h;have hl:ll.length≤256:=hR.2.1;have HR:=oH hR;clear h h1 h2 d9 hR;have e0:=fun w=>iy ll.length (by omega) w;have e1:((f:Int)== -1)=false:=by rw[bE];omega
 have a1:(az ll.length fun _=>false)[f]? =some (.bool false):=bj hf;have c7:(az ll.length fun _=>false).setIfInBounds f (.bool true)=az ll.length (nX (fun _=>false) f):=dg (dF _ _) (fun j _ hj=>fd hj);go_enter func98,ntmps98;go_wp2;clear a1 c7 e0 e1
 go_loopg [8] (2*unv ll.length (nX (fun _=>false) f)+1) (fun g ag wr=>∃(p:Nat→Bool) (again:Bool),ag=.bool again∧g=2*unv ll.length p+(if again then 1 else 0)∧al wr w.heap.size 4 (az ll.length p)∧aa All w wr∧
  p f=true∧(∀k,p k=true→aQ ll f k)∧(again=false→∀a,a<ll.length→p a=true→∀j,dH ll a j→p j=true))
 case atStart=>
  refine⟨nX (fun _=>false) f,true,rfl,rfl,al.new _ _ _,kR.alloc _,dF _ _,fun k hk=>?_,fun h=>by cases h⟩;by_cases e:k=f;·subst e;exact .refl
  rw[fd e] at hk;cases hk
 obtain⟨p0,again,rfl,rfl,C,o,b5,b6,c4⟩:=hrel;cases again with
 |false=>
  have b9:∀k,k<ll.length→p0 k=ay ll f k:=by(
 intro k hk;apply nT;refine⟨b6 k,fun hr=>?_⟩;have key:∀k,aQ ll f k→p0 k=true:=by
  intro k h;induction h with
  |refl=>exact b5
  |step e2 e ih=>exact c4 rfl _ (tB HR.out hf e2) ih _ e
 exact key k hr)
  have c8:=oH b9;clear b9 c4 b6 b5;go_wp2;go_ret;exact⟨_,rfl,o,iT C (cf _) hl c8.out⟩
 |true=>
  have HP:=J2 b5 b6;clear b5 b6 c4;go_wp2;obtain⟨wo,rfl⟩:=eQ wr;go_loopg [8,9] ll.length (fun g ag i wr=>∃(k:Nat) (p:Nat→Bool) (again:Bool),k≤ll.length∧g=ll.length-k∧i=.int .i64 k∧ag=.bool again∧al wr w.heap.size 4 (az ll.length p)∧aa All w wr∧Mb ll f p0 p again k);·exact⟨0,p0,false,by omega,by omega,rfl,rfl,C,o,HP.1,HP.2,fun _ h=>h,(fun h=>by cases h),fun _ a ha=>by omega⟩
  clear C o;obtain⟨k,p,again,hk,rfl,rfl,rfl,C,o,I⟩:=hrel;have HQ:=oH I;clear I;by_cases b3:k<ll.length;·(
 obtain⟨b1,o1,c1,rfl,e8,c5,he⟩:=H.out k ll[k] (lG b3);obtain⟨ra,e6,rfl,r1,r2,_,rh⟩:=he;have c9:=o.cell (p:=⟨b1,o1+k,none⟩) trivial c5;have c0:=gw HR.out b3;have a6:=fun j=>kQ (j:=j) b3;have e3:ll[k].length≤256:=by have:=du (HR.2.2 _ (eL b3));omega
 have HG:=J4 c0 a6 rh c5;clear c0 a6 rh c5 r1 r2;generalize ll[k]=row at*;have R:wr.cell? ⟨w.heap.size,k,none⟩=some (.bool (p k)):=by rw[C.cell,bj b3]
 cases a8:p k with
 |false=>
  rw[a8] at R;have b7:=oH a8;clear a8;go_wp2;go_roundg (ll.length-(k+1))
  ·obtain⟨q1,q2,q3,q4,q5⟩:=HQ.out;refine⟨k+1,p,again,by omega,rfl,by go_num,rfl,C,o,q1,q2,q3,q4,fun h a ha b4=>?_⟩;by_cases e:a=k;·subst e;rw[b7.out] at b4;cases b4
   exact q5 h a (by omega) b4
  omega
 |true=>
  rw[a8] at R;have b7:=oH a8;clear a8;go_wp2;obtain⟨wp,rfl⟩:=eQ wr;clear R c9;go_loopg [8,10] row.length (fun g ag i wr=>∃(m:Nat) (q:Nat→Bool) (again:Bool),m≤row.length∧g=row.length-m∧i=.int .i64 m∧ag=.bool again∧al wr w.heap.size 4 (az ll.length q)∧aa All w wr∧Mb ll f p0 q again k∧q k=true∧(again=false→∀(i:Nat) x,i<m→row[i]? =some x→q x.toNat=true));·exact⟨0,p,again,by omega,by omega,rfl,rfl,C,o,HQ.out,b7.out,fun _ i x hi=>by omega⟩
  clear C o HQ b7;obtain⟨m,q,again,hm,rfl,rfl,rfl,C,o,I,Y,J⟩:=hrel;have HQ:=J3 I Y J;clear I Y J;have c9:=o.cell (p:=⟨b1,o1+k,none⟩) trivial HG.2.2.2;by_cases a7:m<row.length;·(
 obtain⟨b2,o2,c2,rfl,e9,d7,rfl,h0⟩:=HG.2.2.1 m row[m] (lG a7);have h3:=o.cell (p:=⟨b2,o2+m,none⟩) trivial d7;obtain⟨x0,x1⟩:=HG.1 row[m] (eL a7);have c3:row[m]∈row:=eL a7;have a1:row[m]? =some row[m]:=lG a7;have HM:=J2 c3 a1;clear c3 a1 d7;generalize row[m]=x at*;obtain⟨j,rfl⟩:∃j:Nat,x=j:=⟨x.toNat,by omega⟩;have d8:j<ll.length:=by omega
 have R:wr.cell? ⟨w.heap.size,j,none⟩=some (.bool (q j)):=by rw[C.cell,bj d8]
 have e4:=C.free j;have e7:((j:Int) != -1)=true:=by rw[bne_iff_ne];omega
 cases b0:q j with
 |true=>
  rw[b0] at R;have c6:=oH b0;clear b0;go_wp2;go_roundg (row.length-(m+1));·(
 obtain⟨I,Y,J⟩:=HQ.out;refine⟨m+1,q,again,by omega,rfl,by go_num,rfl,C,o,I,Y,fun h i x hi hx=>?_⟩;by_cases e:i=m
 ·subst e
  rw[HM.2] at hx;cases hx;rw[dP];exact c6.out
 exact J h i x (by omega) hx)
  omega
 |false=>
  rw[b0] at R;have c6:=oH b0;clear b0;go_wp2;go_roundg (row.length-(m+1));·(
 obtain⟨⟨q1,q2,q3,q4,q5⟩,Y,J⟩:=HQ.out;have a6:dH ll k j:=(HG.2.1 j).2 HM.1;refine⟨m+1,nX q j,true,by omega,rfl,by go_num,rfl,?_,o.setCell (p:=⟨w.heap.size,j,none⟩) (.inr (cf _)) _,⟨je _ _ _ q1,fun a ha=>?_,fun a ha=>je _ _ _ (q3 a ha),fun _=>?_,fun h=>by cases h⟩,je _ _ _ Y,fun h=>by cases h⟩
 ·rw[←dg (p:=q) (i:=j) (b:=true) (dF _ _) (fun i _ hi=>fd hi)]
  exact C.set _ _
 ·by_cases e:a=j
  ·subst e;exact .step (q2 k Y) a6
  rw[fd e] at ha;exact q2 a ha
 exact Nat.lt_of_lt_of_le (jj _ d8 c6.out) (ly _ fun a _ ha=>q3 a ha))
  omega)
  go_wp2;go_roundg (ll.length-(k+1))
  ·obtain⟨⟨q1,q2,q3,q4,q5⟩,Y,J⟩:=HQ.out;refine⟨k+1,q,again,by omega,rfl,by go_num,rfl,C,o,q1,q2,q3,q4,fun h a ha b4 j hj=>?_⟩;by_cases e:a=k;·subst e;have e5:=(HG.2.1 j).1 hj;obtain⟨i,hi,hx⟩:=List.getElem_of_mem e5;have:=J h i (j:Int) (by omega) (by rw[lG hi,hx]);rwa [dP] at this
   exact q5 h a (by omega) b4 j hj
  omega)
  cases b8:again with
  |true=>
   rw[b8] at HQ;clear b8;go_wp2;go_roundg (2*unv ll.length p+1)
   case measure=>have:=HQ.2.2.2.1 rfl;simp;omega
   case rel=>exact⟨p,true,rfl,rfl,C,o,HQ.1,HQ.2.1,fun h=>by cases h⟩
  |false=>
   rw[b8] at HQ;clear b8;go_wp2;go_roundg (2*unv ll.length p)
   case measure=>have:=ly ll.length (fun a _ ha=>HQ.2.2.1 a ha);simp;omega
   case rel=>exact⟨p,false,rfl,rfl,C,o,HQ.1,HQ.2.1,fun h a ha=>HQ.2.2.2.2 h a (by omega)⟩
theorem El (x:Value)(w:World):Calls prog 49 #[x] w fun e j=>e=.returned (.tuple #[])∧w=j:=by
 go_enter func49,ntmps49;go_wp2
 go_end0
 exact⟨rfl,rfl⟩
structure LV (ll:List (List Int))(v:Value)(bb bt bv bl g:Nat)(w:World):Prop where
 been:al w bb 49 #[.slice (some ⟨g,0,none⟩) ll.length ll.length]
 tou:al w bt 54 #[v]
 visit:al w bv 72 #[.func (.func 50) #[] #[.pointer (some ⟨bb,0,none⟩),.pointer (some ⟨bt,0,none⟩),.pointer (some ⟨bv,0,none⟩),.pointer (some ⟨bl,0,none⟩)]]
 tell:al w bl 72 #[.func (.func 49) #[] #[]]
 rows:Rows (fun b=>b≠g) w v ll
 ne:bb≠g∧bt≠g∧bv≠g∧bl≠g
theorem LV.keep {ll:List (List Int)}{v:Value}{j o C I g:Nat}{w J:World}(h:LV ll v j o C I g w)(k:aa (fun b=>b≠g) w J):LV ll v j o C I g J:=
 ⟨h.been.kept k h.ne.1,h.tou.kept k h.ne.2.1,h.visit.kept k h.ne.2.2.1,h.tell.kept k h.ne.2.2.2,aq.keep k h.rows,h.ne⟩
def Kv (ll:List (List Int))(p q:Nat→Bool)(i:Nat):Prop:=
 (∀k,p k=true→q k=true)∧q i=true∧(∀k,q k=true→p k=true∨aQ ll i k)∧(∀k,q k=true→p k=false→∀j,dH ll k j→q j=true)
theorem Er (ll:List (List Int))(hR:aP ll)(v:Value)(bb bt bv bl g:Nat)(m:Nat):∀(i:Nat) (p:Nat→Bool) (w:World),unv ll.length p≤m→i<ll.length→p i=false→LV ll v bb bt bv bl g w→al w g 4 (az ll.length p)→
 Calls prog 50 #[.int .i64 i,.pointer (some ⟨bb,0,none⟩),.pointer (some ⟨bt,0,none⟩),.pointer (some ⟨bv,0,none⟩),.pointer (some ⟨bl,0,none⟩)] w fun e w'=>
  e=.returned (.tuple #[])∧∃q,al w' g 4 (az ll.length q)∧aa (fun b=>b≠g) w w'∧Kv ll p q i:=by
 induction m with
 |zero=>intro i p w hm hi hp;have:=jj ll.length hi hp;omega
 |succ m ih=>
  intro i p w hm hi hp env C;have IH:=oH ih;clear ih;have hl:ll.length≤256:=hR.2.1;have b8:=gw hR hi;have b3:=fun j=>kQ (ll:=ll) (j:=j) hi;have d8:ll[i].length≤256:=by have:=du (hR.2.2 _ (eL hi));omega
  have c4:=oH env;obtain⟨a,cap,rfl,_,_,_,h⟩:=env.rows;obtain⟨b1,o1,c1,rfl,d9,c5,ra,e5,rfl,_,_,_,rh⟩:=h i ll[i] (lG hi);have a6:=bj (p:=p) hi;have h1:=env.been.cl 0;have h2:=env.tou.cl 0;have h4:=C.cell i;rw[a6,hp] at h4;have h5:=C.free i;have b6:aa (fun b=>b≠g) w (w.setCell ⟨g,i,none⟩ (.bool true)):=(aa.refl _ w).setCell (.inl fun h=>h rfl) _;have b4:al (w.setCell ⟨g,i,none⟩ (.bool true)) g 4 (az ll.length (nX p i)):=by rw[←dg (p:=p) (i:=i) (b:=true) (dF _ _) (fun j _ hj=>fd hj)];exact C.set _ _
  have a7:=c4.out.keep b6;have h6:=a7.tou.cl 0;have h7:=b6.cell (p:=⟨b1,o1+i,none⟩) d9 c5;have e7:=jj ll.length hi hp;have HF:=J7 b8 b3 rh hp b6 b4 a7;clear b8 b3 rh hp b6 b4 a7 C c5 h a6 env;generalize ll[i]=row at*;go_enter func50,ntmps50;go_wp2_with fail;clear h1 h2 h4 h5 h6 h7
  go_loopg [16] row.length (fun gg x wr=>∃(k:Nat) (q:Nat→Bool),k≤row.length∧gg=row.length-k∧x=.int .i64 k∧al wr g 4 (az ll.length q)∧aa (fun b=>b≠g) w wr∧
   (∀k,nX p i k=true→q k=true)∧(∀k,q k=true→p k=true∨aQ ll i k)∧(∀k,q k=true→nX p i k=false→∀j,dH ll k j→q j=true)∧(∀(j:Nat) x,j<k→row[j]? =some x→q x.toNat=true))
  case atStart=>(
 refine⟨0,nX p i,by omega,by omega,rfl,HF.2.2.2.2.2.1,HF.2.2.2.2.1,fun _ h=>h,fun k hk=>?_,fun k h1 h2=>(by rw[h1] at h2;cases h2),fun j x hj=>by omega⟩;by_cases e:k=i;·subst e;exact .inr .refl
 rw[fd e] at hk;exact .inl hk)
  obtain⟨k,q,hk,rfl,rfl,C,Y,I,J,R,o⟩:=hrel;have HQ:=J4 I J R o;clear I J R o;have env:=c4.out.keep Y;by_cases b7:k<row.length;·(
 obtain⟨b2,o2,c2,rfl,e0,c6,rfl,e8⟩:=HF.2.2.1 k row[k] (lG b7);have e1:=Y.cell (p:=⟨b2,o2+k,none⟩) e0 c6;obtain⟨x0,x1⟩:=HF.1 row[k] (eL b7);have b9:row[k]∈row:=eL b7;have a6:row[k]? =some row[k]:=lG b7;have HM:=J2 b9 a6;clear b9 a6 c6;generalize row[k]=x at*;obtain⟨j,rfl⟩:∃j:Nat,x=j:=⟨x.toNat,by omega⟩;have c7:j<ll.length:=by omega
 have a8:wr.cell? ⟨g,j,none⟩=some (.bool (q j)):=by rw[C.cell,bj c7]
 have h1:=env.been.cl 0;have h3:=env.visit.cl 0;cases b0:q j with
 |true=>
  rw[b0] at a8;have c8:=oH b0;clear b0;go_wp2;go_roundg (row.length-(k+1));·(
 obtain⟨I,J,R,o⟩:=HQ.out;refine⟨k+1,q,by omega,rfl,by go_num,C,Y,I,J,R,fun a x ha hx=>?_⟩;by_cases e:a=k
 ·subst e
  rw[HM.2] at hx;cases hx;rw[dP];exact c8.out
 exact o a x (by omega) hx)
  omega
 |false=>
  rw[b0] at a8;have e6:=ly ll.length (fun a _ ha=>HQ.1 a ha);have b5:=IH.out j q wr (by omega) c7 b0 env C;have c0:=oH b5;have c8:=oH b0;clear b0 b5;go_wp2_with fail;refine c0.out.mono ?_;rintro e w' ⟨rfl,c9⟩;have e2:=oH c9;clear c9 a8 e1 h1 h3;go_wp2_with fail;go_roundg (row.length-(k+1));·(
 obtain⟨I,J,R,o⟩:=HQ.out;obtain⟨q',c3,e3,a1,a2,a3,a4⟩:=e2.out;have b3:dH ll i j:=(HF.2.1 j).2 HM.1;refine⟨k+1,q',by omega,rfl,by go_num,c3,Y.trans e3,fun a ha=>a1 a (I a ha),fun a ha=>?_,fun a ha hn b hb=>?_,fun a x ha hx=>?_⟩
 ·rcases a3 a ha with h|h
  ·exact J a h
  exact .inr (aQ.head b3 h)
 ·cases d7:q a with
  |true=>exact a1 b (R a d7 hn b hb)
  |false=>exact a4 a ha d7 b hb
 by_cases e:a=k
 ·subst e
  rw[HM.2] at hx;cases hx;rw[dP];exact a2
 exact a1 _ (o a x (by omega) hx))
  omega)
  have h4:=env.tell.cl 0;go_wp2_with (go_at_call 49;refine(El _ _).mono ?_;rintro e w' ⟨rfl,rfl⟩)
  go_end0
  obtain⟨I,J,R,o⟩:=HQ.out;refine⟨rfl,q,C,Y,fun a ha=>I a (je _ _ _ ha),I i (dF _ _),J,fun a ha hn b hb=>?_⟩;by_cases e:a=i;·subst e;have e4:=(HF.2.1 b).1 hb;obtain⟨c,hc,hx⟩:=List.getElem_of_mem e4;have:=o c (b:Int) (by omega) (by rw[lG hc,hx]);rwa [dP] at this
  exact R a ha (by rw[fd e];exact hn) b hb
theorem kV {S:Nat→Prop}{w:World}{v:Value}{l:List Int}(h:aK S w v l):aK (fun b=>b<w.heap.size) w v l:=by obtain⟨a,cap,o,C,I,J,h⟩:=h;refine⟨a,cap,o,C,I,J,fun i x R=>?_⟩;obtain⟨b,off,c,e,Y,j,he⟩:=h i x R;exact⟨b,off,c,e,jy w _ j,j,he⟩
theorem jh {S:Nat→Prop}{w:World}{v:Value}{ll:List (List Int)}(h:Rows S w v ll):Rows (fun b=>b<w.heap.size) w v ll:=by obtain⟨a,cap,o,C,I,J,h⟩:=h;refine⟨a,cap,o,C,I,J,fun i x R=>?_⟩;obtain⟨b,off,c,e,Y,j,he⟩:=h i x R;exact⟨b,off,c,e,jy w _ j,j,kV he⟩
def Cp (v:Value)(n:Nat)(w:World):World:=
 (((((w.alloc (.cells #[v] 54)).alloc (.cells #[.func (.func 49) #[] #[]] 72)).alloc (.cells (az n fun _=>false) 4)).alloc (.cells #[.slice (some ⟨w.heap.size+1+1,0,none⟩) n n] 49)).alloc
   (.cells #[.func (.func 50) #[] #[.pointer (some ⟨w.heap.size+1+1+1,0,none⟩),.pointer (some ⟨w.heap.size,0,none⟩),.pointer (some ⟨w.heap.size+1+1+1+1,0,none⟩),.pointer (some ⟨w.heap.size+1,0,none⟩)]] 72))
theorem ac {w:World}{t:TypeId}{cs:Array Value}{g:Nat}(h:g=w.heap.size):al (w.alloc (.cells cs t)) g t cs:=by subst h;exact al.new _ _ _
theorem Eu {v:Value}{ll:List (List Int)}{w:World}(h:Rows (fun b=>b<w.heap.size) w v ll):
 LV ll v (w.heap.size+1+1+1) w.heap.size (w.heap.size+1+1+1+1) (w.heap.size+1) (w.heap.size+1+1) (Cp v ll.length w)∧al (Cp v ll.length w) (w.heap.size+1+1) 4 (az ll.length fun _=>false)∧aa All w (Cp v ll.length w):=by
 have j:aa All w (Cp v ll.length w):=((((kR.alloc _).alloc _).alloc _).alloc _).alloc _;refine⟨⟨?_,?_,?_,?_,?_,by omega⟩,?_,j⟩;·exact(ac (by simp)).alloc _
 ·exact((((al.new _ _ _).alloc _).alloc _).alloc _).alloc _
 ·exact ac (by simp)
 ·exact(((ac (by simp)).alloc _).alloc _).alloc _
 ·exact aq.wide (fun b o=>by omega) (aq.keep j.all h)
 exact((ac (by simp)).alloc _).alloc _
theorem Ia (S:Nat→Prop)(v:Value)(ll:List (List Int))(f:Nat)(w:World)(hv:Rows S w v ll)(hR:aP ll)(hf:f<ll.length):
 Calls prog 28 #[v,.int .i64 f,.func (.func 49) #[] #[]] w fun e w'=>∃u,e=.returned u∧aa All w w'∧gD (fun b=>w.heap.size≤b) w' u (en ll f):=by
 have J:=jh hv;have C:=Eu J;obtain⟨a,cap,rfl,h1,h2,a8,h⟩:=hv;have hl:ll.length≤256:=hR.2.1;have R:=Er ll hR _ _ _ _ _ _ _ f (fun _=>false) _ (cf _) hf rfl C.1 C.2.1;have HR:=J3 hR C R;clear h h1 h2 a8 hR J C R;have b0:=fun w=>iy ll.length (by omega) w;go_enter func28,ntmps28;go_wp2_with fail;refine HR.2.2.mono ?_;rintro e w' ⟨rfl,q,I,o,Y⟩;have HA:=J3 I o Y;have a6:=HR.2.1.1.keep o;have hc:=a6.been.cl 0;clear I o Y a6;go_wp2_with fail;go_ret;obtain⟨I,o,a1,a2,a3,a4⟩:=HA.out;have hk:aa (fun b=>b<w.heap.size) w w':=HR.2.1.2.2.all.trans (o.mono fun b hb=>by omega);refine⟨_,rfl,⟨hk.os,hk.output,hk.size,fun k a7 _=>hk.block k a7 a7⟩,iT I (by omega) hl fun k a7=>?_⟩;apply nT;refine⟨fun h=>by rcases a3 k h with h|h;cases h;exact h,fun hr=>?_⟩;exact mq a2 (fun i hi j hj=>a4 i hi rfl j hj) k hr
theorem ri (S:Nat→Prop)(v:Value)(ll:List (List Int))(f:Nat)(w:World)(R:Rows S w v ll)(J:aP ll)(hf:f<ll.length):
 Calls prog 27 #[v,.int .i64 f] w fun e w'=>∃u,e=.returned u∧aa All w w'∧gD (fun b=>w.heap.size≤b) w' u (en ll f):=by
 have j:=gt S v ll w R;rw[bL J] at j;have o:=fun Y (hk:aa All w Y)=>Ia S v ll f Y (aq.keep hk.all R) J hf;obtain⟨a,cap,rfl,h1,h2,a1,h⟩:=R;have hl:ll.length≤256:=J.2.1;have d1:decide ((f:Int)<0)=false:=by simp
 have d2:decide ((ll.length:Int)≤f)=false:=by simp;omega
 have HR:=J2 j o;clear h h1 h2 a1 J j o;go_enter func27,ntmps27;go_wp2_with fail;refine HR.1.mono ?_;rintro e Y ⟨rfl,C⟩;have HK:=oH C;clear C;go_wp2_with fail;refine(HR.2 _ HK.out).mono ?_;rintro e w2 ⟨u,rfl,I,hb⟩;have HB:=J2 I hb;clear I hb;go_wp2_with fail;go_ret;exact⟨u,rfl,HK.out.trans HB.1,cR.wide (fun b hb=>by have:=HK.out.size;omega) HB.2⟩
def od (a b r:Int):Bool:=decide (a≤r)&&decide (r≤b)
def ey (r:Int):Bool:=od 97 122 r||od 65 90 r||r==95||od 945 969 r||(od 913 937 r&&r !=930)
def fY (r:Int):Bool:=od 48 57 r
theorem xO (a b r:Int)(g:Nat)(w:World)(j:al w g 21 #[.int .i32 r]):
 Calls prog 240 #[.int .i32 a,.int .i32 b,.pointer (some ⟨g,0,none⟩)] w fun e o=>e=.returned (.bool (od a b r))∧w=o:=by
 have I:=j.cl 0;unfold od;by_cases C:a≤r
 ·go_enter func240,ntmps240
  go_wp2;go_ret;exact⟨by simp[C],rfl⟩
 go_enter func240,ntmps240;go_wp2;go_ret;exact⟨by simp;omega,rfl⟩
theorem CM (r:Int)(w:World):Calls prog 183 #[.int .i32 r] w fun e j=>e=.returned (.bool (fY r))∧w=j:=by
 unfold fY od;by_cases o:48≤r
 ·go_enter func183,ntmps183
  go_wp2;go_ret;exact⟨by simp[o],rfl⟩
 go_enter func183,ntmps183;go_wp2;go_ret;exact⟨by simp;omega,rfl⟩
theorem Ay (r:Int)(w:World):Calls prog 211 #[.int .i32 r] w fun e j=>e=.returned (.bool (ey r))∧aa All w j:=by
 have hk:∀o o2,aa All w ((w.alloc o).alloc o2):=fun o o2=>((aa.refl _ w).alloc o).alloc o2;have a1:∀o,aa All w (w.alloc o):=fun o=>(aa.refl _ w).alloc o;have a6:=fun a b w1 (hb:al w1 w.heap.size 21 #[.int .i32 r])=>xO a b r w.heap.size w1 hb;have R:=oH a6;have Y:=J2 hk a1;clear a6 hk a1;unfold ey;cases h:od 97 122 r with
 |true=>have H1:=oH h;clear h;go_enter func211,ntmps211;go_wp2_with (go_at_call 240;refine(R.out _ _ _ (al.new _ _ _)).mono ?_;rintro e j ⟨rfl,rfl⟩;first|rw[H1.out]|rw[C.out]|rw[I.out]|rw[J.out]);go_ret;exact⟨rfl,Y.2 _⟩
 |false=>
  have H1:=oH h;clear h;cases h:od 65 90 r with
  |true=>have C:=oH h;clear h;go_enter func211,ntmps211;go_wp2_with (go_at_call 240;refine(R.out _ _ _ (al.new _ _ _)).mono ?_;rintro e j ⟨rfl,rfl⟩;first|rw[H1.out]|rw[C.out]|rw[I.out]|rw[J.out]);go_ret;exact⟨rfl,Y.2 _⟩
  |false=>
   have C:=oH h;clear h;cases h:r==95 with
   |true=>go_enter func211,ntmps211;go_wp2_with (go_at_call 240;refine(R.out _ _ _ (al.new _ _ _)).mono ?_;rintro e j ⟨rfl,rfl⟩;first|rw[H1.out]|rw[C.out]|rw[I.out]|rw[J.out]);go_ret;exact⟨rfl,Y.2 _⟩
   |false=>
    cases h:od 945 969 r with
    |true=>have I:=oH h;clear h;go_enter func211,ntmps211;go_wp2_with (go_at_call 240;refine(R.out _ _ _ (al.new _ _ _)).mono ?_;rintro e j ⟨rfl,rfl⟩;first|rw[H1.out]|rw[C.out]|rw[I.out]|rw[J.out]);go_ret;exact⟨rfl,Y.2 _⟩
    |false=>
     have I:=oH h;clear h;cases h':od 913 937 r with
     |false=>have J:=oH h';clear h';go_enter func211,ntmps211;go_wp2_with (go_at_call 240;refine(R.out _ _ _ (al.new _ _ _)).mono ?_;rintro e j ⟨rfl,rfl⟩;first|rw[H1.out]|rw[C.out]|rw[I.out]|rw[J.out]);go_ret;exact⟨rfl,Y.2 _⟩
     |true=>
      have J:=oH h';clear h';cases h2:r !=930 with
      |true=>go_enter func211,ntmps211;go_wp2_with (go_at_call 240;refine(R.out _ _ _ (al.new _ _ _)).mono ?_;rintro e j ⟨rfl,rfl⟩;first|rw[H1.out]|rw[C.out]|rw[I.out]|rw[J.out]);go_ret;exact⟨rfl,Y.2 _⟩
      |false=>go_enter func211,ntmps211;go_wp2_with (go_at_call 240;refine(R.out _ _ _ (al.new _ _ _)).mono ?_;rintro e j ⟨rfl,rfl⟩;first|rw[H1.out]|rw[C.out]|rw[I.out]|rw[J.out]);go_ret;exact⟨rfl,Y.2 _⟩
section
def ji (W:World)(B:Nat)(s:ByteArray)(p:Nat):World:= {W with heap:=W.heap.setIfInBounds B (.stringIter s p)}
theorem Bl {W:World}{B:Nat}{s:ByteArray}{p:Nat}(h:B<W.heap.size):(ji W B s p).heap[B]? =some (.stringIter s p):=by simp[ji,h]
theorem xm {S:Nat→Prop}{w W:World}{B:Nat}{s:ByteArray}{p:Nat}(h:aa S w W)(j:¬S B∨w.heap.size≤B):aa S w (ji W B s p):=by
 refine⟨h.os,h.output,by simpa [ji] using h.size,fun k I C=>?_⟩;have o:B≠k:=by rintro rfl;rcases j with j|j;exact j C;omega
 rw[←h.block k I C];simp[ji,Array.getElem?_setIfInBounds_ne o]
section
variable {P:Program}
theorem Jw (W:World)(B:Nat)(s:ByteArray)(pos:Nat)(ty:TypeId)(j:W.heap[B]? =some (.stringIter s pos))(h:pos<s.size):
 (Instr.next (.pointer (some ⟨B,0,none⟩)) true ty).run P W=.ok (.tuple #[.bool true,.int .i64 pos,.int .i32 (Utf8.decode s pos).1]) (ji W B s (pos+(Utf8.decode s pos).2)):=by
 simp only[Instr.next,getObj,setObj,Sem.run_bind,Sem.run,j,Result.andThen,h,if_true,ji];simp[goInt]
theorem Gl (W:World)(B:Nat)(s:ByteArray)(pos:Nat)(ty:TypeId)(j:W.heap[B]? =some (.stringIter s pos))(h:¬pos<s.size):
 (Instr.next (.pointer (some ⟨B,0,none⟩)) true ty).run P W=.ok (.tuple #[.bool false]) W:=by
 simp[Instr.next,getObj,Sem.run,j,h]
end
theorem ks (s:ByteArray)(pos:Nat)(h:pos<s.size):1≤(Utf8.decode s pos).2:=by
 by_cases j:(s[pos]' h).toNat<128;·rw[decode_ascii s pos h j];exact cf _
 exact(decode_high s pos h (by omega)).2
def fH (s:ByteArray):Nat→Nat→Nat→Bool
 |0,_,_=>false
 |f+1,pos,n=>if pos<s.size then
   (ey (Utf8.decode s pos).1||(pos !=0&&fY (Utf8.decode s pos).1))&&decide (n+1≤24)&&fH s f (pos+(Utf8.decode s pos).2) (n+1)
  else decide (0<n)
def dW (s:ByteArray):Bool:=fH s (s.size+1) 0 0
theorem jQ {s:ByteArray}{f pos n:Nat}(h:¬pos<s.size):fH s (f+1) pos n=decide (0<n):=by simp[fH,h]
theorem gK {s:ByteArray}{f pos n:Nat}(h:pos<s.size):fH s (f+1) pos n=((ey (Utf8.decode s pos).1||(pos !=0&&fY (Utf8.decode s pos).1))&&decide (n+1≤24)&&fH s f (pos+(Utf8.decode s pos).2) (n+1)):=by simp[fH,h]
theorem yL (s:ByteArray)(w:World):Calls prog 153 #[.string s] w fun e w'=>e=.returned (.bool (dW s))∧aa All w w':=by
 have hit:(w.iter s 0).heap[w.heap.size]? =some (.stringIter s 0):=World.iter_heap w s 0;have b1:aa All w (w.iter s 0):=(aa.refl _ w).alloc _;have H0:=J2 hit b1;clear hit b1;go_enter func153,ntmps153;go_wp2;go_loopg [3] (s.size+1) (fun g m wr=>∃pos n f:Nat,g=s.size+1-pos∧m=.int .i64 n∧n≤24∧s.size+1≤pos+f∧1≤f∧wr.heap[w.heap.size]? =some (.stringIter s pos)∧aa All w wr∧fH s f pos n=dW s);·exact⟨0,0,s.size+1,by omega,rfl,by omega,by omega,by omega,H0.1,H0.2,rfl⟩
 obtain⟨pos,n,f,rfl,rfl,hn,hf,b7,I,C,j⟩:=hrel;by_cases Y:pos<s.size;·(
 obtain⟨f,rfl⟩:∃f',f=f'+1:=⟨f-1,by omega⟩;rw[gK Y] at j;have b2:=fun ty=>Jw (P:=prog) wr w.heap.size s pos ty I Y;have b5:=ks s pos Y;have hB:w.heap.size<wr.heap.size:=by
  rcases Nat.lt_or_ge w.heap.size wr.heap.size with h|h;·exact h
  rw[jK h] at I;cases I
 have b3:aa All w (ji wr w.heap.size s (pos+(Utf8.decode s pos).2)):=xm C (.inr (cf _));have a7:=Bl (W:=wr) (s:=s) (p:=pos+(Utf8.decode s pos).2) hB;have b4:(ji wr w.heap.size s (pos+(Utf8.decode s pos).2)).heap.size=wr.heap.size:=by simp[ji]
 have HQ:=J3 b3 a7 b4;clear b3 a7 b4 I C;generalize Utf8.decode s pos=rk at*;obtain⟨r,k⟩:=rk;have a8:=fun W=>Ay (r:Int) W;have b0:=fun W=>CM (r:Int) W;simp only at j b2 b5 HQ⊢;generalize ey (r:Int)=L at*;generalize fY (r:Int)=D at*;have R:=J2 a8 b0;clear a8 b0;cases L with
 |true=>
  by_cases a1:n+1≤24
  ·have hd:decide ((24:Int)<(n:Int)+1)=false:=by simp;omega
   have J:=oH (show fH s f (pos+k) (n+1)=dW s by rw[←j,bL a1];simp);clear j;go_wp2_with (first|(go_at_call 211;refine(R.1 _).mono ?_;rintro e w1 ⟨rfl,o⟩;have H1:=oH o;clear o)|(go_at_call 183;refine(R.2 _).mono ?_;rintro e w' ⟨rfl,rfl⟩));go_roundg (s.size+1-(pos+k));·exact⟨pos+k,n+1,f,rfl,by go_num,by omega,by omega,by omega,(H1.out.block _ (by rw[HQ.2.2];exact hB) trivial).trans HQ.2.1,HQ.1.trans H1.out,J.out⟩
   omega
  have hd:decide ((24:Int)<(n:Int)+1)=true:=by simp;omega
  have J:=oH (show dW s=false by rw[←j,cI a1];simp);clear j;go_wp2_with (first|(go_at_call 211;refine(R.1 _).mono ?_;rintro e w1 ⟨rfl,o⟩;have H1:=oH o;clear o)|(go_at_call 183;refine(R.2 _).mono ?_;rintro e w' ⟨rfl,rfl⟩));go_ret;exact⟨by rw[J.out];rfl,HQ.1.trans H1.out⟩
 |false=>
  by_cases hp:pos=0
  ·have b6:((pos:Int)==0)=true:=by rw[cy];omega
   have a6:(pos !=0)=false:=by simpa using hp
   rw[a6] at j;clear a6 hp;have J:=oH (show dW s=false by rw[←j];simp);clear j;go_wp2_with (first|(go_at_call 211;refine(R.1 _).mono ?_;rintro e w1 ⟨rfl,o⟩;have H1:=oH o;clear o)|(go_at_call 183;refine(R.2 _).mono ?_;rintro e w' ⟨rfl,rfl⟩));go_ret;exact⟨by rw[J.out];rfl,HQ.1.trans H1.out⟩
  have b6:((pos:Int)==0)=false:=by rw[bE];omega
  have a6:(pos !=0)=true:=by simpa using hp
  rw[a6] at j;clear a6;cases D with
  |false=>have J:=oH (show dW s=false by rw[←j];simp);clear j;go_wp2_with (first|(go_at_call 211;refine(R.1 _).mono ?_;rintro e w1 ⟨rfl,o⟩;have H1:=oH o;clear o)|(go_at_call 183;refine(R.2 _).mono ?_;rintro e w' ⟨rfl,rfl⟩));go_ret;exact⟨by rw[J.out];rfl,HQ.1.trans H1.out⟩
  |true=>
   by_cases a1:n+1≤24;·(
 have hd:decide ((24:Int)<(n:Int)+1)=false:=by simp;omega
 have J:=oH (show fH s f (pos+k) (n+1)=dW s by rw[←j,bL a1];simp);clear j;go_wp2_with (first|(go_at_call 211;refine(R.1 _).mono ?_;rintro e w1 ⟨rfl,o⟩;have H1:=oH o;clear o)|(go_at_call 183;refine(R.2 _).mono ?_;rintro e w' ⟨rfl,rfl⟩));go_roundg (s.size+1-(pos+k));·exact⟨pos+k,n+1,f,rfl,by go_num,by omega,by omega,by omega,(H1.out.block _ (by rw[HQ.2.2];exact hB) trivial).trans HQ.2.1,HQ.1.trans H1.out,J.out⟩
 omega)
   have hd:decide ((24:Int)<(n:Int)+1)=true:=by simp;omega
   have J:=oH (show dW s=false by rw[←j,cI a1];simp);clear j;go_wp2_with (first|(go_at_call 211;refine(R.1 _).mono ?_;rintro e w1 ⟨rfl,o⟩;have H1:=oH o;clear o)|(go_at_call 183;refine(R.2 _).mono ?_;rintro e w' ⟨rfl,rfl⟩));go_ret;exact⟨by rw[J.out];rfl,HQ.1.trans H1.out⟩)
 obtain⟨f,rfl⟩:∃f',f=f'+1:=⟨f-1,by omega⟩;rw[jQ Y] at j;have b2:=fun ty=>Gl (P:=prog) wr w.heap.size s pos ty I Y;have J:=oH j;have HK:=oH C;clear j C I;go_wp2;go_ret;exact⟨by rw[←J.out];simp,HK.out⟩
end
end Go.Proofs.YtccbbkopmlnkpaaGreatDoor
