/- Part 2 of the proof of CallsShallow (its last part says what is proved). No condition. -/
import Derived.Laws.EntriesVeiled
import Derived.Test.YtncdbjponknakaaGreatDoorK0
namespace Go.Proofs.YtncdbjponknakaaGreatDoor
set_option maxRecDepth 100000
set_option maxHeartbeats 8000000
open Go.RowKit Go.Proofs.Tryz
section
def dH (ll:List (List Int))(a b:Nat):Prop:=∃row,ll[a]? =some row∧(b:Int)∈row
inductive aQ (ll:List (List Int)) (a:Nat):Nat→Prop
 |refl:aQ ll a a
 |step {b c:Nat}:aQ ll a b→dH ll b c→aQ ll a c
theorem aQ.trans {ll:List (List Int)}{a b c:Nat}(h:aQ ll a b)(k:aQ ll b c):aQ ll a c:=by
 induction k with
 |refl=>exact h
 |step _ e j=>exact .step j e
theorem aQ.head {ll:List (List Int)}{a b c:Nat}(e:dH ll a b)(k:aQ ll b c):aQ ll a c:=aQ.trans (.step .refl e) k
theorem mq {ll:List (List Int)}{a:Nat}{p:Nat→Bool}(l:p a=true)(o:∀i,p i=true→∀j,dH ll i j→p j=true):∀k,aQ ll a k→p k=true:=by
 intro k h;induction h with
 |refl=>exact l
 |step _ e C=>exact o _ C _ e
open Classical in
noncomputable def ay (ll:List (List Int))(a k:Nat):Bool:=decide (aQ ll a k)
theorem aY {ll:List (List Int)}{a k:Nat}:ay ll a k=true↔aQ ll a k:=by simp[ay]
theorem nT {ll:List (List Int)}{a:Nat}{p:Nat→Bool}{k:Nat}(h:p k=true↔aQ ll a k):p k=ay ll a k:=by rw[Bool.eq_iff_iff,h,aY]
def nX (p:Nat→Bool)(i:Nat):Nat→Bool:=fun k=>if k=i then true else p k
theorem dF (p:Nat→Bool)(i:Nat):nX p i i=true:=by simp[nX]
theorem je (p:Nat→Bool)(i k:Nat)(h:p k=true):nX p i k=true:=by unfold nX;split<;>first|rfl|exact h
theorem fd {p:Nat→Bool}{i k:Nat}(h:k≠i):nX p i k=p k:=by simp[nX,h]
def ph:Nat→(Nat→Bool)→Nat
 |0,_=>0
 |n+1,p=>ph n p+if p n then 0 else 1
theorem ly {p q:Nat→Bool}:∀n,(∀k,k<n→p k=true→q k=true)→ph n q≤ph n p
 |0,_=>cf _
 |n+1,h=>by(
 have j:=ly n (fun k C=>h k (by omega));have l:=h n (by omega);unfold ph;cases o:p n with
 |true=>rw[l o];simp;exact j
 |false=>cases q n<;>simp<;>omega)
theorem jj {p:Nat→Bool}{i:Nat}:∀n,i<n→p i=false→ph n (nX p i)<ph n p
 |0,h,_=>by omega
 |n+1,h,j=>by(
 unfold ph;by_cases e:i=n
 ·subst e
  have l:=ly (p:=p) (q:=nX p i) i (fun k _ h=>je p i k h);rw[dF,j];simp;omega
 have l:=jj n (by omega) j;rw[fd (fun o=>e o.symm)];omega)
theorem qI (p:Nat→Bool):∀n,ph n p≤n
 |0=>cf _
 |n+1=>by have:=qI p n;unfold ph;split<;>omega
end
theorem Mp:(prog.info? 4).map (fun i=>(i.zero,i.size,i.bytes))=some (some (.bool false),1,1):=by kernel_rfl
theorem iy (n:Nat)(Z:n≤281474976710656)(w:World):(Instr.makeSlice 36 (.int .i64 n) (.int .i64 n)).run prog w=.ok (.slice (some ⟨w.heap.size,0,none⟩) n n) (w.alloc (.cells (az n fun _=>false) 4)):=by
 obtain⟨R,l,o,C,J⟩:=info_parts Mp;rw[run_make (P:=prog) w 36 4 R (.bool false) underlying36 l o .i64 .i64 n n (by omega) (by omega) (by rw[J];omega) (by omega)];have e:madeCells (Value.bool false).cells ((n:Int).toNat*R.size)=az n fun _=>false:=by(
 rw[C,dP,Nat.mul_one];apply Array.ext_getElem?;intro j;by_cases Y:j<n;·rw[bj Y];simp[madeCells,Y,Value.cells,Nat.mod_one]
 rw[jK (by rw[size_madeCells];omega),jK (by rw[im];omega)])
 rw[e,dP]
noncomputable def en (ll:List (List Int))(f:Nat):List Bool:=(List.range ll.length).map (ay ll f)
theorem iT {S:Nat→Prop}{w:World}{g n:Nat}{t:TypeId}{p q:Nat→Bool}(h:al w g t (az n p))(Y:S g)(hn:n≤256)(Z:∀k,k<n→p k=q k):gD S w (.slice (some ⟨g,0,none⟩) n n) ((List.range n).map q):=by
 have e:((List.range n).map q).length=n:=by simp
 have:=Sl.of_blk (bw:=1) (E:=xC) (S:=S) (l:=(List.range n).map q) (cap:=n) h Y (by omega) (by unfold maxLen;omega) (by omega) (fun i x J=>by
  simp only[cL,oE] at J;obtain⟨j,o,rfl⟩:=J;have hi:i<n:=by(
 rcases Nat.lt_or_ge i n with h|h;·exact h
 rw[jz (by simp;omega)] at o;cases o)
  have C:j=i:=by
   have R:(List.range n)[i]? =some i:=by simp[hi]
   rw[o] at R;exact kJ R
  subst C;exact⟨.bool (p j),bj hi,by rw[Z j hi];rfl⟩)
 rwa [e] at this
theorem gw {ll:List (List Int)}(h:aP ll){k:Nat}(j:k<ll.length):∀x∈ll[k],0≤x∧x<ll.length:=(h.2.2 _ (eL j)).1
theorem kQ {ll:List (List Int)}{k j:Nat}(l:k<ll.length):dH ll k j↔(j:Int)∈ll[k]:=by
 constructor
 ·rintro⟨row,o,hm⟩
  rw[lG l] at o;cases o;exact hm
 intro h;exact⟨_,lG l,h⟩
theorem tB {ll:List (List Int)}(h:aP ll){a b:Nat}(l:a<ll.length)(o:aQ ll a b):b<ll.length:=by
 induction o with
 |refl=>exact l
 |step _ e j=>have:=gw h j _ ((kQ j).1 e);omega
theorem El (x:Value)(w:World):Calls prog 59 #[x] w fun e j=>e=.returned (.tuple #[])∧w=j:=by
 go_enter func59,ntmps59;go_wp2
 go_end0
 exact⟨rfl,rfl⟩
structure LV (ll:List (List Int))(v:Value)(bb bt bv bl g:Nat)(w:World):Prop where
 been:al w bb 36 #[.slice (some ⟨g,0,none⟩) ll.length ll.length]
 tou:al w bt 54 #[v]
 visit:al w bv 152 #[.func (.func 80) #[] #[.pointer (some ⟨bb,0,none⟩),.pointer (some ⟨bt,0,none⟩),.pointer (some ⟨bv,0,none⟩),.pointer (some ⟨bl,0,none⟩)]]
 tell:al w bl 152 #[.func (.func 59) #[] #[]]
 rows:Rows (fun b=>b≠g) w v ll
 ne:bb≠g∧bt≠g∧bv≠g∧bl≠g
theorem LV.keep {ll:List (List Int)}{v:Value}{bb j l o g:Nat}{w C:World}(h:LV ll v bb j l o g w)(k:aa (fun b=>b≠g) w C):LV ll v bb j l o g C:=
 ⟨h.been.kept k h.ne.1,h.tou.kept k h.ne.2.1,h.visit.kept k h.ne.2.2.1,h.tell.kept k h.ne.2.2.2,aq.keep k h.rows,h.ne⟩
def Kv (ll:List (List Int))(p q:Nat→Bool)(i:Nat):Prop:=
 (∀k,p k=true→q k=true)∧q i=true∧(∀k,q k=true→p k=true∨aQ ll i k)∧(∀k,q k=true→p k=false→∀j,dH ll k j→q j=true)
theorem Er (ll:List (List Int))(hR:aP ll)(v:Value)(bb bt bv bl g:Nat)(m:Nat):∀(i:Nat) (p:Nat→Bool) (w:World),ph ll.length p≤m→i<ll.length→p i=false→LV ll v bb bt bv bl g w→al w g 4 (az ll.length p)→
 Calls prog 80 #[.int .i64 i,.pointer (some ⟨bb,0,none⟩),.pointer (some ⟨bt,0,none⟩),.pointer (some ⟨bv,0,none⟩),.pointer (some ⟨bl,0,none⟩)] w fun e w'=>
  e=.returned (.tuple #[])∧∃q,al w' g 4 (az ll.length q)∧aa (fun b=>b≠g) w w'∧Kv ll p q i:=by
 induction m with
 |zero=>intro i p w hm hi hp;have:=jj ll.length hi hp;omega
 |succ m ih=>
  intro i p w hm hi hp env o;have IH:=oH ih;clear ih;have hl:ll.length≤256:=hR.2.1;have b7:=gw hR hi;have b0:=fun j=>kQ (ll:=ll) (j:=j) hi;have d7:ll[i].length≤256:=by have:=du (hR.2.2 _ (eL hi));omega
  have c3:=oH env;obtain⟨a,cap,rfl,_,_,_,h⟩:=env.rows;obtain⟨b1,o1,c1,rfl,d8,c4,ra,e4,rfl,_,_,_,rh⟩:=h i ll[i] (lG hi);have Z:=bj (p:=p) hi;have h1:=env.been.cell 0;have h2:=env.tou.cell 0;have h4:=o.cell i;rw[Z,hp] at h4;have h5:=o.free i;simp only[gc] at h1 h2;have b5:aa (fun b=>b≠g) w (w.setCell ⟨g,i,none⟩ (.bool true)):=(aa.refl _ w).setCell (.inl fun h=>h rfl) _;have b3:al (w.setCell ⟨g,i,none⟩ (.bool true)) g 4 (az ll.length (nX p i)):=by rw[←dg (p:=p) (i:=i) (b:=true) (dF _ _) (fun j _ hj=>fd hj)];exact o.set _ _
  have a6:=c3.out.keep b5;have h6:=a6.tou.cell 0;simp only[gc] at h6;have h7:=b5.cell (p:=⟨b1,o1+i,none⟩) d8 c4;have e6:=jj ll.length hi hp;have HF:=J7 b7 b0 rh hp b5 b3 a6;clear b7 b0 rh hp b5 b3 a6 o c4 h Z env;generalize ll[i]=row at*;go_enter func80,ntmps80;go_wp2_with fail;clear h1 h2 h4 h5 h6 h7
  go_loopg [16] row.length (fun gg x wr=>∃(k:Nat) (q:Nat→Bool),k≤row.length∧gg=row.length-k∧x=.int .i64 k∧al wr g 4 (az ll.length q)∧aa (fun b=>b≠g) w wr∧
   (∀k,nX p i k=true→q k=true)∧(∀k,q k=true→p k=true∨aQ ll i k)∧(∀k,q k=true→nX p i k=false→∀j,dH ll k j→q j=true)∧(∀(j:Nat) x,j<k→row[j]? =some x→q x.toNat=true))
  case atStart=>(
 refine⟨0,nX p i,by omega,by omega,rfl,HF.2.2.2.2.2.1,HF.2.2.2.2.1,fun _ h=>h,fun k hk=>?_,fun k h1 h2=>(by rw[h1] at h2;cases h2),fun j x hj=>by omega⟩;by_cases e:k=i;·subst e;exact .inr .refl
 rw[fd e] at hk;exact .inl hk)
  obtain⟨k,q,hk,rfl,rfl,o,Y,C,J,R,l⟩:=hrel;have HQ:=J4 C J R l;clear C J R l;have env:=c3.out.keep Y;by_cases b6:k<row.length;·(
 obtain⟨b2,o2,c2,rfl,d9,c5,rfl,e7⟩:=HF.2.2.1 k row[k] (lG b6);have e0:=Y.cell (p:=⟨b2,o2+k,none⟩) d9 c5;obtain⟨x0,x1⟩:=HF.1 row[k] (eL b6);have b8:row[k]∈row:=eL b6;have Z:row[k]? =some row[k]:=lG b6;have HM:=J2 b8 Z;clear b8 Z c5;generalize row[k]=x at*;obtain⟨j,rfl⟩:∃j:Nat,x=j:=⟨x.toNat,by omega⟩;have c6:j<ll.length:=by omega
 have a7:wr.cell? ⟨g,j,none⟩=some (.bool (q j)):=by rw[o.cell,bj c6]
 have h1:=env.been.cell 0;have h3:=env.visit.cell 0;simp only[gc] at h1 h3;cases a8:q j with
 |true=>
  rw[a8] at a7;have c7:=oH a8;clear a8;go_wp2;go_roundg (row.length-(k+1));·(
 obtain⟨C,J,R,l⟩:=HQ.out;refine⟨k+1,q,by omega,rfl,by go_num,o,Y,C,J,R,fun a x ha hx=>?_⟩;by_cases e:a=k
 ·subst e
  rw[HM.2] at hx;cases hx;rw[dP];exact c7.out
 exact l a x (by omega) hx)
  omega
 |false=>
  rw[a8] at a7;have e5:=ly ll.length (fun a _ ha=>HQ.1 a ha);have b4:=IH.out j q wr (by omega) c6 a8 env o;have b9:=oH b4;have c7:=oH a8;clear a8 b4;go_wp2_with fail;refine b9.out.mono ?_;rintro e w' ⟨rfl,c8⟩;have e1:=oH c8;clear c8 a7 e0 h1 h3;go_wp2_with fail;go_roundg (row.length-(k+1));·(
 obtain⟨C,J,R,l⟩:=HQ.out;obtain⟨q',c0,e2,a1,a2,a3,a4⟩:=e1.out;have b0:dH ll i j:=(HF.2.1 j).2 HM.1;refine⟨k+1,q',by omega,rfl,by go_num,c0,Y.trans e2,fun a ha=>a1 a (C a ha),fun a ha=>?_,fun a ha hn b hb=>?_,fun a x ha hx=>?_⟩
 ·rcases a3 a ha with h|h
  ·exact J a h
  exact .inr (aQ.head b0 h)
 ·cases c9:q a with
  |true=>exact a1 b (R a c9 hn b hb)
  |false=>exact a4 a ha c9 b hb
 by_cases e:a=k
 ·subst e
  rw[HM.2] at hx;cases hx;rw[dP];exact a2
 exact a1 _ (l a x (by omega) hx))
  omega)
  have h4:=env.tell.cell 0;simp only[gc] at h4;go_wp2_with (go_at_call 59;refine(El _ _).mono ?_;rintro e w' ⟨rfl,rfl⟩)
  go_end0
  obtain⟨C,J,R,l⟩:=HQ.out;refine⟨rfl,q,o,Y,fun a ha=>C a (je _ _ _ ha),C i (dF _ _),J,fun a ha hn b hb=>?_⟩;by_cases e:a=i;·subst e;have e3:=(HF.2.1 b).1 hb;obtain⟨c,hc,hx⟩:=List.getElem_of_mem e3;have:=l c (b:Int) (by omega) (by rw[lG hc,hx]);rwa [dP] at this
  exact R a ha (by rw[fd e];exact hn) b hb
theorem kV {S:Nat→Prop}{w:World}{v:Value}{l:List Int}(h:aK S w v l):aK (fun b=>b<w.heap.size) w v l:=by obtain⟨a,cap,o,C,J,R,h⟩:=h;refine⟨a,cap,o,C,J,R,fun i x Y=>?_⟩;obtain⟨b,off,c,e,Z,j,he⟩:=h i x Y;exact⟨b,off,c,e,jy w _ j,j,he⟩
theorem jh {S:Nat→Prop}{w:World}{v:Value}{ll:List (List Int)}(h:Rows S w v ll):Rows (fun b=>b<w.heap.size) w v ll:=by obtain⟨a,cap,l,o,C,J,h⟩:=h;refine⟨a,cap,l,o,C,J,fun i x R=>?_⟩;obtain⟨b,off,c,e,Y,j,he⟩:=h i x R;exact⟨b,off,c,e,jy w _ j,j,kV he⟩
def Cp (v:Value)(n:Nat)(w:World):World:=
 (((((w.alloc (.cells #[v] 54)).alloc (.cells #[.func (.func 59) #[] #[]] 152)).alloc (.cells (az n fun _=>false) 4)).alloc (.cells #[.slice (some ⟨w.heap.size+1+1,0,none⟩) n n] 36)).alloc
   (.cells #[.func (.func 80) #[] #[.pointer (some ⟨w.heap.size+1+1+1,0,none⟩),.pointer (some ⟨w.heap.size,0,none⟩),.pointer (some ⟨w.heap.size+1+1+1+1,0,none⟩),.pointer (some ⟨w.heap.size+1,0,none⟩)]] 152))
theorem ac {w:World}{t:TypeId}{cs:Array Value}{g:Nat}(h:g=w.heap.size):al (w.alloc (.cells cs t)) g t cs:=by subst h;exact al.new _ _ _
theorem Eu {v:Value}{ll:List (List Int)}{w:World}(h:Rows (fun b=>b<w.heap.size) w v ll):
 LV ll v (w.heap.size+1+1+1) w.heap.size (w.heap.size+1+1+1+1) (w.heap.size+1) (w.heap.size+1+1) (Cp v ll.length w)∧al (Cp v ll.length w) (w.heap.size+1+1) 4 (az ll.length fun _=>false)∧aa All w (Cp v ll.length w):=by
 have j:aa All w (Cp v ll.length w):=((((kR.alloc _).alloc _).alloc _).alloc _).alloc _;refine⟨⟨?_,?_,?_,?_,?_,by omega⟩,?_,j⟩;·exact(ac (by simp)).alloc _
 ·exact((((al.new _ _ _).alloc _).alloc _).alloc _).alloc _
 ·exact ac (by simp)
 ·exact(((ac (by simp)).alloc _).alloc _).alloc _
 ·exact aq.wide (fun b l=>by omega) (aq.keep j.all h)
 exact((ac (by simp)).alloc _).alloc _
theorem Ia (S:Nat→Prop)(v:Value)(ll:List (List Int))(f:Nat)(w:World)(hv:Rows S w v ll)(hR:aP ll)(hf:f<ll.length):
 Calls prog 58 #[v,.int .i64 f,.func (.func 59) #[] #[]] w fun e w'=>∃u,e=.returned u∧aa All w w'∧gD (fun b=>w.heap.size≤b) w' u (en ll f):=by
 have J:=jh hv;have o:=Eu J;obtain⟨a,cap,rfl,h1,h2,a7,h⟩:=hv;have hl:ll.length≤256:=hR.2.1;have R:=Er ll hR _ _ _ _ _ _ _ f (fun _=>false) _ (cf _) hf rfl o.1 o.2.1;have HR:=J3 hR o R;clear h h1 h2 a7 hR J o R;have a8:=fun w=>iy ll.length (by omega) w;go_enter func58,ntmps58;go_wp2_with fail;refine HR.2.2.mono ?_;rintro e w' ⟨rfl,q,C,l,Y⟩;have HA:=J3 C l Y;have Z:=HR.2.1.1.keep l;have hc:=Z.been.cell 0;simp only[gc] at hc;clear C l Y Z;go_wp2_with fail;go_ret;obtain⟨C,l,a1,a2,a3,a4⟩:=HA.out;have hk:aa (fun b=>b<w.heap.size) w w':=HR.2.1.2.2.all.trans (l.mono fun b hb=>by omega);refine⟨_,rfl,⟨hk.os,hk.output,hk.size,fun k a6 _=>hk.block k a6 a6⟩,iT C (by omega) hl fun k a6=>?_⟩;apply nT;refine⟨fun h=>by rcases a3 k h with h|h;cases h;exact h,fun hr=>?_⟩;exact mq a2 (fun i hi j hj=>a4 i hi rfl j hj) k hr
theorem ri (S:Nat→Prop)(v:Value)(ll:List (List Int))(f:Nat)(w:World)(R:Rows S w v ll)(J:aP ll)(hf:f<ll.length):
 Calls prog 42 #[v,.int .i64 f] w fun e w'=>∃u,e=.returned u∧aa All w w'∧gD (fun b=>w.heap.size≤b) w' u (en ll f):=by
 have j:=gt S v ll w R;rw[bL J] at j;have l:=fun Y (hk:aa All w Y)=>Ia S v ll f Y (aq.keep hk.all R) J hf;obtain⟨a,cap,rfl,h1,h2,Z,h⟩:=R;have hl:ll.length≤256:=J.2.1;have d1:decide ((f:Int)<0)=false:=by simp
 have d2:decide ((ll.length:Int)≤f)=false:=by simp;omega
 have HR:=J2 j l;clear h h1 h2 Z J j l;go_enter func42,ntmps42;go_wp2_with fail;refine HR.1.mono ?_;rintro e Y ⟨rfl,o⟩;have HK:=oH o;clear o;go_wp2_with fail;refine(HR.2 _ HK.out).mono ?_;rintro e w2 ⟨u,rfl,C,hb⟩;have HB:=J2 C hb;clear C hb;go_wp2_with fail;go_ret;exact⟨u,rfl,HK.out.trans HB.1,cR.wide (fun b hb=>by have:=HK.out.size;omega) HB.2⟩
def od (a b r:Int):Bool:=decide (a≤r)&&decide (r≤b)
def ey (r:Int):Bool:=od 97 122 r||od 65 90 r||r==95||od 945 969 r||(od 913 937 r&&r !=930)
def fY (r:Int):Bool:=od 48 57 r
theorem xO (a b r:Int)(g:Nat)(w:World)(j:al w g 21 #[.int .i32 r]):
 Calls prog 153 #[.int .i32 a,.int .i32 b,.pointer (some ⟨g,0,none⟩)] w fun e l=>e=.returned (.bool (od a b r))∧w=l:=by
 have o:=j.cell 0;simp only[gc] at o;unfold od;by_cases C:a≤r
 ·go_enter func153,ntmps153
  go_wp2;go_ret;exact⟨by simp[C],rfl⟩
 go_enter func153,ntmps153;go_wp2;go_ret;exact⟨by simp;omega,rfl⟩
theorem CM (r:Int)(w:World):Calls prog 130 #[.int .i32 r] w fun e j=>e=.returned (.bool (fY r))∧w=j:=by
 unfold fY od;by_cases l:48≤r
 ·go_enter func130,ntmps130
  go_wp2;go_ret;exact⟨by simp[l],rfl⟩
 go_enter func130,ntmps130;go_wp2;go_ret;exact⟨by simp;omega,rfl⟩
theorem Ay (r:Int)(w:World):Calls prog 129 #[.int .i32 r] w fun e j=>e=.returned (.bool (ey r))∧aa All w j:=by
 have hk:∀o o2,aa All w ((w.alloc o).alloc o2):=fun o o2=>((aa.refl _ w).alloc o).alloc o2;have Z:∀o,aa All w (w.alloc o):=fun o=>(aa.refl _ w).alloc o;have a1:=fun a b w1 (hb:al w1 w.heap.size 21 #[.int .i32 r])=>xO a b r w.heap.size w1 hb;have R:=oH a1;have Y:=J2 hk Z;clear a1 hk Z;unfold ey;cases h:od 97 122 r with
 |true=>have H1:=oH h;clear h;go_enter func129,ntmps129;go_wp2_with (go_at_call 153;refine(R.out _ _ _ (al.new _ _ _)).mono ?_;rintro e j ⟨rfl,rfl⟩;first|rw[H1.out]|rw[l.out]|rw[C.out]|rw[J.out]);go_ret;exact⟨rfl,Y.2 _⟩
 |false=>
  have H1:=oH h;clear h;cases h:od 65 90 r with
  |true=>have l:=oH h;clear h;go_enter func129,ntmps129;go_wp2_with (go_at_call 153;refine(R.out _ _ _ (al.new _ _ _)).mono ?_;rintro e j ⟨rfl,rfl⟩;first|rw[H1.out]|rw[l.out]|rw[C.out]|rw[J.out]);go_ret;exact⟨rfl,Y.2 _⟩
  |false=>
   have l:=oH h;clear h;cases h:r==95 with
   |true=>go_enter func129,ntmps129;go_wp2_with (go_at_call 153;refine(R.out _ _ _ (al.new _ _ _)).mono ?_;rintro e j ⟨rfl,rfl⟩;first|rw[H1.out]|rw[l.out]|rw[C.out]|rw[J.out]);go_ret;exact⟨rfl,Y.2 _⟩
   |false=>
    cases h:od 945 969 r with
    |true=>have C:=oH h;clear h;go_enter func129,ntmps129;go_wp2_with (go_at_call 153;refine(R.out _ _ _ (al.new _ _ _)).mono ?_;rintro e j ⟨rfl,rfl⟩;first|rw[H1.out]|rw[l.out]|rw[C.out]|rw[J.out]);go_ret;exact⟨rfl,Y.2 _⟩
    |false=>
     have C:=oH h;clear h;cases h':od 913 937 r with
     |false=>have J:=oH h';clear h';go_enter func129,ntmps129;go_wp2_with (go_at_call 153;refine(R.out _ _ _ (al.new _ _ _)).mono ?_;rintro e j ⟨rfl,rfl⟩;first|rw[H1.out]|rw[l.out]|rw[C.out]|rw[J.out]);go_ret;exact⟨rfl,Y.2 _⟩
     |true=>
      have J:=oH h';clear h';cases h2:r !=930 with
      |true=>go_enter func129,ntmps129;go_wp2_with (go_at_call 153;refine(R.out _ _ _ (al.new _ _ _)).mono ?_;rintro e j ⟨rfl,rfl⟩;first|rw[H1.out]|rw[l.out]|rw[C.out]|rw[J.out]);go_ret;exact⟨rfl,Y.2 _⟩
      |false=>go_enter func129,ntmps129;go_wp2_with (go_at_call 153;refine(R.out _ _ _ (al.new _ _ _)).mono ?_;rintro e j ⟨rfl,rfl⟩;first|rw[H1.out]|rw[l.out]|rw[C.out]|rw[J.out]);go_ret;exact⟨rfl,Y.2 _⟩
section
def ji (W:World)(B:Nat)(s:ByteArray)(p:Nat):World:= {W with heap:=W.heap.setIfInBounds B (.stringIter s p)}
theorem Bl {W:World}{B:Nat}{s:ByteArray}{p:Nat}(h:B<W.heap.size):(ji W B s p).heap[B]? =some (.stringIter s p):=by simp[ji,h]
theorem xm {S:Nat→Prop}{w W:World}{B:Nat}{s:ByteArray}{p:Nat}(h:aa S w W)(j:¬S B∨w.heap.size≤B):aa S w (ji W B s p):=by
 refine⟨h.os,h.output,by simpa [ji] using h.size,fun k C o=>?_⟩;have l:B≠k:=by rintro rfl;rcases j with j|j;exact j o;omega
 rw[←h.block k C o];simp[ji,Array.getElem?_setIfInBounds_ne l]
section
variable {P:Program}
theorem Jw (W:World)(B:Nat)(s:ByteArray)(pos:Nat)(ty:TypeId)(j:W.heap[B]? =some (.stringIter s pos))(h:pos<s.size):
 (Instr.next (.pointer (some ⟨B,0,none⟩)) true ty).run P W=.ok (.tuple #[.bool true,.int .i64 pos,.int .i32 (Utf8.decode s pos).1]) (ji W B s (pos+(Utf8.decode s pos).2)):=by
 simp only[Instr.next,getObj,setObj,Sem.run_bind,Sem.run,j,Result.andThen,h,if_true,ji];simp[goInt]
theorem Gl (W:World)(B:Nat)(s:ByteArray)(pos:Nat)(ty:TypeId)(j:W.heap[B]? =some (.stringIter s pos))(h:¬pos<s.size):
 (Instr.next (.pointer (some ⟨B,0,none⟩)) true ty).run P W=.ok (.tuple #[.bool false]) W:=by
 simp[Instr.next,getObj,Sem.run,j,h]
end
theorem ks (s:ByteArray)(pos:Nat)(h:pos<s.size):1≤(Utf8.decode s pos).2:=by
 by_cases j:(s[pos]' h).toNat<128;·rw[decode_ascii s pos h j];exact cf _
 exact(decode_high s pos h (by omega)).2
def fH (s:ByteArray):Nat→Nat→Nat→Bool
 |0,_,_=>false
 |f+1,pos,n=>if pos<s.size then
   (ey (Utf8.decode s pos).1||(pos !=0&&fY (Utf8.decode s pos).1))&&decide (n+1≤24)&&fH s f (pos+(Utf8.decode s pos).2) (n+1)
  else decide (0<n)
def dW (s:ByteArray):Bool:=fH s (s.size+1) 0 0
theorem jQ {s:ByteArray}{f pos n:Nat}(h:¬pos<s.size):fH s (f+1) pos n=decide (0<n):=by simp[fH,h]
theorem gK {s:ByteArray}{f pos n:Nat}(h:pos<s.size):fH s (f+1) pos n=((ey (Utf8.decode s pos).1||(pos !=0&&fY (Utf8.decode s pos).1))&&decide (n+1≤24)&&fH s f (pos+(Utf8.decode s pos).2) (n+1)):=by simp[fH,h]
theorem yL (s:ByteArray)(w:World):Calls prog 87 #[.string s] w fun e w'=>e=.returned (.bool (dW s))∧aa All w w':=by
 have b1:(w.iter s 0).heap[w.heap.size]? =some (.stringIter s 0):=World.iter_heap w s 0;have b2:aa All w (w.iter s 0):=(aa.refl _ w).alloc _;have H0:=J2 b1 b2;clear b1 b2;go_enter func87,ntmps87;go_wp2;go_loopg [3] (s.size+1) (fun g m wr=>∃pos n f:Nat,g=s.size+1-pos∧m=.int .i64 n∧n≤24∧s.size+1≤pos+f∧1≤f∧wr.heap[w.heap.size]? =some (.stringIter s pos)∧aa All w wr∧fH s f pos n=dW s);·exact⟨0,0,s.size+1,by omega,rfl,by omega,by omega,by omega,H0.1,H0.2,rfl⟩
 obtain⟨pos,n,f,rfl,rfl,hn,hf,b8,C,o,j⟩:=hrel;by_cases Y:pos<s.size;·(
 obtain⟨f,rfl⟩:∃f',f=f'+1:=⟨f-1,by omega⟩;rw[gK Y] at j;have b3:=fun ty=>Jw (P:=prog) wr w.heap.size s pos ty C Y;have b6:=ks s pos Y;have hB:w.heap.size<wr.heap.size:=by
  rcases Nat.lt_or_ge w.heap.size wr.heap.size with h|h;·exact h
  rw[jK h] at C;cases C
 have b4:aa All w (ji wr w.heap.size s (pos+(Utf8.decode s pos).2)):=xm o (.inr (cf _));have a7:=Bl (W:=wr) (s:=s) (p:=pos+(Utf8.decode s pos).2) hB;have b5:(ji wr w.heap.size s (pos+(Utf8.decode s pos).2)).heap.size=wr.heap.size:=by simp[ji]
 have Z:=J3 b4 a7 b5;clear b4 a7 b5 C o;generalize Utf8.decode s pos=rk at*;obtain⟨r,k⟩:=rk;have a8:=fun W=>Ay (r:Int) W;have b0:=fun W=>CM (r:Int) W;simp only at j b3 b6 Z⊢;generalize ey (r:Int)=L at*;generalize fY (r:Int)=D at*;have R:=J2 a8 b0;clear a8 b0;cases L with
 |true=>
  by_cases a1:n+1≤24
  ·have hd:decide ((24:Int)<(n:Int)+1)=false:=by simp;omega
   have J:=oH (show fH s f (pos+k) (n+1)=dW s by rw[←j,bL a1];simp);clear j;go_wp2_with (first|(go_at_call 129;refine(R.1 _).mono ?_;rintro e w1 ⟨rfl,l⟩;have H1:=oH l;clear l)|(go_at_call 130;refine(R.2 _).mono ?_;rintro e w' ⟨rfl,rfl⟩));go_roundg (s.size+1-(pos+k));·exact⟨pos+k,n+1,f,rfl,by go_num,by omega,by omega,by omega,(H1.out.block _ (by rw[Z.2.2];exact hB) trivial).trans Z.2.1,Z.1.trans H1.out,J.out⟩
   omega
  have hd:decide ((24:Int)<(n:Int)+1)=true:=by simp;omega
  have J:=oH (show dW s=false by rw[←j,cI a1];simp);clear j;go_wp2_with (first|(go_at_call 129;refine(R.1 _).mono ?_;rintro e w1 ⟨rfl,l⟩;have H1:=oH l;clear l)|(go_at_call 130;refine(R.2 _).mono ?_;rintro e w' ⟨rfl,rfl⟩));go_ret;exact⟨by rw[J.out];rfl,Z.1.trans H1.out⟩
 |false=>
  by_cases hp:pos=0
  ·have b7:((pos:Int)==0)=true:=by rw[cy];omega
   have a6:(pos !=0)=false:=by simpa using hp
   rw[a6] at j;clear a6 hp;have J:=oH (show dW s=false by rw[←j];simp);clear j;go_wp2_with (first|(go_at_call 129;refine(R.1 _).mono ?_;rintro e w1 ⟨rfl,l⟩;have H1:=oH l;clear l)|(go_at_call 130;refine(R.2 _).mono ?_;rintro e w' ⟨rfl,rfl⟩));go_ret;exact⟨by rw[J.out];rfl,Z.1.trans H1.out⟩
  have b7:((pos:Int)==0)=false:=by rw[bE];omega
  have a6:(pos !=0)=true:=by simpa using hp
  rw[a6] at j;clear a6;cases D with
  |false=>have J:=oH (show dW s=false by rw[←j];simp);clear j;go_wp2_with (first|(go_at_call 129;refine(R.1 _).mono ?_;rintro e w1 ⟨rfl,l⟩;have H1:=oH l;clear l)|(go_at_call 130;refine(R.2 _).mono ?_;rintro e w' ⟨rfl,rfl⟩));go_ret;exact⟨by rw[J.out];rfl,Z.1.trans H1.out⟩
  |true=>
   by_cases a1:n+1≤24;·(
 have hd:decide ((24:Int)<(n:Int)+1)=false:=by simp;omega
 have J:=oH (show fH s f (pos+k) (n+1)=dW s by rw[←j,bL a1];simp);clear j;go_wp2_with (first|(go_at_call 129;refine(R.1 _).mono ?_;rintro e w1 ⟨rfl,l⟩;have H1:=oH l;clear l)|(go_at_call 130;refine(R.2 _).mono ?_;rintro e w' ⟨rfl,rfl⟩));go_roundg (s.size+1-(pos+k));·exact⟨pos+k,n+1,f,rfl,by go_num,by omega,by omega,by omega,(H1.out.block _ (by rw[Z.2.2];exact hB) trivial).trans Z.2.1,Z.1.trans H1.out,J.out⟩
 omega)
   have hd:decide ((24:Int)<(n:Int)+1)=true:=by simp;omega
   have J:=oH (show dW s=false by rw[←j,cI a1];simp);clear j;go_wp2_with (first|(go_at_call 129;refine(R.1 _).mono ?_;rintro e w1 ⟨rfl,l⟩;have H1:=oH l;clear l)|(go_at_call 130;refine(R.2 _).mono ?_;rintro e w' ⟨rfl,rfl⟩));go_ret;exact⟨by rw[J.out];rfl,Z.1.trans H1.out⟩)
 obtain⟨f,rfl⟩:∃f',f=f'+1:=⟨f-1,by omega⟩;rw[jQ Y] at j;have b3:=fun ty=>Gl (P:=prog) wr w.heap.size s pos ty C Y;have J:=oH j;have HK:=oH o;clear j o C;go_wp2;go_ret;exact⟨by rw[←J.out];simp,HK.out⟩
end
def mu:List (List UInt8):=[[97,114,114,97,121],
 [102,110],
 [99,111,110,115,116],
 [112,104,105],
 [108,111,97,100],
 [119,114,97,112],
 [115,116,111,114,101],
 [99,97,108,108],
 [105,110,112,117,116],
 [111,117,116,112,117,116],
 [114,101,108,101,97,115,101],
 [106,117,109,112],
 [98,114,97,110,99,104],
 [114,101,116,117,114,110],
 [97,100,100],
 [115,117,98],
 [109,117,108],
 [100,105,118],
 [109,111,100],
 [97,110,100],
 [111,114],
 [120,111,114],
 [115,104,108],
 [115,104,114],
 [101,113],
 [108,101,115,115]]
def jv (s:ByteArray):Bool:=mu.any fun l=>s.toList==l
theorem zC (s:ByteArray)(w:World):Calls prog 88 #[.string s] w fun e j=>e=.returned (.bool (jv s))∧w=j:=by
 cases h:jv s with
 |false=>simp only[jv,mu,List.any_cons,List.any_nil,Bool.or_false,Bool.or_eq_false_iff] at h;obtain⟨h0,h1,h2,h3,h4,h5,h6,h7,h8,h9,l,o,C,J,R,Y,Z,a1,a6,a7,a8,b0,b1,b2,b3,b4⟩:=h;go_enter func88,ntmps88;go_wp2;go_ret;exact⟨rfl,rfl⟩
 |true=>
  simp only[jv,mu,List.any_cons,List.any_nil,Bool.or_false,Bool.or_eq_true,cy] at h;rcases h with h|h|h|h|h|h|h|h|h|h|h|h|h|h|h|h|h|h|h|h|h|h|h|h|h|h
  all_goals
   go_enter func88,ntmps88;go_wp2;go_ret;exact⟨rfl,rfl⟩
def dM (N:Nat)(f:Nat→Value):Array Value:=((List.range N).map f).toArray
theorem cq {N:Nat}{f:Nat→Value}{i:Nat}(h:i<N):(dM N f)[i]? =some (f i):=by simp[dM,h]
theorem ew (N:Nat)(f:Nat→Value):(dM N f).size=N:=by simp[dM]
def qd (f:Nat→Value)(i:Nat)(v:Value):Nat→Value:=fun k=>if k=i then v else f k
theorem jd (f:Nat→Value)(i:Nat)(v:Value):qd f i v i=v:=by simp[qd]
theorem li {f:Nat→Value}{i k:Nat}{v:Value}(h:k≠i):qd f i v k=f k:=by simp[qd,h]
theorem jo {N:Nat}{f:Nat→Value}{i:Nat}{v:Value}:(dM N f).setIfInBounds i v=dM N (qd f i v):=by
 apply Array.ext_getElem?;intro j;rw[Array.getElem?_setIfInBounds];by_cases l:j<N
 ·rw[cq l,cq l,ew]
  by_cases e:i=j;·subst e;simp[l,jd]
  rw[ae e,li (fun x=>e x.symm)]
 have o:(dM N f)[j]? =none:=by rw[jK];rw[ew];omega
 have C:(dM N (qd f i v))[j]? =none:=by rw[jK];rw[ew];omega
 rw[o,C];split;·rw[ae (by rw[ew];omega)]
 rfl
theorem RQ:(prog.info? 36).map (fun i=>(i.zero,i.size,i.bytes))=some (some (.slice none 0 0),1,24):=by kernel_rfl
theorem PR (n:Nat)(Y:n≤1048576)(w:World):(Instr.makeSlice 79 (.int .i64 n) (.int .i64 n)).run prog w=.ok (.slice (some ⟨w.heap.size,0,none⟩) n n) (w.alloc (.cells (dM n fun _=>.slice none 0 0) 36)):=by
 obtain⟨l,hi,C,J,R⟩:=info_parts RQ;rw[run_make (P:=prog) w 79 36 l (.slice none 0 0) underlying79 hi C .i64 .i64 n n (by omega) (by omega) (by rw[R];omega) (by omega)];have e:madeCells (Value.slice none 0 0).cells ((n:Int).toNat*l.size)=dM n fun _=>.slice none 0 0:=by(
 rw[J,dP,Nat.mul_one];apply Array.ext_getElem?;intro j;by_cases o:j<n;·rw[cq o];simp[madeCells,o,Value.cells,Nat.mod_one]
 rw[jK (by rw[size_madeCells];omega),jK (by rw[ew];omega)])
 rw[e,dP]
noncomputable def dB (ll:List (List Int)):List (List Bool):=(List.range ll.length).map (en ll)
def rP (ll:List (List Int))(B:Nat)(w wr:World)(k:Nat):Prop:=
 aa All w wr∧∃F:Nat→Value,al wr B 36 (dM ll.length F)∧∀i,i<k→gD (fun b=>B<b) wr (F i) (en ll i)
theorem qX {ll:List (List Int)}{w wr j:World}{k:Nat}{A:Option Addr}{n c:Nat}(h:rP ll w.heap.size w wr k)(hw:w.heap.size<wr.heap.size)(Y:k<ll.length)(o:aa All wr j)
 (hu:gD (fun b=>wr.heap.size≤b) j (.slice A n c) (en ll k)):rP ll w.heap.size w (j.setCell ⟨w.heap.size,k,none⟩ (.slice A n c)) (k+1):=by
 obtain⟨C,F,J,R⟩:=h;have l:aa (fun b=>w.heap.size<b) j (j.setCell ⟨w.heap.size,k,none⟩ (.slice A n c)):=(aa.refl _ j).setCell (p:=⟨w.heap.size,k,none⟩) (.inl (Nat.lt_irrefl _)) _;refine⟨(C.trans o).setCell (.inr (cf _)) _,qd F k (.slice A n c),?_,fun i hi=>?_⟩;·rw[←jo];exact(J.kept o trivial).set _ _
 by_cases e:i=k
 ·subst e
  rw[jd];exact cR.keep l (cR.wide (fun b Z=>by omega) hu)
 rw[li e];exact cR.keep l (cR.keep o.all (R i (by omega)))
theorem sA {ll:List (List Int)}{w wr:World}(Z:ll.length≤256)(h:rP ll w.heap.size w wr ll.length):jE (fun b=>w.heap.size≤b) wr (.slice (some ⟨w.heap.size,0,none⟩) ll.length ll.length) (dB ll):=by
 obtain⟨h1,F,o,Y⟩:=h;have e:(dB ll).length=ll.length:=by simp[dB]
 have:=Sl.of_blk (bw:=24) (E:=Sl 1 xC) (S:=fun b=>w.heap.size≤b) (l:=dB ll) (cap:=ll.length) o (cf _) (by omega) (by unfold maxLen;omega) (by omega) (fun i x R=>by
  simp only[dB,cL,oE] at R;obtain⟨j,C,rfl⟩:=R;have hi:i<ll.length:=by(
 rcases Nat.lt_or_ge i ll.length with h|h;·exact h
 rw[jz (by simp;omega)] at C;cases C)
  have J:j=i:=by
   have o:(List.range ll.length)[i]? =some i:=by simp[hi]
   rw[C] at o;exact kJ o
  subst J;exact⟨F j,cq hi,cR.wide (fun b hb=>by omega) (Y j hi)⟩)
 rwa [e] at this
theorem rj (S:Nat→Prop)(v:Value)(ll:List (List Int))(w:World)(hv:Rows S w v ll)(hR:aP ll):
 Calls prog 21 #[v] w fun e w'=>∃u,e=.returned u∧aa All w w'∧jE (fun b=>w.heap.size≤b) w' u (dB ll):=by
 have l:=fun f hf w1 (hk:aa All w w1)=>ri S v ll f w1 (aq.keep hk.all hv) hR hf;obtain⟨a,cap,rfl,h1,h2,a7,h⟩:=hv;have hl:ll.length≤256:=hR.2.1;have HR:=J2 hR l;clear h h1 h2 a7 hR l;have b2:=fun w=>PR ll.length (by omega) w;go_enter func21,ntmps21;go_wp2;go_loopg [10] ll.length (fun g i wr=>∃k:Nat,k≤ll.length∧g=ll.length-k∧i=.int .i64 k∧w.heap.size<wr.heap.size∧rP ll w.heap.size w wr k);·exact⟨0,by omega,by omega,rfl,by simp,kR.alloc _,_,al.new _ _ _,fun i hi=>by omega⟩
 obtain⟨k,hk,rfl,rfl,a8,j⟩:=hrel;by_cases J:k<ll.length
 ·have Z:=oH j;clear j;go_wp2_with fail;refine(HR.2 k J _ Z.1).mono ?_;rintro e w1 ⟨u,rfl,C,hb⟩;have a1:=hb;obtain⟨A,c,rfl,_⟩:=hb;obtain⟨F,hF,_⟩:=Z.2;have R:=hF.kept C trivial;have Y:=R.cell k;rw[cq J] at Y;have b0:=R.free k;have o:=qX Z.out a8 J C a1;have a6:=C.size;have HS:=J2 o a6;clear C a1 hF R o;go_wp2_with fail;go_roundg (ll.length-(k+1));·exact⟨k+1,by omega,rfl,by go_num,by simp;omega,HS.1⟩
  omega
 have b1:k=ll.length:=by omega
 subst b1;have Z:=oH j;clear j;go_wp2;go_ret;exact⟨_,rfl,Z.1,sA hl Z.out⟩
abbrev cO (α:Type):=(Nat→Prop)→World→List Value→α→Prop
def rx {α:Type}(n bw:Nat)(E:cO α):bT (List α):=fun S w v l=>
 ∃a cap,v=.slice a l.length cap∧l.length≤cap∧cap≤maxLen∧l.length*bw≤140737488355328∧
  ∀(i:Nat) (x:α),l[i]? =some x→∃b off cs,a=some ⟨b,off,none⟩∧S b∧cs.length=n∧(∀(j:Nat) c,cs[j]? =some c→w.cell? ⟨b,off+i*n+j,none⟩=some c)∧E S w cs x
structure cO.Good {α:Type}(E:cO α):Prop where
 keep:∀ {S w w' c x},aa S w w'→E S w c x→E S w' c x
 wide:∀ {S T:Nat→Prop} {w c x},(∀k,S k→T k)→E S w c x→E T w c x
theorem cH {α:Type}{n bw:Nat}{E:cO α}(g:cO.Good E):bT.Good (rx n bw E):=by
 constructor;·intro S w w' v l k h;obtain⟨a,cap,C,J,R,Y,h⟩:=h;refine⟨a,cap,C,J,R,Y,fun i x Z=>?_⟩;obtain⟨b,off,cs,e,o,hl,hc,he⟩:=h i x Z;exact⟨b,off,cs,e,o,hl,fun j c hj=>k.cell (p:=⟨b,off+i*n+j,none⟩) o (hc j c hj),g.keep k he⟩
 intro S T w v l k h;obtain⟨a,cap,C,J,R,Y,h⟩:=h;refine⟨a,cap,C,J,R,Y,fun i x Z=>?_⟩;obtain⟨b,off,cs,e,o,hl,hc,he⟩:=h i x Z;exact⟨b,off,cs,e,k b o,hl,hc,g.wide k he⟩
theorem rx.nil {α:Type}{n bw:Nat}{E:cO α}{S:Nat→Prop}{w:World}:rx n bw E S w (.slice none 0 0) []:=
 ⟨none,0,rfl,cf _,Nat.zero_le _,by simp,fun i x j=>by simp at j⟩
def EQ:bT ByteArray:=fun _ _ c s=>c=.string s
theorem iu:bT.Good EQ:=⟨fun _ h=>h,fun _ h=>h⟩
abbrev gB:=Sl 16 EQ
theorem ax:bT.Good gB:=oR iu
def U (x:BitVec 64):Value:=.int .u64 x.toNat
def Cz:bT (BitVec 64):=fun _ _ c x=>c=U x
theorem jO:bT.Good Cz:=⟨fun _ h=>h,fun _ h=>h⟩
abbrev nZ:=Sl 8 Cz
theorem dU:bT.Good nZ:=oR jO
def uy:cO (ByteArray×Int):=fun _ _ cs x=>cs=[.string x.1,.int .i64 x.2]∧(Lit.int .i64 x.2).wf=true
theorem FM:cO.Good uy:=⟨fun _ h=>h,fun _ h=>h⟩
abbrev kh:=rx 2 24 uy
theorem aX:bT.Good kh:=cH FM
structure aH where
 MZ:List ByteArray
 up:List (BitVec 64)
 Nb:List (ByteArray×Int)
 Na:List (ByteArray×Int)
 Nc:Int
def dJ (S:Nat→Prop)(w:World)(v:Value)(p:aH):Prop:=
 ∃a b c d,v=.agg #[a,b,c,d,.int .i64 p.Nc]∧gB S w a p.MZ∧nZ S w b p.up∧kh S w c p.Nb∧kh S w d p.Na∧(Lit.int .i64 p.Nc).wf=true
theorem cB:bT.Good dJ:=by
 constructor
 ·rintro S w R v p k ⟨a,b,c,d,rfl,j,l,o,C,J⟩
  exact⟨a,b,c,d,rfl,ax.keep k j,dU.keep k l,aX.keep k o,aX.keep k C,J⟩
 rintro S T w v p k ⟨a,b,c,d,rfl,j,l,o,C,J⟩;exact⟨a,b,c,d,rfl,ax.wide k j,dU.wide k l,aX.wide k o,aX.wide k C,J⟩
def gJ {α:Type}(p:α→Bool)(l:List α):Int:=if l.any p then(l.findIdx p:Int) else-1
theorem lL {α:Type}{p:α→Bool}{l:List α}{k:Nat}{x:α}(C:l[k]? =some x)(h:p x=true)(o:∀y∈l.take k,p y=false):gJ p l=k:=by
 obtain⟨j,rfl⟩:=lS.1 C;have J:l.any p=true:=mW.2 ⟨_,eL j,h⟩;have R:l.findIdx p=k:=by rw[List.findIdx_eq j];exact⟨h,fun m hm=>o _ (List.mem_take_iff_getElem.2 ⟨m,by omega,rfl⟩)⟩
 unfold gJ;rw[ap J,R]
theorem lM {α:Type}{p:α→Bool}{l:List α}(j:∀y∈l,p y=false):gJ p l= -1:=by
 have o:l.any p=false:=List.any_eq_false.2 fun x C=>by rw[j x C];simp
 unfold gJ;rw[o];rfl
theorem kT {α:Type}(p:α→Bool)(l:List α): -1≤gJ p l∧gJ p l<(l.length:Int)+1:=by unfold gJ;have:=List.findIdx_le_length (xs:=l) (p:=p);split<;>omega
theorem pP {α:Type}{p:α→Bool}{l:List α}{k:Nat}{x:α}(C:l[k]? =some x)(h:p x=false)(o:∀y∈l.take k,p y=false):∀y∈l.take (k+1),p y=false:=by
 intro y j;rw[cU,C] at j;rcases eD.1 j with j|j;·exact o y j
 rw[show y=x by simpa using j];exact h
end Go.Proofs.YtncdbjponknakaaGreatDoor
