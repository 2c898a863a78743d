/- Part 21 of the proof of CallsTo (its last part says what is proved). No condition. -/
import Derived.Test.YtceloincoomjeaaGreatDoorK19
namespace Go.Proofs.YtceloincoomjeaaGreatDoor
set_option maxRecDepth 100000
set_option maxHeartbeats 8000000
open Go.RowKit Go.Proofs.Tryz
theorem Ap (S:Nat→Prop)(R:Value)(j:List Int)(x:Int)(w:World)(Y:aK S w R j):
 Calls prog 186 #[R,.int .i64 x] w fun e Z=>(∃r:Int,e=.returned (.int .i64 r)∧decide (0≤r)=pB (x∈j))∧w=Z:=by
 obtain⟨a,cap,rfl,h1,h2,_,h⟩:=Y;have H:=oH h;clear h;go_enter func186,ntmps186;go_wp2;go_loopg [8] j.length (fun g s wr=>∃k:Nat,k≤j.length∧g=j.length-k∧s=.int .i64 k∧wr=w∧x∉j.take k);·exact⟨0,by omega,by omega,rfl,rfl,by simp⟩
 obtain⟨k,hk,rfl,rfl,rfl,l⟩:=hrel;by_cases o:k<j.length;·(
 obtain⟨b,off,c,rfl,hs,hc,rfl,hw⟩:=H.out k j[k] (lG o);obtain⟨y,I⟩:=eR (j[k]);rw[I] at hc;have hm:y∈j:=I▸eL o;have C:j.take (k+1)=j.take k++[y]:=by rw[cU,lG o,I];rfl
 by_cases e:x=y
 ·have te:(x==y)=true:=by rw[cy];exact e
  have J:=oH (show pB (x∈j)=true from av (e▸hm));clear I hm l e C;go_wp2_with fail;go_ret;exact⟨⟨k,rfl,by rw[J.out];simp⟩,rfl⟩
 have te:(x==y)=false:=by rw[bE];exact e
 have J:=oH (show x∉j.take (k+1) by rw[C];simp[l,e]);clear I hm l e C;go_wp2_with fail;go_roundg (j.length-(k+1));·exact⟨k+1,by omega,rfl,by go_num,rfl,J.out⟩
 omega)
 obtain rfl:k=j.length:=by omega
 rw[dZ] at l;have J:=oH (show pB (x∈j)=false from au l);clear l;go_wp2_with fail;go_ret;exact⟨⟨-1,rfl,by rw[J.out];decide⟩,rfl⟩
theorem ui (S:Nat→Prop)(l:Value)(j:List Int)(x:Int)(w:World)(I:aK S w l j):
 Calls prog 161 #[l,.int .i64 x] w fun e J=>e=.returned (.bool (pB (x∈j)))∧w=J:=by
 have H:=oH (Ap S l j x w I);obtain⟨a,cap,rfl,h1,h2,_,h⟩:=I;clear h;go_enter func161,ntmps161;go_wp2_with fail;refine H.out.mono ?_;rintro e J ⟨⟨r,rfl,R⟩,hw⟩;have o:=hw.symm;subst o;obtain⟨p,C⟩:=eR (pB (x∈j));rw[C] at R;have Y:=oH C;clear C;have Z:decide (r≥0)=p:=R;go_wp2_with fail;go_ret;exact⟨by rw[Y.out];rfl,rfl⟩
theorem Dl (S:Nat→Prop)(ll:List (List Int))(R:Value)(t:Nat→Int)(pl:Nat→Nat)(i:Nat)(w:World)(Z:aK S w R (lV ll.length t))(T:mz ll t pl)(hl:ll.length≤256)(hi:i<ll.length):
 Calls prog 187 #[R,.int .i64 i] w fun e w'=>e=.returned (.bool true)∧w=w':=by
 obtain⟨a,cap,rfl,h1,h2,h3,h⟩:=Z;rw[nW] at h1 h3⊢;have H:=J2 h T;have t0:=T.good.zero;have o:=T.ord.lt i hi;clear h T;obtain⟨b0,o0,c0,rfl,_,C,rfl,_⟩:=H.1 0 (t 0) (tQ (by omega));rw[t0,dj] at C;clear t0;go_enter func187,ntmps187;go_wp2;go_loopg [1,5] ll.length (fun g x s wr=>∃m j:Nat,m<ll.length∧g=ll.length-m∧s=.int .i64 m∧x=.int .i64 j∧wr=w∧j<ll.length∧pl j+m<ll.length);·exact⟨0,i,by omega,by omega,rfl,rfl,rfl,hi,by omega⟩
 obtain⟨m,j,hm,rfl,rfl,rfl,rfl,Y,a1⟩:=hrel;by_cases l:j=0
 ·have te:((j:Int)==0)=true:=by rw[cy];omega
  clear l;go_wp2_with fail;go_ret;exact⟨rfl,rfl⟩
 have te:((j:Int)==0)=false:=by rw[bE];omega
 obtain⟨p,o,I,a6⟩:=H.2.up Y l;obtain⟨b1,o1,c1,e1,_,J,rfl,_⟩:=H.1 j (t j) (tQ Y);cases e1;rw[o] at J;have tp:decide ((p:Int)<0)=false:=by simp
 clear o l;go_wp2_with fail;go_roundg (ll.length-(m+1));·exact⟨m+1,p,by omega,rfl,by go_num,rfl,rfl,I,by omega⟩
 omega
theorem CI (S:Nat→Prop)(ll:List (List Int))(va:Value)(t:Nat→Int)(pl:Nat→Nat)(i:Nat)(w:World)(ha:aK S w va (lV ll.length t))(T:mz ll t pl)(hl:ll.length≤256)(hi:i<ll.length):
 Calls prog 162 #[va,.int .i64 i] w fun e w'=>∃u,e=.returned u∧aa All w w'∧aK (fun b=>w.heap.size≤b) w' u ((oJ ll.length t i).map fun(n:Nat)=>(n:Int)):=by
 obtain⟨i3,b0,b2,b3,b4⟩:=info_parts kt;have I3:=J4 b0 b2 b3 b4;clear b0 b2 b3 b4;have Z:=fun k (hk:k<ll.length)=>Dl S ll va t pl k w ha T hl hk;have a1:=ah.la ha;obtain⟨a,cap,rfl,h1,h2,h3,h⟩:=ha;rw[nW] at h1 h3 Z a1⊢;have hp:=T.ord.lt i hi;obtain⟨C,hC⟩:=eR (oJ ll.length t i);have b6:C.length≤ll.length+1:=by rw[←hC];exact uL t _ _
 have b5:∀x∈C,x<ll.length:=fun x hx=>by rw[←hC,oJ,uM T.good x _ i hi (Nat.le_of_lt (T.ord.lt i hi))] at hx;exact(oL T.good hi hx).1
 rw[hC];have H:=J5 Z T a1 hC b5;clear h T Z a1 hC b5;have tl:decide ((ll.length:Int)<1)=false:=by simp;omega
 have b7:decide ((ll.length:Int)>256)=false:=by simp;omega
 have ti:decide ((i:Int)<0)=false:=by simp
 have b8:decide (ll.length≤i)=false:=by simp;omega
 have b9:decide ((i:Int)≥(ll.length:Int))=false:=by simp;omega
 go_enter func162,ntmps162;go_wp2_with fail;clear tl b7 ti b9 b8;go_loopg [27] ll.length (fun g s wr=>∃k:Nat,k≤ll.length∧g=ll.length-k∧s=.int .i64 k∧wr=w);·exact⟨0,by omega,by omega,rfl,rfl⟩
 obtain⟨k,hk,rfl,rfl,hw⟩:=hrel;have a6:=hw.symm;subst a6;by_cases c0:k<ll.length
 ·have HL:=oH (H.1 k c0);go_wp2_with fail;refine HL.out.mono ?_;rintro e w' ⟨rfl,hw⟩;have a6:=hw.symm;subst a6;go_wp2_with fail;go_roundg (ll.length-(k+1));·exact⟨k+1,by omega,rfl,by go_num,rfl⟩
  omega
 obtain rfl:k=ll.length:=by omega
 go_wp2_with fail;go_loopg [1,6] (ll.length+1) (fun g x o wr=>∃L:List Nat,((∃j f:Nat,x=.int .i64 j∧j<ll.length∧pl j≤f∧f≤ll.length∧L++kp t f j=C∧g=f+1)∨(x=.int .i64 (-1)∧L=C∧g=0))∧aa All w wr∧wr.ownsRow w.heap.size 3 1 o L.length (aI (L.map fun(n:Nat)=>(n:Int))));·exact⟨[],.inl ⟨i,ll.length,rfl,hi,by omega,cf _,H.2.2.2.1,rfl⟩,kR,rfl,.inl ⟨rfl,rfl⟩⟩
 obtain⟨L,c2,J,I⟩:=hrel;rcases c2 with ⟨j,f,rfl,hj,c7,hf,hL,rfl⟩|⟨rfl,rfl,rfl⟩;·(
 have c8:L.length≤1000:=by have:=congrArg List.length hL;rw[iQ] at this;omega
 obtain⟨b1,o1,c1,rfl,_,a7,rfl,_⟩:=bn (i:=j) (x:=t j) (H.2.2.1 w kR) (tQ hj);have c3:=jy w _ a7;have a8:(wr.alloc (.cells #[.int .i64 j] 3)).ownsRow w.heap.size 3 1 u6 L.length (aI (L.map fun(n:Nat)=>(n:Int))):=be I ((aa.refl All wr).alloc _) (fun _ _=>trivial);have hB:=J.size;have tj:decide ((j:Int)≥0)=true:=by simp
 have c9:decide ((0:Int)≤(j:Int))=true:=by simp
 obtain⟨y,hy⟩:=eR (t j);rw[hy] at a7;have HT:=J3 J hL hy;clear hL hy;go_wp2_with (
  at_builtin;refine aR _ rfl (.tmp 41) (.tmp 43) 50 rfl w.heap.size 3 i3 _ 1 8 underlying50 I3.1 I3.2.1 I3.2.2.1 I3.2.2.2 rfl (by decide) _ _ _ rfl a8 (some ⟨wr.heap.size,0,none⟩) 1 1 [.int .i64 j] rfl rfl ?_ ?_ (by unfold maxLen;omega) (by omega) (by simp;omega) ?_;·intro _;exact⟨_,_,rfl,fun j u hu=>by rw[cN,al.cell (al.new _ _ _)];simpa using hu⟩
  ·intro u hu
   rw[cx.1 hu];rfl
  intro v2 w2 l c4 c6;have R:aa (fun b=>b<w.heap.size) w w2:=((J.alloc _).all).grown c4 fun g hg=>.inl (by have:=(aD I hg).1;show¬(g<w.heap.size);omega);have d7:=R.cell (p:=⟨b1,o1+j,none⟩) c3 a7)
 by_cases d8:y<0;·(
 have e1:y= -1:=by have:=H.2.1.good.neg j hj;have:=HT.2.2;omega
 subst e1;have Y:=J2 R l;clear R l;go_wp2_with fail;go_roundg 0
 ·refine⟨L++[j],.inr ⟨rfl,?_,rfl⟩,am Y.1,?_⟩
  ·rw[←HT.2.1];cases f with
   |zero=>rfl
   |succ f=>rw[kp,HT.2.2,ap (by decide)]
  simpa [aI] using Y.2
 omega)
 obtain⟨p,hp,c5,d9,_⟩:=H.2.1.good.low j hj (by have:=HT.2.2;omega);rw[HT.2.2] at hp;subst hp;obtain⟨f',rfl⟩:∃f',f=f'+1:=⟨f-1,by omega⟩;have Y:=J2 R l;clear R l;go_wp2_with fail;go_roundg (f'+1)
 ·refine⟨L++[j],.inl ⟨p,f',rfl,c5,by omega,by omega,?_,rfl⟩,am Y.1,?_⟩
  ·rw[←HT.2.1,kp,HT.2.2,ae (by omega),dP,jM];rfl
  simpa [aI] using Y.2
 omega)
 have Y:=J2 J I;have e0:L.length≤ll.length+1:=b6;clear J I;go_wp2_with fail;go_ret;refine⟨_,rfl,Y.1,jr Y.2 (by rw[ce]) (by rw[ce];omega) (fun g hg=>(aD Y.2 hg).1) fun x hx=>?_⟩;obtain⟨n,hn,rfl⟩:=dr.1 hx;exact tT (by have:=H.2.2.2.2 n hn;omega)
theorem uk (S:Nat→Prop)(ll:List (List Int))(o:Value)(t:Nat→Int)(pl:Nat→Nat)(a i:Nat)(w:World)(R:aK S w o (lV ll.length t))(T:mz ll t pl)(Y:ll.length≤256)(hi:i<ll.length):
 Calls prog 118 #[o,.int .i64 a,.int .i64 i] w fun e Z=>e=.returned (.bool (pB (¬gA (dH ll) a i)))∧aa All w Z:=by
 have H:=oH (CI S ll o t pl i w R T Y hi);have j:=zP T (x:=a) hi;have e:pB ((a:Int)∈(oJ ll.length t i).map fun(n:Nat)=>(n:Int))=pB (¬gA (dH ll) a i):=by congr 1;rw[eq_iff_iff,←j,dr];exact⟨fun⟨n,hn,e⟩=>Int.ofNat.inj e▸hn,fun h=>⟨a,h,rfl⟩⟩
 have HE:=oH e;obtain⟨A,cap,rfl,h1,h2,_,h⟩:=R;clear h j e T;go_enter func118,ntmps118;go_wp2_with fail;refine H.out.mono ?_;rintro e w1 ⟨u,rfl,l,hu⟩;have C:=ui _ u _ a w1 hu;obtain⟨q,I⟩:=eR (pB ((a:Int)∈(oJ ll.length t i).map fun(n:Nat)=>(n:Int)));rw[I] at C;have HC:=oH C;have HQ:=oH I;clear C I;have HK:=oH l;clear l hu;go_wp2_with fail;refine HC.out.mono ?_;rintro e w2 ⟨rfl,hw⟩;have J:=hw.symm;subst J;go_wp2_with fail;go_ret;exact⟨by rw[←HE.out,HQ.out];rfl,HK.out⟩
section
section
variable {α:Type} {M:List (List α)}
def fe (M:List (List α))(k i:Nat):List α:=(M.take k).flatten++(M.getD k []).take i
theorem mt {k i:Nat}{l:List α}{y:α}(h:M[k]? =some l)(j:l[i]? =some y):fe M k (i+1)=fe M k i++[y]:=by unfold fe;rw[iG,h,Option.getD_some,cU,j,jM];rfl
theorem qK {k:Nat}{l:List α}(h:M[k]? =some l):fe M k l.length=fe M (k+1) 0:=by unfold fe;rw[iG,h,Option.getD_some,dZ,List.take_zero,List.append_nil,cU,h,List.flatten_append];simp
theorem qJ:fe M M.length 0=M.flatten:=by simp[fe]
theorem Ep {k i:Nat}{l:List α}{y:α}(h:M[k]? =some l)(j:l[i]? =some y):fe M k i++[y]<+:M.flatten:=by
 rw[←mt h j];refine⟨l.drop (i+1)++(M.drop (k+1)).flatten,?_⟩;unfold fe;rw[iG,h,Option.getD_some,jM,←jM (l.take (i+1)),List.take_append_drop];conv=>rhs;rw[kE h]
 rw[List.flatten_append,List.flatten_cons]
end
theorem kX {α β γ:Type}(f:β→γ)(g:Nat→α→β)(l:List α):(l.mapIdx g).map f=l.mapIdx fun i x=>f (g i x):=by apply List.ext_getElem?;intro i;rw[cL,jA,jA];cases l[i]?<;>rfl
abbrev iL:=Nat×Nat×bz
def cd (L:List (List bz)):List (List iL):=L.mapIdx fun i l=>l.mapIdx fun k x=>(i,k,x)
theorem nP {L:List (List bz)}{i:Nat}{l:List bz}(h:L[i]? =some l):(cd L)[i]? =some (l.mapIdx fun k x=>(i,k,x)):=by unfold cd;rw[jA,h];rfl
theorem wT {l:List bz}{i k:Nat}{x:bz}(h:l[k]? =some x):(l.mapIdx fun k x=>(i,k,x))[k]? =some (i,k,x):=by rw[jA,h];rfl
theorem Aq (L:List (List bz)):(cd L).length=L.length:=by simp[cd]
theorem nR {L:List (List bz)}{t:iL}:t∈(cd L).flatten↔∃l,L[t.1]? =some l∧l[t.2.1]? =some t.2.2:=by
 constructor;·intro h;obtain⟨r,j,o⟩:=List.mem_flatten.1 h;obtain⟨i,hi,rfl⟩:=List.mem_mapIdx.1 j;obtain⟨k,C,rfl⟩:=List.mem_mapIdx.1 o;exact⟨_,lG hi,lG C⟩
 rintro⟨l,I,J⟩;obtain⟨i,k,x⟩:=t;exact List.mem_flatten.2 ⟨_,mG (nP I),mG (wT J)⟩
theorem pE {f:Nat→Nat→bz→Int}{L:List (List bz)}:ls f L=(((cd L).flatten.map fun t=>(t.2.2.Nj,f t.1 t.2.1 t.2.2)).find? fun t=>decide (t.2≠0)).getD (0,0):=by unfold ls cd;rw[List.map_flatten,kX];congr 4;funext i l;rw[kX]
theorem CW {f:Nat→Nat→bz→Int}{L:List (List bz)}(h:∀t∈(cd L).flatten,f t.1 t.2.1 t.2.2=0):ls f L=(0,0):=by
 rw[pE,List.find?_eq_none.2];·rfl
 intro t j;obtain⟨u,hu,rfl⟩:=dr.1 j;simp[h u hu]
theorem Ah {f:Nat→Nat→bz→Int}{L:List (List bz)}{pre:List iL}{t:iL}(j:pre++[t]<+:(cd L).flatten)(h:∀u∈pre,f u.1 u.2.1 u.2.2=0)(l:f t.1 t.2.1 t.2.2≠0):ls f L=(t.2.2.Nj,f t.1 t.2.1 t.2.2):=by
 obtain⟨r,o⟩:=j;rw[pE,←o,jM,ic,List.singleton_append,List.map_cons,sB];·rfl
 ·intro y C
  obtain⟨u,hu,rfl⟩:=dr.1 C;simp[h u hu]
 simpa using l
def iV (pre:List iL)(v:Int):Int×Int:=match pre.find? (fun t=>decide (t.2.2.dst=v)) with|some t=>(t.1,t.2.1)|none=>(-1,-1)
theorem rA (pre:List iL)(v:Int):(iV pre v=(-1,-1)∧∀t∈pre,t.2.2.dst≠v)∨∃t∈pre,t.2.2.dst=v∧iV pre v=((t.1:Int),(t.2.1:Int)):=by
 unfold iV;cases h:pre.find? (fun t=>decide (t.2.2.dst=v)) with
 |none=>exact .inl ⟨rfl,fun t j=>by simpa using List.find?_eq_none.1 h t j⟩
 |some t=>exact .inr ⟨t,List.mem_of_find?_eq_some h,by simpa using List.find?_some h,rfl⟩
theorem uQ {pre:List iL}{t:iL}{v:Int}:iV (pre++[t]) v=if t.2.2.dst=v∧∀u∈pre,u.2.2.dst≠v then((t.1:Int),(t.2.1:Int)) else iV pre v:=by
 unfold iV;rw[List.find?_append];cases h:pre.find? (fun t=>decide (t.2.2.dst=v)) with
 |some u=>
  rw[ae];·rfl
  rintro⟨_,j⟩;exact j u (List.mem_of_find?_eq_some h) (by simpa using List.find?_some h)
 |none=>
  have l:∀u∈pre,u.2.2.dst≠v:=fun u hu=>by simpa using List.find?_eq_none.1 h u hu
  by_cases e:t.2.2.dst=v;·rw[ap ⟨e,l⟩];simp[e]
  rw[ae fun h=>e h.1];simp[e]
theorem BO {pre:List iL}{t:iL}{v:Int}(h:t.2.2.dst≠v):iV (pre++[t]) v=iV pre v:=by rw[uQ,ae fun h'=>h h'.1]
theorem Ft {pre:List iL}{t:iL}(h:∀u∈pre,u.2.2.dst≠t.2.2.dst):iV (pre++[t]) t.2.2.dst=((t.1:Int),(t.2.1:Int)):=by rw[uQ,ap ⟨rfl,h⟩]
theorem qr {b:aw}{v:Int}{i k:Nat}:jF b v i k↔∃x,(i,k,x)∈(cd b.Ng).flatten∧x.dst=v:=by
 constructor
 ·rintro⟨l,x,j,o,C⟩
  exact⟨x,nR.2 ⟨l,j,o⟩,C⟩
 rintro⟨x,h,C⟩;obtain⟨l,j,o⟩:=nR.1 h;exact⟨l,x,j,o,C⟩
def jp (b:aw):List (Int×Int):=(List.range b.vars.toNat).map fun v:Nat=>iV (cd b.Ng).flatten v
theorem Dj {L:List (List bz)}{pre:List iL}{t u:iL}(R:pre++[t]<+:(cd L).flatten)(hu:u∈pre):t.1≠u.1∨t.2.1≠u.2.1:=by
 refine Classical.byContradiction fun h=>?_;have o:t.1=u.1:=Classical.byContradiction fun e=>h (.inl e);have C:t.2.1=u.2.1:=Classical.byContradiction fun e=>h (.inr e);obtain⟨m,hm,I⟩:=List.getElem_of_mem hu;obtain⟨r,J⟩:=R;have Y:(cd L).flatten[m]? =some u:=by rw[←J,jM,ma hm,lG hm,I]
 have a2:(cd L).flatten[pre.length]? =some t:=by rw[←J,jM,kH (by omega)];simp
 obtain⟨i,k,l,Z,b2,b3⟩:=pF Y;obtain⟨j,n,l',c1,c2,c3⟩:=pF a2;have hi:∀ {i k:Nat} {l:List iL} {t:iL},(cd L)[i]? =some l→l[k]? =some t→t.1=i∧t.2.1=k:=by intro i k l t o C;unfold cd at o;rw[jA] at o;obtain⟨l0,_,rfl⟩:=oE.1 o;rw[jA] at C;obtain⟨x,_,rfl⟩:=oE.1 C;exact⟨rfl,rfl⟩
 obtain⟨d1,d2⟩:=hi Z b2;obtain⟨e1,e2⟩:=hi c1 c2;have:i=j:=by omega
 subst this;have:k=n:=by omega
 subst this;omega
theorem As {b:aw}(o:gY b){pre:List iL}{t u:iL}(j:pre++[t]<+:(cd b.Ng).flatten)(hu:u∈pre)(C:t.2.2.dst≠-1):u.2.2.dst≠t.2.2.dst:=by
 intro e;have I:t∈(cd b.Ng).flatten:=j.subset (eD.2 (.inr (cx.2 rfl)));have l:u∈(cd b.Ng).flatten:=j.subset (eD.2 (.inl hu));obtain⟨J,R⟩:=o.once t.2.2.dst t.1 t.2.1 u.1 u.2.1 C (qr.2 ⟨_,I,rfl⟩) (qr.2 ⟨_,l,e⟩);rcases Dj j hu with h|h;·exact h J
 exact h R
theorem vt (L:List (List bz)):(cd L).flatten.map (fun t=>t.2.2)=L.flatten:=by
 unfold cd;rw[List.map_flatten,kX];congr 1;apply List.ext_getElem?;intro i;rw[jA];cases h:L[i]? with
 |none=>rfl
 |some l=>show some _=some l;congr 1;show(l.mapIdx fun k x=>((i,k,x):iL)).map (fun t=>t.2.2)=l;rw[kX];apply List.ext_getElem?;intro k;rw[jA];cases l[k]?<;>rfl
theorem xY (l r:List bz):og (l++r)=og l+og r:=by simp[og]
theorem xZ (x:bz):og [x]=if x.dst= -1 then 0 else 1:=by
 unfold og;by_cases h:x.dst= -1;·simp[h]
 simp[h]
end
section
open Go.RowKit Go.Shelf
attribute [local go_sem] Oper.semAt_some
def Cj (x:bz)(a f:Value):List Value:=[.int .u8 x.kind,.int .u8 x.op,.int .i64 x.dst,.int .i64 x.ref,.int .i64 x.Ni,a,f,.int .i64 x.num,.int .i64 x.Nj]
structure BE (S:Nat→Prop)(w0:World)(B1:Option Addr)(L:List (List bz))(A F:Nat→Nat→Value):Prop where
 row:∀(k:Nat) l,L[k]? =some l→∃rb ro Ak ck,B1=some ⟨rb,ro,none⟩∧S rb∧w0.cell? ⟨rb,ro+k,none⟩=some (.slice Ak l.length ck)∧l.length≤maxLen∧
  ∀(i:Nat) x,l[i]? =some x→∃xb xo,Ak=some ⟨xb,xo,none⟩∧S xb∧∀(j:Nat) c,(Cj x (A k i) (F k i))[j]? =some c→w0.cell? ⟨xb,xo+i*9+j,none⟩=some c
 ints:∀(k:Nat) l,L[k]? =some l→∀(i:Nat) x,l[i]? =some x→aK S w0 (A k i) x.args∧aK S w0 (F k i) x.Nh∧jx x
theorem vw {S:Nat→Prop}{w:World}{B1:Option Addr}{n d:Nat}{L:List (List bz)}(h:bW S w (.slice B1 n d) L):∃A F,BE S w B1 L A F:=by
 have hc:∀k i:Nat,∃af:Value×Value,∀l x,L[k]? =some l→l[i]? =some x→aK S w af.1 x.args∧aK S w af.2 x.Nh∧jx x∧
  ∃rb ro Ak ck,B1=some ⟨rb,ro,none⟩∧w.cell? ⟨rb,ro+k,none⟩=some (.slice Ak l.length ck)∧∃J xo,Ak=some ⟨J,xo,none⟩∧S J∧∀(j:Nat) c,(Cj x af.1 af.2)[j]? =some c→w.cell? ⟨J,xo+i*9+j,none⟩=some c:=by
  intro k i;cases hk:L[k]? with
  |none=>exact⟨(.nilFunc,.nilFunc),fun l x h=>by cases h⟩
  |some l=>
   cases hi:l[i]? with
   |none=>refine⟨(.nilFunc,.nilFunc),fun l' x h R=>?_⟩;cases h;rw[hi] at R;cases R
   |some x=>obtain⟨rb,ro,rv,e,_,o,C⟩:=bn h hk;obtain⟨Ak,ck,rfl,_⟩:=id C;obtain⟨J,xo,cs,e2,Y,_,Z,a,f,rfl,h1,R,h3⟩:=aZ C hi;refine⟨(a,f),fun l' x' h h'=>?_⟩;cases h;rw[hi] at h';cases h';exact⟨h1,R,h3,rb,ro,Ak,ck,e,o,J,xo,e2,Y,Z⟩
 obtain⟨g,hg⟩:=Classical.axiomOfChoice fun k=>Classical.axiomOfChoice (hc k);refine⟨fun k i=>(g k i).1,fun k i=>(g k i).2,⟨fun k l hk=>?_,fun k l hk i x hi=>?_⟩⟩;·obtain⟨rb,ro,rv,e,hS,o,C⟩:=bn h hk;obtain⟨Ak,ck,rfl,h1,R,_⟩:=id C;refine⟨rb,ro,Ak,ck,e,hS,o,by omega,fun i x hi=>?_⟩;obtain⟨_,_,_,a1,a6,a7,a8,e',I,J,xo,e2,Y,Z⟩:=hg k i l x hk hi;rw[e] at e';cases e';rw[o] at I;cases I;exact⟨J,xo,e2,Y,Z⟩
 obtain⟨h1,R,h3,_⟩:=hg k i l x hk hi;exact⟨h1,R,h3⟩
def iJ (S:Nat→Prop)(w0 W:World):Prop:=∀(b i:Nat) v,S b→w0.cell? ⟨b,i,none⟩=some v→W.cell? ⟨b,i,none⟩=some v
def jU (S:Nat→Prop)(w0 A B:World):Prop:=iJ S w0 A→iJ S w0 B
section
variable {S:Nat→Prop} {w0 W W':World}
theorem iJ.refl (S:Nat→Prop)(w0:World):iJ S w0 w0:=fun _ _ _ _ h=>h
theorem iJ.kept (h:iJ S w0 W)(k:aa S W W'):iJ S w0 W':=fun b i v j l=>k.cell (p:=⟨b,i,none⟩) j (h b i v j l)
theorem iJ.below {w:World}(h:iJ S w0 w)(l:Below w.heap.size w W):iJ S w0 W:=fun b i v o C=>by have j:=h b i v o C;exact(l.cell (p:=⟨b,i,none⟩) (jy w _ j)).trans j
theorem Dd {l:Nat}{o I:Obj}(J:W.heap[l]? =some o)(R:o.isCells=false):jU S w0 W (W.putObj l I):=by
 intro h b i v Y Z;have j:=h b i v Y Z;have C:b≠l:=by rintro rfl;unfold World.cell? at j;simp only[J] at j;cases o<;>first|(simp[Obj.isCells] at R;done)|(simp at j)
 rw[World.cell?_of_block (World.putObj_heap_other C)];exact j
theorem BY {A B C:World}(h:jU S w0 A B)(k:jU S w0 B C):jU S w0 A C:=fun j=>k (h j)
theorem BX (B:Nat):∀(W:World) (l:Nat) (o j:Obj),B≤l→W.heap[l]? =some o→o.isCells=false→o.isWalk=false→jU S w0 W (W.putObj l j):=fun _ _ _ _ _ C I _=>Dd C I
end
abbrev EK (L:List (List bz)):= {t:iL//∃l,L[t.1]? =some l∧l[t.2.1]? =some t.2.2}
theorem zk (par vars:Int)(j:Option Addr)(n d1:Nat)(w:World):Calls prog 56 #[.agg #[.int .i64 par,.int .i64 vars,.slice j n d1]] w fun e l=>
 e=.returned (.func (.func 85) #[] #[.pointer (some ⟨w.heap.size,0,none⟩)])∧l=w.alloc (.cells #[.int .i64 par,.int .i64 vars,.slice j n d1] 48):=by
 have o:∀(fn:Fn) (first cap:Array Value) (w:World),(Instr.makeFunc fn first cap).run prog w=.ok (.func fn first cap) w:=fun _ _ _ _=>rfl;go_enter func56,ntmps56;go_wp2;go_ret;exact⟨rfl,rfl⟩
theorem tM (n:Nat)(hn:1≤n)(S:Nat→Prop)(w0:World)(par vars:Int)(B1:Option Addr)(d1:Nat)(L:List (List bz))(A F:Nat→Nat→Value)(hI:BE S w0 B1 L A F)(hL:L.length≤64)(Bn:Nat)(w:World)(hh:iJ S w0 w)(hc:al w Bn 48 #[.int .i64 par,.int .i64 vars,.slice B1 L.length d1]):
 SeqStopsK Fence.wide n prog 85 #[.pointer (some ⟨Bn,0,none⟩)]
  (fun x:EK L=>#[Value.agg #[.int .i64 (x.1.1:Nat),.int .i64 (x.1.2.1:Nat)],Value.agg #[.int .u8 x.1.2.2.kind,.int .u8 x.1.2.2.op,.int .i64 x.1.2.2.dst,.int .i64 x.1.2.2.ref,.int .i64 x.1.2.2.Ni,A x.1.1 x.1.2.1,F x.1.1 x.1.2.1,.int .i64 x.1.2.2.num,.int .i64 x.1.2.2.Nj]])
  (jU S w0) (fun xs=>xs.map Subtype.val=(cd L).flatten) (fun pre=>pre.map Subtype.val<+:(cd L).flatten) (cd L).flatten.length w:=fun l J Jx W hW Y _ hY h0=>by
 have b8:W.cell? ⟨Bn,2,none⟩=some (.slice B1 L.length d1):=(hW.cell (p:=⟨Bn,2,none⟩) hc.lt).trans (hc.cell 2);have a6:=hh.below hW;have HL:=J4 a6 hY hI Y;clear a6 hY hW hh hc hI Y;refine callsIn_of_wp func85 rfl trivial ?_ rfl;simp only[ntmps85,List.size_toArray,kI,List.length_nil,Nat.reduceAdd,Nat.reduceSub,Array.replicate_succ,Array.replicate_zero,List.push_toArray,List.append_toArray,mF,List.cons_append];gi_wp2
 gi_loopw [10] (fun r wr=>∃(k:Nat) (pre:List (EK L)),k≤L.length∧r=.int .i64 k∧pre.map Subtype.val=fe (cd L) k 0∧J pre wr∧iJ S w0 wr) (fun r _=>L.length-(intOf r).toNat)
 ·exact⟨0,[],by omega,rfl,by simp[fe],h0,HL.1⟩
 obtain⟨k,pre,hk,rfl,o,Y,C⟩:=hrel;by_cases b9:k<L.length;·(
 obtain⟨row,I⟩:=eG b9;obtain⟨rb,ro,Ak,ck,rfl,a7,a8,c0,b0⟩:=HL.2.2.1.row k row I;have c4:=C rb (ro+k) _ a7 a8;unfold maxLen at c0;have R:=J5 I b0 o Y C;clear I b0 a8 a7 o Y C;gi_wp2
 gi_loopw [17] (fun r wr=>∃(i:Nat) (pre:List (EK L)),i≤row.length∧r=.int .i64 i∧pre.map Subtype.val=fe (cd L) k i∧J pre wr∧iJ S w0 wr) (fun r _=>row.length-(intOf r).toNat)
 ·exact⟨0,pre,by omega,rfl,R.2.2.1,R.2.2.2.1,R.2.2.2.2⟩
 obtain⟨i,pre,hi,rfl,o,Y,C⟩:=hrel;by_cases b1:i<row.length;·(
 obtain⟨x,hx⟩:=eG b1;obtain⟨xb,xo,rfl,b2,b3⟩:=R.2.1 i x hx;have Z:=fun j c hj=>C xb (xo+i*9+j) c b2 (b3 j c hj);have a1:=Ep (nP R.1) (wT hx);rw[←o] at a1;have b4:pre.length<(cd L).flatten.length:=by have:=a1.length_le;rw[iQ,ce,List.length_singleton] at this;omega
 have z0:=Z 0 _ rfl;have z1:=Z 1 _ rfl;have z2:=Z 2 _ rfl;have z3:=Z 3 _ rfl;have z4:=Z 4 _ rfl;have z5:=Z 5 _ rfl;have z6:=Z 6 _ rfl;have z7:=Z 7 _ rfl;have z8:=Z 8 _ rfl;rw[dj] at z0;obtain⟨i1,i2,_⟩:=HL.2.2.1.ints k row R.1 i x hx;obtain⟨aA,cA,eA,_⟩:=i1;obtain⟨aF,cF,eF,_⟩:=i2;rw[eA] at z5;rw[eF] at z6;have b5:aa All wr (wr.alloc (.cells #[.int .u8 x.kind,.int .u8 x.op,.int .i64 x.dst,.int .i64 x.ref,.int .i64 x.Ni,.slice aA x.args.length cA,.slice aF x.Nh.length cF,.int .i64 x.num,.int .i64 x.Nj] 52)):=kR.alloc _;have b6:J pre (wr.alloc (.cells #[.int .u8 x.kind,.int .u8 x.op,.int .i64 x.dst,.int .i64 x.ref,.int .i64 x.Ni,.slice aA x.args.length cA,.slice aF x.Nh.length cF,.int .i64 x.num,.int .i64 x.Nj] 52)):=HL.2.2.2 _ _ _ none Y (World.grownBy_alloc wr _ none) (fun r e=>by cases e);obtain⟨fn,tmps,assign,body,hy,hR⟩:=HL.2.1 pre ⟨(k,i,x),row,R.1,hx⟩ _ b6 b4;dsimp only at hy;rw[eA,eF] at hy;have HX:=J4 (C.kept b5.all) o a1 hx;clear b6 b5 Z b3 b2 o a1 Y eA eF;gi_wp2;refine hR.mono ?_;rintro e W3 (⟨rfl,c1,c2⟩|⟨rfl,b7⟩)
 ·have c3:=c2 HX.1;gi_wp2
  go_roundw
  case rel=>exact⟨i+1,pre++[⟨(k,i,x),row,R.1,hx⟩],by omega,by simp,by rw[mt (nP R.1) (wT hx),ic,HX.2.1];rfl,c1,c3⟩
  case measure=>simp[intOf];omega
 gi_wp2;refine bodyPost_ret (results_none rfl _ _ _) rfl ?_;exact⟨⟨_,rfl⟩,.inr ⟨pre++[⟨(k,i,x),row,R.1,hx⟩],by rw[ic];exact HX.2.2.1,b7⟩⟩)
 obtain rfl:i=row.length:=by omega
 have HE:=oH (show pre.map Subtype.val=fe (cd L) (k+1) 0 by rw[o,←qK (nP R.1),List.length_mapIdx]);clear o;gi_wp2
 go_roundw
 case rel=>exact⟨k+1,pre,by omega,by simp,HE.out,Y,C⟩
 case measure=>simp[intOf];omega)
 obtain rfl:k=L.length:=by omega
 have HE:=oH (show pre.map Subtype.val=(cd L).flatten by rw[o,←Aq L,qJ]);clear o;gi_wp2
 go_end0
 exact⟨⟨_,rfl⟩,.inl ⟨pre,HE.out,Y⟩⟩
end
section
open Go.RowKit Go.Shelf
attribute [local go_sem] Oper.semAt_some
theorem lW {F:Fence}{n:Nat}{P:Program}{α:Type}{g:Operand}{ps:Array Tmp}{assign body:Code}{Q:Exit→Act→World→Prop}{a:Act}{w:World}
 (b5:F.round=none) (h1:1≤n) {gf:Nat} {lb:Array Value} (hg:a.eval g=.func (.func gf) #[] lb) (b6:F.fn gf) (eg:∀args w,(callFunc gf args).run P w=.ok (.enter gf args) w)
 {j:α→Array Value} {Z:World→World→Prop} {S Sp:List α→Prop} {N:Nat} {w0:World} (a8:SeqStopsK F (n-1) P gf lb j Z S Sp N w0)
 (b0:∀ {A B C:World},Z A B→Z B C→Z A C) (b7:∀(W:World) (l:Nat) (o o':Obj),w.heap.size≤l→W.heap[l]? =some o→o.isCells=false→o.isWalk=false→Z W (W.putObj l o')) (b3:∀(W:World) (o:Obj),Z W (W.alloc o)) (b8:Below w0.heap.size w0 w) (b9:∀x,(j x).size=ps.size)
 (I:List α→World→Prop) (Ix:Code→List α→World→Prop) (hI:OwnFrom w.heap.size I) (c0:∀c,OwnFrom w.heap.size (Ix c)) (b4:∀pre W,I pre W→w.heap.size≤W.heap.size) (h0:I [] w) (q1 q2:Nat) (t1 t2:TypeId) (c1 c2:α→Array Value)
 (Y:∀(l:Nat) (x:α) (W:World) (K:Act→World→Prop),
  K {tmps:=(((ps.zip (j x)).foldl (fun t (p,v)=>t.setIfInBounds p v) a.tmps).setIfInBounds q1 (.pointer (some ⟨W.heap.size,0,none⟩))).setIfInBounds q2 (.pointer (some ⟨W.heap.size+1,0,none⟩)),defers:=[]} ((W.alloc (.cells (c1 x) t1)).alloc (.cells (c2 x) t2))→
  assign.wpIn (F.inRound l) (n-1-1) P (Exit.then K (fun _ _ _=>False)) {tmps:=(ps.zip (j x)).foldl (fun t (p,v)=>t.setIfInBounds p v) a.tmps,defers:=[]} W)
 (a1:∀(l:Nat) (pre:List α) (x:α) (J R:Nat) (W:World),J≠R→w.heap.size≤J→w.heap.size≤R→al W J t1 (c1 x)→al W R t2 (c2 x)→I pre W→pre.length<N→
  body.wpIn (F.inRound l) (n-1-1) P (ownPostG w.heap.size Z I Ix (pre++[x]) W)
   {tmps:=(((ps.zip (j x)).foldl (fun t (p,v)=>t.setIfInBounds p v) a.tmps).setIfInBounds q1 (.pointer (some ⟨J,0,none⟩))).setIfInBounds q2 (.pointer (some ⟨R,0,none⟩)),defers:=[]} W)
 (a6:∀(D:Nat) (xs:List α) (W:World),w.heap.size≤D→S xs→I xs W→W.heap[D]? =some (.deferred (some []))→Q .normal {a with defers:= {target:=.collected D,args:=#[]}::a.defers} W)
 (a7:∀(D:Nat) (c:Code) (pre:List α) (W:World),w.heap.size≤D→Sp pre→Ix c pre W→W.heap[D]? =some (.deferred (some []))→c.wpIn F n P Q {a with defers:= {target:=.collected D,args:=#[]}::a.defers} W):
 (Code.rangeFunc g ps assign body).wpIn F n P Q a w:=
 wpIn_rangeFunc_ownH b5 h1 hg b6 eg a8 b0 b7 b8 b9 I Ix hI c0 h0
  (fun x a' W=>(∃J R,(J≠R∧w.heap.size≤J∧w.heap.size≤R∧a'= {tmps:=(((ps.zip (j x)).foldl (fun t (p,v)=>t.setIfInBounds p v) a.tmps).setIfInBounds q1 (.pointer (some ⟨J,0,none⟩))).setIfInBounds q2 (.pointer (some ⟨R,0,none⟩)),defers:=[]})∧al W J t1 (c1 x)∧al W R t2 (c2 x)))
  (fun x a' s A B row h hg hr=>by obtain⟨J,R,h1,h2,h3⟩:=h;exact⟨J,R,h1,iz (B:=w.heap.size) (cs:=fun _:Unit=>c1 x) s A B row h2 hg hr,iz (B:=w.heap.size) (cs:=fun _:Unit=>c2 x) s A B row h3 hg hr⟩)
  (fun l pre x W K hi hK=>Y l x W K (hK _ _ (((KeepsOthers.alloc _ _).trans (KeepsOthers.alloc _ _)).from _) (b0 (b3 _ _) (b3 _ _)) (hI.alloc _ (hI.alloc _ hi))
   ⟨W.heap.size,W.heap.size+1,⟨by omega,b4 _ _ hi,by have:=b4 _ _ hi;omega,rfl⟩,(al.new _ _ _).alloc _,ac (by simp)⟩))
  (fun l pre x a' W _ _ hi ⟨J,R,⟨h1,h2,h3,e⟩,h4,h5⟩ c3=>by rw[e];exact a1 l pre x J R W h1 h2 h3 h4 h5 hi c3)
  a6 a7
theorem Lt {S:Nat→Prop}{w:World}{v:Value}{l:List bz}(h:tZ S w v l):tZ (fun b=>b<w.heap.size) w v l:=by obtain⟨a,cap,o,C,I,J,h⟩:=h;refine⟨a,cap,o,C,I,J,fun i x R=>?_⟩;obtain⟨b,off,cs,e,hs,Y,j,Z,ff,rfl,h4,h5,h6⟩:=h i x R;exact⟨b,off,_,e,jy w _ (j 0 _ rfl),Y,j,Z,ff,rfl,kV h4,kV h5,h6⟩
theorem vJ {S:Nat→Prop}{w:World}{v:Value}{l:List (List bz)}(h:bW S w v l):bW (fun b=>b<w.heap.size) w v l:=by obtain⟨a,cap,o,C,I,J,h⟩:=h;refine⟨a,cap,o,C,I,J,fun i x R=>?_⟩;obtain⟨b,off,c,e,Z,j,Y⟩:=h i x R;exact⟨b,off,c,e,jy w _ j,j,Lt Y⟩
def AM (f:Nat→Int×Int)(j:Nat):Int:=if j%2=0 then(f (j/2)).1 else(f (j/2)).2
theorem GI (f:Nat→Int×Int)(v:Nat):AM f (v*2)=(f v).1:=by unfold AM;rw[ap (by omega),Nat.mul_div_cancel _ (by omega)]
theorem GJ (f:Nat→Int×Int)(v:Nat):AM f (v*2+1)=(f v).2:=by unfold AM;rw[ae (by omega),show(v*2+1)/2=v by omega]
theorem Lw {f g:Nat→Int×Int}{v j:Nat}(h:∀u,u≠v→f u=g u)(l:j≠v*2)(o:j≠v*2+1):AM f j=AM g j:=by unfold AM;rw[h (j/2) (by omega)]
theorem JE {n v:Nat}{f g:Nat→Int×Int}(h:∀u,u≠v→g u=f u):((aN (n*2) (AM f)).setIfInBounds (v*2) (.int .i64 (g v).1)).setIfInBounds (v*2+1) (.int .i64 (g v).2)=aN (n*2) (AM g):=by
 rw[fZ,fZ];refine ex fun j _=>?_;unfold lu;by_cases l:j=v*2+1;·rw[ap l,l,GJ]
 rw[ae l];by_cases o:j=v*2;·rw[ap o,o,GI]
 rw[ae o];exact Lw (fun u hu=>(h u hu).symm) o l
theorem FU:(prog.info? 107).map (fun i=>(i.zero,i.size,i.bytes))=some (some (.agg #[.int .i64 0,.int .i64 0]),2,16):=by kernel_rfl
theorem Gi (n:Nat)(J:n≤1048576)(w:World):(Instr.makeSlice 99 (.int .i64 n) (.int .i64 n)).run prog w=.ok (.slice (some ⟨w.heap.size,0,none⟩) n n) (w.alloc (.cells (aN (n*2) fun _=>0) 107)):=by
 obtain⟨i3,hi,o,C,I⟩:=info_parts FU;rw[run_make (P:=prog) w 99 107 i3 _ underlying99 hi o .i64 .i64 n n (by omega) (by omega) (by rw[I];omega) (by omega)];have e:madeCells (Value.agg #[.int .i64 0,.int .i64 0]).cells ((n:Int).toNat*i3.size)=aN (n*2) fun _=>0:=by(
 rw[C,dP];apply Array.ext_getElem?;intro j;by_cases l:j<n*2
 ·rw[bI l]
  rcases Nat.mod_two_eq_zero_or_one j with h|h<;>simp[madeCells,l,Value.cells,h]
 rw[jK (by rw[size_madeCells];omega),jK (by rw[kU];omega)])
 rw[e,dP]
end
end Go.Proofs.YtceloincoomjeaaGreatDoor
