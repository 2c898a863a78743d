/- Part 2 of the proof (its last part says what is proved). No condition. -/
import Derived.Laws.EntriesVeiled
import Derived.Test.YtccbbkopmlnkpaaGreatDoorK0
namespace Go.Proofs.YtccbbkopmlnkpaaGreatDoor
set_option maxRecDepth 100000
set_option maxHeartbeats 8000000
open Go.RowKit Go.Proofs.Tryz
theorem Eg (x:Value)(w:World):Calls prog 49 #[x] w fun e j=>e=.returned (.tuple #[])∧w=j:=by
 go_enter func49,ntmps49;go_wp2
 go_end0
 exact⟨rfl,rfl⟩
structure LF (ll:List (List Int))(v:Value)(bb bt bv bl g:Nat)(w:World):Prop where
 been:al w bb 49 #[.slice (some ⟨g,0,none⟩) ll.length ll.length]
 tou:al w bt 54 #[v]
 visit:al w bv 72 #[.func (.func 50) #[] #[.pointer (some ⟨bb,0,none⟩),.pointer (some ⟨bt,0,none⟩),.pointer (some ⟨bv,0,none⟩),.pointer (some ⟨bl,0,none⟩)]]
 tell:al w bl 72 #[.func (.func 49) #[] #[]]
 rows:Rows (fun b=>b≠g) w v ll
 ne:bb≠g∧bt≠g∧bv≠g∧bl≠g
theorem LF.keep {ll:List (List Int)}{v:Value}{j o C I g:Nat}{w J:World}(h:LF ll v j o C I g w)(k:aa (fun b=>b≠g) w J):LF ll v j o C I g J:=
 ⟨h.been.kept k h.ne.1,h.tou.kept k h.ne.2.1,h.visit.kept k h.ne.2.2.1,h.tell.kept k h.ne.2.2.2,aE.keep k h.rows,h.ne⟩
def Km (ll:List (List Int))(p q:Nat→Bool)(i:Nat):Prop:=
 (∀k,p k=true→q k=true)∧q i=true∧(∀k,q k=true→p k=true∨bm ll i k)∧(∀k,q k=true→p k=false→∀j,fd ll k j→q j=true)
theorem Ep (ll:List (List Int))(hR:bV ll)(v:Value)(bb bt bv bl g:Nat)(m:Nat):∀(i:Nat) (p:Nat→Bool) (w:World),Ib ll.length p≤m→i<ll.length→p i=false→LF ll v bb bt bv bl g w→al w g 4 (aQ ll.length p)→
 Calls prog 50 #[.int .i64 i,.pointer (some ⟨bb,0,none⟩),.pointer (some ⟨bt,0,none⟩),.pointer (some ⟨bv,0,none⟩),.pointer (some ⟨bl,0,none⟩)] w fun e w'=>
  e=.returned (.tuple #[])∧∃q,al w' g 4 (aQ ll.length q)∧aa (fun b=>b≠g) w w'∧Km ll p q i:=by
 induction m with
 |zero=>intro i p w hm hi hp;have:=lZ ll.length hi hp;omega
 |succ m ih=>
  intro i p w hm hi hp env C;have IH:=oH ih;clear ih;have hl:ll.length≤256:=hR.2.1;have b8:=nU hR hi;have b3:=fun j=>rC (ll:=ll) (j:=j) hi;have d8:ll[i].length≤256:=by have:=kh (hR.2.2 _ (jy hi));omega
  have c4:=oH env;obtain⟨a,cap,rfl,_,_,_,h⟩:=env.rows;obtain⟨b1,o1,c1,rfl,d9,c5,ra,e5,rfl,_,_,_,rh⟩:=h i ll[i] (lG hi);have a6:=cT (p:=p) hi;have h1:=env.been.cell 0;have h2:=env.tou.cell 0;have h4:=C.cell i;rw[a6,hp] at h4;have h5:=C.free i;simp only[gc] at h1 h2;have b6:aa (fun b=>b≠g) w (w.setCell ⟨g,i,none⟩ (.bool true)):=(aa.refl _ w).setCell (.inl fun h=>h rfl) _;have b4:al (w.setCell ⟨g,i,none⟩ (.bool true)) g 4 (aQ ll.length (rA p i)):=by rw[←it (p:=p) (i:=i) (b:=true) (fQ _ _) (fun j _ hj=>jL hj)];exact C.set _ _
  have a7:=c4.out.keep b6;have h6:=a7.tou.cell 0;simp only[gc] at h6;have h7:=b6.cell (p:=⟨b1,o1+i,none⟩) d9 c5;have e7:=lZ ll.length hi hp;have HF:=J7 b8 b3 rh hp b6 b4 a7;clear b8 b3 rh hp b6 b4 a7 C c5 h a6 env;generalize ll[i]=row at*;go_enter func50,ntmps50;go_wp2_with fail;clear h1 h2 h4 h5 h6 h7
  go_loopg [16] row.length (fun gg x wr=>∃(k:Nat) (q:Nat→Bool),k≤row.length∧gg=row.length-k∧x=.int .i64 k∧al wr g 4 (aQ ll.length q)∧aa (fun b=>b≠g) w wr∧
   (∀k,rA p i k=true→q k=true)∧(∀k,q k=true→p k=true∨bm ll i k)∧(∀k,q k=true→rA p i k=false→∀j,fd ll k j→q j=true)∧(∀(j:Nat) x,j<k→row[j]? =some x→q x.toNat=true))
  case atStart=>(
 refine⟨0,rA p i,by omega,by omega,rfl,HF.2.2.2.2.2.1,HF.2.2.2.2.1,fun _ h=>h,fun k hk=>?_,fun k h1 h2=>(by rw[h1] at h2;cases h2),fun j x hj=>by omega⟩;by_cases e:k=i;·subst e;exact .inr .refl
 rw[jL e] at hk;exact .inl hk)
  obtain⟨k,q,hk,rfl,rfl,C,Y,I,J,R,o⟩:=hrel;have HQ:=J4 I J R o;clear I J R o;have env:=c4.out.keep Y;by_cases b7:k<row.length;·(
 obtain⟨b2,o2,c2,rfl,e0,c6,rfl,e8⟩:=HF.2.2.1 k row[k] (lG b7);have e1:=Y.cell (p:=⟨b2,o2+k,none⟩) e0 c6;obtain⟨x0,x1⟩:=HF.1 row[k] (jy b7);have b9:row[k]∈row:=jy b7;have a6:row[k]? =some row[k]:=lG b7;have HM:=J2 b9 a6;clear b9 a6 c6;generalize row[k]=x at*;obtain⟨j,rfl⟩:∃j:Nat,x=j:=⟨x.toNat,by omega⟩;have c7:j<ll.length:=by omega
 have a8:wr.cell? ⟨g,j,none⟩=some (.bool (q j)):=by rw[C.cell,cT c7]
 have h1:=env.been.cell 0;have h3:=env.visit.cell 0;simp only[gc] at h1 h3;cases b0:q j with
 |true=>
  rw[b0] at a8;have c8:=oH b0;clear b0;go_wp2;go_roundg (row.length-(k+1));·(
 obtain⟨I,J,R,o⟩:=HQ.out;refine⟨k+1,q,by omega,rfl,by go_num,C,Y,I,J,R,fun a x ha hx=>?_⟩;by_cases e:a=k
 ·subst e
  rw[HM.2] at hx;cases hx;rw[fD];exact c8.out
 exact o a x (by omega) hx)
  omega
 |false=>
  rw[b0] at a8;have e6:=tT ll.length (fun a _ ha=>HQ.1 a ha);have b5:=IH.out j q wr (by omega) c7 b0 env C;have c0:=oH b5;have c8:=oH b0;clear b0 b5;go_wp2_with fail;refine c0.out.mono ?_;rintro e w' ⟨rfl,c9⟩;have e2:=oH c9;clear c9 a8 e1 h1 h3;go_wp2_with fail;go_roundg (row.length-(k+1));·(
 obtain⟨I,J,R,o⟩:=HQ.out;obtain⟨q',c3,e3,a1,a2,a3,a4⟩:=e2.out;have b3:fd ll i j:=(HF.2.1 j).2 HM.1;refine⟨k+1,q',by omega,rfl,by go_num,c3,Y.trans e3,fun a ha=>a1 a (I a ha),fun a ha=>?_,fun a ha hn b hb=>?_,fun a x ha hx=>?_⟩
 ·rcases a3 a ha with h|h
  ·exact J a h
  exact .inr (bm.head b3 h)
 ·cases d7:q a with
  |true=>exact a1 b (R a d7 hn b hb)
  |false=>exact a4 a ha d7 b hb
 by_cases e:a=k
 ·subst e
  rw[HM.2] at hx;cases hx;rw[fD];exact a2
 exact a1 _ (o a x (by omega) hx))
  omega)
  have h4:=env.tell.cell 0;simp only[gc] at h4;go_wp2_with (go_at_call 49;refine(Eg _ _).mono ?_;rintro e w' ⟨rfl,rfl⟩)
  go_end0
  obtain⟨I,J,R,o⟩:=HQ.out;refine⟨rfl,q,C,Y,fun a ha=>I a (oX _ _ _ ha),I i (fQ _ _),J,fun a ha hn b hb=>?_⟩;by_cases e:a=i;·subst e;have e4:=(HF.2.1 b).1 hb;obtain⟨c,hc,hx⟩:=List.getElem_of_mem e4;have:=o c (b:Int) (by omega) (by rw[lG hc,hx]);rwa [fD] at this
  exact R a ha (by rw[jL e];exact hn) b hb
theorem jZ {S:Nat→Prop}{w:World}{v:Value}{l:List Int}(h:bu S w v l):bu (fun b=>b<w.heap.size) w v l:=by obtain⟨a,cap,o,C,I,J,h⟩:=h;refine⟨a,cap,o,C,I,J,fun i x R=>?_⟩;obtain⟨b,off,c,e,Y,j,he⟩:=h i x R;exact⟨b,off,c,e,gx w _ j,j,he⟩
theorem lW {S:Nat→Prop}{w:World}{v:Value}{ll:List (List Int)}(h:Rows S w v ll):Rows (fun b=>b<w.heap.size) w v ll:=by obtain⟨a,cap,o,C,I,J,h⟩:=h;refine⟨a,cap,o,C,I,J,fun i x R=>?_⟩;obtain⟨b,off,c,e,Y,j,he⟩:=h i x R;exact⟨b,off,c,e,gx w _ j,j,jZ he⟩
def Ch (v:Value)(n:Nat)(w:World):World:=
 (((((w.alloc (.cells #[v] 54)).alloc (.cells #[.func (.func 49) #[] #[]] 72)).alloc (.cells (aQ n fun _=>false) 4)).alloc (.cells #[.slice (some ⟨w.heap.size+1+1,0,none⟩) n n] 49)).alloc
   (.cells #[.func (.func 50) #[] #[.pointer (some ⟨w.heap.size+1+1+1,0,none⟩),.pointer (some ⟨w.heap.size,0,none⟩),.pointer (some ⟨w.heap.size+1+1+1+1,0,none⟩),.pointer (some ⟨w.heap.size+1,0,none⟩)]] 72))
theorem ac {w:World}{t:TypeId}{cs:Array Value}{g:Nat}(h:g=w.heap.size):al (w.alloc (.cells cs t)) g t cs:=by subst h;exact al.new _ _ _
theorem Et {v:Value}{ll:List (List Int)}{w:World}(h:Rows (fun b=>b<w.heap.size) w v ll):
 LF ll v (w.heap.size+1+1+1) w.heap.size (w.heap.size+1+1+1+1) (w.heap.size+1) (w.heap.size+1+1) (Ch v ll.length w)∧al (Ch v ll.length w) (w.heap.size+1+1) 4 (aQ ll.length fun _=>false)∧aa All w (Ch v ll.length w):=by
 have j:aa All w (Ch v ll.length w):=((((kR.alloc _).alloc _).alloc _).alloc _).alloc _;refine⟨⟨?_,?_,?_,?_,?_,by omega⟩,?_,j⟩;·exact(ac (by simp)).alloc _
 ·exact((((al.new _ _ _).alloc _).alloc _).alloc _).alloc _
 ·exact ac (by simp)
 ·exact(((ac (by simp)).alloc _).alloc _).alloc _
 ·exact aE.wide (fun b o=>by omega) (aE.keep j.all h)
 exact((ac (by simp)).alloc _).alloc _
theorem Hs (S:Nat→Prop)(v:Value)(ll:List (List Int))(f:Nat)(w:World)(hv:Rows S w v ll)(hR:bV ll)(hf:f<ll.length):
 Calls prog 28 #[v,.int .i64 f,.func (.func 49) #[] #[]] w fun e w'=>∃u,e=.returned u∧aa All w w'∧qO (fun b=>w.heap.size≤b) w' u (gZ ll f):=by
 have J:=lW hv;have C:=Et J;obtain⟨a,cap,rfl,h1,h2,a8,h⟩:=hv;have hl:ll.length≤256:=hR.2.1;have R:=Ep ll hR _ _ _ _ _ _ _ f (fun _=>false) _ (bj _) hf rfl C.1 C.2.1;have HR:=J3 hR C R;clear h h1 h2 a8 hR J C R;have b0:=fun w=>pQ ll.length (by omega) w;go_enter func28,ntmps28;go_wp2_with fail;refine HR.2.2.mono ?_;rintro e w' ⟨rfl,q,I,o,Y⟩;have HA:=J3 I o Y;have a6:=HR.2.1.1.keep o;have hc:=a6.been.cell 0;simp only[gc] at hc;clear I o Y a6;go_wp2_with fail;go_ret;obtain⟨I,o,a1,a2,a3,a4⟩:=HA.out;have hk:aa (fun b=>b<w.heap.size) w w':=HR.2.1.2.2.all.trans (o.mono fun b hb=>by omega);refine⟨_,rfl,⟨hk.os,hk.output,hk.size,fun k a7 _=>hk.block k a7 a7⟩,nB I (by omega) hl fun k a7=>?_⟩;apply qE;refine⟨fun h=>by rcases a3 k h with h|h;cases h;exact h,fun hr=>?_⟩;exact lV a2 (fun i hi j hj=>a4 i hi rfl j hj) k hr
theorem yQ (S:Nat→Prop)(v:Value)(ll:List (List Int))(f:Nat)(w:World)(R:Rows S w v ll)(J:bV ll)(hf:f<ll.length):
 Calls prog 27 #[v,.int .i64 f] w fun e w'=>∃u,e=.returned u∧aa All w w'∧qO (fun b=>w.heap.size≤b) w' u (gZ ll f):=by
 have j:=ib S v ll w R;rw[be J] at j;have o:=fun Y (hk:aa All w Y)=>Hs S v ll f Y (aE.keep hk.all R) J hf;obtain⟨a,cap,rfl,h1,h2,a1,h⟩:=R;have hl:ll.length≤256:=J.2.1;have d1:decide ((f:Int)<0)=false:=by simp
 have d2:decide ((ll.length:Int)≤f)=false:=by simp;omega
 have HR:=J2 j o;clear h h1 h2 a1 J j o;go_enter func27,ntmps27;go_wp2_with fail;refine HR.1.mono ?_;rintro e Y ⟨rfl,C⟩;have HK:=oH C;clear C;go_wp2_with fail;refine(HR.2 _ HK.out).mono ?_;rintro e w2 ⟨u,rfl,I,hb⟩;have HB:=J2 I hb;clear I hb;go_wp2_with fail;go_ret;exact⟨u,rfl,HK.out.trans HB.1,uZ.wide (fun b hb=>by have:=HK.out.size;omega) HB.2⟩
def oe (a b r:Int):Bool:=decide (a≤r)&&decide (r≤b)
def fj (r:Int):Bool:=oe 97 122 r||oe 65 90 r||r==95||oe 945 969 r||(oe 913 937 r&&r !=930)
def ey (r:Int):Bool:=oe 48 57 r
theorem xH (a b r:Int)(g:Nat)(w:World)(j:al w g 21 #[.int .i32 r]):
 Calls prog 240 #[.int .i32 a,.int .i32 b,.pointer (some ⟨g,0,none⟩)] w fun e o=>e=.returned (.bool (oe a b r))∧w=o:=by
 have C:=j.cell 0;simp only[gc] at C;unfold oe;by_cases I:a≤r
 ·go_enter func240,ntmps240
  go_wp2;go_ret;exact⟨by simp[I],rfl⟩
 go_enter func240,ntmps240;go_wp2;go_ret;exact⟨by simp;omega,rfl⟩
theorem nE (r:Int)(w:World):Calls prog 183 #[.int .i32 r] w fun e j=>e=.returned (.bool (ey r))∧w=j:=by
 unfold ey oe;by_cases o:48≤r
 ·go_enter func183,ntmps183
  go_wp2;go_ret;exact⟨by simp[o],rfl⟩
 go_enter func183,ntmps183;go_wp2;go_ret;exact⟨by simp;omega,rfl⟩
theorem sN (r:Int)(w:World):Calls prog 211 #[.int .i32 r] w fun e j=>e=.returned (.bool (fj r))∧aa All w j:=by
 have hk:∀o o2,aa All w ((w.alloc o).alloc o2):=fun o o2=>((aa.refl _ w).alloc o).alloc o2;have a1:∀o,aa All w (w.alloc o):=fun o=>(aa.refl _ w).alloc o;have a6:=fun a b w1 (hb:al w1 w.heap.size 21 #[.int .i32 r])=>xH a b r w.heap.size w1 hb;have R:=oH a6;have Y:=J2 hk a1;clear a6 hk a1;unfold fj;cases h:oe 97 122 r with
 |true=>have H1:=oH h;clear h;go_enter func211,ntmps211;go_wp2_with (go_at_call 240;refine(R.out _ _ _ (al.new _ _ _)).mono ?_;rintro e j ⟨rfl,rfl⟩;first|rw[H1.out]|rw[C.out]|rw[I.out]|rw[J.out]);go_ret;exact⟨rfl,Y.2 _⟩
 |false=>
  have H1:=oH h;clear h;cases h:oe 65 90 r with
  |true=>have C:=oH h;clear h;go_enter func211,ntmps211;go_wp2_with (go_at_call 240;refine(R.out _ _ _ (al.new _ _ _)).mono ?_;rintro e j ⟨rfl,rfl⟩;first|rw[H1.out]|rw[C.out]|rw[I.out]|rw[J.out]);go_ret;exact⟨rfl,Y.2 _⟩
  |false=>
   have C:=oH h;clear h;cases h:r==95 with
   |true=>go_enter func211,ntmps211;go_wp2_with (go_at_call 240;refine(R.out _ _ _ (al.new _ _ _)).mono ?_;rintro e j ⟨rfl,rfl⟩;first|rw[H1.out]|rw[C.out]|rw[I.out]|rw[J.out]);go_ret;exact⟨rfl,Y.2 _⟩
   |false=>
    cases h:oe 945 969 r with
    |true=>have I:=oH h;clear h;go_enter func211,ntmps211;go_wp2_with (go_at_call 240;refine(R.out _ _ _ (al.new _ _ _)).mono ?_;rintro e j ⟨rfl,rfl⟩;first|rw[H1.out]|rw[C.out]|rw[I.out]|rw[J.out]);go_ret;exact⟨rfl,Y.2 _⟩
    |false=>
     have I:=oH h;clear h;cases h':oe 913 937 r with
     |false=>have J:=oH h';clear h';go_enter func211,ntmps211;go_wp2_with (go_at_call 240;refine(R.out _ _ _ (al.new _ _ _)).mono ?_;rintro e j ⟨rfl,rfl⟩;first|rw[H1.out]|rw[C.out]|rw[I.out]|rw[J.out]);go_ret;exact⟨rfl,Y.2 _⟩
     |true=>
      have J:=oH h';clear h';cases h2:r !=930 with
      |true=>go_enter func211,ntmps211;go_wp2_with (go_at_call 240;refine(R.out _ _ _ (al.new _ _ _)).mono ?_;rintro e j ⟨rfl,rfl⟩;first|rw[H1.out]|rw[C.out]|rw[I.out]|rw[J.out]);go_ret;exact⟨rfl,Y.2 _⟩
      |false=>go_enter func211,ntmps211;go_wp2_with (go_at_call 240;refine(R.out _ _ _ (al.new _ _ _)).mono ?_;rintro e j ⟨rfl,rfl⟩;first|rw[H1.out]|rw[C.out]|rw[I.out]|rw[J.out]);go_ret;exact⟨rfl,Y.2 _⟩
section
def dI (W:World)(B:Nat)(s:ByteArray)(p:Nat):World:= {W with heap:=W.heap.setIfInBounds B (.stringIter s p)}
theorem jH {W:World}{B:Nat}{s:ByteArray}{p:Nat}(h:B<W.heap.size):(dI W B s p).heap[B]? =some (.stringIter s p):=by simp[dI,h]
theorem gG {S:Nat→Prop}{w W:World}{B:Nat}{s:ByteArray}{p:Nat}(h:aa S w W)(j:¬S B∨w.heap.size≤B):aa S w (dI W B s p):=by
 refine⟨h.os,h.output,by simpa [dI] using h.size,fun k I C=>?_⟩;have o:B≠k:=by rintro rfl;rcases j with j|j;exact j C;omega
 rw[←h.block k I C];simp[dI,Array.getElem?_setIfInBounds_ne o]
section
variable {P:Program}
theorem pR (W:World)(B:Nat)(s:ByteArray)(pos:Nat)(ty:TypeId)(j:W.heap[B]? =some (.stringIter s pos))(h:pos<s.size):
 (Instr.next (.pointer (some ⟨B,0,none⟩)) true ty).run P W=.ok (.tuple #[.bool true,.int .i64 pos,.int .i32 (Utf8.decode s pos).1]) (dI W B s (pos+(Utf8.decode s pos).2)):=by
 simp only[Instr.next,getObj,setObj,Sem.run_bind,Sem.run,j,Result.andThen,h,if_true,dI];simp[goInt]
theorem mT (W:World)(B:Nat)(s:ByteArray)(pos:Nat)(ty:TypeId)(j:W.heap[B]? =some (.stringIter s pos))(h:¬pos<s.size):
 (Instr.next (.pointer (some ⟨B,0,none⟩)) true ty).run P W=.ok (.tuple #[.bool false]) W:=by
 simp[Instr.next,getObj,Sem.run,j,h]
end
theorem sv (s:ByteArray)(pos:Nat)(h:pos<s.size):1≤(Utf8.decode s pos).2:=by
 by_cases j:(s[pos]' h).toNat<128;·rw[decode_ascii s pos h j];exact bj _
 exact(decode_high s pos h (by omega)).2
def eY (s:ByteArray):Nat→Nat→Nat→Bool
 |0,_,_=>false
 |f+1,pos,n=>if pos<s.size then
   (fj (Utf8.decode s pos).1||(pos !=0&&ey (Utf8.decode s pos).1))&&decide (n+1≤24)&&eY s f (pos+(Utf8.decode s pos).2) (n+1)
  else decide (0<n)
def gE (s:ByteArray):Bool:=eY s (s.size+1) 0 0
theorem lR {s:ByteArray}{f pos n:Nat}(h:¬pos<s.size):eY s (f+1) pos n=decide (0<n):=by simp[eY,h]
theorem ij {s:ByteArray}{f pos n:Nat}(h:pos<s.size):eY s (f+1) pos n=((fj (Utf8.decode s pos).1||(pos !=0&&ey (Utf8.decode s pos).1))&&decide (n+1≤24)&&eY s f (pos+(Utf8.decode s pos).2) (n+1)):=by simp[eY,h]
theorem sS (s:ByteArray)(w:World):Calls prog 153 #[.string s] w fun e w'=>e=.returned (.bool (gE s))∧aa All w w':=by
 have hit:(w.iter s 0).heap[w.heap.size]? =some (.stringIter s 0):=World.iter_heap w s 0;have b1:aa All w (w.iter s 0):=(aa.refl _ w).alloc _;have H0:=J2 hit b1;clear hit b1;go_enter func153,ntmps153;go_wp2;go_loopg [3] (s.size+1) (fun g m wr=>∃pos n f:Nat,g=s.size+1-pos∧m=.int .i64 n∧n≤24∧s.size+1≤pos+f∧1≤f∧wr.heap[w.heap.size]? =some (.stringIter s pos)∧aa All w wr∧eY s f pos n=gE s);·exact⟨0,0,s.size+1,by omega,rfl,by omega,by omega,by omega,H0.1,H0.2,rfl⟩
 obtain⟨pos,n,f,rfl,rfl,hn,hf,b7,I,C,j⟩:=hrel;by_cases Y:pos<s.size;·(
 obtain⟨f,rfl⟩:∃f',f=f'+1:=⟨f-1,by omega⟩;rw[ij Y] at j;have b2:=fun ty=>pR (P:=prog) wr w.heap.size s pos ty I Y;have b5:=sv s pos Y;have hB:w.heap.size<wr.heap.size:=by
  rcases Nat.lt_or_ge w.heap.size wr.heap.size with h|h;·exact h
  rw[gT h] at I;cases I
 have b3:aa All w (dI wr w.heap.size s (pos+(Utf8.decode s pos).2)):=gG C (.inr (bj _));have a7:=jH (W:=wr) (s:=s) (p:=pos+(Utf8.decode s pos).2) hB;have b4:(dI wr w.heap.size s (pos+(Utf8.decode s pos).2)).heap.size=wr.heap.size:=by simp[dI]
 have HQ:=J3 b3 a7 b4;clear b3 a7 b4 I C;generalize Utf8.decode s pos=rk at*;obtain⟨r,k⟩:=rk;have a8:=fun W=>sN (r:Int) W;have b0:=fun W=>nE (r:Int) W;simp only at j b2 b5 HQ⊢;generalize fj (r:Int)=L at*;generalize ey (r:Int)=D at*;have R:=J2 a8 b0;clear a8 b0;cases L with
 |true=>
  by_cases a1:n+1≤24
  ·have hd:decide ((24:Int)<(n:Int)+1)=false:=by simp;omega
   have J:=oH (show eY s f (pos+k) (n+1)=gE s by rw[←j,be a1];simp);clear j;go_wp2_with (first|(go_at_call 211;refine(R.1 _).mono ?_;rintro e w1 ⟨rfl,o⟩;have H1:=oH o;clear o)|(go_at_call 183;refine(R.2 _).mono ?_;rintro e w' ⟨rfl,rfl⟩));go_roundg (s.size+1-(pos+k));·exact⟨pos+k,n+1,f,rfl,by go_num,by omega,by omega,by omega,(H1.out.block _ (by rw[HQ.2.2];exact hB) trivial).trans HQ.2.1,HQ.1.trans H1.out,J.out⟩
   omega
  have hd:decide ((24:Int)<(n:Int)+1)=true:=by simp;omega
  have J:=oH (show gE s=false by rw[←j,cN a1];simp);clear j;go_wp2_with (first|(go_at_call 211;refine(R.1 _).mono ?_;rintro e w1 ⟨rfl,o⟩;have H1:=oH o;clear o)|(go_at_call 183;refine(R.2 _).mono ?_;rintro e w' ⟨rfl,rfl⟩));go_ret;exact⟨by rw[J.out];rfl,HQ.1.trans H1.out⟩
 |false=>
  by_cases hp:pos=0
  ·have b6:((pos:Int)==0)=true:=by rw[cX];omega
   have a6:(pos !=0)=false:=by simpa using hp
   rw[a6] at j;clear a6 hp;have J:=oH (show gE s=false by rw[←j];simp);clear j;go_wp2_with (first|(go_at_call 211;refine(R.1 _).mono ?_;rintro e w1 ⟨rfl,o⟩;have H1:=oH o;clear o)|(go_at_call 183;refine(R.2 _).mono ?_;rintro e w' ⟨rfl,rfl⟩));go_ret;exact⟨by rw[J.out];rfl,HQ.1.trans H1.out⟩
  have b6:((pos:Int)==0)=false:=by rw[bE];omega
  have a6:(pos !=0)=true:=by simpa using hp
  rw[a6] at j;clear a6;cases D with
  |false=>have J:=oH (show gE s=false by rw[←j];simp);clear j;go_wp2_with (first|(go_at_call 211;refine(R.1 _).mono ?_;rintro e w1 ⟨rfl,o⟩;have H1:=oH o;clear o)|(go_at_call 183;refine(R.2 _).mono ?_;rintro e w' ⟨rfl,rfl⟩));go_ret;exact⟨by rw[J.out];rfl,HQ.1.trans H1.out⟩
  |true=>
   by_cases a1:n+1≤24;·(
 have hd:decide ((24:Int)<(n:Int)+1)=false:=by simp;omega
 have J:=oH (show eY s f (pos+k) (n+1)=gE s by rw[←j,be a1];simp);clear j;go_wp2_with (first|(go_at_call 211;refine(R.1 _).mono ?_;rintro e w1 ⟨rfl,o⟩;have H1:=oH o;clear o)|(go_at_call 183;refine(R.2 _).mono ?_;rintro e w' ⟨rfl,rfl⟩));go_roundg (s.size+1-(pos+k));·exact⟨pos+k,n+1,f,rfl,by go_num,by omega,by omega,by omega,(H1.out.block _ (by rw[HQ.2.2];exact hB) trivial).trans HQ.2.1,HQ.1.trans H1.out,J.out⟩
 omega)
   have hd:decide ((24:Int)<(n:Int)+1)=true:=by simp;omega
   have J:=oH (show gE s=false by rw[←j,cN a1];simp);clear j;go_wp2_with (first|(go_at_call 211;refine(R.1 _).mono ?_;rintro e w1 ⟨rfl,o⟩;have H1:=oH o;clear o)|(go_at_call 183;refine(R.2 _).mono ?_;rintro e w' ⟨rfl,rfl⟩));go_ret;exact⟨by rw[J.out];rfl,HQ.1.trans H1.out⟩)
 obtain⟨f,rfl⟩:∃f',f=f'+1:=⟨f-1,by omega⟩;rw[lR Y] at j;have b2:=fun ty=>mT (P:=prog) wr w.heap.size s pos ty I Y;have J:=oH j;have HK:=oH C;clear j C I;go_wp2;go_ret;exact⟨by rw[←J.out];simp,HK.out⟩
end
def xi:List (List UInt8):=[[97,114,114,97,121],
 [102,110],
 [99,111,110,115,116],
 [112,104,105],
 [108,111,97,100],
 [119,114,97,112],
 [115,116,111,114,101],
 [99,97,108,108],
 [105,110,112,117,116],
 [111,117,116,112,117,116],
 [114,101,108,101,97,115,101],
 [106,117,109,112],
 [98,114,97,110,99,104],
 [114,101,116,117,114,110],
 [97,100,100],
 [115,117,98],
 [109,117,108],
 [100,105,118],
 [109,111,100],
 [97,110,100],
 [111,114],
 [120,111,114],
 [115,104,108],
 [115,104,114],
 [101,113],
 [108,101,115,115]]
def fu (s:ByteArray):Bool:=xi.any fun l=>s.toList==l
theorem tZ (s:ByteArray)(w:World):Calls prog 154 #[.string s] w fun e j=>e=.returned (.bool (fu s))∧w=j:=by
 cases h:fu s with
 |false=>simp only[fu,xi,List.any_cons,List.any_nil,Bool.or_false,Bool.or_eq_false_iff] at h;obtain⟨h0,h1,h2,h3,h4,h5,h6,h7,h8,h9,o,C,I,J,R,Y,a1,a6,a7,a8,b0,b1,b2,b3,b4,b5⟩:=h;go_enter func154,ntmps154;go_wp2;go_ret;exact⟨rfl,rfl⟩
 |true=>
  simp only[fu,xi,List.any_cons,List.any_nil,Bool.or_false,Bool.or_eq_true,cX] at h;rcases h with h|h|h|h|h|h|h|h|h|h|h|h|h|h|h|h|h|h|h|h|h|h|h|h|h|h
  all_goals
   go_enter func154,ntmps154;go_wp2;go_ret;exact⟨rfl,rfl⟩
def ew (N:Nat)(f:Nat→Value):Array Value:=((List.range N).map f).toArray
theorem dC {N:Nat}{f:Nat→Value}{i:Nat}(h:i<N):(ew N f)[i]? =some (f i):=by simp[ew,h]
theorem ex (N:Nat)(f:Nat→Value):(ew N f).size=N:=by simp[ew]
def tU (f:Nat→Value)(i:Nat)(v:Value):Nat→Value:=fun k=>if k=i then v else f k
theorem lw (f:Nat→Value)(i:Nat)(v:Value):tU f i v i=v:=by simp[tU]
theorem nX {f:Nat→Value}{i k:Nat}{v:Value}(h:k≠i):tU f i v k=f k:=by simp[tU,h]
theorem jW {N:Nat}{f:Nat→Value}{i:Nat}{v:Value}:(ew N f).setIfInBounds i v=ew N (tU f i v):=by
 apply Array.ext_getElem?;intro j;rw[Array.getElem?_setIfInBounds];by_cases o:j<N
 ·rw[dC o,dC o,ex]
  by_cases e:i=j;·subst e;simp[o,lw]
  rw[ah e,nX (fun x=>e x.symm)]
 have C:(ew N f)[j]? =none:=by rw[gT];rw[ex];omega
 have I:(ew N (tU f i v))[j]? =none:=by rw[gT];rw[ex];omega
 rw[C,I];split;·rw[ah (by rw[ex];omega)]
 rfl
abbrev aT (α:Type):=(Nat→Prop)→World→List Value→α→Prop
def qT {α:Type}(n bw:Nat)(E:aT α):cM (List α):=fun S w v l=>
 ∃a cap,v=.slice a l.length cap∧l.length≤cap∧cap≤maxLen∧l.length*bw≤140737488355328∧
  ∀(i:Nat) (x:α),l[i]? =some x→∃b off cs,a=some ⟨b,off,none⟩∧S b∧cs.length=n∧(∀(j:Nat) c,cs[j]? =some c→w.cell? ⟨b,off+i*n+j,none⟩=some c)∧E S w cs x
structure aT.Good {α:Type}(E:aT α):Prop where
 keep:∀ {S w w' c x},aa S w w'→E S w c x→E S w' c x
 wide:∀ {S T:Nat→Prop} {w c x},(∀k,S k→T k)→E S w c x→E T w c x
theorem ii {α:Type}{n bw:Nat}{E:aT α}(g:aT.Good E):cM.Good (qT n bw E):=by
 constructor;·intro S w w' v l k h;obtain⟨a,cap,C,I,J,R,h⟩:=h;refine⟨a,cap,C,I,J,R,fun i x Y=>?_⟩;obtain⟨b,off,cs,e,o,hl,hc,he⟩:=h i x Y;exact⟨b,off,cs,e,o,hl,fun j c hj=>k.cell (p:=⟨b,off+i*n+j,none⟩) o (hc j c hj),g.keep k he⟩
 intro S T w v l k h;obtain⟨a,cap,C,I,J,R,h⟩:=h;refine⟨a,cap,C,I,J,R,fun i x Y=>?_⟩;obtain⟨b,off,cs,e,o,hl,hc,he⟩:=h i x Y;exact⟨b,off,cs,e,k b o,hl,hc,g.wide k he⟩
theorem qT.nil {α:Type}{n bw:Nat}{E:aT α}{S:Nat→Prop}{w:World}:qT n bw E S w (.slice none 0 0) []:=
 ⟨none,0,rfl,bj _,Nat.zero_le _,by simp,fun i x j=>by simp at j⟩
def Kz:cM ByteArray:=fun _ _ c s=>c=.string s
theorem IY:cM.Good Kz:=⟨fun _ h=>h,fun _ h=>h⟩
abbrev cC:=Sl 16 Kz
theorem ap:cM.Good cC:=qp IY
def U (x:BitVec 64):Value:=.int .u64 x.toNat
def Ir:cM (BitVec 64):=fun _ _ c x=>c=U x
theorem IZ:cM.Good Ir:=⟨fun _ h=>h,fun _ h=>h⟩
abbrev rt:=Sl 8 Ir
theorem eX:cM.Good rt:=qp IZ
def qP:aT (ByteArray×Int):=fun _ _ cs x=>cs=[.string x.1,.int .i64 x.2]∧(Lit.int .i64 x.2).wf=true
theorem dh:aT.Good qP:=⟨fun _ h=>h,fun _ h=>h⟩
abbrev mc:=qT 2 24 qP
theorem cG:cM.Good mc:=ii dh
structure aI where
 Ng:List ByteArray
 up:List (BitVec 64)
 Ni:List (ByteArray×Int)
 Nh:List (ByteArray×Int)
 Nj:Int
def gR (S:Nat→Prop)(w:World)(v:Value)(p:aI):Prop:=
 ∃a b c d,v=.agg #[a,b,c,d,.int .i64 p.Nj]∧cC S w a p.Ng∧rt S w b p.up∧mc S w c p.Ni∧mc S w d p.Nh∧(Lit.int .i64 p.Nj).wf=true
theorem bG:cM.Good gR:=by
 constructor
 ·rintro S w R v p k ⟨a,b,c,d,rfl,j,o,C,I,J⟩
  exact⟨a,b,c,d,rfl,ap.keep k j,eX.keep k o,cG.keep k C,cG.keep k I,J⟩
 rintro S T w v p k ⟨a,b,c,d,rfl,j,o,C,I,J⟩;exact⟨a,b,c,d,rfl,ap.wide k j,eX.wide k o,cG.wide k C,cG.wide k I,J⟩
def gt {α:Type}(p:α→Bool)(l:List α):Int:=if l.any p then(l.findIdx p:Int) else-1
theorem pJ {α:Type}{p:α→Bool}{l:List α}{k:Nat}{x:α}(C:l[k]? =some x)(h:p x=true)(o:∀y∈l.take k,p y=false):gt p l=k:=by
 obtain⟨j,rfl⟩:=lS.1 C;have I:l.any p=true:=od.2 ⟨_,jy j,h⟩;have J:l.findIdx p=k:=by rw[List.findIdx_eq j];exact⟨h,fun m hm=>o _ (List.mem_take_iff_getElem.2 ⟨m,by omega,rfl⟩)⟩
 unfold gt;rw[am I,J]
theorem qs {α:Type}{p:α→Bool}{l:List α}(j:∀y∈l,p y=false):gt p l= -1:=by
 have o:l.any p=false:=List.any_eq_false.2 fun x C=>by rw[j x C];simp
 unfold gt;rw[o];rfl
theorem nN {α:Type}(p:α→Bool)(l:List α): -1≤gt p l∧gt p l<(l.length:Int)+1:=by unfold gt;have:=List.findIdx_le_length (xs:=l) (p:=p);split<;>omega
theorem Cc {α:Type}{p:α→Bool}{l:List α}{k:Nat}{x:α}(C:l[k]? =some x)(h:p x=false)(o:∀y∈l.take k,p y=false):∀y∈l.take (k+1),p y=false:=by
 intro y j;rw[dT,C] at j;rcases dV.1 j with j|j;·exact o y j
 rw[show y=x by simpa using j];exact h
end Go.Proofs.YtccbbkopmlnkpaaGreatDoor
