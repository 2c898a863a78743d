/- Part 3 of the proof (its last part says what is proved). No condition. -/
import Derived.Laws.EntriesVeiled
import Derived.Test.YtgdlhckhpolnnaaGreatDoorK1
namespace Go.Proofs.YtgdlhckhpolnnaaGreatDoor
set_option maxRecDepth 100000
set_option maxHeartbeats 8000000
open Go.RowKit Go.Proofs.Tryz
theorem El (x:Value)(w:World):Calls prog 207 #[x] w fun e w'=>e=.returned (.tuple #[])∧w=w':=by
 go_enter func207,ntmps207;go_wp2
 go_end0
 exact⟨rfl,rfl⟩
structure LV (ll:List (List Int))(v:Value)(bb bt bv bl g:Nat)(w:World):Prop where
 been:al w bb 209 #[.slice (some ⟨g,0,none⟩) ll.length ll.length]
 tou:al w bt 142 #[v]
 visit:al w bv 246 #[.func (.func 208) #[] #[.pointer (some ⟨bb,0,none⟩),.pointer (some ⟨bt,0,none⟩),.pointer (some ⟨bv,0,none⟩),.pointer (some ⟨bl,0,none⟩)]]
 tell:al w bl 246 #[.func (.func 207) #[] #[]]
 rows:Rows (fun b=>b≠g) w v ll
 ne:bb≠g∧bt≠g∧bv≠g∧bl≠g
theorem LV.keep {ll:List (List Int)}{v:Value}{j o bv bl g:Nat}{w w':World}(h:LV ll v j o bv bl g w)(k:aa (fun b=>b≠g) w w'):LV ll v j o bv bl g w':=
 ⟨h.been.kept k h.ne.1,h.tou.kept k h.ne.2.1,h.visit.kept k h.ne.2.2.1,h.tell.kept k h.ne.2.2.2,aq.keep k h.rows,h.ne⟩
def Kv (ll:List (List Int))(p q:Nat→Bool)(i:Nat):Prop:=
 (∀k,p k=true→q k=true)∧q i=true∧(∀k,q k=true→p k=true∨aQ ll i k)∧(∀k,q k=true→p k=false→∀j,dH ll k j→q j=true)
theorem Er (ll:List (List Int))(hR:aP ll)(v:Value)(bb bt bv bl g:Nat)(m:Nat):∀(i:Nat) (p:Nat→Bool) (w:World),unv ll.length p≤m→i<ll.length→p i=false→LV ll v bb bt bv bl g w→al w g 4 (az ll.length p)→
 Calls prog 208 #[.int .i64 i,.pointer (some ⟨bb,0,none⟩),.pointer (some ⟨bt,0,none⟩),.pointer (some ⟨bv,0,none⟩),.pointer (some ⟨bl,0,none⟩)] w fun e w'=>
  e=.returned (.tuple #[])∧∃q,al w' g 4 (az ll.length q)∧aa (fun b=>b≠g) w w'∧Kv ll p q i:=by
 induction m with
 |zero=>intro i p w hm hi hp;have:=jj ll.length hi hp;omega
 |succ m ih=>
  intro i p w hm hi hp env C;have IH:=oH ih;clear ih;have hl:ll.length≤256:=hR.2.1;have b8:=gw hR hi;have b3:=fun j=>kQ (ll:=ll) (j:=j) hi;have d9:ll[i].length≤256:=by have:=du (hR.2.2 _ (eL hi));omega
  have c5:=oH env;obtain⟨a,cap,rfl,_,_,_,h⟩:=env.rows;obtain⟨b1,o1,c1,rfl,e0,c6,ra,e6,rfl,_,_,_,rh⟩:=h i ll[i] (lG hi);have a6:=bj (p:=p) hi;have h1:=env.been.cl 0;have h2:=env.tou.cl 0;have h4:=C.cell i;rw[a6,hp] at h4;have h5:=C.free i;have b6:aa (fun b=>b≠g) w (w.setCell ⟨g,i,none⟩ (.bool true)):=(aa.refl _ w).setCell (.inl fun h=>h rfl) _;have b4:al (w.setCell ⟨g,i,none⟩ (.bool true)) g 4 (az ll.length (nX p i)):=by rw[←dg (p:=p) (i:=i) (b:=true) (dF _ _) (fun j _ hj=>fd hj)];exact C.set _ _
  have a7:=c5.out.keep b6;have h6:=a7.tou.cl 0;have h7:=b6.cell (p:=⟨b1,o1+i,none⟩) e0 c6;have e8:=jj ll.length hi hp;have HF:=J7 b8 b3 rh hp b6 b4 a7;clear b8 b3 rh hp b6 b4 a7 C c6 h a6 env;generalize ll[i]=row at*;go_enter func208,ntmps208;go_wp2_with fail;clear h1 h2 h4 h5 h6 h7
  go_loopg [16] row.length (fun gg x wr=>∃(k:Nat) (q:Nat→Bool),k≤row.length∧gg=row.length-k∧x=.int .i64 k∧al wr g 4 (az ll.length q)∧aa (fun b=>b≠g) w wr∧
   (∀k,nX p i k=true→q k=true)∧(∀k,q k=true→p k=true∨aQ ll i k)∧(∀k,q k=true→nX p i k=false→∀j,dH ll k j→q j=true)∧(∀(j:Nat) x,j<k→row[j]? =some x→q x.toNat=true))
  case atStart=>(
 refine⟨0,nX p i,by omega,by omega,rfl,HF.2.2.2.2.2.1,HF.2.2.2.2.1,fun _ h=>h,fun k hk=>?_,fun k h1 h2=>(by rw[h1] at h2;cases h2),fun j x hj=>by omega⟩;by_cases e:k=i;·subst e;exact .inr .refl
 rw[fd e] at hk;exact .inl hk)
  obtain⟨k,q,hk,rfl,rfl,C,Y,I,J,R,o⟩:=hrel;have HQ:=J4 I J R o;clear I J R o;have env:=c5.out.keep Y;by_cases b7:k<row.length;·(
 obtain⟨b2,o2,c2,rfl,e1,c7,rfl,e9⟩:=HF.2.2.1 k row[k] (lG b7);have e2:=Y.cell (p:=⟨b2,o2+k,none⟩) e1 c7;obtain⟨x0,x1⟩:=HF.1 row[k] (eL b7);have b9:row[k]∈row:=eL b7;have a6:row[k]? =some row[k]:=lG b7;have HM:=J2 b9 a6;clear b9 a6 c7;generalize row[k]=x at*;obtain⟨j,rfl⟩:∃j:Nat,x=j:=⟨x.toNat,by omega⟩;have c8:j<ll.length:=by omega
 have a8:wr.cell? ⟨g,j,none⟩=some (.bool (q j)):=by rw[C.cell,bj c8]
 have h1:=env.been.cl 0;have h3:=env.visit.cl 0;cases b0:q j with
 |true=>
  rw[b0] at a8;have c9:=oH b0;clear b0;go_wp2;go_roundg (row.length-(k+1));·(
 obtain⟨I,J,R,o⟩:=HQ.out;refine⟨k+1,q,by omega,rfl,by go_num,C,Y,I,J,R,fun a x ha hx=>?_⟩;by_cases e:a=k
 ·subst e
  rw[HM.2] at hx;cases hx;rw[dP];exact c9.out
 exact o a x (by omega) hx)
  omega
 |false=>
  rw[b0] at a8;have e7:=ly ll.length (fun a _ ha=>HQ.1 a ha);have b5:=IH.out j q wr (by omega) c8 b0 env C;have c0:=oH b5;have c9:=oH b0;clear b0 b5;go_wp2_with fail;refine c0.out.mono ?_;rintro e w' ⟨rfl,d7⟩;have e3:=oH d7;clear d7 a8 e2 h1 h3;go_wp2_with fail;go_roundg (row.length-(k+1));·(
 obtain⟨I,J,R,o⟩:=HQ.out;obtain⟨q',c4,e4,a1,a2,a3,a4⟩:=e3.out;have b3:dH ll i j:=(HF.2.1 j).2 HM.1;refine⟨k+1,q',by omega,rfl,by go_num,c4,Y.trans e4,fun a ha=>a1 a (I a ha),fun a ha=>?_,fun a ha hn b hb=>?_,fun a x ha hx=>?_⟩
 ·rcases a3 a ha with h|h
  ·exact J a h
  exact .inr (aQ.head b3 h)
 ·cases d8:q a with
  |true=>exact a1 b (R a d8 hn b hb)
  |false=>exact a4 a ha d8 b hb
 by_cases e:a=k
 ·subst e
  rw[HM.2] at hx;cases hx;rw[dP];exact a2
 exact a1 _ (o a x (by omega) hx))
  omega)
  have h4:=env.tell.cl 0;go_wp2_with (go_at_call 207;refine(El _ _).mono ?_;rintro e w' ⟨rfl,rfl⟩)
  go_end0
  obtain⟨I,J,R,o⟩:=HQ.out;refine⟨rfl,q,C,Y,fun a ha=>I a (je _ _ _ ha),I i (dF _ _),J,fun a ha hn b hb=>?_⟩;by_cases e:a=i;·subst e;have e5:=(HF.2.1 b).1 hb;obtain⟨c,hc,hx⟩:=List.getElem_of_mem e5;have:=o c (b:Int) (by omega) (by rw[lG hc,hx]);rwa [dP] at this
  exact R a ha (by rw[fd e];exact hn) b hb
theorem kV {S:Nat→Prop}{w:World}{v:Value}{l:List Int}(h:aK S w v l):aK (fun b=>b<w.heap.size) w v l:=by obtain⟨a,cap,o,h1,C,I,h⟩:=h;refine⟨a,cap,o,h1,C,I,fun i x J=>?_⟩;obtain⟨b,off,c,e,R,j,he⟩:=h i x J;exact⟨b,off,c,e,jy w _ j,j,he⟩
theorem jh {S:Nat→Prop}{w:World}{v:Value}{ll:List (List Int)}(h:Rows S w v ll):Rows (fun b=>b<w.heap.size) w v ll:=by obtain⟨a,cap,o,h1,C,I,h⟩:=h;refine⟨a,cap,o,h1,C,I,fun i x J=>?_⟩;obtain⟨b,off,c,e,R,j,he⟩:=h i x J;exact⟨b,off,c,e,jy w _ j,j,kV he⟩
def Cp (v:Value)(n:Nat)(w:World):World:=
 (((((w.alloc (.cells #[v] 142)).alloc (.cells #[.func (.func 207) #[] #[]] 246)).alloc (.cells (az n fun _=>false) 4)).alloc (.cells #[.slice (some ⟨w.heap.size+1+1,0,none⟩) n n] 209)).alloc
   (.cells #[.func (.func 208) #[] #[.pointer (some ⟨w.heap.size+1+1+1,0,none⟩),.pointer (some ⟨w.heap.size,0,none⟩),.pointer (some ⟨w.heap.size+1+1+1+1,0,none⟩),.pointer (some ⟨w.heap.size+1,0,none⟩)]] 246))
theorem ac {w:World}{t:TypeId}{cs:Array Value}{g:Nat}(h:g=w.heap.size):al (w.alloc (.cells cs t)) g t cs:=by subst h;exact al.new _ _ _
theorem Eu {v:Value}{ll:List (List Int)}{w:World}(h:Rows (fun b=>b<w.heap.size) w v ll):
 LV ll v (w.heap.size+1+1+1) w.heap.size (w.heap.size+1+1+1+1) (w.heap.size+1) (w.heap.size+1+1) (Cp v ll.length w)∧al (Cp v ll.length w) (w.heap.size+1+1) 4 (az ll.length fun _=>false)∧aa All w (Cp v ll.length w):=by
 have j:aa All w (Cp v ll.length w):=((((kR.alloc _).alloc _).alloc _).alloc _).alloc _;refine⟨⟨?_,?_,?_,?_,?_,by omega⟩,?_,j⟩;·exact(ac (by simp)).alloc _
 ·exact((((al.new _ _ _).alloc _).alloc _).alloc _).alloc _
 ·exact ac (by simp)
 ·exact(((ac (by simp)).alloc _).alloc _).alloc _
 ·exact aq.wide (fun b o=>by omega) (aq.keep j.all h)
 exact((ac (by simp)).alloc _).alloc _
theorem Ia (S:Nat→Prop)(v:Value)(ll:List (List Int))(f:Nat)(w:World)(hv:Rows S w v ll)(hR:aP ll)(hf:f<ll.length):
 Calls prog 169 #[v,.int .i64 f,.func (.func 207) #[] #[]] w fun e w'=>∃u,e=.returned u∧aa All w w'∧gD (fun b=>w.heap.size≤b) w' u (en ll f):=by
 have J:=jh hv;have C:=Eu J;obtain⟨a,cap,rfl,h1,h2,a8,h⟩:=hv;have hl:ll.length≤256:=hR.2.1;have R:=Er ll hR _ _ _ _ _ _ _ f (fun _=>false) _ (cf _) hf rfl C.1 C.2.1;have HR:=J3 hR C R;clear h h1 h2 a8 hR J C R;have b0:=fun w=>iy ll.length (by omega) w;go_enter func169,ntmps169;go_wp2_with fail;refine HR.2.2.mono ?_;rintro e w' ⟨rfl,q,I,o,Y⟩;have HA:=J3 I o Y;have a6:=HR.2.1.1.keep o;have hc:=a6.been.cl 0;clear I o Y a6;go_wp2_with fail;go_ret;obtain⟨I,o,a1,a2,a3,a4⟩:=HA.out;have hk:aa (fun b=>b<w.heap.size) w w':=HR.2.1.2.2.all.trans (o.mono fun b hb=>by omega);refine⟨_,rfl,⟨hk.os,hk.output,hk.size,fun k a7 _=>hk.block k a7 a7⟩,iT I (by omega) hl fun k a7=>?_⟩;apply nT;refine⟨fun h=>by rcases a3 k h with h|h;cases h;exact h,fun hr=>?_⟩;exact mq a2 (fun i hi j hj=>a4 i hi rfl j hj) k hr
theorem ri (S:Nat→Prop)(v:Value)(ll:List (List Int))(f:Nat)(w:World)(R:Rows S w v ll)(J:aP ll)(hf:f<ll.length):
 Calls prog 168 #[v,.int .i64 f] w fun e w'=>∃u,e=.returned u∧aa All w w'∧gD (fun b=>w.heap.size≤b) w' u (en ll f):=by
 have j:=gt S v ll w R;rw[bL J] at j;have o:=fun Y (hk:aa All w Y)=>Ia S v ll f Y (aq.keep hk.all R) J hf;obtain⟨a,cap,rfl,h1,h2,a1,h⟩:=R;have hl:ll.length≤256:=J.2.1;have d1:decide ((f:Int)<0)=false:=by simp
 have d2:decide ((ll.length:Int)≤f)=false:=by simp;omega
 have HR:=J2 j o;clear h h1 h2 a1 J j o;go_enter func168,ntmps168;go_wp2_with fail;refine HR.1.mono ?_;rintro e Y ⟨rfl,C⟩;have HK:=oH C;clear C;go_wp2_with fail;refine(HR.2 _ HK.out).mono ?_;rintro e w2 ⟨u,rfl,I,hb⟩;have HB:=J2 I hb;clear I hb;go_wp2_with fail;go_ret;exact⟨u,rfl,HK.out.trans HB.1,cR.wide (fun b hb=>by have:=HK.out.size;omega) HB.2⟩
def od (a b r:Int):Bool:=decide (a≤r)&&decide (r≤b)
def ey (r:Int):Bool:=od 97 122 r||od 65 90 r||r==95||od 945 969 r||(od 913 937 r&&r !=930)
def fY (r:Int):Bool:=od 48 57 r
theorem xO (a b r:Int)(g:Nat)(w:World)(j:al w g 21 #[.int .i32 r]):
 Calls prog 222 #[.int .i32 a,.int .i32 b,.pointer (some ⟨g,0,none⟩)] w fun e w'=>e=.returned (.bool (od a b r))∧w=w':=by
 have o:=j.cl 0;unfold od;by_cases h1:a≤r
 ·go_enter func222,ntmps222
  go_wp2;go_ret;exact⟨by simp[h1],rfl⟩
 go_enter func222,ntmps222;go_wp2;go_ret;exact⟨by simp;omega,rfl⟩
theorem CM (r:Int)(w:World):Calls prog 131 #[.int .i32 r] w fun e w'=>e=.returned (.bool (fY r))∧w=w':=by
 unfold fY od;by_cases h1:48≤r
 ·go_enter func131,ntmps131
  go_wp2;go_ret;exact⟨by simp[h1],rfl⟩
 go_enter func131,ntmps131;go_wp2;go_ret;exact⟨by simp;omega,rfl⟩
theorem Ay (r:Int)(w:World):Calls prog 190 #[.int .i32 r] w fun e w'=>e=.returned (.bool (ey r))∧aa All w w':=by
 have hk:∀o o2,aa All w ((w.alloc o).alloc o2):=fun o o2=>((aa.refl _ w).alloc o).alloc o2;have Y:∀o,aa All w (w.alloc o):=fun o=>(aa.refl _ w).alloc o;have a1:=fun a b w1 (hb:al w1 w.heap.size 21 #[.int .i32 r])=>xO a b r w.heap.size w1 hb;have J:=oH a1;have R:=J2 hk Y;clear a1 hk Y;unfold ey;cases h:od 97 122 r with
 |true=>have H1:=oH h;clear h;go_enter func190,ntmps190;go_wp2_with (go_at_call 222;refine(J.out _ _ _ (al.new _ _ _)).mono ?_;rintro e w' ⟨rfl,rfl⟩;first|rw[H1.out]|rw[j.out]|rw[C.out]|rw[I.out]);go_ret;exact⟨rfl,R.2 _⟩
 |false=>
  have H1:=oH h;clear h;cases h:od 65 90 r with
  |true=>have j:=oH h;clear h;go_enter func190,ntmps190;go_wp2_with (go_at_call 222;refine(J.out _ _ _ (al.new _ _ _)).mono ?_;rintro e w' ⟨rfl,rfl⟩;first|rw[H1.out]|rw[j.out]|rw[C.out]|rw[I.out]);go_ret;exact⟨rfl,R.2 _⟩
  |false=>
   have j:=oH h;clear h;cases h:r==95 with
   |true=>go_enter func190,ntmps190;go_wp2_with (go_at_call 222;refine(J.out _ _ _ (al.new _ _ _)).mono ?_;rintro e w' ⟨rfl,rfl⟩;first|rw[H1.out]|rw[j.out]|rw[C.out]|rw[I.out]);go_ret;exact⟨rfl,R.2 _⟩
   |false=>
    cases h:od 945 969 r with
    |true=>have C:=oH h;clear h;go_enter func190,ntmps190;go_wp2_with (go_at_call 222;refine(J.out _ _ _ (al.new _ _ _)).mono ?_;rintro e w' ⟨rfl,rfl⟩;first|rw[H1.out]|rw[j.out]|rw[C.out]|rw[I.out]);go_ret;exact⟨rfl,R.2 _⟩
    |false=>
     have C:=oH h;clear h;cases h':od 913 937 r with
     |false=>have I:=oH h';clear h';go_enter func190,ntmps190;go_wp2_with (go_at_call 222;refine(J.out _ _ _ (al.new _ _ _)).mono ?_;rintro e w' ⟨rfl,rfl⟩;first|rw[H1.out]|rw[j.out]|rw[C.out]|rw[I.out]);go_ret;exact⟨rfl,R.2 _⟩
     |true=>
      have I:=oH h';clear h';cases h2:r !=930 with
      |true=>go_enter func190,ntmps190;go_wp2_with (go_at_call 222;refine(J.out _ _ _ (al.new _ _ _)).mono ?_;rintro e w' ⟨rfl,rfl⟩;first|rw[H1.out]|rw[j.out]|rw[C.out]|rw[I.out]);go_ret;exact⟨rfl,R.2 _⟩
      |false=>go_enter func190,ntmps190;go_wp2_with (go_at_call 222;refine(J.out _ _ _ (al.new _ _ _)).mono ?_;rintro e w' ⟨rfl,rfl⟩;first|rw[H1.out]|rw[j.out]|rw[C.out]|rw[I.out]);go_ret;exact⟨rfl,R.2 _⟩
section
def ji (W:World)(B:Nat)(s:ByteArray)(p:Nat):World:= {W with heap:=W.heap.setIfInBounds B (.stringIter s p)}
theorem Bl {W:World}{B:Nat}{s:ByteArray}{p:Nat}(h:B<W.heap.size):(ji W B s p).heap[B]? =some (.stringIter s p):=by simp[ji,h]
theorem xm {S:Nat→Prop}{w W:World}{B:Nat}{s:ByteArray}{p:Nat}(h:aa S w W)(j:¬S B∨w.heap.size≤B):aa S w (ji W B s p):=by
 refine⟨h.os,h.output,by simpa [ji] using h.size,fun k I C=>?_⟩;have o:B≠k:=by rintro rfl;rcases j with j|j;exact j C;omega
 rw[←h.block k I C];simp[ji,Array.getElem?_setIfInBounds_ne o]
section
variable {P:Program}
theorem Jw (W:World)(B:Nat)(s:ByteArray)(pos:Nat)(ty:TypeId)(j:W.heap[B]? =some (.stringIter s pos))(h:pos<s.size):
 (Instr.next (.pointer (some ⟨B,0,none⟩)) true ty).run P W=.ok (.tuple #[.bool true,.int .i64 pos,.int .i32 (Utf8.decode s pos).1]) (ji W B s (pos+(Utf8.decode s pos).2)):=by
 simp only[Instr.next,getObj,setObj,Sem.run_bind,Sem.run,j,Result.andThen,h,if_true,ji];simp[goInt]
theorem Gl (W:World)(B:Nat)(s:ByteArray)(pos:Nat)(ty:TypeId)(j:W.heap[B]? =some (.stringIter s pos))(h:¬pos<s.size):
 (Instr.next (.pointer (some ⟨B,0,none⟩)) true ty).run P W=.ok (.tuple #[.bool false]) W:=by
 simp[Instr.next,getObj,Sem.run,j,h]
end
theorem ks (s:ByteArray)(pos:Nat)(h:pos<s.size):1≤(Utf8.decode s pos).2:=by
 by_cases j:(s[pos]' h).toNat<128;·rw[decode_ascii s pos h j];exact cf _
 exact(decode_high s pos h (by omega)).2
def fH (s:ByteArray):Nat→Nat→Nat→Bool
 |0,_,_=>false
 |f+1,pos,n=>if pos<s.size then
   (ey (Utf8.decode s pos).1||(pos !=0&&fY (Utf8.decode s pos).1))&&decide (n+1≤24)&&fH s f (pos+(Utf8.decode s pos).2) (n+1)
  else decide (0<n)
def dW (s:ByteArray):Bool:=fH s (s.size+1) 0 0
theorem jQ {s:ByteArray}{f pos n:Nat}(h:¬pos<s.size):fH s (f+1) pos n=decide (0<n):=by simp[fH,h]
theorem gK {s:ByteArray}{f pos n:Nat}(h:pos<s.size):fH s (f+1) pos n=((ey (Utf8.decode s pos).1||(pos !=0&&fY (Utf8.decode s pos).1))&&decide (n+1≤24)&&fH s f (pos+(Utf8.decode s pos).2) (n+1)):=by simp[fH,h]
theorem yL (s:ByteArray)(w:World):Calls prog 132 #[.string s] w fun e w'=>e=.returned (.bool (dW s))∧aa All w w':=by
 have hit:(w.iter s 0).heap[w.heap.size]? =some (.stringIter s 0):=World.iter_heap w s 0;have b1:aa All w (w.iter s 0):=(aa.refl _ w).alloc _;have H0:=J2 hit b1;clear hit b1;go_enter func132,ntmps132;go_wp2;go_loopg [3] (s.size+1) (fun g m wr=>∃pos n f:Nat,g=s.size+1-pos∧m=.int .i64 n∧n≤24∧s.size+1≤pos+f∧1≤f∧wr.heap[w.heap.size]? =some (.stringIter s pos)∧aa All w wr∧fH s f pos n=dW s);·exact⟨0,0,s.size+1,by omega,rfl,by omega,by omega,by omega,H0.1,H0.2,rfl⟩
 obtain⟨pos,n,f,rfl,rfl,hn,hf,b7,I,C,j⟩:=hrel;by_cases R:pos<s.size;·(
 obtain⟨f,rfl⟩:∃f',f=f'+1:=⟨f-1,by omega⟩;rw[gK R] at j;have b2:=fun ty=>Jw (P:=prog) wr w.heap.size s pos ty I R;have b5:=ks s pos R;have hB:w.heap.size<wr.heap.size:=by
  rcases Nat.lt_or_ge w.heap.size wr.heap.size with h|h;·exact h
  rw[jK h] at I;cases I
 have b3:aa All w (ji wr w.heap.size s (pos+(Utf8.decode s pos).2)):=xm C (.inr (cf _));have a7:=Bl (W:=wr) (s:=s) (p:=pos+(Utf8.decode s pos).2) hB;have b4:(ji wr w.heap.size s (pos+(Utf8.decode s pos).2)).heap.size=wr.heap.size:=by simp[ji]
 have Y:=J3 b3 a7 b4;clear b3 a7 b4 I C;generalize Utf8.decode s pos=rk at*;obtain⟨r,k⟩:=rk;have a8:=fun W=>Ay (r:Int) W;have b0:=fun W=>CM (r:Int) W;simp only at j b2 b5 Y⊢;generalize ey (r:Int)=L at*;generalize fY (r:Int)=D at*;have J:=J2 a8 b0;clear a8 b0;cases L with
 |true=>
  by_cases a1:n+1≤24
  ·have hd:decide ((24:Int)<(n:Int)+1)=false:=by simp;omega
   have HR:=oH (show fH s f (pos+k) (n+1)=dW s by rw[←j,bL a1];simp);clear j;go_wp2_with (first|(go_at_call 190;refine(J.1 _).mono ?_;rintro e w1 ⟨rfl,o⟩;have H1:=oH o;clear o)|(go_at_call 131;refine(J.2 _).mono ?_;rintro e w' ⟨rfl,rfl⟩));go_roundg (s.size+1-(pos+k));·exact⟨pos+k,n+1,f,rfl,by go_num,by omega,by omega,by omega,(H1.out.block _ (by rw[Y.2.2];exact hB) trivial).trans Y.2.1,Y.1.trans H1.out,HR.out⟩
   omega
  have hd:decide ((24:Int)<(n:Int)+1)=true:=by simp;omega
  have HR:=oH (show dW s=false by rw[←j,cI a1];simp);clear j;go_wp2_with (first|(go_at_call 190;refine(J.1 _).mono ?_;rintro e w1 ⟨rfl,o⟩;have H1:=oH o;clear o)|(go_at_call 131;refine(J.2 _).mono ?_;rintro e w' ⟨rfl,rfl⟩));go_ret;exact⟨by rw[HR.out];rfl,Y.1.trans H1.out⟩
 |false=>
  by_cases hp:pos=0
  ·have b6:((pos:Int)==0)=true:=by rw[cy];omega
   have a6:(pos !=0)=false:=by simpa using hp
   rw[a6] at j;clear a6 hp;have HR:=oH (show dW s=false by rw[←j];simp);clear j;go_wp2_with (first|(go_at_call 190;refine(J.1 _).mono ?_;rintro e w1 ⟨rfl,o⟩;have H1:=oH o;clear o)|(go_at_call 131;refine(J.2 _).mono ?_;rintro e w' ⟨rfl,rfl⟩));go_ret;exact⟨by rw[HR.out];rfl,Y.1.trans H1.out⟩
  have b6:((pos:Int)==0)=false:=by rw[bE];omega
  have a6:(pos !=0)=true:=by simpa using hp
  rw[a6] at j;clear a6;cases D with
  |false=>have HR:=oH (show dW s=false by rw[←j];simp);clear j;go_wp2_with (first|(go_at_call 190;refine(J.1 _).mono ?_;rintro e w1 ⟨rfl,o⟩;have H1:=oH o;clear o)|(go_at_call 131;refine(J.2 _).mono ?_;rintro e w' ⟨rfl,rfl⟩));go_ret;exact⟨by rw[HR.out];rfl,Y.1.trans H1.out⟩
  |true=>
   by_cases a1:n+1≤24;·(
 have hd:decide ((24:Int)<(n:Int)+1)=false:=by simp;omega
 have HR:=oH (show fH s f (pos+k) (n+1)=dW s by rw[←j,bL a1];simp);clear j;go_wp2_with (first|(go_at_call 190;refine(J.1 _).mono ?_;rintro e w1 ⟨rfl,o⟩;have H1:=oH o;clear o)|(go_at_call 131;refine(J.2 _).mono ?_;rintro e w' ⟨rfl,rfl⟩));go_roundg (s.size+1-(pos+k));·exact⟨pos+k,n+1,f,rfl,by go_num,by omega,by omega,by omega,(H1.out.block _ (by rw[Y.2.2];exact hB) trivial).trans Y.2.1,Y.1.trans H1.out,HR.out⟩
 omega)
   have hd:decide ((24:Int)<(n:Int)+1)=true:=by simp;omega
   have HR:=oH (show dW s=false by rw[←j,cI a1];simp);clear j;go_wp2_with (first|(go_at_call 190;refine(J.1 _).mono ?_;rintro e w1 ⟨rfl,o⟩;have H1:=oH o;clear o)|(go_at_call 131;refine(J.2 _).mono ?_;rintro e w' ⟨rfl,rfl⟩));go_ret;exact⟨by rw[HR.out];rfl,Y.1.trans H1.out⟩)
 obtain⟨f,rfl⟩:∃f',f=f'+1:=⟨f-1,by omega⟩;rw[jQ R] at j;have b2:=fun ty=>Gl (P:=prog) wr w.heap.size s pos ty I R;have HR:=oH j;have HK:=oH C;clear j C I;go_wp2;go_ret;exact⟨by rw[←HR.out];simp,HK.out⟩
end
def mu:List (List UInt8):=[[97,114,114,97,121],
 [102,110],
 [99,111,110,115,116],
 [112,104,105],
 [108,111,97,100],
 [119,114,97,112],
 [115,116,111,114,101],
 [99,97,108,108],
 [105,110,112,117,116],
 [111,117,116,112,117,116],
 [114,101,108,101,97,115,101],
 [106,117,109,112],
 [98,114,97,110,99,104],
 [114,101,116,117,114,110],
 [97,100,100],
 [115,117,98],
 [109,117,108],
 [100,105,118],
 [109,111,100],
 [97,110,100],
 [111,114],
 [120,111,114],
 [115,104,108],
 [115,104,114],
 [101,113],
 [108,101,115,115]]
def jv (s:ByteArray):Bool:=mu.any fun l=>s.toList==l
theorem zC (s:ByteArray)(w:World):Calls prog 133 #[.string s] w fun e w'=>e=.returned (.bool (jv s))∧w=w':=by
 cases h:jv s with
 |false=>simp only[jv,mu,List.any_cons,List.any_nil,Bool.or_false,Bool.or_eq_false_iff] at h;obtain⟨h0,h1,h2,h3,h4,h5,h6,h7,h8,h9,j,o,C,I,J,R,Y,a1,a6,a7,a8,b0,b1,b2,b3,b4⟩:=h;go_enter func133,ntmps133;go_wp2;go_ret;exact⟨rfl,rfl⟩
 |true=>
  simp only[jv,mu,List.any_cons,List.any_nil,Bool.or_false,Bool.or_eq_true,cy] at h;rcases h with h|h|h|h|h|h|h|h|h|h|h|h|h|h|h|h|h|h|h|h|h|h|h|h|h|h
  all_goals
   go_enter func133,ntmps133;go_wp2;go_ret;exact⟨rfl,rfl⟩
def dM (N:Nat)(f:Nat→Value):Array Value:=((List.range N).map f).toArray
theorem cq {N:Nat}{f:Nat→Value}{i:Nat}(h:i<N):(dM N f)[i]? =some (f i):=by simp[dM,h]
theorem ew (N:Nat)(f:Nat→Value):(dM N f).size=N:=by simp[dM]
def qd (f:Nat→Value)(i:Nat)(v:Value):Nat→Value:=fun k=>if k=i then v else f k
theorem jd (f:Nat→Value)(i:Nat)(v:Value):qd f i v i=v:=by simp[qd]
theorem li {f:Nat→Value}{i k:Nat}{v:Value}(h:k≠i):qd f i v k=f k:=by simp[qd,h]
theorem jo {N:Nat}{f:Nat→Value}{i:Nat}{v:Value}:(dM N f).setIfInBounds i v=dM N (qd f i v):=by
 apply Array.ext_getElem?;intro j;rw[Array.getElem?_setIfInBounds];by_cases o:j<N
 ·rw[cq o,cq o,ew]
  by_cases e:i=j;·subst e;simp[o,jd]
  rw[ae e,li (fun x=>e x.symm)]
 have C:(dM N f)[j]? =none:=by rw[jK];rw[ew];omega
 have I:(dM N (qd f i v))[j]? =none:=by rw[jK];rw[ew];omega
 rw[C,I];split;·rw[ae (by rw[ew];omega)]
 rfl
abbrev cO (α:Type):=(Nat→Prop)→World→List Value→α→Prop
def rx {α:Type}(n bw:Nat)(E:cO α):bT (List α):=fun S w v l=>
 ∃a cap,v=.slice a l.length cap∧l.length≤cap∧cap≤maxLen∧l.length*bw≤140737488355328∧
  ∀(i:Nat) (x:α),l[i]? =some x→∃b off cs,a=some ⟨b,off,none⟩∧S b∧cs.length=n∧(∀(j:Nat) c,cs[j]? =some c→w.cell? ⟨b,off+i*n+j,none⟩=some c)∧E S w cs x
structure cO.Good {α:Type}(E:cO α):Prop where
 keep:∀ {S w w' c x},aa S w w'→E S w c x→E S w' c x
 wide:∀ {S T:Nat→Prop} {w c x},(∀k,S k→T k)→E S w c x→E T w c x
theorem cH {α:Type}{n bw:Nat}{E:cO α}(g:cO.Good E):bT.Good (rx n bw E):=by
 constructor;·intro S w w' v l k h;obtain⟨a,cap,C,h1,I,J,h⟩:=h;refine⟨a,cap,C,h1,I,J,fun i x R=>?_⟩;obtain⟨b,off,cs,e,o,hl,Y,he⟩:=h i x R;exact⟨b,off,cs,e,o,hl,fun j c hj=>k.cell (p:=⟨b,off+i*n+j,none⟩) o (Y j c hj),g.keep k he⟩
 intro S T w v l k h;obtain⟨a,cap,C,h1,I,J,h⟩:=h;refine⟨a,cap,C,h1,I,J,fun i x R=>?_⟩;obtain⟨b,off,cs,e,o,hl,Y,he⟩:=h i x R;exact⟨b,off,cs,e,k b o,hl,Y,g.wide k he⟩
theorem rx.nil {α:Type}{n bw:Nat}{E:cO α}{S:Nat→Prop}{w:World}:rx n bw E S w (.slice none 0 0) []:=
 ⟨none,0,rfl,cf _,Nat.zero_le _,by simp,fun i x j=>by simp at j⟩
def EQ:bT ByteArray:=fun _ _ c s=>c=.string s
theorem iu:bT.Good EQ:=⟨fun _ h=>h,fun _ h=>h⟩
abbrev gB:=Sl 16 EQ
theorem ax:bT.Good gB:=oR iu
def U (x:BitVec 64):Value:=.int .u64 x.toNat
def Cz:bT (BitVec 64):=fun _ _ c x=>c=U x
theorem jO:bT.Good Cz:=⟨fun _ h=>h,fun _ h=>h⟩
abbrev nZ:=Sl 8 Cz
theorem dU:bT.Good nZ:=oR jO
def uy:cO (ByteArray×Int):=fun _ _ cs x=>cs=[.string x.1,.int .i64 x.2]∧(Lit.int .i64 x.2).wf=true
theorem FM:cO.Good uy:=⟨fun _ h=>h,fun _ h=>h⟩
abbrev kh:=rx 2 24 uy
theorem aX:bT.Good kh:=cH FM
structure aH where
 MZ:List ByteArray
 up:List (BitVec 64)
 Nb:List (ByteArray×Int)
 Na:List (ByteArray×Int)
 Nc:Int
def dJ (S:Nat→Prop)(w:World)(v:Value)(p:aH):Prop:=
 ∃a b c d,v=.agg #[a,b,c,d,.int .i64 p.Nc]∧gB S w a p.MZ∧nZ S w b p.up∧kh S w c p.Nb∧kh S w d p.Na∧(Lit.int .i64 p.Nc).wf=true
theorem cB:bT.Good dJ:=by
 constructor
 ·rintro S w w' v p k ⟨a,b,c,d,rfl,h1,j,o,C,I⟩
  exact⟨a,b,c,d,rfl,ax.keep k h1,dU.keep k j,aX.keep k o,aX.keep k C,I⟩
 rintro S T w v p k ⟨a,b,c,d,rfl,h1,j,o,C,I⟩;exact⟨a,b,c,d,rfl,ax.wide k h1,dU.wide k j,aX.wide k o,aX.wide k C,I⟩
def gJ {α:Type}(p:α→Bool)(l:List α):Int:=if l.any p then(l.findIdx p:Int) else-1
theorem lL {α:Type}{p:α→Bool}{l:List α}{k:Nat}{x:α}(C:l[k]? =some x)(h:p x=true)(o:∀y∈l.take k,p y=false):gJ p l=k:=by
 obtain⟨j,rfl⟩:=lS.1 C;have h1:l.any p=true:=mW.2 ⟨_,eL j,h⟩;have I:l.findIdx p=k:=by rw[List.findIdx_eq j];exact⟨h,fun m hm=>o _ (List.mem_take_iff_getElem.2 ⟨m,by omega,rfl⟩)⟩
 unfold gJ;rw[ap h1,I]
theorem lM {α:Type}{p:α→Bool}{l:List α}(j:∀y∈l,p y=false):gJ p l= -1:=by
 have h1:l.any p=false:=List.any_eq_false.2 fun x o=>by rw[j x o];simp
 unfold gJ;rw[h1];rfl
theorem kT {α:Type}(p:α→Bool)(l:List α): -1≤gJ p l∧gJ p l<(l.length:Int)+1:=by unfold gJ;have:=List.findIdx_le_length (xs:=l) (p:=p);split<;>omega
theorem pP {α:Type}{p:α→Bool}{l:List α}{k:Nat}{x:α}(o:l[k]? =some x)(h:p x=false)(j:∀y∈l.take k,p y=false):∀y∈l.take (k+1),p y=false:=by
 intro y hy;rw[cU,o] at hy;rcases eD.1 hy with hy|hy;·exact j y hy
 rw[show y=x by simpa using hy];exact h
theorem At (s:ByteArray)(w:World):Calls prog 91 #[.string s] w fun e w'=>e=.returned (.string s)∧w=w':=by go_enter func91,ntmps91;go_wp2;go_ret;exact⟨rfl,rfl⟩
theorem zO (s:ByteArray)(n:Int)(w:World):Calls prog 151 #[.agg #[.string s,.int .i64 n]] w fun e w'=>e=.returned (.string s)∧aa All w w':=by have j:=fun o=>(aa.refl All w).alloc o;have C:=oH j;clear j;go_enter func151,ntmps151;go_wp2;go_ret;exact⟨rfl,C.out _⟩
theorem Eb (x s:ByteArray)(g1 g2:Nat)(w:World)(h1:al w g1 182 #[.func (.func 91) #[] #[]])(j:al w g2 9 #[.string s]):
 Calls prog 155 #[.string x,.pointer (some ⟨g1,0,none⟩),.pointer (some ⟨g2,0,none⟩)] w fun e w'=>e=.returned (.bool (x.toList==s.toList))∧aa All w w':=by
 have o:=h1.cl 0;have c2:=j.cl 0;clear h1 j;go_enter func155,ntmps155;go_wp2_with fail;go_quiet ((go_at_call 91;exact Calls.quiet_of_same ((At _ _).mono fun _ _ h=>⟨h.1,h.2.symm⟩)));go_wp2;go_ret;exact⟨rfl,kR.drewN _⟩
theorem Ea (x:ByteArray×Int)(s:ByteArray)(g1 g2:Nat)(w:World)(h1:al w g1 228 #[.func (.func 151) #[] #[]])(C:al w g2 9 #[.string s]):
 Calls prog 198 #[.agg #[.string x.1,.int .i64 x.2],.pointer (some ⟨g1,0,none⟩),.pointer (some ⟨g2,0,none⟩)] w fun e w'=>e=.returned (.bool (x.1.toList==s.toList))∧aa All w w':=by
 have I:∀wn,aa All (w.alloc (.cells #[.string x.1,.int .i64 x.2] 226)) wn→wn.cell? ⟨g1,0,none⟩=some (.func (.func 151) #[] #[])∧wn.cell? ⟨g2,0,none⟩=some (.string s)∧
  wn.cell? ⟨w.heap.size,0,none⟩=some (.string x.1)∧wn.cell? ⟨w.heap.size,1,none⟩=some (.int .i64 x.2):=fun wn j=>
  ⟨((h1.alloc _).kept j trivial).cell 0,((C.alloc _).kept j trivial).cell 0,((al.new _ _ _).kept j trivial).cell 0,((al.new _ _ _).kept j trivial).cell 1⟩
 have J:=oH I;clear I h1 C;go_enter func198,ntmps198;go_wp2_with fail;refine eK (aa All (w.alloc (.cells #[.string x.1,.int .i64 x.2] 226))) [] (fun _ _ _=>True) (fun k=>if k=2 then some (fun v=>v=.string x.1) else none) (by kernel_rfl) (by kernel_rfl) (by kernel_rfl) (by kernel_rfl) kR.drew ?_;iterate 2 (refine OR (fun wn j R=>by(obtain⟨e1,Y,e3,e4⟩:=J.out wn j);go_simp;with_reducible rfl) ?_)
 refine gi (by rfl) (by rfl) (fun wn j R=>?_) ?_;·go_simp;simp only[kl];refine(zO _ _ _).mono ?_;rintro Y wq ⟨rfl,o⟩;exact⟨_,rfl,rfl,j.trans o,fun _ _ _ _=>trivial,fun _ _ _=>trivial⟩
 rintro v rfl;simp only[PS];iterate 3 (refine OR (fun wn j R=>by(obtain⟨e1,Y,e3,e4⟩:=J.out wn j);go_simp;with_reducible rfl) ?_)
 refine dQ fun wn j _=>?_;have HK:=oH ((kR.alloc _).trans j);clear j;go_wp2;go_ret;exact⟨rfl,HK.out⟩
theorem FQ (S:Nat→Prop)(v:Value)(l:List ByteArray)(p:ByteArray→Bool)(p1 p2:Value)(w:World)(hv:gB S w v l)
 (hp:∀x wn,aa All w wn→Calls prog 155 #[.string x,p1,p2] wn fun e w'=>e=.returned (.bool (p x))∧aa All wn w'):
 Calls prog 154 #[v,.func (.func 155) #[] #[p1,p2]] w fun e w'=>e=.returned (.int .i64 (gJ p l))∧aa All w w':=by
 obtain⟨a,cap,rfl,h1,h2,_,h⟩:=hv;unfold maxLen at h2;have H:=J2 h hp;clear h hp;go_enter func154,ntmps154;go_wp2;go_loopg [8] l.length (fun g i wr=>∃k:Nat,k≤l.length∧g=l.length-k∧i=.int .i64 k∧aa All w wr∧∀y∈l.take k,p y=false);·exact⟨0,by omega,by omega,rfl,kR,by simp⟩
 obtain⟨k,hk,rfl,rfl,o,J⟩:=hrel;have R:=J2 o J;by_cases a1:k<l.length
 ·obtain⟨x,hx⟩:=eG a1;obtain⟨b,off,c,rfl,hs,hc,rfl⟩:=H.1 k x hx;have hd:=o.cell (p:=⟨b,off+k,none⟩) trivial hc;have j:=H.2 x wr o;have HX:=oH hx;clear hc o J hx;cases C:p x with
  |true=>rw[C] at j;have Y:=J2 j C;clear j C;go_wp2_with fail;refine Y.1.mono ?_;rintro e w' ⟨rfl,I⟩;have HK:=oH I;clear I;go_wp2_with fail;go_ret;exact⟨by rw[lL HX.out Y.2 R.2];rfl,R.1.trans HK.out⟩
  |false=>
   rw[C] at j;have Y:=J2 j C;clear j C;go_wp2_with fail;refine Y.1.mono ?_;rintro e w' ⟨rfl,I⟩;have HK:=oH I;clear I;go_wp2_with fail;go_roundg (l.length-(k+1));·exact⟨k+1,by omega,rfl,by go_num,R.1.trans HK.out,pP HX.out Y.2 R.2⟩
   omega
 obtain rfl:k=l.length:=by omega
 clear o J;go_wp2_with fail;go_ret;exact⟨by rw[lM (by have:=R.2;rwa [dZ] at this)];rfl,R.1⟩
theorem FP (S:Nat→Prop)(v:Value)(l:List (ByteArray×Int))(p:ByteArray×Int→Bool)(p1 p2:Value)(w:World)(hv:kh S w v l)
 (hp:∀x wn,aa All w wn→Calls prog 198 #[.agg #[.string x.1,.int .i64 x.2],p1,p2] wn fun e w'=>e=.returned (.bool (p x))∧aa All wn w'):
 Calls prog 197 #[v,.func (.func 198) #[] #[p1,p2]] w fun e w'=>e=.returned (.int .i64 (gJ p l))∧aa All w w':=by
 obtain⟨a,cap,rfl,h1,h2,_,h⟩:=hv;unfold maxLen at h2;have H:=J2 h hp;clear h hp;go_enter func197,ntmps197;go_wp2;go_loopg [8] l.length (fun g i wr=>∃k:Nat,k≤l.length∧g=l.length-k∧i=.int .i64 k∧aa All w wr∧∀y∈l.take k,p y=false);·exact⟨0,by omega,by omega,rfl,kR,by simp⟩
 obtain⟨k,hk,rfl,rfl,j,J⟩:=hrel;have R:=J2 j J;by_cases a1:k<l.length
 ·obtain⟨x,hx⟩:=eG a1;obtain⟨b,off,cs,rfl,hs,_,hc,rfl,_⟩:=H.1 k x hx;have hd:=j.cell (p:=⟨b,off+k*2,none⟩) trivial (hc 0 _ rfl);have a6:=j.cell (p:=⟨b,off+k*2+1,none⟩) trivial (hc 1 _ rfl);have o:=H.2 x wr j;have HX:=oH hx;clear hc j J hx;cases C:p x with
  |true=>rw[C] at o;have Y:=J2 o C;clear o C;go_wp2_with fail;refine Y.1.mono ?_;rintro e w' ⟨rfl,I⟩;have HK:=oH I;clear I;go_wp2_with fail;go_ret;exact⟨by rw[lL HX.out Y.2 R.2];rfl,R.1.trans HK.out⟩
  |false=>
   rw[C] at o;have Y:=J2 o C;clear o C;go_wp2_with fail;refine Y.1.mono ?_;rintro e w' ⟨rfl,I⟩;have HK:=oH I;clear I;go_wp2_with fail;go_roundg (l.length-(k+1));·exact⟨k+1,by omega,rfl,by go_num,R.1.trans HK.out,pP HX.out Y.2 R.2⟩
   omega
 obtain rfl:k=l.length:=by omega
 clear j J;go_wp2_with fail;go_ret;exact⟨by rw[lM (by have:=R.2;rwa [dZ] at this)];rfl,R.1⟩
theorem CV (S:Nat→Prop)(v:Value)(l:List ByteArray)(s:ByteArray)(w:World)(C:gB S w v l):
 Calls prog 90 #[v,.func (.func 91) #[] #[],.string s] w fun e w'=>e=.returned (.tuple #[.int .i64 (max (gJ (fun x=>x.toList==s.toList) l) 0),.bool (decide (0≤gJ (fun x=>x.toList==s.toList) l))])∧aa All w w':=by
 have j:=FQ S v l (fun x=>x.toList==s.toList) (.pointer (some ⟨w.heap.size,0,none⟩)) (.pointer (some ⟨w.heap.size+1,0,none⟩)) ((w.alloc (.cells #[.func (.func 91) #[] #[]] 182)).alloc (.cells #[.string s] 9))
  (ax.keep (((aa.refl All w).alloc _).alloc _).all C) (fun x wn o=>Eb x s w.heap.size (w.heap.size+1) wn (((al.new _ _ _).alloc _).kept o trivial) ((ac (by simp)).kept o trivial))
 have I:=kT (fun x:ByteArray=>x.toList==s.toList) l;have hlen:l.length≤140737488355328:=by obtain⟨a,cap,_,_,_,h,_⟩:=C;omega
 have J:=oH j;clear j C;generalize gJ (fun x:ByteArray=>x.toList==s.toList) l=r at*;go_enter func90,ntmps90;go_wp2_with fail;refine J.out.mono ?_;rintro e w' ⟨rfl,o⟩;have R:=oH ((((aa.refl All w).alloc _).alloc _).trans o);clear o;go_wp2_with fail
 all_goals
  go_ret2;exact⟨by first|(rw[Int.max_eq_right (by omega)];rfl)|(rw[Int.max_eq_left (by omega)];rfl),R.out⟩
theorem qt (S:Nat→Prop)(v:Value)(l:List (ByteArray×Int))(s:ByteArray)(w:World)(C:kh S w v l):
 Calls prog 150 #[v,.func (.func 151) #[] #[],.string s] w fun e w'=>e=.returned (.tuple #[.int .i64 (max (gJ (fun x=>x.1.toList==s.toList) l) 0),.bool (decide (0≤gJ (fun x=>x.1.toList==s.toList) l))])∧aa All w w':=by
 have j:=FP S v l (fun x=>x.1.toList==s.toList) (.pointer (some ⟨w.heap.size,0,none⟩)) (.pointer (some ⟨w.heap.size+1,0,none⟩)) ((w.alloc (.cells #[.func (.func 151) #[] #[]] 228)).alloc (.cells #[.string s] 9))
  (aX.keep (((aa.refl All w).alloc _).alloc _).all C) (fun x wn o=>Ea x s w.heap.size (w.heap.size+1) wn (((al.new _ _ _).alloc _).kept o trivial) ((ac (by simp)).kept o trivial))
 have I:=kT (fun x:ByteArray×Int=>x.1.toList==s.toList) l;have hlen:l.length≤140737488355328:=by obtain⟨a,cap,_,_,_,h,_⟩:=C;omega
 have J:=oH j;clear j C;generalize gJ (fun x:ByteArray×Int=>x.1.toList==s.toList) l=r at*;go_enter func150,ntmps150;go_wp2_with fail;refine J.out.mono ?_;rintro e w' ⟨rfl,o⟩;have R:=oH ((((aa.refl All w).alloc _).alloc _).trans o);clear o;go_wp2_with fail
 all_goals
  go_ret2;exact⟨by first|(rw[Int.max_eq_right (by omega)];rfl)|(rw[Int.max_eq_left (by omega)];rfl),R.out⟩
def eZ (p:aH)(s:ByteArray):Int:=gJ (fun x=>x.toList==s.toList) p.MZ
def fD (l:List (ByteArray×Int))(s:ByteArray):Int:=gJ (fun x=>x.1.toList==s.toList) l
abbrev lH (r:Int):Value:=.tuple #[.int .i64 (max r 0),.bool (decide (0≤r))]
theorem qB (S:Nat→Prop)(v:Value)(p:aH)(s:ByteArray)(w:World)(I:dJ S w v p):
 Calls prog 49 #[v,.string s] w fun e w'=>e=.returned (lH (eZ p s))∧aa All w w':=by
 obtain⟨a,b,c,d,rfl,h1,_⟩:=I;have j:=fun o=>CV S a p.MZ s (w.alloc o) (ax.keep ((aa.refl All w).alloc _).all h1);have J:=oH j;have R:=oH fun o=>(aa.refl All w).alloc o;clear j h1;unfold eZ;generalize gJ (fun x:ByteArray=>x.toList==s.toList) p.MZ=r at*;go_enter func49,ntmps49;go_wp2_with (go_at_call 90;refine(J.out _).mono ?_;rintro e w' ⟨rfl,C⟩;have Y:=oH C;clear C);go_ret2;exact⟨rfl,(R.out _).trans Y.out⟩
theorem Dh (S:Nat→Prop)(v:Value)(p:aH)(s:ByteArray)(w:World)(I:dJ S w v p):
 Calls prog 202 #[v,.string s] w fun e w'=>e=.returned (lH (fD p.Nb s))∧aa All w w':=by
 obtain⟨a,b,c,d,rfl,_,_,h1,_⟩:=I;have j:=fun o=>qt S c p.Nb s (w.alloc o) (aX.keep ((aa.refl All w).alloc _).all h1);have J:=oH j;have R:=oH fun o=>(aa.refl All w).alloc o;clear j h1;unfold fD;generalize gJ (fun x:ByteArray×Int=>x.1.toList==s.toList) p.Nb=r at*;go_enter func202,ntmps202;go_wp2_with (go_at_call 150;refine(J.out _).mono ?_;rintro e w' ⟨rfl,C⟩;have Y:=oH C;clear C);go_ret2;exact⟨rfl,(R.out _).trans Y.out⟩
theorem AJ (S:Nat→Prop)(v:Value)(p:aH)(s:ByteArray)(w:World)(I:dJ S w v p):
 Calls prog 203 #[v,.string s] w fun e w'=>e=.returned (lH (fD p.Na s))∧aa All w w':=by
 obtain⟨a,b,c,d,rfl,_,_,_,h1,_⟩:=I;have j:=fun o=>qt S d p.Na s (w.alloc o) (aX.keep ((aa.refl All w).alloc _).all h1);have J:=oH j;have R:=oH fun o=>(aa.refl All w).alloc o;clear j h1;unfold fD;generalize gJ (fun x:ByteArray×Int=>x.1.toList==s.toList) p.Na=r at*;go_enter func203,ntmps203;go_wp2_with (go_at_call 150;refine(J.out _).mono ?_;rintro e w' ⟨rfl,C⟩;have Y:=oH C;clear C);go_ret2;exact⟨rfl,(R.out _).trans Y.out⟩
def aB (s:ByteArray):Bool:=dW s&&!jv s
theorem vK (s:ByteArray)(w:World):Calls prog 72 #[.string s] w fun e w'=>e=.returned (.bool (aB s))∧aa All w w':=by
 have j:=yL s w;have hw:=fun w=>zC s w;unfold aB;cases h:dW s with
 |true=>rw[h] at j;have C:=J2 j hw;clear j hw h;generalize jv s=b at*;go_enter func72,ntmps72;go_wp2_with (first|(go_at_call 132;refine C.1.mono ?_;rintro e J ⟨rfl,o⟩;have I:=oH o;clear o)|(go_at_call 133;refine(C.2 _).mono ?_;rintro e w' ⟨rfl,rfl⟩));go_ret;exact⟨by simp,I.out⟩
 |false=>rw[h] at j;have C:=oH j;clear j hw h;go_enter func72,ntmps72;go_wp2_with (go_at_call 132;refine C.out.mono ?_;rintro e J ⟨rfl,o⟩;have I:=oH o;clear o);go_ret;exact⟨rfl,I.out⟩
end Go.Proofs.YtgdlhckhpolnnaaGreatDoor
