/- Part 26 of the proof (its last part says what is proved). No condition. -/
import Derived.Test.YtccbbkopmlnkpaaGreatDoorK24
namespace Go.Proofs.YtccbbkopmlnkpaaGreatDoor
set_option maxRecDepth 100000
set_option maxHeartbeats 8000000
open Go.RowKit Go.Proofs.Tryz
structure zu (ll:List (List Int))(p q:Nat→Bool)(i:Nat)(s:List Nat):Prop where
 post:ie (fd ll) i s
 nodup:s.Nodup
 mem:∀x,x∈s↔(q x=true∧rA p i x=false)
structure Ic (ll:List (List Int))(p q:Nat→Bool)(i:Nat)(s:List Nat):Prop where
 post:ie (fd ll) i s
 nodup:(s++[i]).Nodup
 mem:∀x,x∈s++[i]↔(q x=true∧p x=false)
theorem GV (ll:List (List Int))(p:Nat→Bool)(i:Nat):zu ll p (rA p i) i []:=⟨GG _ _,List.nodup_nil,fun x=>by simp⟩
theorem vN {ll:List (List Int)}{p q Y:Nat→Bool}{i j:Nat}{s sj:List Nat}(h:zu ll p q i s)(J:∀k,rA p i k=true→q k=true)(C:∀k,q k=true→Y k=true)(he:fd ll i j)(R:Ic ll q Y j sj):zu ll p Y i (s++(sj++[j])):=by
 refine⟨GF h.post R.post he,?_,fun x=>?_⟩;·refine List.nodup_append.2 ⟨h.nodup,R.nodup,fun a ha b hb e=>?_⟩;subst e;have I:=((h.mem a).1 ha).1;have o:=((R.mem a).1 hb).2;rw[I] at o;cases o
 rw[dV,h.mem,R.mem];constructor
 ·rintro(⟨I,o⟩|⟨I,o⟩);·exact⟨C x I,o⟩
  refine⟨I,?_⟩;cases hu:rA p i x with
  |false=>rfl
  |true=>rw[J x hu] at o;cases o
 rintro⟨I,o⟩;cases hq:q x with
 |false=>exact .inr ⟨I,rfl⟩
 |true=>exact .inl ⟨rfl,o⟩
theorem yW {ll:List (List Int)}{p q:Nat→Bool}{i:Nat}{s:List Nat}(h:zu ll p q i s)(o:p i=false)(C:q i=true):Ic ll p q i s:=by
 refine⟨h.post,?_,fun x=>?_⟩;·refine List.nodup_append.2 ⟨h.nodup,by simp,fun a I b j e=>?_⟩;have j:=ce.1 j;subst j;subst e;have:=((h.mem a).1 I).2;rw[fQ] at this;cases this
 rw[dV,h.mem,ce];by_cases e:x=i;·subst e;simp[o,C]
 rw[jL e];simp[e]
def xy (n:Nat)(p:Nat→Bool)(l:List Nat):Prop:=l.Nodup∧∀x∈l,p x=true∧x<n
theorem zh {n:Nat}{p:Nat→Bool}{l:List Nat}(h:xy n p l):l.length≤n:=by have:=List.Nodup.length_le_of_subset h.1 (l₂:=List.range n) fun x j=>dW.2 (h.2 x j).2;simpa using this
theorem zi {ll:List (List Int)}{p q:Nat→Bool}{i:Nat}{l s:List Nat}(Y:bV ll)(hi:i<ll.length)(h:xy ll.length p l)(R:zu ll p q i s)(C:∀k,rA p i k=true→q k=true)(I:∀k,q k=true→p k=true∨bm ll i k):xy ll.length q (l++s):=by
 refine⟨List.nodup_append.2 ⟨h.1,R.nodup,fun a ha b hb e=>?_⟩,fun x j=>?_⟩
 ·subst e
  have J:=(h.2 a ha).1;have o:=((R.mem a).1 hb).2;rw[oX _ _ _ J] at o;cases o
 rcases dV.1 j with j|j;·exact⟨C x (oX _ _ _ (h.2 x j).1),(h.2 x j).2⟩
 have J:=(R.mem x).1 j;refine⟨J.1,?_⟩;rcases I x J.1 with o|o;·have:=J.2;rw[oX _ _ _ o] at this;cases this
 exact yP Y hi o
def SV (g bo base:Nat):Nat→Prop:=fun b=>b≠g∧b≠bo∧b<base
def mz (_ _:Nat)(_:World)(_:List Nat):Prop:=True
def mA (bo base:Nat)(w:World)(l:List Nat):Prop:=bo<base∧base≤w.heap.size∧∃vs,al w bo 38 #[vs]∧w.ownsRow base 3 1 vs l.length (aW (l.map Int.ofNat))
theorem mz.keep {j base g:Nat}{w o:World}{l:List Nat}(_:mz j base w l)(_:aa (fun b=>b≠g) w o)(_:g<base)(_:g≠j):mz j base o l:=trivial
theorem mA.keep {j base g:Nat}{w C:World}{l:List Nat}(h:mA j base w l)(k:aa (fun b=>b≠g) w C)(hg:g<base)(J:g≠j):mA j base C l:=by obtain⟨R,Y,vs,h3,I⟩:=h;exact⟨R,dA Y k.size,vs,h3.kept k (fun e=>J e.symm),ay I k fun b o=>by have:=(au I o).1;show b≠g;omega⟩
theorem Ee (j base i:Nat)(w:World)(l:List Nat)(_:mz j base w l)(_:l.length≤1000)(_:i≤1000):
 Calls prog 29 #[.int .i64 i] w fun e o=>e=.returned (.tuple #[])∧mz j base o (l++[i])∧aa (fun b=>b≠j∧b<base) w o:=by
 go_enter func29,ntmps29;go_wp2
 go_end0
 exact⟨rfl,trivial,kR⟩
theorem Ef (bo base i:Nat)(w:World)(l:List Nat)(hT:mA bo base w l)(hl:l.length≤1000)(_:i≤1000):
 Calls prog 108 #[.int .i64 i,.pointer (some ⟨bo,0,none⟩)] w fun e w'=>e=.returned (.tuple #[])∧mA bo base w' (l++[i])∧aa (fun b=>b≠bo∧b<base) w w':=by
 obtain⟨i3,a6,a7,a8,b0⟩:=info_parts sE;have I3:=J4 a6 a7 a8 b0;clear a6 a7 a8 b0;obtain⟨h1,h2,vs,h3,h4⟩:=hT;have a1:=h3.cell 0;have o:(w.alloc (.cells #[.int .i64 i] 3)).ownsRow base 3 1 vs l.length (aW (l.map Int.ofNat)):=ay h4 ((aa.refl All w).alloc _) (fun _ _=>trivial);obtain⟨A0,c0,rfl⟩:=cd h4;have HT:=J2 h3 h4;clear h3 h4;simp only[gc] at a1;go_enter func108,ntmps108;go_wp2_with (
  at_builtin;refine cW _ rfl (.tmp 3) (.tmp 5) 38 rfl base 3 i3 _ 1 8 underlying38 I3.1 I3.2.1 I3.2.2.1 I3.2.2.2 rfl (by decide) _ _ _ rfl o (some ⟨w.heap.size,0,none⟩) 1 1 [.int .i64 i] rfl rfl ?_ ?_ (by unfold maxLen;omega) (by omega) (by simp;omega) ?_;·intro _;exact⟨_,_,rfl,fun j u hu=>by rw[dU,al.cell (al.new _ _ _)];simpa using hu⟩
  ·intro u hu
   rw[ce.1 hu];rfl
  intro v2 w2 C b1 b2;obtain⟨A2,c2,rfl⟩:=cd C;have b3:∀b,(Value.slice A0 l.length c0).ownBlock=some b→base≤b:=fun b hb=>(au o hb).1;have J:aa (fun b=>b<base) w w2:=((aa.refl _ w).alloc _).grown b1 fun g hg=>.inl fun h=>by have:=b3 g hg;omega
  have R:=HT.1.kept J h1;have Y:=R.cell 0;have b4:=R.free 0;have b5:=J.size;have HS:=J3 C J R;clear C b1 b2 J o b3 R;simp only[gc] at Y)
 go_end0
 obtain⟨g1,g2,g3⟩:=HS.out;have I:aa (fun b=>b≠bo) w2 (w2.setCell ⟨bo,0,none⟩ (.slice A2 (l.length+1) c2)):=(aa.refl _ w2).setCell (p:=⟨bo,0,none⟩) (.inl fun h=>h rfl) _;refine⟨rfl,⟨h1,by have:=I.size;omega,_,g3.set 0 _,?_⟩,(g2.mono fun b hb=>hb.2).trans (I.mono fun b hb=>hb.1)⟩;rw[eV,List.length_singleton];have:=ay g1 I fun b hb=>by have:=(au g1 hb).1;show b≠bo;omega
 simpa [aW] using this
structure EF (ll:List (List Int))(v:Value)(bb bt bv bl g bo base:Nat)(w:World):Prop where
 been:al w bb 49 #[.slice (some ⟨g,0,none⟩) ll.length ll.length]
 tos:al w bt 54 #[v]
 visit:al w bv 72 #[.func (.func 50) #[] #[.pointer (some ⟨bb,0,none⟩),.pointer (some ⟨bt,0,none⟩),.pointer (some ⟨bv,0,none⟩),.pointer (some ⟨bl,0,none⟩)]]
 tell:al w bl 72 #[.func (.func 29) #[] #[]]
 rows:Rows (SV g bo base) w v ll
 ne:SV g bo base bb∧SV g bo base bt∧SV g bo base bv∧SV g bo base bl∧g<base∧g≠bo
theorem EF.keep {ll:List (List Int)}{v:Value}{o C I J g j base:Nat}{w R:World}(h:EF ll v o C I J g j base w)(k:aa (SV g j base) w R):EF ll v o C I J g j base R:=
 ⟨h.been.kept k h.ne.1,h.tos.kept k h.ne.2.1,h.visit.kept k h.ne.2.2.1,h.tell.kept k h.ne.2.2.2.1,aE.keep k h.rows,h.ne⟩
theorem Lw (ll:List (List Int))(hR:bV ll)(v:Value)(bb bt bv bl g bo base:Nat)(m:Nat):∀(i:Nat) (p:Nat→Bool) (l:List Nat) (w:World),Ib ll.length p≤m→i<ll.length→p i=false→EF ll v bb bt bv bl g bo base w→al w g 4 (aQ ll.length p)→mz bo base w l→xy ll.length p l→
 Calls prog 50 #[.int .i64 i,.pointer (some ⟨bb,0,none⟩),.pointer (some ⟨bt,0,none⟩),.pointer (some ⟨bv,0,none⟩),.pointer (some ⟨bl,0,none⟩)] w fun e w'=>
  e=.returned (.tuple #[])∧∃q s,al w' g 4 (aQ ll.length q)∧aa (SV g bo base) w w'∧Km ll p q i∧Ic ll p q i s∧mz bo base w' (l++(s++[i])):=by
 induction m with
 |zero=>intro i p l w hm hi hp;have:=lZ ll.length hi hp;omega
 |succ m ih=>
  intro i p l w hm hi hp env I b5 b6;have IH:=oH ih;clear ih;have hl:ll.length≤256:=hR.2.1;have c7:=nU hR hi;have a6:=fun j=>rC (ll:=ll) (j:=j) hi;have e9:ll[i].length≤256:=by have:=kh (hR.2.2 _ (jy hi));omega
  have e0:=oH env;obtain⟨a,cap,rfl,_,_,_,h⟩:=env.rows;obtain⟨b1,o1,c1,rfl,h0,e1,ra,j0,rfl,_,_,_,rh⟩:=h i ll[i] (lG hi);have a7:=cT (p:=p) hi;have h1:=env.been.cell 0;have h2:=env.tos.cell 0;have h4:=I.cell i;rw[a7,hp] at h4;have h5:=I.free i;simp only[gc] at h1 h2;have c9:aa (fun b=>b≠g) w (w.setCell ⟨g,i,none⟩ (.bool true)):=(aa.refl _ w).setCell (.inl fun h=>h rfl) _;have c4:aa (SV g bo base) w (w.setCell ⟨g,i,none⟩ (.bool true)):=c9.mono fun b hb=>hb.1;have b7:al (w.setCell ⟨g,i,none⟩ (.bool true)) g 4 (aQ ll.length (rA p i)):=by rw[←it (p:=p) (i:=i) (b:=true) (fQ _ _) (fun j _ hj=>jL hj)];exact I.set _ _
  have b4:=mz.keep b5 c9 env.ne.2.2.2.2.1 env.ne.2.2.2.2.2;have a8:=e0.out.keep c4;have h6:=a8.tos.cell 0;simp only[gc] at h6;have h7:=c4.cell (p:=⟨b1,o1+i,none⟩) h0 e1;have j2:=lZ ll.length hi hp;have HF:=J7 c7 a6 rh hp c4 b7 a8;have HL:=J3 hR b4 b6;clear c7 a6 rh hp c4 c9 b7 a8 I e1 h a7 env b5 b4 b6 hR;generalize ll[i]=row at*;go_enter func50,ntmps50;go_wp2_with fail;clear h1 h2 h4 h5 h6 h7
  go_loopg [16] row.length (fun gg x wr=>∃(k:Nat) (q:Nat→Bool) (s:List Nat),k≤row.length∧gg=row.length-k∧x=.int .i64 k∧al wr g 4 (aQ ll.length q)∧aa (SV g bo base) w wr∧
   (∀k,rA p i k=true→q k=true)∧(∀k,q k=true→p k=true∨bm ll i k)∧(∀k,q k=true→rA p i k=false→∀j,fd ll k j→q j=true)∧(∀(j:Nat) x,j<k→row[j]? =some x→q x.toNat=true)∧zu ll p q i s∧mz bo base wr (l++s))
  case atStart=>(
 refine⟨0,rA p i,[],by omega,by omega,rfl,HF.2.2.2.2.2.1,HF.2.2.2.2.1,fun _ h=>h,fun k hk=>?_,fun k h1 h2=>(by rw[h1] at h2;cases h2),fun j x hj=>by omega,GV _ _ _,by rw[List.append_nil];exact HL.2.1⟩;by_cases e:k=i;·subst e;exact .inr .refl
 rw[jL e] at hk;exact .inl hk)
  obtain⟨k,q,s,hk,rfl,rfl,I,Y,o,J,R,C,b8,e2⟩:=hrel;have d7:=zi HL.1 hi HL.2.2 b8 o J;have HQ:=J4 o J R C;have HG:=J3 b8 e2 d7;have b9:=zh d7;clear o J R C b8 e2 d7;have env:=e0.out.keep Y;by_cases c5:k<row.length;·(
 obtain⟨b2,o2,c2,rfl,h8,e3,rfl,j3⟩:=HF.2.2.1 k row[k] (lG c5);have h9:=Y.cell (p:=⟨b2,o2+k,none⟩) h8 e3;obtain⟨x0,x1⟩:=HF.1 row[k] (jy c5);have c8:row[k]∈row:=jy c5;have a7:row[k]? =some row[k]:=lG c5;have HM:=J2 c8 a7;clear c8 a7 e3;generalize row[k]=x at*;obtain⟨j,rfl⟩:∃j:Nat,x=j:=⟨x.toNat,by omega⟩;have e4:j<ll.length:=by omega
 have b0:wr.cell? ⟨g,j,none⟩=some (.bool (q j)):=by rw[I.cell,cT e4]
 have h1:=env.been.cell 0;have h3:=env.visit.cell 0;simp only[gc] at h1 h3;cases b3:q j with
 |true=>
  rw[b3] at b0;have e5:=oH b3;clear b3 b9;go_wp2_with fail;go_roundg (row.length-(k+1));·(
 obtain⟨o,J,R,C⟩:=HQ.out;refine⟨k+1,q,s,by omega,rfl,by go_num,I,Y,o,J,R,fun a x ha hx=>?_,HG.1,HG.2.1⟩;by_cases e:a=k
 ·subst e
  rw[HM.2] at hx;cases hx;rw[fD];exact e5.out
 exact C a x (by omega) hx)
  omega
 |false=>
  rw[b3] at b0;have j1:=tT ll.length (fun a _ ha=>HQ.1 a ha);have c0:=IH.out j q (l++s) wr (by omega) e4 b3 env I HG.2.1 HG.2.2;have d8:=oH c0;have e5:=oH b3;clear b3 c0 b9;go_wp2_with fail;refine d8.out.mono ?_;rintro e w' ⟨rfl,e6⟩;have i1:=oH e6;clear e6 b0 h9 h1 h3;go_wp2_with fail;go_roundg (row.length-(k+1));·(
 obtain⟨o,J,R,C⟩:=HQ.out;obtain⟨q',sj,d9,c6,⟨a1,a2,a3,a4⟩,e7,c3⟩:=i1.out;have a6:fd ll i j:=(HF.2.1 j).2 HM.1;refine⟨k+1,q',s++(sj++[j]),by omega,rfl,by go_num,d9,Y.trans c6,fun a ha=>a1 a (o a ha),fun a ha=>?_,fun a ha hn b hb=>?_,fun a x ha hx=>?_,vN HG.1 o a1 a6 e7,by rw[←jR];exact c3⟩
 ·rcases a3 a ha with h|h
  ·exact J a h
  exact .inr (bm.head a6 h)
 ·cases e8:q a with
  |true=>exact a1 b (R a e8 hn b hb)
  |false=>exact a4 a ha e8 b hb
 by_cases e:a=k
 ·subst e
  rw[HM.2] at hx;cases hx;rw[fD];exact a2
 exact a1 _ (C a x (by omega) hx))
  omega)
  have h4:=env.tell.cell 0;simp only[gc] at h4;have i6:=oH (Ee bo base i wr (l++s) HG.2.1 (by omega) (by omega));go_wp2_with (go_at_call 29;refine i6.out.mono ?_;rintro e w' ⟨rfl,c3,c6⟩)
  go_end0
  obtain⟨o,J,R,C⟩:=HQ.out;refine⟨rfl,q,s,I.kept c6 ⟨env.ne.2.2.2.2.2,env.ne.2.2.2.2.1⟩,Y.trans (c6.mono fun b hb=>hb.2),⟨fun a ha=>o a (oX _ _ _ ha),o i (fQ _ _),J,fun a ha hn b hb=>?_⟩,yW HG.1 HF.2.2.2.1 (o i (fQ _ _)),by rw[←jR];exact c3⟩;by_cases e:a=i;·subst e;have i7:=(HF.2.1 b).1 hb;obtain⟨c,hc,hx⟩:=List.getElem_of_mem i7;have:=C c (b:Int) (by omega) (by rw[lG hc,hx]);rwa [fD] at this
  exact R a ha (by rw[jL e];exact hn) b hb
def tY (_:Nat)(v:Value)(n:Nat)(w:World):World:=
 (((((w.alloc (.cells #[v] 54)).alloc (.cells #[.func (.func 29) #[] #[]] 72)).alloc (.cells (aQ n fun _=>false) 4)).alloc (.cells #[.slice (some ⟨w.heap.size+1+1,0,none⟩) n n] 49)).alloc
   (.cells #[.func (.func 50) #[] #[.pointer (some ⟨w.heap.size+1+1+1,0,none⟩),.pointer (some ⟨w.heap.size,0,none⟩),.pointer (some ⟨w.heap.size+1+1+1+1,0,none⟩),.pointer (some ⟨w.heap.size+1,0,none⟩)]] 72))
theorem Bf {v:Value}{ll:List (List Int)}{w:World}{j:Nat}(h:Rows (fun b=>b<w.heap.size∧b≠j) w v ll)(C:j<w.heap.size∨j=w.heap.size+5):
 EF ll v (w.heap.size+1+1+1) w.heap.size (w.heap.size+1+1+1+1) (w.heap.size+1) (w.heap.size+1+1) j (w.heap.size+5) (tY j v ll.length w)∧al (tY j v ll.length w) (w.heap.size+1+1) 4 (aQ ll.length fun _=>false)∧aa All w (tY j v ll.length w):=by
 have o:aa All w (tY j v ll.length w):=((((kR.alloc _).alloc _).alloc _).alloc _).alloc _;refine⟨⟨?_,?_,?_,?_,?_,by unfold SV;omega⟩,?_,o⟩;·exact(ac (by simp)).alloc _
 ·exact((((al.new _ _ _).alloc _).alloc _).alloc _).alloc _
 ·exact ac (by simp)
 ·exact(((ac (by simp)).alloc _).alloc _).alloc _
 ·exact aE.wide (fun b I=>by unfold SV;omega) (aE.keep o.all h)
 exact((ac (by simp)).alloc _).alloc _
theorem Er (bo:Nat)(v:Value)(ll:List (List Int))(f:Nat)(w:World)(hv:Rows (fun b=>b<w.heap.size∧b≠bo) w v ll)(hR:bV ll)(hf:f<ll.length)(b0:bo<w.heap.size∨bo=w.heap.size+5)(hT:mz bo (w.heap.size+5) (tY bo v ll.length w) []):
 Calls prog 28 #[v,.int .i64 f,.func (.func 29) #[] #[]] w fun e w'=>∃u s,e=.returned u∧aa (fun b=>b≠bo) w w'∧qO (fun b=>w.heap.size≤b) w' u (gZ ll f)∧mz bo (w.heap.size+5) w' (s++[f])∧ie (fd ll) f s∧(s++[f]).Nodup∧∀x,x∈s++[f]↔bm ll f x:=by
 have I:=Bf hv b0;obtain⟨a,cap,rfl,h1,h2,b1,h⟩:=hv;have hl:ll.length≤256:=hR.2.1;have R:=Lw ll hR _ _ _ _ _ _ _ _ _ f (fun _=>false) [] _ (bj _) hf rfl I.1 I.2.1 hT ⟨List.nodup_nil,fun x hx=>by cases hx⟩;have HR:=J3 hR I R;clear h h1 h2 b1 hR I R hT;have b2:=fun w=>pQ ll.length (by omega) w;go_enter func28,ntmps28;go_wp2_with fail;refine HR.2.2.mono ?_;rintro e w' ⟨rfl,q,s,J,o,Y,C,a7⟩;have HA:=J5 J o Y C a7;have a6:=HR.2.1.1.keep o;have hc:=a6.been.cell 0;simp only[gc] at hc;clear J o Y a6 C a7;go_wp2_with fail;go_ret;obtain⟨J,o,⟨a1,a2,a3,a4⟩,C,a7⟩:=HA.out;have hk:aa (fun b=>b<w.heap.size∧b≠bo) w w':=HR.2.1.2.2.all.trans (o.mono fun b hb=>by unfold SV;omega);have hq:∀k,q k=true↔bm ll f k:=fun k=>⟨fun h=>by rcases a3 k h with h|h;cases h;exact h,fun hr=>lV a2 (fun i hi j hj=>a4 i hi rfl j hj) k hr⟩;refine⟨_,s,rfl,⟨hk.os,hk.output,hk.size,fun k a8 hs=>hk.block k a8 ⟨a8,hs⟩⟩,nB J (by omega) hl fun k a8=>qE (hq k),by simpa using a7,C.post,C.nodup,fun x=>by rw[C.mem,hq];simp⟩
structure EG (ll:List (List Int))(v:Value)(bb bt bv bl g bo base:Nat)(w:World):Prop where
 been:al w bb 49 #[.slice (some ⟨g,0,none⟩) ll.length ll.length]
 tos:al w bt 54 #[v]
 visit:al w bv 72 #[.func (.func 50) #[] #[.pointer (some ⟨bb,0,none⟩),.pointer (some ⟨bt,0,none⟩),.pointer (some ⟨bv,0,none⟩),.pointer (some ⟨bl,0,none⟩)]]
 tell:al w bl 72 #[.func (.func 108) #[] #[.pointer (some ⟨bo,0,none⟩)]]
 rows:Rows (SV g bo base) w v ll
 ne:SV g bo base bb∧SV g bo base bt∧SV g bo base bv∧SV g bo base bl∧g<base∧g≠bo
theorem EG.keep {ll:List (List Int)}{v:Value}{o C I J g j base:Nat}{w R:World}(h:EG ll v o C I J g j base w)(k:aa (SV g j base) w R):EG ll v o C I J g j base R:=
 ⟨h.been.kept k h.ne.1,h.tos.kept k h.ne.2.1,h.visit.kept k h.ne.2.2.1,h.tell.kept k h.ne.2.2.2.1,aE.keep k h.rows,h.ne⟩
theorem Lx (ll:List (List Int))(hR:bV ll)(v:Value)(bb bt bv bl g bo base:Nat)(m:Nat):∀(i:Nat) (p:Nat→Bool) (l:List Nat) (w:World),Ib ll.length p≤m→i<ll.length→p i=false→EG ll v bb bt bv bl g bo base w→al w g 4 (aQ ll.length p)→mA bo base w l→xy ll.length p l→
 Calls prog 50 #[.int .i64 i,.pointer (some ⟨bb,0,none⟩),.pointer (some ⟨bt,0,none⟩),.pointer (some ⟨bv,0,none⟩),.pointer (some ⟨bl,0,none⟩)] w fun e w'=>
  e=.returned (.tuple #[])∧∃q s,al w' g 4 (aQ ll.length q)∧aa (SV g bo base) w w'∧Km ll p q i∧Ic ll p q i s∧mA bo base w' (l++(s++[i])):=by
 induction m with
 |zero=>intro i p l w hm hi hp;have:=lZ ll.length hi hp;omega
 |succ m ih=>
  intro i p l w hm hi hp env I b5 b6;have IH:=oH ih;clear ih;have hl:ll.length≤256:=hR.2.1;have c7:=nU hR hi;have a6:=fun j=>rC (ll:=ll) (j:=j) hi;have e9:ll[i].length≤256:=by have:=kh (hR.2.2 _ (jy hi));omega
  have e0:=oH env;obtain⟨a,cap,rfl,_,_,_,h⟩:=env.rows;obtain⟨b1,o1,c1,rfl,h0,e1,ra,j0,rfl,_,_,_,rh⟩:=h i ll[i] (lG hi);have a7:=cT (p:=p) hi;have h1:=env.been.cell 0;have h2:=env.tos.cell 0;have h4:=I.cell i;rw[a7,hp] at h4;have h5:=I.free i;simp only[gc] at h1 h2;have c9:aa (fun b=>b≠g) w (w.setCell ⟨g,i,none⟩ (.bool true)):=(aa.refl _ w).setCell (.inl fun h=>h rfl) _;have c4:aa (SV g bo base) w (w.setCell ⟨g,i,none⟩ (.bool true)):=c9.mono fun b hb=>hb.1;have b7:al (w.setCell ⟨g,i,none⟩ (.bool true)) g 4 (aQ ll.length (rA p i)):=by rw[←it (p:=p) (i:=i) (b:=true) (fQ _ _) (fun j _ hj=>jL hj)];exact I.set _ _
  have b4:=mA.keep b5 c9 env.ne.2.2.2.2.1 env.ne.2.2.2.2.2;have a8:=e0.out.keep c4;have h6:=a8.tos.cell 0;simp only[gc] at h6;have h7:=c4.cell (p:=⟨b1,o1+i,none⟩) h0 e1;have j2:=lZ ll.length hi hp;have HF:=J7 c7 a6 rh hp c4 b7 a8;have HL:=J3 hR b4 b6;clear c7 a6 rh hp c4 c9 b7 a8 I e1 h a7 env b5 b4 b6 hR;generalize ll[i]=row at*;go_enter func50,ntmps50;go_wp2_with fail;clear h1 h2 h4 h5 h6 h7
  go_loopg [16] row.length (fun gg x wr=>∃(k:Nat) (q:Nat→Bool) (s:List Nat),k≤row.length∧gg=row.length-k∧x=.int .i64 k∧al wr g 4 (aQ ll.length q)∧aa (SV g bo base) w wr∧
   (∀k,rA p i k=true→q k=true)∧(∀k,q k=true→p k=true∨bm ll i k)∧(∀k,q k=true→rA p i k=false→∀j,fd ll k j→q j=true)∧(∀(j:Nat) x,j<k→row[j]? =some x→q x.toNat=true)∧zu ll p q i s∧mA bo base wr (l++s))
  case atStart=>(
 refine⟨0,rA p i,[],by omega,by omega,rfl,HF.2.2.2.2.2.1,HF.2.2.2.2.1,fun _ h=>h,fun k hk=>?_,fun k h1 h2=>(by rw[h1] at h2;cases h2),fun j x hj=>by omega,GV _ _ _,by rw[List.append_nil];exact HL.2.1⟩;by_cases e:k=i;·subst e;exact .inr .refl
 rw[jL e] at hk;exact .inl hk)
  obtain⟨k,q,s,hk,rfl,rfl,I,Y,o,J,R,C,b8,e2⟩:=hrel;have d7:=zi HL.1 hi HL.2.2 b8 o J;have HQ:=J4 o J R C;have HG:=J3 b8 e2 d7;have b9:=zh d7;clear o J R C b8 e2 d7;have env:=e0.out.keep Y;by_cases c5:k<row.length;·(
 obtain⟨b2,o2,c2,rfl,h8,e3,rfl,j3⟩:=HF.2.2.1 k row[k] (lG c5);have h9:=Y.cell (p:=⟨b2,o2+k,none⟩) h8 e3;obtain⟨x0,x1⟩:=HF.1 row[k] (jy c5);have c8:row[k]∈row:=jy c5;have a7:row[k]? =some row[k]:=lG c5;have HM:=J2 c8 a7;clear c8 a7 e3;generalize row[k]=x at*;obtain⟨j,rfl⟩:∃j:Nat,x=j:=⟨x.toNat,by omega⟩;have e4:j<ll.length:=by omega
 have b0:wr.cell? ⟨g,j,none⟩=some (.bool (q j)):=by rw[I.cell,cT e4]
 have h1:=env.been.cell 0;have h3:=env.visit.cell 0;simp only[gc] at h1 h3;cases b3:q j with
 |true=>
  rw[b3] at b0;have e5:=oH b3;clear b3 b9;go_wp2_with fail;go_roundg (row.length-(k+1));·(
 obtain⟨o,J,R,C⟩:=HQ.out;refine⟨k+1,q,s,by omega,rfl,by go_num,I,Y,o,J,R,fun a x ha hx=>?_,HG.1,HG.2.1⟩;by_cases e:a=k
 ·subst e
  rw[HM.2] at hx;cases hx;rw[fD];exact e5.out
 exact C a x (by omega) hx)
  omega
 |false=>
  rw[b3] at b0;have j1:=tT ll.length (fun a _ ha=>HQ.1 a ha);have c0:=IH.out j q (l++s) wr (by omega) e4 b3 env I HG.2.1 HG.2.2;have d8:=oH c0;have e5:=oH b3;clear b3 c0 b9;go_wp2_with fail;refine d8.out.mono ?_;rintro e w' ⟨rfl,e6⟩;have i1:=oH e6;clear e6 b0 h9 h1 h3;go_wp2_with fail;go_roundg (row.length-(k+1));·(
 obtain⟨o,J,R,C⟩:=HQ.out;obtain⟨q',sj,d9,c6,⟨a1,a2,a3,a4⟩,e7,c3⟩:=i1.out;have a6:fd ll i j:=(HF.2.1 j).2 HM.1;refine⟨k+1,q',s++(sj++[j]),by omega,rfl,by go_num,d9,Y.trans c6,fun a ha=>a1 a (o a ha),fun a ha=>?_,fun a ha hn b hb=>?_,fun a x ha hx=>?_,vN HG.1 o a1 a6 e7,by rw[←jR];exact c3⟩
 ·rcases a3 a ha with h|h
  ·exact J a h
  exact .inr (bm.head a6 h)
 ·cases e8:q a with
  |true=>exact a1 b (R a e8 hn b hb)
  |false=>exact a4 a ha e8 b hb
 by_cases e:a=k
 ·subst e
  rw[HM.2] at hx;cases hx;rw[fD];exact a2
 exact a1 _ (C a x (by omega) hx))
  omega)
  have h4:=env.tell.cell 0;simp only[gc] at h4;have i6:=oH (Ef bo base i wr (l++s) HG.2.1 (by omega) (by omega));go_wp2_with (go_at_call 108;refine i6.out.mono ?_;rintro e w' ⟨rfl,c3,c6⟩)
  go_end0
  obtain⟨o,J,R,C⟩:=HQ.out;refine⟨rfl,q,s,I.kept c6 ⟨env.ne.2.2.2.2.2,env.ne.2.2.2.2.1⟩,Y.trans (c6.mono fun b hb=>hb.2),⟨fun a ha=>o a (oX _ _ _ ha),o i (fQ _ _),J,fun a ha hn b hb=>?_⟩,yW HG.1 HF.2.2.2.1 (o i (fQ _ _)),by rw[←jR];exact c3⟩;by_cases e:a=i;·subst e;have i7:=(HF.2.1 b).1 hb;obtain⟨c,hc,hx⟩:=List.getElem_of_mem i7;have:=C c (b:Int) (by omega) (by rw[lG hc,hx]);rwa [fD] at this
  exact R a ha (by rw[jL e];exact hn) b hb
def qJ (bo:Nat)(v:Value)(n:Nat)(w:World):World:=
 (((((w.alloc (.cells #[v] 54)).alloc (.cells #[.func (.func 108) #[] #[.pointer (some ⟨bo,0,none⟩)]] 72)).alloc (.cells (aQ n fun _=>false) 4)).alloc (.cells #[.slice (some ⟨w.heap.size+1+1,0,none⟩) n n] 49)).alloc
   (.cells #[.func (.func 50) #[] #[.pointer (some ⟨w.heap.size+1+1+1,0,none⟩),.pointer (some ⟨w.heap.size,0,none⟩),.pointer (some ⟨w.heap.size+1+1+1+1,0,none⟩),.pointer (some ⟨w.heap.size+1,0,none⟩)]] 72))
theorem Bg {v:Value}{ll:List (List Int)}{w:World}{j:Nat}(h:Rows (fun b=>b<w.heap.size∧b≠j) w v ll)(C:j<w.heap.size∨j=w.heap.size+5):
 EG ll v (w.heap.size+1+1+1) w.heap.size (w.heap.size+1+1+1+1) (w.heap.size+1) (w.heap.size+1+1) j (w.heap.size+5) (qJ j v ll.length w)∧al (qJ j v ll.length w) (w.heap.size+1+1) 4 (aQ ll.length fun _=>false)∧aa All w (qJ j v ll.length w):=by
 have o:aa All w (qJ j v ll.length w):=((((kR.alloc _).alloc _).alloc _).alloc _).alloc _;refine⟨⟨?_,?_,?_,?_,?_,by unfold SV;omega⟩,?_,o⟩;·exact(ac (by simp)).alloc _
 ·exact((((al.new _ _ _).alloc _).alloc _).alloc _).alloc _
 ·exact ac (by simp)
 ·exact(((ac (by simp)).alloc _).alloc _).alloc _
 ·exact aE.wide (fun b I=>by unfold SV;omega) (aE.keep o.all h)
 exact((ac (by simp)).alloc _).alloc _
theorem Es (bo:Nat)(v:Value)(ll:List (List Int))(f:Nat)(w:World)(hv:Rows (fun b=>b<w.heap.size∧b≠bo) w v ll)(hR:bV ll)(hf:f<ll.length)(b0:bo<w.heap.size∨bo=w.heap.size+5)(hT:mA bo (w.heap.size+5) (qJ bo v ll.length w) []):
 Calls prog 28 #[v,.int .i64 f,.func (.func 108) #[] #[.pointer (some ⟨bo,0,none⟩)]] w fun e w'=>∃u s,e=.returned u∧aa (fun b=>b≠bo) w w'∧qO (fun b=>w.heap.size≤b) w' u (gZ ll f)∧mA bo (w.heap.size+5) w' (s++[f])∧ie (fd ll) f s∧(s++[f]).Nodup∧∀x,x∈s++[f]↔bm ll f x:=by
 have I:=Bg hv b0;obtain⟨a,cap,rfl,h1,h2,b1,h⟩:=hv;have hl:ll.length≤256:=hR.2.1;have R:=Lx ll hR _ _ _ _ _ _ _ _ _ f (fun _=>false) [] _ (bj _) hf rfl I.1 I.2.1 hT ⟨List.nodup_nil,fun x hx=>by cases hx⟩;have HR:=J3 hR I R;clear h h1 h2 b1 hR I R hT;have b2:=fun w=>pQ ll.length (by omega) w;go_enter func28,ntmps28;go_wp2_with fail;refine HR.2.2.mono ?_;rintro e w' ⟨rfl,q,s,J,o,Y,C,a7⟩;have HA:=J5 J o Y C a7;have a6:=HR.2.1.1.keep o;have hc:=a6.been.cell 0;simp only[gc] at hc;clear J o Y a6 C a7;go_wp2_with fail;go_ret;obtain⟨J,o,⟨a1,a2,a3,a4⟩,C,a7⟩:=HA.out;have hk:aa (fun b=>b<w.heap.size∧b≠bo) w w':=HR.2.1.2.2.all.trans (o.mono fun b hb=>by unfold SV;omega);have hq:∀k,q k=true↔bm ll f k:=fun k=>⟨fun h=>by rcases a3 k h with h|h;cases h;exact h,fun hr=>lV a2 (fun i hi j hj=>a4 i hi rfl j hj) k hr⟩;refine⟨_,s,rfl,⟨hk.os,hk.output,hk.size,fun k a8 hs=>hk.block k a8 ⟨a8,hs⟩⟩,nB J (by omega) hl fun k a8=>qE (hq k),by simpa using a7,C.post,C.nodup,fun x=>by rw[C.mem,hq];simp⟩
section
section
variable {ll:List (List Int)}
noncomputable def fF (ll:List (List Int)):List (List Int):=(List.range ll.length).map (cj ll ll.length)
theorem eJ:(fF ll).length=ll.length:=by simp[fF]
theorem mD {k:Nat}(h:k<ll.length):(fF ll)[k]? =some (cj ll ll.length k):=by simp[fF,h]
theorem ET (j:bV ll){a b:Nat}(h:fd ll a b):b<ll.length:=by obtain⟨row,o,C⟩:=h;have:=(j.2.2 row (mG o)).1 _ C;omega
theorem uF (o:bV ll){a b:Nat}:fd (fF ll) a b↔fd ll b a:=by
 constructor
 ·rintro⟨row,j,C⟩;have I:a<ll.length:=by have:=(lS.1 j).1;rwa [eJ] at this
  rw[mD I] at j;cases j;obtain⟨c,e,_,J⟩:=gX.1 C;rw[Int.ofNat.inj e];exact J
 exact fun h=>⟨_,mD (ET o h),gX.2 ⟨b,rfl,mC h,h⟩⟩
theorem xE (o:bV ll){a b:Nat}:bm (fF ll) a b↔bm ll b a:=by
 constructor
 ·intro h
  induction h with
  |refl=>exact .refl
  |step _ e j=>exact .head ((uF o).1 e) j
 intro h;induction h with
 |refl=>exact .refl
 |step _ e j=>exact .head ((uF o).2 e) j
theorem xG (j:bV ll):bV (fF ll):=by refine⟨by rw[eJ];exact j.1,by rw[eJ];exact j.2.1,fun row o=>?_⟩;obtain⟨k,_,rfl⟩:=dt.1 o;refine⟨fun x C=>?_,(tB _ _).imp fun h=>by omega⟩;obtain⟨a,rfl,I,_⟩:=gX.1 C;rw[eJ];omega
open Classical in
noncomputable def kB (ll:List (List Int))(i k:Nat):Bool:=decide (∃e,e<i∧ll[e]? =some []∧bm ll k e)
theorem KL:kB ll 0=fun _=>false:=by funext k;simp[kB]
open Classical in
theorem IG {i:Nat}{row:List Int}(h:ll[i]? =some row)(o:1≤row.length):kB ll (i+1)=kB ll i:=by
 funext k;unfold kB;rw[Bool.eq_iff_iff,eq,eq];constructor
 ·rintro⟨e,he,j,C⟩
  by_cases hi:e=i;·subst hi;rw[h] at j;cases j;simp at o
  exact⟨e,by omega,j,C⟩
 rintro⟨e,he,h⟩;exact⟨e,by omega,h⟩
open Classical in
theorem Fv {i:Nat}(C:bV ll)(h:ll[i]? =some [])(k:Nat):kB ll (i+1) k=(kB ll i k||eZ (fF ll) i k):=by
 unfold kB;rw[Bool.eq_iff_iff,eq,Bool.or_eq_true,eq,tE,xE C];constructor
 ·rintro⟨e,he,j,o⟩
  by_cases hi:e=i;·subst hi;exact .inr o
  exact .inl ⟨e,by omega,j,o⟩
 rintro(⟨e,he,j⟩|j);·exact⟨e,by omega,j⟩
 exact⟨i,by omega,h,j⟩
noncomputable def py (ll:List (List Int))(i m k:Nat):Bool:=if k<m then kB ll i k||eZ (fF ll) i k else kB ll i k
theorem KM (i:Nat):py ll i 0=kB ll i:=by funext k;simp[py]
theorem IJ (i m:Nat):py ll i m m=kB ll i m:=by simp[py]
theorem CM (i m:Nat):py ll i (m+1) m=(kB ll i m||eZ (fF ll) i m):=by simp[py]
theorem IK {i m k:Nat}(h:k≠m):py ll i (m+1) k=py ll i m k:=by
 unfold py;by_cases j:k<m;·rw[am j,am (by omega)]
 rw[ah j,ah (by omega)]
theorem Fw {i:Nat}(j:bV ll)(h:ll[i]? =some []){k:Nat}(o:k<ll.length):py ll i ll.length k=kB ll (i+1) k:=by rw[Fv j h];simp[py,o]
open Classical in
theorem CZ:qq ((List.range ll.length).map (kB ll ll.length))=cz (iK ll) ll.length:=by
 unfold qq;rw[aZ,List.length_range];refine pO fun k C=>?_;have:((List.range ll.length).map (kB ll ll.length))[k]? =some (kB ll ll.length k):=by simp[C]
 rw[this,Option.some.injEq];unfold kB iK;rw[decide_eq_false_iff_not];constructor
 ·rintro h
  refine⟨C,fun⟨e,o,j⟩=>h ⟨e,(lS.1 j).1,j,o⟩⟩
 rintro⟨_,h⟩ ⟨e,_,o,j⟩;exact h ⟨e,j,o⟩
structure mg (ll:List (List Int))(t:Nat→Int)(pl:Nat→Nat):Prop where
 ord:zt (fd ll) ll.length pl
 good:eU ll.length pl t
 all:∀j,j<ll.length→me t j
 dom:∀j,j<ll.length→∀x,gu t j x↔¬iJ (fd ll) x j
def ls (n:Nat)(t:Nat→Int):List Int:=(List.range n).map t
theorem nW (n:Nat)(t:Nat→Int):(ls n t).length=n:=by simp[ls]
theorem tS {n:Nat}{t:Nat→Int}{k:Nat}(h:k<n):(ls n t)[k]? =some (t k):=by simp[ls,h]
theorem mg.up {t:Nat→Int}{pl:Nat→Nat}(T:mg ll t pl){j:Nat}(o:j<ll.length)(C:j≠0):∃p:Nat,t j=p∧p<ll.length∧pl p<pl j:=by
 rcases T.all j o with h|h;·exact absurd h C
 obtain⟨p,I,J,R,_⟩:=T.good.low j o h;exact⟨p,I,J,R⟩
def oA (n:Nat)(t:Nat→Int)(j:Nat):List Nat:=jC t n j
theorem zF {t:Nat→Int}{pl:Nat→Nat}(T:mg ll t pl){j x:Nat}(o:j<ll.length):x∈oA ll.length t j↔¬iJ (fd ll) x j:=by rw[oA,uJ T.good x _ j o (Nat.le_of_lt (T.ord.lt j o)),T.dom j o]
end
end
end Go.Proofs.YtccbbkopmlnkpaaGreatDoor
