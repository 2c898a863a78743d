/- Part 23 of the proof (its last part says what is proved). No condition. -/
import Derived.Test.YtgdlhckhpolnnaaGreatDoorK21
namespace Go.Proofs.YtgdlhckhpolnnaaGreatDoor
set_option maxRecDepth 100000
set_option maxHeartbeats 8000000
open Go.RowKit Go.Proofs.Tryz
structure zK (ll:List (List Int))(p q:Nat→Bool)(i:Nat)(s:List Nat):Prop where
 post:jg (dH ll) i s
 nodup:s.Nodup
 mem:∀x,x∈s↔(q x=true∧nX p i x=false)
structure Ih (ll:List (List Int))(p q:Nat→Bool)(i:Nat)(s:List Nat):Prop where
 post:jg (dH ll) i s
 nodup:(s++[i]).Nodup
 mem:∀x,x∈s++[i]↔(q x=true∧p x=false)
theorem Hh (ll:List (List Int))(p:Nat→Bool)(i:Nat):zK ll p (nX p i) i []:=⟨GG _ _,List.nodup_nil,fun x=>by simp⟩
theorem vT {ll:List (List Int)}{p q R:Nat→Bool}{i j:Nat}{s Y:List Nat}(h:zK ll p q i s)(I:∀k,nX p i k=true→q k=true)(C:∀k,q k=true→R k=true)(he:dH ll i j)(J:Ih ll q R j Y):zK ll p R i (s++(Y++[j])):=by
 refine⟨GF h.post J.post he,?_,fun x=>?_⟩;·refine List.nodup_append.2 ⟨h.nodup,J.nodup,fun a ha b hb e=>?_⟩;subst e;have h1:=((h.mem a).1 ha).1;have o:=((J.mem a).1 hb).2;rw[h1] at o;cases o
 rw[eD,h.mem,J.mem];constructor
 ·rintro(⟨h1,o⟩|⟨h1,o⟩);·exact⟨C x h1,o⟩
  refine⟨h1,?_⟩;cases hu:nX p i x with
  |false=>rfl
  |true=>rw[I x hu] at o;cases o
 rintro⟨h1,o⟩;cases hq:q x with
 |false=>exact .inr ⟨h1,rfl⟩
 |true=>exact .inl ⟨rfl,o⟩
theorem zr {ll:List (List Int)}{p q:Nat→Bool}{i:Nat}{s:List Nat}(h:zK ll p q i s)(o:p i=false)(C:q i=true):Ih ll p q i s:=by
 refine⟨h.post,?_,fun x=>?_⟩;·refine List.nodup_append.2 ⟨h.nodup,by simp,fun a I b j e=>?_⟩;have j:=cx.1 j;subst j;subst e;have:=((h.mem a).1 I).2;rw[dF] at this;cases this
 rw[eD,h.mem,cx];by_cases e:x=i;·subst e;simp[o,C]
 rw[fd e];simp[e]
def xH (n:Nat)(p:Nat→Bool)(l:List Nat):Prop:=l.Nodup∧∀x∈l,p x=true∧x<n
theorem zA {n:Nat}{p:Nat→Bool}{l:List Nat}(h:xH n p l):l.length≤n:=by have:=List.Nodup.length_le_of_subset h.1 (l₂:=List.range n) fun x j=>fg.2 (h.2 x j).2;simpa using this
theorem zB {ll:List (List Int)}{p q:Nat→Bool}{i:Nat}{l s:List Nat}(R:aP ll)(hi:i<ll.length)(h:xH ll.length p l)(J:zK ll p q i s)(C:∀k,nX p i k=true→q k=true)(I:∀k,q k=true→p k=true∨aQ ll i k):xH ll.length q (l++s):=by
 refine⟨List.nodup_append.2 ⟨h.1,J.nodup,fun a Y b hb e=>?_⟩,fun x j=>?_⟩
 ·subst e
  have h1:=(h.2 a Y).1;have o:=((J.mem a).1 hb).2;rw[je _ _ _ h1] at o;cases o
 rcases eD.1 j with j|j;·exact⟨C x (je _ _ _ (h.2 x j).1),(h.2 x j).2⟩
 have h1:=(J.mem x).1 j;refine⟨h1.1,?_⟩;rcases I x h1.1 with o|o;·have:=h1.2;rw[je _ _ _ o] at this;cases this
 exact tB R hi o
def SV (g j base:Nat):Nat→Prop:=fun b=>b≠g∧b≠j∧b<base
def mS (_ _:Nat)(_:World)(_:List Nat):Prop:=True
def mT (j base:Nat)(w:World)(l:List Nat):Prop:=j<base∧base≤w.heap.size∧∃vs,al w j 54 #[vs]∧w.ownsRow base 3 1 vs l.length (aI (l.map Int.ofNat))
theorem mS.keep {j base g:Nat}{w w':World}{l:List Nat}(_:mS j base w l)(_:aa (fun b=>b≠g) w w')(_:g<base)(_:g≠j):mS j base w' l:=trivial
theorem mT.keep {j base g:Nat}{w w':World}{l:List Nat}(h:mT j base w l)(k:aa (fun b=>b≠g) w w')(Y:g<base)(I:g≠j):mT j base w' l:=by obtain⟨h1,J,vs,R,C⟩:=h;exact⟨h1,fR J k.size,vs,R.kept k (fun e=>I e.symm),be C k fun b o=>by have:=(aD C o).1;show b≠g;omega⟩
theorem Ej (j base i:Nat)(w:World)(l:List Nat)(_:mS j base w l)(_:l.length≤1000)(_:i≤1000):
 Calls prog 170 #[.int .i64 i] w fun e w'=>e=.returned (.tuple #[])∧mS j base w' (l++[i])∧aa (fun b=>b≠j∧b<base) w w':=by
 go_enter func170,ntmps170;go_wp2
 go_end0
 exact⟨rfl,trivial,kR⟩
theorem Ek (bo base i:Nat)(w:World)(l:List Nat)(hT:mT bo base w l)(hl:l.length≤1000)(_:i≤1000):
 Calls prog 209 #[.int .i64 i,.pointer (some ⟨bo,0,none⟩)] w fun e w'=>e=.returned (.tuple #[])∧mT bo base w' (l++[i])∧aa (fun b=>b≠bo∧b<base) w w':=by
 obtain⟨i3,I3⟩:=iH kt;obtain⟨h1,h2,vs,h3,h4⟩:=hT;have a8:=h3.cl 0;have o:(w.alloc (.cells #[.int .i64 i] 3)).ownsRow base 3 1 vs l.length (aI (l.map Int.ofNat)):=be h4 ((aa.refl All w).alloc _) (fun _ _=>trivial);obtain⟨A0,c0,rfl⟩:=aU h4;have HT:=J2 h3 h4;clear h3 h4;go_enter func209,ntmps209;go_wp2_with (
  at_builtin;refine aR _ rfl (.tmp 3) (.tmp 5) 54 rfl base 3 i3 _ 1 8 underlying54 I3.1 I3.2.1 I3.2.2.1 I3.2.2.2 rfl (by decide) _ _ _ rfl o (some ⟨w.heap.size,0,none⟩) 1 1 [.int .i64 i] rfl rfl ?_ ?_ (by unfold maxLen;omega) (by omega) (by simp;omega) ?_;·intro _;exact⟨_,_,rfl,fun j u hu=>by rw[cN,al.cell (al.new _ _ _)];simpa using hu⟩
  ·intro u hu
   rw[cx.1 hu];rfl
  intro v2 w2 C a1 a6;obtain⟨A2,c2,rfl⟩:=aU C;have a7:∀b,(Value.slice A0 l.length c0).ownBlock=some b→base≤b:=fun b hb=>(aD o hb).1;have J:aa (fun b=>b<base) w w2:=((aa.refl _ w).alloc _).grown a1 fun g hg=>.inl fun h=>by have:=a7 g hg;omega
  have R:=HT.1.kept J h1;have Y:=R.cell 0;have b0:=R.free 0;have b1:=J.size;have HS:=J3 C J R;clear C a1 a6 J o a7 R;simp only[gc] at Y)
 go_end0
 obtain⟨g1,g2,g3⟩:=HS.out;have I:aa (fun b=>b≠bo) w2 (w2.setCell ⟨bo,0,none⟩ (.slice A2 (l.length+1) c2)):=(aa.refl _ w2).setCell (p:=⟨bo,0,none⟩) (.inl fun h=>h rfl) _;refine⟨rfl,⟨h1,by have:=I.size;omega,_,g3.set 0 _,?_⟩,(g2.mono fun b hb=>hb.2).trans (I.mono fun b hb=>hb.1)⟩;rw[iQ,List.length_singleton];have:=be g1 I fun b hb=>by have:=(aD g1 hb).1;show b≠bo;omega
 simpa [aI] using this
structure EF (ll:List (List Int))(v:Value)(bb bt bv bl g bo base:Nat)(w:World):Prop where
 been:al w bb 209 #[.slice (some ⟨g,0,none⟩) ll.length ll.length]
 tos:al w bt 142 #[v]
 visit:al w bv 246 #[.func (.func 208) #[] #[.pointer (some ⟨bb,0,none⟩),.pointer (some ⟨bt,0,none⟩),.pointer (some ⟨bv,0,none⟩),.pointer (some ⟨bl,0,none⟩)]]
 tell:al w bl 246 #[.func (.func 170) #[] #[]]
 rows:Rows (SV g bo base) w v ll
 ne:SV g bo base bb∧SV g bo base bt∧SV g bo base bv∧SV g bo base bl∧g<base∧g≠bo
theorem EF.keep {ll:List (List Int)}{v:Value}{o C bv bl g j base:Nat}{w w':World}(h:EF ll v o C bv bl g j base w)(k:aa (SV g j base) w w'):EF ll v o C bv bl g j base w':=
 ⟨h.been.kept k h.ne.1,h.tos.kept k h.ne.2.1,h.visit.kept k h.ne.2.2.1,h.tell.kept k h.ne.2.2.2.1,aq.keep k h.rows,h.ne⟩
theorem qiu (ll:List (List Int))(hR:aP ll)(v:Value)(bb bt bv bl g bo base:Nat)(m:Nat):∀(i:Nat) (p:Nat→Bool) (l:List Nat) (w:World),unv ll.length p≤m→i<ll.length→p i=false→EF ll v bb bt bv bl g bo base w→al w g 4 (az ll.length p)→mS bo base w l→xH ll.length p l→
 Calls prog 208 #[.int .i64 i,.pointer (some ⟨bb,0,none⟩),.pointer (some ⟨bt,0,none⟩),.pointer (some ⟨bv,0,none⟩),.pointer (some ⟨bl,0,none⟩)] w fun e w'=>
  e=.returned (.tuple #[])∧∃q s,al w' g 4 (az ll.length q)∧aa (SV g bo base) w w'∧Kv ll p q i∧Ih ll p q i s∧mS bo base w' (l++(s++[i])):=by
 induction m with
 |zero=>intro i p l w hm hi hp;have:=jj ll.length hi hp;omega
 |succ m ih=>
  intro i p l w hm hi hp env I b5 b6;have IH:=oH ih;clear ih;have hl:ll.length≤256:=hR.2.1;have c8:=gw hR hi;have a6:=fun j=>kQ (ll:=ll) (j:=j) hi;have h0:ll[i].length≤256:=by have:=du (hR.2.2 _ (eL hi));omega
  have e1:=oH env;obtain⟨a,cap,rfl,_,_,_,h⟩:=env.rows;obtain⟨b1,o1,c1,rfl,h8,e2,ra,j4,rfl,_,_,_,rh⟩:=h i ll[i] (lG hi);have a7:=bj (p:=p) hi;have h1:=env.been.cl 0;have h2:=env.tos.cl 0;have h4:=I.cell i;rw[a7,hp] at h4;have h5:=I.free i;have d7:aa (fun b=>b≠g) w (w.setCell ⟨g,i,none⟩ (.bool true)):=(aa.refl _ w).setCell (.inl fun h=>h rfl) _;have c5:aa (SV g bo base) w (w.setCell ⟨g,i,none⟩ (.bool true)):=d7.mono fun b hb=>hb.1;have b7:al (w.setCell ⟨g,i,none⟩ (.bool true)) g 4 (az ll.length (nX p i)):=by rw[←dg (p:=p) (i:=i) (b:=true) (dF _ _) (fun j _ hj=>fd hj)];exact I.set _ _
  have b4:=mS.keep b5 d7 env.ne.2.2.2.2.1 env.ne.2.2.2.2.2;have a8:=e1.out.keep c5;have h6:=a8.tos.cl 0;have h7:=c5.cell (p:=⟨b1,o1+i,none⟩) h8 e2;have j6:=jj ll.length hi hp;have HF:=J7 c8 a6 rh hp c5 b7 a8;have HL:=J3 hR b4 b6;clear c8 a6 rh hp c5 d7 b7 a8 I e2 h a7 env b5 b4 b6 hR;generalize ll[i]=row at*;go_enter func208,ntmps208;go_wp2_with fail;clear h1 h2 h4 h5 h6 h7
  go_loopg [16] row.length (fun gg x wr=>∃(k:Nat) (q:Nat→Bool) (s:List Nat),k≤row.length∧gg=row.length-k∧x=.int .i64 k∧al wr g 4 (az ll.length q)∧aa (SV g bo base) w wr∧
   (∀k,nX p i k=true→q k=true)∧(∀k,q k=true→p k=true∨aQ ll i k)∧(∀k,q k=true→nX p i k=false→∀j,dH ll k j→q j=true)∧(∀(j:Nat) x,j<k→row[j]? =some x→q x.toNat=true)∧zK ll p q i s∧mS bo base wr (l++s))
  case atStart=>(
 refine⟨0,nX p i,[],by omega,by omega,rfl,HF.2.2.2.2.2.1,HF.2.2.2.2.1,fun _ h=>h,fun k hk=>?_,fun k h1 h2=>(by rw[h1] at h2;cases h2),fun j x hj=>by omega,Hh _ _ _,by rw[List.append_nil];exact HL.2.1⟩;by_cases e:k=i;·subst e;exact .inr .refl
 rw[fd e] at hk;exact .inl hk)
  obtain⟨k,q,s,hk,rfl,rfl,I,Y,o,J,R,C,b8,e3⟩:=hrel;have d8:=zB HL.1 hi HL.2.2 b8 o J;have HQ:=J4 o J R C;have HG:=J3 b8 e3 d8;have b9:=zA d8;clear o J R C b8 e3 d8;have env:=e1.out.keep Y;by_cases c6:k<row.length;·(
 obtain⟨b2,o2,c2,rfl,h9,e4,rfl,j7⟩:=HF.2.2.1 k row[k] (lG c6);have j0:=Y.cell (p:=⟨b2,o2+k,none⟩) h9 e4;obtain⟨x0,x1⟩:=HF.1 row[k] (eL c6);have c9:row[k]∈row:=eL c6;have a7:row[k]? =some row[k]:=lG c6;have HM:=J2 c9 a7;clear c9 a7 e4;generalize row[k]=x at*;obtain⟨j,rfl⟩:∃j:Nat,x=j:=⟨x.toNat,by omega⟩;have e5:j<ll.length:=by omega
 have b0:wr.cell? ⟨g,j,none⟩=some (.bool (q j)):=by rw[I.cell,bj e5]
 have h1:=env.been.cl 0;have h3:=env.visit.cl 0;cases b3:q j with
 |true=>
  rw[b3] at b0;have e6:=oH b3;clear b3 b9;go_wp2_with fail;go_roundg (row.length-(k+1));·(
 obtain⟨o,J,R,C⟩:=HQ.out;refine⟨k+1,q,s,by omega,rfl,by go_num,I,Y,o,J,R,fun a x ha hx=>?_,HG.1,HG.2.1⟩;by_cases e:a=k
 ·subst e
  rw[HM.2] at hx;cases hx;rw[dP];exact e6.out
 exact C a x (by omega) hx)
  omega
 |false=>
  rw[b3] at b0;have j5:=ly ll.length (fun a _ ha=>HQ.1 a ha);have c0:=IH.out j q (l++s) wr (by omega) e5 b3 env I HG.2.1 HG.2.2;have d9:=oH c0;have e6:=oH b3;clear b3 c0 b9;go_wp2_with fail;refine d9.out.mono ?_;rintro e w' ⟨rfl,e7⟩;have j1:=oH e7;clear e7 b0 j0 h1 h3;go_wp2_with fail;go_roundg (row.length-(k+1));·(
 obtain⟨o,J,R,C⟩:=HQ.out;obtain⟨q',sj,e0,c7,⟨a1,a2,a3,a4⟩,e8,c4⟩:=j1.out;have a6:dH ll i j:=(HF.2.1 j).2 HM.1;refine⟨k+1,q',s++(sj++[j]),by omega,rfl,by go_num,e0,Y.trans c7,fun a ha=>a1 a (o a ha),fun a ha=>?_,fun a ha hn b hb=>?_,fun a x ha hx=>?_,vT HG.1 o a1 a6 e8,by rw[←jM];exact c4⟩
 ·rcases a3 a ha with h|h
  ·exact J a h
  exact .inr (aQ.head a6 h)
 ·cases e9:q a with
  |true=>exact a1 b (R a e9 hn b hb)
  |false=>exact a4 a ha e9 b hb
 by_cases e:a=k
 ·subst e
  rw[HM.2] at hx;cases hx;rw[dP];exact a2
 exact a1 _ (C a x (by omega) hx))
  omega)
  have h4:=env.tell.cl 0;have j2:=oH (Ej bo base i wr (l++s) HG.2.1 (by omega) (by omega));go_wp2_with (go_at_call 170;refine j2.out.mono ?_;rintro e w' ⟨rfl,c4,c7⟩)
  go_end0
  obtain⟨o,J,R,C⟩:=HQ.out;refine⟨rfl,q,s,I.kept c7 ⟨env.ne.2.2.2.2.2,env.ne.2.2.2.2.1⟩,Y.trans (c7.mono fun b hb=>hb.2),⟨fun a ha=>o a (je _ _ _ ha),o i (dF _ _),J,fun a ha hn b hb=>?_⟩,zr HG.1 HF.2.2.2.1 (o i (dF _ _)),by rw[←jM];exact c4⟩;by_cases e:a=i;·subst e;have j3:=(HF.2.1 b).1 hb;obtain⟨c,hc,hx⟩:=List.getElem_of_mem j3;have:=C c (b:Int) (by omega) (by rw[lG hc,hx]);rwa [dP] at this
  exact R a ha (by rw[fd e];exact hn) b hb
def tR (_:Nat)(v:Value)(n:Nat)(w:World):World:=
 (((((w.alloc (.cells #[v] 142)).alloc (.cells #[.func (.func 170) #[] #[]] 246)).alloc (.cells (az n fun _=>false) 4)).alloc (.cells #[.slice (some ⟨w.heap.size+1+1,0,none⟩) n n] 209)).alloc
   (.cells #[.func (.func 208) #[] #[.pointer (some ⟨w.heap.size+1+1+1,0,none⟩),.pointer (some ⟨w.heap.size,0,none⟩),.pointer (some ⟨w.heap.size+1+1+1+1,0,none⟩),.pointer (some ⟨w.heap.size+1,0,none⟩)]] 246))
theorem Bw {v:Value}{ll:List (List Int)}{w:World}{j:Nat}(h:Rows (fun b=>b<w.heap.size∧b≠j) w v ll)(C:j<w.heap.size∨j=w.heap.size+5):
 EF ll v (w.heap.size+1+1+1) w.heap.size (w.heap.size+1+1+1+1) (w.heap.size+1) (w.heap.size+1+1) j (w.heap.size+5) (tR j v ll.length w)∧al (tR j v ll.length w) (w.heap.size+1+1) 4 (az ll.length fun _=>false)∧aa All w (tR j v ll.length w):=by
 have o:aa All w (tR j v ll.length w):=((((kR.alloc _).alloc _).alloc _).alloc _).alloc _;refine⟨⟨?_,?_,?_,?_,?_,by unfold SV;omega⟩,?_,o⟩;·exact(ac (by simp)).alloc _
 ·exact((((al.new _ _ _).alloc _).alloc _).alloc _).alloc _
 ·exact ac (by simp)
 ·exact(((ac (by simp)).alloc _).alloc _).alloc _
 ·exact aq.wide (fun b I=>by unfold SV;omega) (aq.keep o.all h)
 exact((ac (by simp)).alloc _).alloc _
theorem Es (bo:Nat)(v:Value)(ll:List (List Int))(f:Nat)(w:World)(hv:Rows (fun b=>b<w.heap.size∧b≠bo) w v ll)(hR:aP ll)(hf:f<ll.length)(b0:bo<w.heap.size∨bo=w.heap.size+5)(hT:mS bo (w.heap.size+5) (tR bo v ll.length w) []):
 Calls prog 169 #[v,.int .i64 f,.func (.func 170) #[] #[]] w fun e w'=>∃u s,e=.returned u∧aa (fun b=>b≠bo) w w'∧gD (fun b=>w.heap.size≤b) w' u (en ll f)∧mS bo (w.heap.size+5) w' (s++[f])∧jg (dH ll) f s∧(s++[f]).Nodup∧∀x,x∈s++[f]↔aQ ll f x:=by
 have I:=Bw hv b0;obtain⟨a,cap,rfl,h1,h2,b1,h⟩:=hv;have hl:ll.length≤256:=hR.2.1;have R:=qiu ll hR _ _ _ _ _ _ _ _ _ f (fun _=>false) [] _ (cf _) hf rfl I.1 I.2.1 hT ⟨List.nodup_nil,fun x hx=>by cases hx⟩;have HR:=J3 hR I R;clear h h1 h2 b1 hR I R hT;have b2:=fun w=>iy ll.length (by omega) w;go_enter func169,ntmps169;go_wp2_with fail;refine HR.2.2.mono ?_;rintro e w' ⟨rfl,q,s,J,o,Y,C,a7⟩;have HA:=J5 J o Y C a7;have a6:=HR.2.1.1.keep o;have hc:=a6.been.cl 0;clear J o Y a6 C a7;go_wp2_with fail;go_ret;obtain⟨J,o,⟨a1,a2,a3,a4⟩,C,a7⟩:=HA.out;have hk:aa (fun b=>b<w.heap.size∧b≠bo) w w':=HR.2.1.2.2.all.trans (o.mono fun b hb=>by unfold SV;omega);have hq:∀k,q k=true↔aQ ll f k:=fun k=>⟨fun h=>by rcases a3 k h with h|h;cases h;exact h,fun hr=>mq a2 (fun i hi j hj=>a4 i hi rfl j hj) k hr⟩;refine⟨_,s,rfl,⟨hk.os,hk.output,hk.size,fun k a8 hs=>hk.block k a8 ⟨a8,hs⟩⟩,iT J (by omega) hl fun k a8=>nT (hq k),by simpa using a7,C.post,C.nodup,fun x=>by rw[C.mem,hq];simp⟩
structure EG (ll:List (List Int))(v:Value)(bb bt bv bl g bo base:Nat)(w:World):Prop where
 been:al w bb 209 #[.slice (some ⟨g,0,none⟩) ll.length ll.length]
 tos:al w bt 142 #[v]
 visit:al w bv 246 #[.func (.func 208) #[] #[.pointer (some ⟨bb,0,none⟩),.pointer (some ⟨bt,0,none⟩),.pointer (some ⟨bv,0,none⟩),.pointer (some ⟨bl,0,none⟩)]]
 tell:al w bl 246 #[.func (.func 209) #[] #[.pointer (some ⟨bo,0,none⟩)]]
 rows:Rows (SV g bo base) w v ll
 ne:SV g bo base bb∧SV g bo base bt∧SV g bo base bv∧SV g bo base bl∧g<base∧g≠bo
theorem EG.keep {ll:List (List Int)}{v:Value}{o C bv bl g j base:Nat}{w w':World}(h:EG ll v o C bv bl g j base w)(k:aa (SV g j base) w w'):EG ll v o C bv bl g j base w':=
 ⟨h.been.kept k h.ne.1,h.tos.kept k h.ne.2.1,h.visit.kept k h.ne.2.2.1,h.tell.kept k h.ne.2.2.2.1,aq.keep k h.rows,h.ne⟩
theorem LN (ll:List (List Int))(hR:aP ll)(v:Value)(bb bt bv bl g bo base:Nat)(m:Nat):∀(i:Nat) (p:Nat→Bool) (l:List Nat) (w:World),unv ll.length p≤m→i<ll.length→p i=false→EG ll v bb bt bv bl g bo base w→al w g 4 (az ll.length p)→mT bo base w l→xH ll.length p l→
 Calls prog 208 #[.int .i64 i,.pointer (some ⟨bb,0,none⟩),.pointer (some ⟨bt,0,none⟩),.pointer (some ⟨bv,0,none⟩),.pointer (some ⟨bl,0,none⟩)] w fun e w'=>
  e=.returned (.tuple #[])∧∃q s,al w' g 4 (az ll.length q)∧aa (SV g bo base) w w'∧Kv ll p q i∧Ih ll p q i s∧mT bo base w' (l++(s++[i])):=by
 induction m with
 |zero=>intro i p l w hm hi hp;have:=jj ll.length hi hp;omega
 |succ m ih=>
  intro i p l w hm hi hp env I b5 b6;have IH:=oH ih;clear ih;have hl:ll.length≤256:=hR.2.1;have c8:=gw hR hi;have a6:=fun j=>kQ (ll:=ll) (j:=j) hi;have h0:ll[i].length≤256:=by have:=du (hR.2.2 _ (eL hi));omega
  have e1:=oH env;obtain⟨a,cap,rfl,_,_,_,h⟩:=env.rows;obtain⟨b1,o1,c1,rfl,h8,e2,ra,j4,rfl,_,_,_,rh⟩:=h i ll[i] (lG hi);have a7:=bj (p:=p) hi;have h1:=env.been.cl 0;have h2:=env.tos.cl 0;have h4:=I.cell i;rw[a7,hp] at h4;have h5:=I.free i;have d7:aa (fun b=>b≠g) w (w.setCell ⟨g,i,none⟩ (.bool true)):=(aa.refl _ w).setCell (.inl fun h=>h rfl) _;have c5:aa (SV g bo base) w (w.setCell ⟨g,i,none⟩ (.bool true)):=d7.mono fun b hb=>hb.1;have b7:al (w.setCell ⟨g,i,none⟩ (.bool true)) g 4 (az ll.length (nX p i)):=by rw[←dg (p:=p) (i:=i) (b:=true) (dF _ _) (fun j _ hj=>fd hj)];exact I.set _ _
  have b4:=mT.keep b5 d7 env.ne.2.2.2.2.1 env.ne.2.2.2.2.2;have a8:=e1.out.keep c5;have h6:=a8.tos.cl 0;have h7:=c5.cell (p:=⟨b1,o1+i,none⟩) h8 e2;have j6:=jj ll.length hi hp;have HF:=J7 c8 a6 rh hp c5 b7 a8;have HL:=J3 hR b4 b6;clear c8 a6 rh hp c5 d7 b7 a8 I e2 h a7 env b5 b4 b6 hR;generalize ll[i]=row at*;go_enter func208,ntmps208;go_wp2_with fail;clear h1 h2 h4 h5 h6 h7
  go_loopg [16] row.length (fun gg x wr=>∃(k:Nat) (q:Nat→Bool) (s:List Nat),k≤row.length∧gg=row.length-k∧x=.int .i64 k∧al wr g 4 (az ll.length q)∧aa (SV g bo base) w wr∧
   (∀k,nX p i k=true→q k=true)∧(∀k,q k=true→p k=true∨aQ ll i k)∧(∀k,q k=true→nX p i k=false→∀j,dH ll k j→q j=true)∧(∀(j:Nat) x,j<k→row[j]? =some x→q x.toNat=true)∧zK ll p q i s∧mT bo base wr (l++s))
  case atStart=>(
 refine⟨0,nX p i,[],by omega,by omega,rfl,HF.2.2.2.2.2.1,HF.2.2.2.2.1,fun _ h=>h,fun k hk=>?_,fun k h1 h2=>(by rw[h1] at h2;cases h2),fun j x hj=>by omega,Hh _ _ _,by rw[List.append_nil];exact HL.2.1⟩;by_cases e:k=i;·subst e;exact .inr .refl
 rw[fd e] at hk;exact .inl hk)
  obtain⟨k,q,s,hk,rfl,rfl,I,Y,o,J,R,C,b8,e3⟩:=hrel;have d8:=zB HL.1 hi HL.2.2 b8 o J;have HQ:=J4 o J R C;have HG:=J3 b8 e3 d8;have b9:=zA d8;clear o J R C b8 e3 d8;have env:=e1.out.keep Y;by_cases c6:k<row.length;·(
 obtain⟨b2,o2,c2,rfl,h9,e4,rfl,j7⟩:=HF.2.2.1 k row[k] (lG c6);have j0:=Y.cell (p:=⟨b2,o2+k,none⟩) h9 e4;obtain⟨x0,x1⟩:=HF.1 row[k] (eL c6);have c9:row[k]∈row:=eL c6;have a7:row[k]? =some row[k]:=lG c6;have HM:=J2 c9 a7;clear c9 a7 e4;generalize row[k]=x at*;obtain⟨j,rfl⟩:∃j:Nat,x=j:=⟨x.toNat,by omega⟩;have e5:j<ll.length:=by omega
 have b0:wr.cell? ⟨g,j,none⟩=some (.bool (q j)):=by rw[I.cell,bj e5]
 have h1:=env.been.cl 0;have h3:=env.visit.cl 0;cases b3:q j with
 |true=>
  rw[b3] at b0;have e6:=oH b3;clear b3 b9;go_wp2_with fail;go_roundg (row.length-(k+1));·(
 obtain⟨o,J,R,C⟩:=HQ.out;refine⟨k+1,q,s,by omega,rfl,by go_num,I,Y,o,J,R,fun a x ha hx=>?_,HG.1,HG.2.1⟩;by_cases e:a=k
 ·subst e
  rw[HM.2] at hx;cases hx;rw[dP];exact e6.out
 exact C a x (by omega) hx)
  omega
 |false=>
  rw[b3] at b0;have j5:=ly ll.length (fun a _ ha=>HQ.1 a ha);have c0:=IH.out j q (l++s) wr (by omega) e5 b3 env I HG.2.1 HG.2.2;have d9:=oH c0;have e6:=oH b3;clear b3 c0 b9;go_wp2_with fail;refine d9.out.mono ?_;rintro e w' ⟨rfl,e7⟩;have j1:=oH e7;clear e7 b0 j0 h1 h3;go_wp2_with fail;go_roundg (row.length-(k+1));·(
 obtain⟨o,J,R,C⟩:=HQ.out;obtain⟨q',sj,e0,c7,⟨a1,a2,a3,a4⟩,e8,c4⟩:=j1.out;have a6:dH ll i j:=(HF.2.1 j).2 HM.1;refine⟨k+1,q',s++(sj++[j]),by omega,rfl,by go_num,e0,Y.trans c7,fun a ha=>a1 a (o a ha),fun a ha=>?_,fun a ha hn b hb=>?_,fun a x ha hx=>?_,vT HG.1 o a1 a6 e8,by rw[←jM];exact c4⟩
 ·rcases a3 a ha with h|h
  ·exact J a h
  exact .inr (aQ.head a6 h)
 ·cases e9:q a with
  |true=>exact a1 b (R a e9 hn b hb)
  |false=>exact a4 a ha e9 b hb
 by_cases e:a=k
 ·subst e
  rw[HM.2] at hx;cases hx;rw[dP];exact a2
 exact a1 _ (C a x (by omega) hx))
  omega)
  have h4:=env.tell.cl 0;have j2:=oH (Ek bo base i wr (l++s) HG.2.1 (by omega) (by omega));go_wp2_with (go_at_call 209;refine j2.out.mono ?_;rintro e w' ⟨rfl,c4,c7⟩)
  go_end0
  obtain⟨o,J,R,C⟩:=HQ.out;refine⟨rfl,q,s,I.kept c7 ⟨env.ne.2.2.2.2.2,env.ne.2.2.2.2.1⟩,Y.trans (c7.mono fun b hb=>hb.2),⟨fun a ha=>o a (je _ _ _ ha),o i (dF _ _),J,fun a ha hn b hb=>?_⟩,zr HG.1 HF.2.2.2.1 (o i (dF _ _)),by rw[←jM];exact c4⟩;by_cases e:a=i;·subst e;have j3:=(HF.2.1 b).1 hb;obtain⟨c,hc,hx⟩:=List.getElem_of_mem j3;have:=C c (b:Int) (by omega) (by rw[lG hc,hx]);rwa [dP] at this
  exact R a ha (by rw[fd e];exact hn) b hb
def qL (j:Nat)(v:Value)(n:Nat)(w:World):World:=
 (((((w.alloc (.cells #[v] 142)).alloc (.cells #[.func (.func 209) #[] #[.pointer (some ⟨j,0,none⟩)]] 246)).alloc (.cells (az n fun _=>false) 4)).alloc (.cells #[.slice (some ⟨w.heap.size+1+1,0,none⟩) n n] 209)).alloc
   (.cells #[.func (.func 208) #[] #[.pointer (some ⟨w.heap.size+1+1+1,0,none⟩),.pointer (some ⟨w.heap.size,0,none⟩),.pointer (some ⟨w.heap.size+1+1+1+1,0,none⟩),.pointer (some ⟨w.heap.size+1,0,none⟩)]] 246))
theorem Bx {v:Value}{ll:List (List Int)}{w:World}{j:Nat}(h:Rows (fun b=>b<w.heap.size∧b≠j) w v ll)(C:j<w.heap.size∨j=w.heap.size+5):
 EG ll v (w.heap.size+1+1+1) w.heap.size (w.heap.size+1+1+1+1) (w.heap.size+1) (w.heap.size+1+1) j (w.heap.size+5) (qL j v ll.length w)∧al (qL j v ll.length w) (w.heap.size+1+1) 4 (az ll.length fun _=>false)∧aa All w (qL j v ll.length w):=by
 have o:aa All w (qL j v ll.length w):=((((kR.alloc _).alloc _).alloc _).alloc _).alloc _;refine⟨⟨?_,?_,?_,?_,?_,by unfold SV;omega⟩,?_,o⟩;·exact(ac (by simp)).alloc _
 ·exact((((al.new _ _ _).alloc _).alloc _).alloc _).alloc _
 ·exact ac (by simp)
 ·exact(((ac (by simp)).alloc _).alloc _).alloc _
 ·exact aq.wide (fun b I=>by unfold SV;omega) (aq.keep o.all h)
 exact((ac (by simp)).alloc _).alloc _
theorem Et (bo:Nat)(v:Value)(ll:List (List Int))(f:Nat)(w:World)(hv:Rows (fun b=>b<w.heap.size∧b≠bo) w v ll)(hR:aP ll)(hf:f<ll.length)(b0:bo<w.heap.size∨bo=w.heap.size+5)(hT:mT bo (w.heap.size+5) (qL bo v ll.length w) []):
 Calls prog 169 #[v,.int .i64 f,.func (.func 209) #[] #[.pointer (some ⟨bo,0,none⟩)]] w fun e w'=>∃u s,e=.returned u∧aa (fun b=>b≠bo) w w'∧gD (fun b=>w.heap.size≤b) w' u (en ll f)∧mT bo (w.heap.size+5) w' (s++[f])∧jg (dH ll) f s∧(s++[f]).Nodup∧∀x,x∈s++[f]↔aQ ll f x:=by
 have I:=Bx hv b0;obtain⟨a,cap,rfl,h1,h2,b1,h⟩:=hv;have hl:ll.length≤256:=hR.2.1;have R:=LN ll hR _ _ _ _ _ _ _ _ _ f (fun _=>false) [] _ (cf _) hf rfl I.1 I.2.1 hT ⟨List.nodup_nil,fun x hx=>by cases hx⟩;have HR:=J3 hR I R;clear h h1 h2 b1 hR I R hT;have b2:=fun w=>iy ll.length (by omega) w;go_enter func169,ntmps169;go_wp2_with fail;refine HR.2.2.mono ?_;rintro e w' ⟨rfl,q,s,J,o,Y,C,a7⟩;have HA:=J5 J o Y C a7;have a6:=HR.2.1.1.keep o;have hc:=a6.been.cl 0;clear J o Y a6 C a7;go_wp2_with fail;go_ret;obtain⟨J,o,⟨a1,a2,a3,a4⟩,C,a7⟩:=HA.out;have hk:aa (fun b=>b<w.heap.size∧b≠bo) w w':=HR.2.1.2.2.all.trans (o.mono fun b hb=>by unfold SV;omega);have hq:∀k,q k=true↔aQ ll f k:=fun k=>⟨fun h=>by rcases a3 k h with h|h;cases h;exact h,fun hr=>mq a2 (fun i hi j hj=>a4 i hi rfl j hj) k hr⟩;refine⟨_,s,rfl,⟨hk.os,hk.output,hk.size,fun k a8 hs=>hk.block k a8 ⟨a8,hs⟩⟩,iT J (by omega) hl fun k a8=>nT (hq k),by simpa using a7,C.post,C.nodup,fun x=>by rw[C.mem,hq];simp⟩
section
section
variable {ll:List (List Int)}
noncomputable def gF (ll:List (List Int)):List (List Int):=(List.range ll.length).map (di ll ll.length)
theorem fK:(gF ll).length=ll.length:=by simp[gF]
theorem mX {k:Nat}(h:k<ll.length):(gF ll)[k]? =some (di ll ll.length k):=by simp[gF,h]
theorem EU (j:aP ll){a b:Nat}(h:dH ll a b):b<ll.length:=by obtain⟨row,h1,o⟩:=h;have:=(j.2.2 row (mG h1)).1 _ o;omega
theorem uG (j:aP ll){a b:Nat}:dH (gF ll) a b↔dH ll b a:=by
 constructor
 ·rintro⟨row,h1,o⟩;have C:a<ll.length:=by have:=(lS.1 h1).1;rwa [fK] at this
  rw[mX C] at h1;cases h1;obtain⟨c,e,_,I⟩:=jc.1 o;rw[Int.ofNat.inj e];exact I
 exact fun h=>⟨_,mX (EU j h),jc.2 ⟨b,rfl,lq h,h⟩⟩
theorem xM (o:aP ll){a b:Nat}:aQ (gF ll) a b↔aQ ll b a:=by
 constructor
 ·intro h
  induction h with
  |refl=>exact .refl
  |step _ e j=>exact .head ((uG o).1 e) j
 intro h;induction h with
 |refl=>exact .refl
 |step _ e j=>exact .head ((uG o).2 e) j
theorem xN (j:aP ll):aP (gF ll):=by refine⟨by rw[fK];exact j.1,by rw[fK];exact j.2.1,fun row hr=>?_⟩;obtain⟨k,_,rfl⟩:=dr.1 hr;refine⟨fun x o=>?_,(tx _ _).imp fun h=>by omega⟩;obtain⟨a,rfl,C,_⟩:=jc.1 o;rw[fK];omega
open Classical in
noncomputable def lr (ll:List (List Int))(i k:Nat):Bool:=decide (∃e,e<i∧ll[e]? =some []∧aQ ll k e)
theorem KV:lr ll 0=fun _=>false:=by funext k;simp[lr]
open Classical in
theorem IG {i:Nat}{row:List Int}(h:ll[i]? =some row)(j:1≤row.length):lr ll (i+1)=lr ll i:=by
 funext k;unfold lr;rw[Bool.eq_iff_iff,qal,qal];constructor
 ·rintro⟨e,he,h1,o⟩
  by_cases hi:e=i;·subst hi;rw[h] at h1;cases h1;simp at j
  exact⟨e,by omega,h1,o⟩
 rintro⟨e,he,h⟩;exact⟨e,by omega,h⟩
open Classical in
theorem qjx {i:Nat}(o:aP ll)(h:ll[i]? =some [])(k:Nat):lr ll (i+1) k=(lr ll i k||ay (gF ll) i k):=by
 unfold lr;rw[Bool.eq_iff_iff,qal,Bool.or_eq_true,qal,aY,xM o];constructor
 ·rintro⟨e,he,h1,j⟩
  by_cases hi:e=i;·subst hi;exact .inr j
  exact .inl ⟨e,by omega,h1,j⟩
 rintro(⟨e,he,h1⟩|h1);·exact⟨e,by omega,h1⟩
 exact⟨i,by omega,h,h1⟩
noncomputable def pz (ll:List (List Int))(i m k:Nat):Bool:=if k<m then lr ll i k||ay (gF ll) i k else lr ll i k
theorem KW (i:Nat):pz ll i 0=lr ll i:=by funext k;simp[pz]
theorem IJ (i m:Nat):pz ll i m m=lr ll i m:=by simp[pz]
theorem CP (i m:Nat):pz ll i (m+1) m=(lr ll i m||ay (gF ll) i m):=by simp[pz]
theorem IK {i m k:Nat}(h:k≠m):pz ll i (m+1) k=pz ll i m k:=by
 unfold pz;by_cases h1:k<m;·rw[ap h1,ap (by omega)]
 rw[ae h1,ae (by omega)]
theorem FA {i:Nat}(j:aP ll)(h:ll[i]? =some []){k:Nat}(o:k<ll.length):pz ll i ll.length k=lr ll (i+1) k:=by rw[qjx j h];simp[pz,o]
open Classical in
theorem De:qx ((List.range ll.length).map (lr ll ll.length))=cV (iN ll) ll.length:=by
 unfold qx;rw[ce,List.length_range];refine pL fun k o=>?_;have:((List.range ll.length).map (lr ll ll.length))[k]? =some (lr ll ll.length k):=by simp[o]
 rw[this,Option.some.injEq];unfold lr iN;rw[decide_eq_false_iff_not];constructor
 ·rintro h
  refine⟨o,fun⟨e,h1,j⟩=>h ⟨e,(lS.1 j).1,j,h1⟩⟩
 rintro⟨_,h⟩ ⟨e,_,h1,j⟩;exact h ⟨e,j,h1⟩
structure mz (ll:List (List Int))(t:Nat→Int)(pl:Nat→Nat):Prop where
 ord:zJ (dH ll) ll.length pl
 good:fU ll.length pl t
 all:∀j,j<ll.length→my t j
 dom:∀j,j<ll.length→∀x,ig t j x↔¬gA (dH ll) x j
def lV (n:Nat)(t:Nat→Int):List Int:=(List.range n).map t
theorem nW (n:Nat)(t:Nat→Int):(lV n t).length=n:=by simp[lV]
theorem tQ {n:Nat}{t:Nat→Int}{k:Nat}(h:k<n):(lV n t)[k]? =some (t k):=by simp[lV,h]
theorem mz.up {t:Nat→Int}{pl:Nat→Nat}(T:mz ll t pl){j:Nat}(o:j<ll.length)(C:j≠0):∃p:Nat,t j=p∧p<ll.length∧pl p<pl j:=by
 rcases T.all j o with h|h;·exact absurd h C
 obtain⟨p,h1,I,J,_⟩:=T.good.low j o h;exact⟨p,h1,I,J⟩
def oJ (n:Nat)(t:Nat→Int)(j:Nat):List Nat:=kp t n j
theorem zP {t:Nat→Int}{pl:Nat→Nat}(T:mz ll t pl){j x:Nat}(o:j<ll.length):x∈oJ ll.length t j↔¬gA (dH ll) x j:=by rw[oJ,uM T.good x _ j o (Nat.le_of_lt (T.ord.lt j o)),T.dom j o]
end
end
theorem xk (g n c:Nat)(t:TypeId)(cs:Array Value)(w:World)(hb:al w g t cs)(hn:n≤cs.size)(h1:1≤n)(h2:n≤256)(_:n≤c)(a1:∀m,m<n→∃x,cs[m]? =some (.int .i64 x)):
 Calls prog 210 #[.slice (some ⟨g,0,none⟩) n c] w fun e w'=>e=.returned (.tuple #[])∧aa (fun b=>b≠g) w w'∧∃I,al w' g t I∧∀m,m<n→I[m]? =cs[n-1-m]?:=by
 have HB:=oH hb;have HS:=oH a1;clear hb a1;have hl:n≤9223372036854775807:=by omega
 go_enter func210,ntmps210;go_wp2;go_loopg [2,3] n (fun gg i j wr=>∃(k:Nat) (I:Array Value),k≤n∧gg=n-k∧i=.int .i64 k∧j=.int .i64 ((n:Int)-1-k)∧aa (fun b=>b≠g) w wr∧al wr g t I∧lm n k cs I);·exact⟨0,cs,by omega,by omega,rfl,by go_num,kR,HB.out,rfl,fun m hm=>by rw[ae (by omega)]⟩
 obtain⟨k,I,hk,rfl,rfl,rfl,C,o,J⟩:=hrel;by_cases a6:k+k+1<n;·(
 have a7:I.size=cs.size:=J.1;obtain⟨x1,R⟩:=HS.out (n-1-k) (by omega);obtain⟨x2,hy⟩:=HS.out k (by omega);rw[←J.mid (by omega) (by omega)] at R;rw[←J.mid (by omega) (by omega)] at hy;have e:((n:Int)-1-k)=((n-1-k:Nat):Int):=by omega
 obtain⟨j,Y⟩:=eQ (n-1-k);rw[e,←Y];rw[←Y] at R;have c1:=o.cell j;have c2:=o.cell k;have f1:=o.free j;have f2:=o.free k;rw[R] at c1;rw[hy] at c2;have a8:k<j:=by omega
 have b0:j<n:=by omega
 have HT:=J6 o J R hy Y C;clear o J R hy C Y e;go_wp2_with fail
 go_region
 go_wp2;go_roundg (n-(k+1))
 ·obtain⟨o,J,R,hy,Y,C⟩:=HT.out;subst Y;refine⟨k+1,(I.setIfInBounds k (.int .i64 x1)).setIfInBounds (n-1-k) (.int .i64 x2),by omega,rfl,by go_num,by go_num,?_,?_,J.step a6 hn R hy⟩;·exact((C.setCell (.inl fun h=>h rfl) _).setCell (.inl fun h=>h rfl) _).drew
  exact((o.set k _).set (n-1-k) _).drew
 omega)
 go_wp2
 go_end0
 exact⟨rfl,C,I,o,fun m hm=>J.full (by omega) m hm⟩
structure Cw (ll:List (List Int))(ord:List Nat):Prop where
 op:zJ (dH ll) ll.length (fun x=>ord.idxOf x)
 len:ord.length=ll.length
 zero:ord[0]? =some 0
 at':∀(m:Nat) x,ord[m]? =some x→ord.idxOf x=m
 lt:∀x∈ord,x<ll.length
theorem JB {ll:List (List Int)}(o:aP ll){s:List Nat}(h:jg (dH ll) 0 s)(C:(s++[0]).Nodup)(hm:∀x,x∈s++[0]↔aQ ll 0 x)(I:∀k,k<ll.length→aQ ll 0 k):Cw ll (s++[0]).reverse:=by have j:∀x,x∈s++[0]↔x<ll.length:=fun x=>(hm x).trans ⟨fun h=>tB o o.1 h,fun h=>I x h⟩;obtain⟨h1,J,R,Y⟩:=Lu (fun a b e=>⟨lq e,EU o e⟩) h C j;exact⟨h1,J,R,Y,fun x hx=>(j x).1 (List.mem_reverse.1 hx)⟩
theorem tT {n:Nat}(h:n≤1000000):(Lit.int .i64 (n:Int)).wf=true:=by simp only[Lit.wf,IntKind.min,IntKind.max,IntKind.signed,IntKind.bits,gE,qal,if_true];omega
theorem Aj (S:Nat→Prop)(v:Value)(ll:List (List Int))(w:World)(hv:Rows S w v ll)(hR:aP ll)(hL:∀k,k<ll.length→aQ ll 0 k):
 Calls prog 171 #[v] w fun e w'=>∃u ord,e=.returned u∧aa All w w'∧aK (fun b=>w.heap.size≤b) w' u (ord.map Int.ofNat)∧Cw ll ord:=by
 have o:=gt S v ll w hv;rw[bL hR] at o;have b6:=fun C (hk:aa All w C)=>jh (aq.keep hk.all hv);obtain⟨a,cap,rfl,h1,h2,c0,h⟩:=hv;have hl:ll.length≤256:=hR.2.1;have HR:=J4 o b6 hR hL;clear h h1 h2 c0 o b6 hR hL;go_enter func171,ntmps171;go_wp2_with fail;refine HR.1.mono ?_;rintro e C ⟨rfl,b4⟩;have HK:=oH b4
 have hw:=Et C.heap.size _ ll 0 (C.alloc (.cells #[.slice none 0 0] 54)) (aq.wide (T:=fun b=>b<(C.alloc (.cells #[.slice none 0 0] 54)).heap.size∧b≠C.heap.size) (fun b hb=>by simp;omega) (aq.keep ((aa.refl All C).alloc _).all (HR.2.1 _ b4))) HR.2.2.1 HR.2.2.1.1 (.inl (by simp))
  ⟨by simp;omega,by simp[qL],.slice none 0 0,(((((al.new _ _ _).alloc _).alloc _).alloc _).alloc _).alloc _,rfl,.inl ⟨rfl,rfl⟩⟩
 have HW:=oH hw;clear b4 hw;go_wp2_with fail;refine HW.out.mono ?_;rintro e w2 ⟨u,s,rfl,a1,_,⟨c1,c4,vs,b5,c5⟩,I,b7,b0⟩;have j:=JB HR.2.2.1 I b7 b0 HR.2.2.2;have a6:((s++[0]).map Int.ofNat).length=ll.length:=by rw[ce,←j.len,List.length_reverse]
 have b1:(s++[0]).length=ll.length:=by rw[←j.len,List.length_reverse]
 have h0:=b5.cl 0;obtain⟨_,b2⟩:=c5;rw[b1] at b2;rcases b2 with ⟨_,hn⟩|⟨g,J,cur,rfl,hg,hh,b8,c6,c7,b9⟩;·have:=HR.2.2.1.1;omega
 have R:∀m,m<ll.length→cur[m]? =some (.int .i64 (((s++[0]).map Int.ofNat).getD m 0)):=by(
 intro m hm;have e1:(cur.toList.take (ll.length*1))[m]? =(aI ((s++[0]).map Int.ofNat))[m]?:=by rw[b9]
 rw[rY (by omega)] at e1;simp only[Array.getElem?_toList] at e1;rw[e1];simp only[aI,cL,iG];rw[lG (by omega)];rfl)
 have b3:=xk g ll.length J _ cur w2 hh (by omega) HR.2.2.1.1 hl b8 (fun m hm=>⟨_,R m hm⟩);have HV:=oH b3;have HA:=J5 a1 j R a6 b5;have c8:C.heap.size≠g:=by simp at hg;omega
 have c9:J≤9223372036854775807:=by unfold maxLen at c6;omega
 have e0:C.heap.size≤g:=by simp at hg;omega
 clear b3 a1 j R a6 b1 b9 c7 hh I b7 b0 c1 c4 b5 hg;go_wp2_with fail;refine HV.out.mono ?_;rintro e w3 ⟨rfl,Y,e2,a7,a8⟩;have h1:=(HA.2.2.2.2.kept Y c8).cl 0;have HC:=J3 Y a7 a8;have HP:=oH (qdQ (some ⟨g,0,none⟩) ll.length J w3 b8 c9);clear Y a7 a8 h0;go_wp2_with fail;refine HP.out.mono ?_;rintro e w4 ⟨rfl,rfl⟩;go_wp2_with fail;go_ret;obtain⟨a1,j,R,a6,_⟩:=HA.out;obtain⟨Y,a7,a8⟩:=HC.out;have d7:aa All C w3:=by
  have d8:aa (fun b=>b<C.heap.size) (C.alloc (.cells #[.slice none 0 0] 54)) w2:=a1.mono fun b hb=>by omega
  have d9:aa (fun b=>b<C.heap.size) w2 w3:=Y.mono fun b hb=>by omega
  exact am ((((aa.refl _ C).alloc _).trans d8).trans d9)
 refine⟨_,(s++[0]).reverse,rfl,HK.out.trans d7,?_,j⟩;have hlen:((s++[0]).reverse.map Int.ofNat).length=ll.length:=by rw[ce,j.len]
 rw[←hlen];refine Sl.of_blk a7 (by have:=HK.out.size;omega) (cf _) (by unfold maxLen;omega) (by omega) fun i x hx=>?_;have hi:i<ll.length:=by rw[←hlen];exact(lS.1 hx).1
 refine⟨.int .i64 x,?_,rfl,?_⟩
 ·rw[a8 i hi,R _ (by omega),iG]
  rw[List.map_reverse,List.getElem?_reverse (by omega)] at hx;rw[←a6,hx];rfl
 rw[cL] at hx;obtain⟨y,hy,rfl⟩:=oE.1 hx;have:=j.lt y (mG hy);exact tT (by omega)
theorem uf {N:Nat}{p q:Nat→Bool}(h:∀k,k<N→p k=q k):az N p=az N q:=by unfold az;congr 1;refine List.map_congr_left fun k j=>?_;rw[h k (fg.1 j)]
theorem Ei (S:Nat→Prop)(v:Value)(ll:List (List Int))(w:World)(hv:Rows S w v ll)(hR:aP ll):
 Calls prog 104 #[v] w (uz (cV (iN ll) ll.length) w):=by
 have C:=gt S v ll w hv;rw[bL hR] at C;have J:=fun w1 (hk:aa All w w1)=>sd S v ll w1 (aq.keep hk.all hv) hR;have a8:=fun w1 (hk:aa All w w1)=>aq.keep hk.all hv;obtain⟨a,cap,rfl,h1,h2,c6,h⟩:=hv;have hl:ll.length≤256:=hR.2.1;have HR:=J4 C J a8 hR;clear h h1 h2 c6 C J a8 hR;have c7:=fun w=>iy ll.length (by omega) w;go_enter func104,ntmps104;go_wp2_with fail;refine HR.1.mono ?_;rintro e w1 ⟨rfl,b3⟩;have J:=HR.2.1 w1 b3;have HK:=J2 b3 J;clear b3 J;go_wp2_with fail;refine HK.2.mono ?_;rintro e w2 ⟨u,rfl,b8,hb⟩;have HB:=J2 (HK.1.trans b8) (jh hb);clear b8 hb;go_wp2_with fail;go_loopg [20] ll.length (fun g i wr=>∃i':Nat,i'≤ll.length∧g=ll.length-i'∧i=.int .i64 i'∧aa All w2 wr∧w2.heap.size<wr.heap.size∧al wr w2.heap.size 4 (az ll.length (lr ll i')));·exact⟨0,by omega,by omega,rfl,kR.alloc _,by simp,by rw[KV];exact al.new _ _ _⟩
 clear c7;obtain⟨i,hi,rfl,rfl,R,c8,o⟩:=hrel;by_cases b9:i<ll.length;·(
 obtain⟨row,b6⟩:=eG b9;obtain⟨b1,o1,c1,rfl,c9,e2,A3,c3,rfl,r1,r2,_,rh⟩:=bn (HR.2.2.1 wr (HB.1.trans R)) b6;have Y:=J3 R o b6;clear R b6 c9 rh o r1 r2;by_cases hz:0<row.length
 ·go_wp2_with fail
  go_roundg (ll.length-(i+1));·exact⟨i+1,by omega,rfl,by go_num,Y.1,c8,by rw[IG Y.2.2 hz];exact Y.2.1⟩
  omega
 obtain rfl:row=[]:=oD (by omega);have hw:=Es (wr.heap.size+5) u (gF ll) i wr (aq.wide (fun b hb=>⟨by have:=Y.1.size;omega,by have:=Y.1.size;omega⟩) (aq.keep Y.1.all HB.2)) (xN HR.2.2.2) (by rw[fK];exact b9) (.inr rfl) trivial;have HW:=oH hw;clear hw;go_wp2_with fail;refine HW.out.mono ?_;rintro e w3 ⟨uu,s,rfl,c0,c5,_⟩;have b0:aa (fun b=>b<wr.heap.size) wr w3:=c0.mono fun b hb=>by omega
 have b7:aa All wr w3:=am b0;have hlen:(en (gF ll) i).length=ll.length:=by simp[en,fK]
 have a1:=fun wn (hk:aa (fun b=>b≠w2.heap.size) w3 wn)=>cR.keep (hk.mono fun b (hb:wr.heap.size≤b)=>by show b≠_;omega) c5;obtain⟨b4,c4,rfl,l1,l2,l3,_⟩:=c5;rw[hlen] at l1 l3 a1⊢;have HX:=J4 b7 (Y.2.1.kept b7 trivial) a1 hlen;clear c0 b0 b7 a1 hlen;go_wp2_with fail;go_loopg [32] ll.length (fun g k wx=>∃k':Nat,k'≤ll.length∧g=ll.length-k'∧k=.int .i64 k'∧aa (fun b=>b≠w2.heap.size) w3 wx∧al wx w2.heap.size 4 (az ll.length (pz ll i k')));·exact⟨0,by omega,by omega,rfl,kR,by rw[KW];exact HX.2.1⟩
 obtain⟨k,hk,rfl,rfl,a6,o⟩:=hrel;by_cases b2:k<ll.length;·(
 obtain⟨b5,o5,v5,rfl,d7,d8,rfl⟩:=bn (HX.2.2.1 _ a6) (nU (by rw[fK];exact b2));have a7:=o.cell k;have d9:=o.free k;rw[bj b2,IJ] at a7;have I:∀b,(lr ll i k||ay (gF ll) i k)=b→(az ll.length (pz ll i k)).setIfInBounds k (.bool b)=az ll.length (pz ll i (k+1)):=fun b hb=>dg (by rw[CP];exact hb) (fun j _ hj=>IK hj);obtain⟨p,hp⟩:=eR (lr ll i k);obtain⟨q,hq⟩:=eR (ay (gF ll) i k);rw[hp] at I a7;rw[hq] at I d8;have HY:=J3 a6 o I;clear a6 o I hp hq d7;cases p with
 |true=>
  go_wp2_with fail;go_roundg (ll.length-(k+1));·exact⟨k+1,by omega,rfl,by go_num,HY.1.setCell (.inl fun h=>h rfl) _,by rw[←HY.2.2 true rfl];exact HY.2.1.set _ _⟩
  omega
 |false=>
  go_wp2_with fail;go_roundg (ll.length-(k+1));·exact⟨k+1,by omega,rfl,by go_num,HY.1.setCell (.inl fun h=>h rfl) _,by rw[←HY.2.2 q rfl];exact HY.2.1.set _ _⟩
  omega)
 obtain rfl:k=ll.length:=by omega
 have HY:=J2 a6 o;clear a6 o;go_wp2_with fail;go_roundg (ll.length-(i+1))
 ·have e0:aa All w2 _:=am ((Y.1.trans HX.1).all.trans (HY.1.mono fun b (hb:b<w2.heap.size)=>by show b≠_;omega))
  refine⟨i+1,by omega,rfl,by go_num,e0,by have:=HX.1.size;have:=HY.1.size;omega,?_⟩;rw[←uf fun k hk=>FA HR.2.2.2 Y.2.2 hk];exact HY.2
 omega)
 obtain rfl:i=ll.length:=by omega
 have HF:=oH (uZ _ _ _ wr (iT (S:=All) o trivial hl (fun k _=>rfl)));have Y:=oH R;clear R o;go_wp2_with fail;refine HF.out.mono ?_;rintro e w3 ⟨rfl,hw⟩;have e1:=hw.symm;subst e1;rw[De];go_wp2_with fail;go_ret2;exact⟨rfl,HB.1.trans Y.out⟩
theorem oS {n k:Nat}{t u:Nat→Int}{x:Int}(o:u k=x)(C:∀j,j<n→j≠k→u j=t j):(aN n t).setIfInBounds k (.int .i64 x)=aN n u:=by
 rw[fZ];refine ex fun j I=>?_;unfold lu;by_cases e:j=k;·subst e;rw[ap rfl,o]
 rw[ae e,C j I e]
structure qQ (n:Nat)(pl:Nat→Nat)(t:Nat→Int)(pb tb g h:Nat)(w:World):Prop where
 pp:al w pb 54 #[.slice (some ⟨g,0,none⟩) n n]
 tp:al w tb 54 #[.slice (some ⟨h,0,none⟩) n n]
 pn:al w g 3 (aN n fun k=>pl k)
 tn:al w h 3 (aN n t)
theorem qQ.keep {n pb j g h:Nat}{pl:Nat→Nat}{t:Nat→Int}{S:Nat→Prop}{w w':World}(k:aa S w w')(h1:S pb)(o:S j)(C:S g)(I:S h)(T:qQ n pl t pb j g h w):qQ n pl t pb j g h w':=
 ⟨T.pp.kept k h1,T.tp.kept k o,T.pn.kept k C,T.tn.kept k I⟩
theorem Gf (n:Nat)(pl:Nat→Nat)(t:Nat→Int)(pb tb g h a b:Nat)(w:World)(_:n≤256)(G:fU n pl t)(h0:pl 0=0)(inj:∀a b,a<n→b<n→pl a=pl b→a=b)(lt:∀a,a<n→pl a<n)
 (ha:a<n) (hb:b<n) (pa:my t a) (I:my t b) (T:qQ n pl t pb tb g h w):
 Calls prog 172 #[.int .i64 a,.int .i64 b,.pointer (some ⟨pb,0,none⟩),.pointer (some ⟨tb,0,none⟩)] w fun e w'=>∃m:Nat,e=.returned (.int .i64 m)∧m<n∧(∀x,ig t m x↔ig t a x∧ig t b x)∧aa All w w':=by
 have hT:=fun wn (hk:aa All w wn)=>T.keep hk trivial trivial trivial trivial;have HG:=J4 G h0 inj lt;have HA:=J3 pa I hT;clear G h0 inj lt pa I T hT;go_enter func172,ntmps172;go_wp2;go_loopg [0,1] (pl a+pl b) (fun gg x y wr=>∃j o:Nat,gg=pl j+pl o∧x=.int .i64 j∧y=.int .i64 o∧j<n∧o<n∧my t j∧my t o∧(∀x,(ig t j x∧ig t o x)↔(ig t a x∧ig t b x))∧aa All w wr);·exact⟨a,b,rfl,rfl,rfl,ha,hb,HA.1,HA.2.1,fun x=>Iff.rfl,kR⟩
 obtain⟨j,o,rfl,rfl,rfl,J,Y,pa,I,hx,R⟩:=hrel;have T:=HA.2.2 wr R;have c0:=T.pp.cl 0;have c1:=T.tp.cl 0;have c2:=T.pn.cell j;have c3:=T.pn.cell o;have c4:=T.tn.cell j;have c5:=T.tn.cell o;rw[bI J] at c2 c4;rw[bI Y] at c3 c5;have la:=HG.2.2.2 j J;have lb:=HG.2.2.2 o Y;clear T;by_cases he:j=o
 ·have HX:=J2 R hx;clear R hx;have te:((j:Int) !=o)=false:=by rw[gj];omega
  have HE:=oH he;clear he;go_wp2_with fail;go_ret;have he:=HE.out;subst he;exact⟨j,rfl,J,fun x=>⟨fun h=>(HX.2 x).1 ⟨h,h⟩,fun h=>((HX.2 x).2 h).1⟩,HX.1⟩
 have te:((j:Int) !=o)=true:=by rw[bne_iff_ne];omega
 have a8:pl j≠pl o:=fun e=>he (HG.2.2.1 j o J Y e);clear he;by_cases b0:pl o<pl j
 ·obtain⟨p,hp,a7,a1,b1,C⟩:=vz HG.1 J Y pa b0 HG.2.1;rw[hp] at c4;have HX:=J4 R (fun x=>(C x).symm.trans (hx x)) a1 I;clear R hx C a1 I pa hp;go_wp2_with fail;go_quiet (fail);go_wp2_with fail;go_roundg (pl p+pl o);·exact⟨p,o,rfl,rfl,rfl,a7,Y,HX.2.2.1,HX.2.2.2,HX.2.1,HX.1.drewN _⟩
  omega
 have a6:pl j<pl o:=by omega
 obtain⟨p,hp,a7,a1,b1,C⟩:=vz HG.1 Y J I a6 HG.2.1;rw[hp] at c5;have HX:=J4 R (fun x=>(and_comm.trans ((C x).symm.trans and_comm)).trans (hx x)) a1 pa;clear R hx C a1 I pa hp a8 a6;go_wp2_with fail;go_quiet (fail);go_wp2_with fail;go_roundg (pl j+pl p);·exact⟨j,p,rfl,rfl,rfl,J,a7,HX.2.2.2,HX.2.2.1,HX.2.1,HX.1.drewN _⟩
 omega
end Go.Proofs.YtgdlhckhpolnnaaGreatDoor
