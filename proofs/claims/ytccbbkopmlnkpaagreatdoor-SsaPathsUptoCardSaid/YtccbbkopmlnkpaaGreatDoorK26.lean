/- Part 27 of the proof (its last part says what is proved). No condition. -/
import Derived.Test.YtccbbkopmlnkpaaGreatDoorK25
namespace Go.Proofs.YtccbbkopmlnkpaaGreatDoor
set_option maxRecDepth 100000
set_option maxHeartbeats 8000000
open Go.RowKit Go.Proofs.Tryz
theorem Dm (n:Nat)(R:n≤1048576)(w:World):(Instr.makeSlice 54 (.int .i64 n) (.int .i64 n)).run prog w=.ok (.slice (some ⟨w.heap.size,0,none⟩) n n) (w.alloc (.cells (ew n fun _=>.slice none 0 0) 38)):=by
 obtain⟨i28,hi,C,I,J⟩:=info_parts KP;rw[run_make (P:=prog) w 54 38 i28 (.slice none 0 0) underlying54 hi C .i64 .i64 n n (by omega) (by omega) (by rw[J];omega) (by omega)];have e:madeCells (Value.slice none 0 0).cells ((n:Int).toNat*i28.size)=ew n fun _=>.slice none 0 0:=by(
 rw[I,fD,Nat.mul_one];apply Array.ext_getElem?;intro j;by_cases o:j<n;·rw[dC o];simp[madeCells,o,Value.cells,Nat.mod_one]
 rw[gT (by rw[size_madeCells];omega),gT (by rw[ex];omega)])
 rw[e,fD]
structure sa (N B g:Nat)(w:World)(F:Nat→Value)(R:Nat→List Int):Prop where
 tab:al w g 38 (ew N F)
 low:g<B
 own:∀k,k<N→w.ownsRow B 3 1 (F k) (R k).length (aW (R k))
 apart:∀k k' b,k<N→k'<N→k≠k'→(F k).ownBlock=some b→(F k').ownBlock≠some b
theorem sa.step {N B g k:Nat}{w w2:World}{F:Nat→Value}{R R':Nat→List Int}{v2:Value}{o:Obj}{x:Int}(h:sa N B g w F R)(hk:k<N)(a1:w2.ownsRow B 3 1 v2 ((R k).length+1) (aW (R k)++[.int .i64 x]))
 (hg:(w.alloc o).grownBy w2 (F k).ownBlock) (a7:v2.ownBlock=(F k).ownBlock∨v2.ownBlock=some (w.alloc o).heap.size) (hR:R' k=R k++[x]) (b1:∀j,j≠k→R' j=R j):
 sa N B g (w2.setCell ⟨g,k,none⟩ v2) (tU F k v2) R':=by
 have a8:=h.low;have b0:aa (fun b=>(F k).ownBlock≠some b) w w2:=((aa.refl _ w).alloc o).grown hg fun b C=>.inl fun h=>h C;have a6:aa (fun b=>b≠g) w2 (w2.setCell ⟨g,k,none⟩ v2):=(aa.refl _ w2).setCell (p:=⟨g,k,none⟩) (.inl fun h=>h rfl) _;refine⟨?_,a8,fun j hj=>?_,fun j j' b hj J Y C=>?_⟩
 ·rw[←jW]
  exact(h.tab.kept b0 (fun e=>by have:=(au (h.own k hk) e).1;omega)).set _ _
 ·by_cases e:j=k
  ·subst e
   rw[lw,hR];have:=ay a1 a6 fun b C=>by have:=(au a1 C).1;show b≠g;omega
   simpa [aW] using this
  rw[nX e,b1 j e];have I:=h.own j hj;refine ay (ay I b0 fun b C=>h.apart j k b hj hk e C) a6 fun b C=>?_;have:=(au I C).1;show b≠g;omega
 by_cases e:j=k
 ·subst e;rw[lw] at C;rw[nX (fun x=>Y x.symm)];rcases a7 with I|I;·rw[I] at C;exact h.apart j j' b hj J Y C
  rw[I] at C;intro h2;have:=(au (h.own j' J) h2).2;simp at C;omega
 rw[nX e] at C;by_cases e':j'=k
 ·subst e';rw[lw];rcases a7 with I|I;·rw[I];exact h.apart j j' b hj J Y C
  rw[I];intro h2;have:=(au (h.own j hj) C).2;simp at h2;omega
 rw[nX e'];exact h.apart j j' b hj J Y C
theorem pt (S:Nat→Prop)(v:Value)(ll:List (List Int))(w:World)(hv:Rows S w v ll)(hR:bV ll):
 Calls prog 18 #[v] w fun e w'=>∃u,e=.returned u∧aa All w w'∧Rows (fun b=>w.heap.size≤b) w' u ((List.range ll.length).map (cj ll ll.length)):=by
 have Y:=ib S v ll w hv;rw[be hR] at Y;have hl:ll.length≤256:=hR.2.1;have d8:=hv;obtain⟨A,cap,rfl,h1,h2,h5,h⟩:=hv;obtain⟨i3,d9,e0,e1,e2⟩:=info_parts FL;have I3:=J4 d9 e0 e1 e2;have HR:=J3 Y hR d8;clear Y hR d8 h h1 h2 h5 d9 e0 e1 e2;have i6:=fun w=>Dm ll.length (by omega) w;go_enter func18,ntmps18;go_wp2_with fail;refine HR.1.mono ?_;rintro e R ⟨rfl,e4⟩;have HK:=oH e4;clear e4;go_wp2_with fail;go_loopg [17] ll.length (fun g i wr=>∃(i':Nat) (F:Nat→Value),i'≤ll.length∧g=ll.length-i'∧i=.int .i64 i'∧aa All R wr∧R.heap.size<wr.heap.size∧sa ll.length (R.heap.size+1) R.heap.size wr F (fun k=>cj ll i' k))
 case atStart=>refine⟨0,fun _=>.slice none 0 0,by omega,by omega,rfl,kR.alloc _,by simp,al.new _ _ _,by omega,fun k hk=>⟨rfl,.inl ⟨rfl,rfl⟩⟩,fun k k' b _ _ _ h=>by cases h⟩
 obtain⟨i,F,hi,rfl,rfl,o,b8,C⟩:=hrel;have HT:=J2 o C;clear o C;by_cases h6:i<ll.length;·(
 obtain⟨row,b9⟩:=eG h6;have b4:gK ll.length row:=HR.2.1.2.2 row (mG b9);have i7:=kh b4;obtain⟨A',cc,h7,_,_,_,b0⟩:=HR.2.2;cases h7;obtain⟨b1,o1,c1,rfl,j0,e5,A3,c3,rfl,r1,r2,_,rh⟩:=b0 i row b9;have e6:=(HK.out.trans HT.1).cell (p:=⟨b1,o1+i,none⟩) trivial e5;have b3:=J3 b9 b4 rh;clear b9 b4 rh e5 b0 r1 r2;go_wp2_with fail;clear e6;obtain⟨wo,rfl⟩:=eQ wr;go_loopg [24] row.length (fun g m wr=>∃(m':Nat) (F:Nat→Value),m'≤row.length∧g=row.length-m'∧m=.int .i64 m'∧aa All R wr∧R.heap.size<wr.heap.size∧sa ll.length (R.heap.size+1) R.heap.size wr F (fun k=>fX ll row i m' k));·exact⟨0,F,by omega,by omega,rfl,HT.1,b8,by simpa only[GM] using HT.2⟩
 clear HT b8;obtain⟨m,F,hm,rfl,rfl,o,b8,C⟩:=hrel;by_cases J:m<row.length;·(
 obtain⟨b2,o2,c2,rfl,j1,e7,rfl,h8⟩:=b3.2.2 m row[m] (lG J);have h9:=(HK.out.trans o).cell (p:=⟨b2,o2+m,none⟩) trivial e7;obtain⟨y0,y1⟩:=b3.2.1.1 row[m] (jy J);obtain⟨q,hq⟩:∃q:Nat,row[m]=q:=⟨row[m].toNat,by omega⟩;have b5:q<ll.length:=by omega
 have c4:=AA (ll:=ll) (i:=i) J b3.2.1.2 hq;have e8:=fun j hj=>DN (ll:=ll) (i:=i) (j:=j) J hq hj;rw[hq] at h9;have I:=C.tab.cell q;rw[dC b5] at I;have c5:=C.own q b5;have e9:=Az (ll:=ll) row i m q;have a6:(wr.alloc (.cells #[.int .i64 i] 3)).ownsRow (R.heap.size+1) 3 1 (F q) (fX ll row i m q).length (aW (fX ll row i m q)):=ay c5 ((aa.refl All wr).alloc _) (fun _ _=>trivial);have HT:=J4 o C c4 e8;clear o C c4 e8 hq y0 y1 e7 h8 c5;go_wp2_with (
  at_builtin;refine cW _ rfl (.tmp 33) (.tmp 35) 38 rfl (R.heap.size+1) 3 i3 _ 1 8 underlying38 I3.1 I3.2.1 I3.2.2.1 I3.2.2.2 rfl (by decide) _ _ _ rfl a6 (some ⟨wr.heap.size,0,none⟩) 1 1 [.int .i64 i] rfl rfl ?_ ?_ (by unfold maxLen;omega) (by omega) (by simp;omega) ?_;·intro _;exact⟨_,_,rfl,fun j u hu=>by rw[dU,al.cell (al.new _ _ _)];simpa using hu⟩
  ·intro u hu
   rw[ce.1 hu];rfl
  intro v2 w2 a7 c0 c6;obtain⟨A2,c2,rfl⟩:=cd a7;have c9:aa (fun b=>(F q).ownBlock≠some b) wr w2:=((aa.refl _ wr).alloc _).grown c0 fun g hg=>.inl fun h=>h hg;have a8:=HT.2.1.tab.kept c9 (fun e=>by have:=(au (HT.2.1.own q b5) e).1;omega);have I:=a8.cell q;rw[dC b5] at I;have d7:=a8.free q;have i1:=c9.size;have b6:=HT.2.1.step b5 a7 c0 c6 HT.2.2.1 HT.2.2.2;have h0:aa All R w2:=(HT.1.alloc _).grown c0 fun g hg=>.inr (by have:=(au a6 hg).1;omega);have HS:=J2 b6 h0;clear a7 c0 c6 c9 a8 b6 h0 a6)
 go_roundg (row.length-(m+1));·exact⟨m+1,tU F q _,by omega,rfl,by go_num,HS.2.setCell (p:=⟨R.heap.size,q,none⟩) (.inr (bj _)) _,by simp;omega,HS.1⟩
 omega)
 obtain rfl:m=row.length:=by omega
 have HT:=J2 o C;clear o C;go_wp2_with fail;go_roundg (ll.length-(i+1));·exact⟨i+1,F,by omega,rfl,by go_num,HT.1,b8,by simpa only[yM b3.1] using HT.2⟩
 omega)
 obtain rfl:i=ll.length:=by omega
 have hints:∀k,k<ll.length→bu (fun b=>R.heap.size<b) wr (F k) (cj ll ll.length k):=fun k hk=>by have h:=HT.2.own k hk;have e9:=vE (ll:=ll) ll.length k;exact pL h rfl (by omega) (fun g hg=>(au h hg).1) fun x hx=>by obtain⟨a,rfl,ha,_⟩:=gX.1 hx;exact WalkArith.wf_i64 (by omega)
 have HI:=J3 HT.1 HT.2.tab hints;clear HT hints;go_wp2_with fail;obtain⟨wo,rfl⟩:=eQ wr;go_loopg [42] ll.length (fun g i wr=>∃(j:Nat) (F:Nat→Value),j≤ll.length∧g=ll.length-j∧i=.int .i64 j∧aa All R wr∧al wr R.heap.size 38 (ew ll.length F)∧∀k,k<ll.length→bu (fun b=>R.heap.size<b) wr (F k) (cj ll ll.length k));·exact⟨0,F,by omega,by omega,rfl,HI.out⟩
 clear HI;obtain⟨j,F,hj,rfl,rfl,o,a1,hints⟩:=hrel;have HI:=J3 o a1 hints;by_cases J:j<ll.length
 ·have I:=a1.cell j;rw[dC J] at I;have d7:=a1.free j;have hint:=hints j J;obtain⟨A2,h3,hF,r1,r2,r3,r4⟩:=hint;rw[hF] at I;have b7:=xO A2 (cj ll ll.length j).length h3 wr r1 (by unfold maxLen at r2;omega);have c7:bu (fun b=>R.heap.size<b) wr (.slice A2 (cj ll ll.length j).length (cj ll ll.length j).length) (cj ll ll.length j):=⟨A2,_,rfl,bj _,dA r1 r2,r3,r4⟩;have HC:=J2 b7 c7;clear o a1 hints hF b7 c7 r1 r2 r3 r4;go_wp2_with (go_at_call 30;refine HC.1.mono ?_;rintro e w' ⟨rfl,rfl⟩);go_roundg (ll.length-(j+1))
  ·have c8:aa (fun b=>R.heap.size<b) wr (wr.setCell ⟨R.heap.size,j,none⟩ (.slice A2 (cj ll ll.length j).length (cj ll ll.length j).length)):=(aa.refl _ wr).setCell (p:=⟨R.heap.size,j,none⟩) (.inl (Nat.lt_irrefl _)) _;refine⟨j+1,tU F j (.slice A2 (cj ll ll.length j).length (cj ll ll.length j).length),by omega,rfl,by go_num,HI.1.setCell (p:=⟨R.heap.size,j,none⟩) (.inr (bj _)) _,?_,fun k hk=>?_⟩;·rw[←jW];exact HI.2.1.set _ _
   by_cases e:k=j;·subst e;rw[lw];exact ae.keep c8 HC.2
   rw[nX e];exact ae.keep c8 (HI.2.2 k hk)
  omega
 obtain rfl:j=ll.length:=by omega
 clear o a1 hints;go_wp2_with fail;go_ret;refine⟨_,rfl,HK.out.trans HI.1,?_⟩;have h4:=HK.out.size;have e3:((List.range ll.length).map (cj ll ll.length)).length=ll.length:=by simp
 have:=Sl.of_blk (bw:=24) (E:=Sl 8 zq) (S:=fun b=>w.heap.size≤b) (l:=(List.range ll.length).map (cj ll ll.length)) (cap:=ll.length) HI.2.1 h4 (by rw[e3];omega) (by unfold maxLen;omega) (by rw[e3];omega) (fun i x hx=>by
  have hi:i<ll.length:=by(
 rcases Nat.lt_or_ge i ll.length with h|h;·exact h
 rw[kS (by rw[e3];omega)] at hx;cases hx)
  rw[cy,nZ hi] at hx;cases hx;exact⟨F i,dC hi,ae.wide (fun b hb=>by omega) (HI.2.2 i hi)⟩)
 rwa [e3] at this
theorem wU (g n c:Nat)(t:TypeId)(cs:Array Value)(w:World)(hb:al w g t cs)(hn:n≤cs.size)(h1:1≤n)(h2:n≤256)(_:n≤c)(a1:∀m,m<n→∃x,cs[m]? =some (.int .i64 x)):
 Calls prog 109 #[.slice (some ⟨g,0,none⟩) n c] w fun e w'=>e=.returned (.tuple #[])∧aa (fun b=>b≠g) w w'∧∃I,al w' g t I∧∀m,m<n→I[m]? =cs[n-1-m]?:=by
 have HB:=oH hb;have HS:=oH a1;clear hb a1;have hl:n≤9223372036854775807:=by omega
 go_enter func109,ntmps109;go_wp2;go_loopg [2,3] n (fun gg i j wr=>∃(k:Nat) (I:Array Value),k≤n∧gg=n-k∧i=.int .i64 k∧j=.int .i64 ((n:Int)-1-k)∧aa (fun b=>b≠g) w wr∧al wr g t I∧lB n k cs I);·exact⟨0,cs,by omega,by omega,rfl,by go_num,kR,HB.out,rfl,fun m hm=>by rw[ah (by omega)]⟩
 obtain⟨k,I,hk,rfl,rfl,rfl,C,o,J⟩:=hrel;by_cases a6:k+k+1<n;·(
 have a7:I.size=cs.size:=J.1;obtain⟨x1,R⟩:=HS.out (n-1-k) (by omega);obtain⟨x2,Y⟩:=HS.out k (by omega);rw[←J.mid (by omega) (by omega)] at R;rw[←J.mid (by omega) (by omega)] at Y;have e:((n:Int)-1-k)=((n-1-k:Nat):Int):=by omega
 obtain⟨j,hj⟩:=eQ (n-1-k);rw[e,←hj];rw[←hj] at R;have c1:=o.cell j;have c2:=o.cell k;have f1:=o.free j;have f2:=o.free k;rw[R] at c1;rw[Y] at c2;have a8:k<j:=by omega
 have b0:j<n:=by omega
 have HT:=J6 o J R Y hj C;clear o J R Y C hj e;go_wp2_with fail
 go_region
 go_wp2;go_roundg (n-(k+1))
 ·obtain⟨o,J,R,Y,hj,C⟩:=HT.out;subst hj;refine⟨k+1,(I.setIfInBounds k (.int .i64 x1)).setIfInBounds (n-1-k) (.int .i64 x2),by omega,rfl,by go_num,by go_num,?_,?_,J.step a6 hn R Y⟩;·exact((C.setCell (.inl fun h=>h rfl) _).setCell (.inl fun h=>h rfl) _).drew
  exact((o.set k _).set (n-1-k) _).drew
 omega)
 go_wp2
 go_end0
 exact⟨rfl,C,I,o,fun m hm=>J.full (by omega) m hm⟩
structure Cq (ll:List (List Int))(ord:List Nat):Prop where
 op:zt (fd ll) ll.length (fun x=>ord.idxOf x)
 len:ord.length=ll.length
 zero:ord[0]? =some 0
 at':∀(m:Nat) x,ord[m]? =some x→ord.idxOf x=m
 lt:∀x∈ord,x<ll.length
theorem JC {ll:List (List Int)}(o:bV ll){s:List Nat}(h:ie (fd ll) 0 s)(C:(s++[0]).Nodup)(hm:∀x,x∈s++[0]↔bm ll 0 x)(I:∀k,k<ll.length→bm ll 0 k):Cq ll (s++[0]).reverse:=by have j:∀x,x∈s++[0]↔x<ll.length:=fun x=>(hm x).trans ⟨fun h=>yP o o.1 h,fun h=>I x h⟩;obtain⟨J,R,Y,h4⟩:=Lk (fun a b e=>⟨mC e,ET o e⟩) h C j;exact⟨J,R,Y,h4,fun x hx=>(j x).1 (List.mem_reverse.1 hx)⟩
theorem Bh {n:Nat}(h:n≤1000000):(Lit.int .i64 (n:Int)).wf=true:=by simp only[Lit.wf,IntKind.min,IntKind.max,IntKind.signed,IntKind.bits,dX,eq,if_true];omega
theorem zT (S:Nat→Prop)(v:Value)(ll:List (List Int))(w:World)(hv:Rows S w v ll)(hR:bV ll)(hL:∀k,k<ll.length→bm ll 0 k):
 Calls prog 61 #[v] w fun e w'=>∃u ord,e=.returned u∧aa All w w'∧bu (fun b=>w.heap.size≤b) w' u (ord.map Int.ofNat)∧Cq ll ord:=by
 have o:=ib S v ll w hv;rw[be hR] at o;have b7:=fun C (hk:aa All w C)=>lW (aE.keep hk.all hv);obtain⟨a,cap,rfl,h1,h2,c1,h⟩:=hv;have hl:ll.length≤256:=hR.2.1;have HR:=J4 o b7 hR hL;clear h h1 h2 c1 o b7 hR hL;go_enter func61,ntmps61;go_wp2_with fail;refine HR.1.mono ?_;rintro e C ⟨rfl,b5⟩;have HK:=oH b5
 have hw:=Es C.heap.size _ ll 0 (C.alloc (.cells #[.slice none 0 0] 38)) (aE.wide (T:=fun b=>b<(C.alloc (.cells #[.slice none 0 0] 38)).heap.size∧b≠C.heap.size) (fun b hb=>by simp;omega) (aE.keep ((aa.refl All C).alloc _).all (HR.2.1 _ b5))) HR.2.2.1 HR.2.2.1.1 (.inl (by simp))
  ⟨by simp;omega,by simp[qJ],.slice none 0 0,(((((al.new _ _ _).alloc _).alloc _).alloc _).alloc _).alloc _,rfl,.inl ⟨rfl,rfl⟩⟩
 have HW:=oH hw;clear b5 hw;go_wp2_with fail;refine HW.out.mono ?_;rintro e w2 ⟨u,s,rfl,a1,_,⟨c2,c3,vs,b6,c4⟩,I,b8,b0⟩;have j:=JC HR.2.2.1 I b8 b0 HR.2.2.2;have a6:((s++[0]).map Int.ofNat).length=ll.length:=by rw[aZ,←j.len,List.length_reverse]
 have b1:(s++[0]).length=ll.length:=by rw[←j.len,List.length_reverse]
 have h0:=b6.cell 0;obtain⟨_,b2⟩:=c4;rw[b1] at b2;rcases b2 with ⟨_,hn⟩|⟨g,J,cur,rfl,hg,hh,b9,c5,c6,c0⟩;·have:=HR.2.2.1.1;omega
 have R:∀m,m<ll.length→cur[m]? =some (.int .i64 (((s++[0]).map Int.ofNat).getD m 0)):=by(
 intro m hm;have e1:(cur.toList.take (ll.length*1))[m]? =(aW ((s++[0]).map Int.ofNat))[m]?:=by rw[c0]
 rw[Cu (by omega)] at e1;simp only[Array.getElem?_toList] at e1;rw[e1];simp only[aW,cy,iL];rw[lG (by omega)];rfl)
 have b3:=wU g ll.length J _ cur w2 hh (by omega) HR.2.2.1.1 hl b9 (fun m hm=>⟨_,R m hm⟩);have HV:=oH b3;have HA:=J5 a1 j R a6 b6;have c7:C.heap.size≠g:=by simp at hg;omega
 have c8:J≤9223372036854775807:=by unfold maxLen at c5;omega
 have d9:C.heap.size≤g:=by simp at hg;omega
 simp only[gc] at h0;clear b3 a1 j R a6 b1 c0 c6 hh I b8 b0 c2 c3 b6 hg;go_wp2_with fail;refine HV.out.mono ?_;rintro e w3 ⟨rfl,Y,e0,a7,a8⟩;have h1:=(HA.2.2.2.2.kept Y c7).cell 0;simp only[gc] at h1;have HC:=J3 Y a7 a8;have HP:=oH (xO (some ⟨g,0,none⟩) ll.length J w3 b9 c8);clear Y a7 a8 h0;go_wp2_with fail;refine HP.out.mono ?_;rintro e w4 ⟨rfl,rfl⟩;go_wp2_with fail;go_ret;obtain⟨a1,j,R,a6,_⟩:=HA.out;obtain⟨Y,a7,a8⟩:=HC.out;have c9:aa All C w3:=by
  have d7:aa (fun b=>b<C.heap.size) (C.alloc (.cells #[.slice none 0 0] 38)) w2:=a1.mono fun b hb=>by omega
  have d8:aa (fun b=>b<C.heap.size) w2 w3:=Y.mono fun b hb=>by omega
  exact aq ((((aa.refl _ C).alloc _).trans d7).trans d8)
 refine⟨_,(s++[0]).reverse,rfl,HK.out.trans c9,?_,j⟩;have b4:((s++[0]).reverse.map Int.ofNat).length=ll.length:=by rw[aZ,j.len]
 rw[←b4];refine Sl.of_blk a7 (by have:=HK.out.size;omega) (bj _) (by unfold maxLen;omega) (by omega) fun i x hx=>?_;have hi:i<ll.length:=by rw[←b4];exact(lS.1 hx).1
 refine⟨.int .i64 x,?_,rfl,?_⟩
 ·rw[a8 i hi,R _ (by omega),iL]
  rw[List.map_reverse,List.getElem?_reverse (by omega)] at hx;rw[←a6,hx];rfl
 rw[cy] at hx;obtain⟨y,hy,rfl⟩:=um.1 hx;have:=j.lt y (mG hy);exact Bh (by omega)
theorem un {N:Nat}{p q:Nat→Bool}(h:∀k,k<N→p k=q k):aQ N p=aQ N q:=by unfold aQ;congr 1;refine List.map_congr_left fun k j=>?_;rw[h k (dW.1 j)]
theorem vR (S:Nat→Prop)(v:Value)(ll:List (List Int))(w:World)(hv:Rows S w v ll)(hR:bV ll):
 Calls prog 17 #[v] w (qh (cz (iK ll) ll.length) w):=by
 have C:=ib S v ll w hv;rw[be hR] at C;have J:=fun w1 (hk:aa All w w1)=>pt S v ll w1 (aE.keep hk.all hv) hR;have b0:=fun w1 (hk:aa All w w1)=>aE.keep hk.all hv;obtain⟨a,cap,rfl,h1,h2,c6,h⟩:=hv;have hl:ll.length≤256:=hR.2.1;have HR:=J4 C J b0 hR;clear h h1 h2 c6 C J b0 hR;have c7:=fun w=>pQ ll.length (by omega) w;go_enter func17,ntmps17;go_wp2_with fail;refine HR.1.mono ?_;rintro e w1 ⟨rfl,b6⟩;have J:=HR.2.1 w1 b6;have HK:=J2 b6 J;clear b6 J;go_wp2_with fail;refine HK.2.mono ?_;rintro e w2 ⟨u,rfl,b9,hb⟩;have HB:=J2 (HK.1.trans b9) (lW hb);clear b9 hb;go_wp2_with fail;go_loopg [20] ll.length (fun g i wr=>∃i':Nat,i'≤ll.length∧g=ll.length-i'∧i=.int .i64 i'∧aa All w2 wr∧w2.heap.size<wr.heap.size∧al wr w2.heap.size 4 (aQ ll.length (kB ll i')));·exact⟨0,by omega,by omega,rfl,kR.alloc _,by simp,by rw[KL];exact al.new _ _ _⟩
 clear c7;obtain⟨i,hi,rfl,rfl,R,c8,o⟩:=hrel;by_cases c0:i<ll.length;·(
 obtain⟨row,b7⟩:=eG c0;obtain⟨b1,o1,c1,rfl,c9,e2,A3,c3,rfl,r1,r2,_,rh⟩:=de (HR.2.2.1 wr (HB.1.trans R)) b7;have Y:=J3 R o b7;clear R b7 c9 rh o r1 r2;by_cases hz:0<row.length
 ·go_wp2_with fail
  go_roundg (ll.length-(i+1));·exact⟨i+1,by omega,rfl,by go_num,Y.1,c8,by rw[IG Y.2.2 hz];exact Y.2.1⟩
  omega
 obtain rfl:row=[]:=zv (by omega);have hw:=Er (wr.heap.size+5) u (fF ll) i wr (aE.wide (fun b hb=>⟨by have:=Y.1.size;omega,by have:=Y.1.size;omega⟩) (aE.keep Y.1.all HB.2)) (xG HR.2.2.2) (by rw[eJ];exact c0) (.inr rfl) trivial;have HW:=oH hw;clear hw;go_wp2_with fail;refine HW.out.mono ?_;rintro e w3 ⟨uu,s,rfl,c2,c5,_⟩;have b2:aa (fun b=>b<wr.heap.size) wr w3:=c2.mono fun b hb=>by omega
 have b8:aa All wr w3:=aq b2;have a1:(gZ (fF ll) i).length=ll.length:=by simp[gZ,eJ]
 have a6:=fun wn (hk:aa (fun b=>b≠w2.heap.size) w3 wn)=>uZ.keep (hk.mono fun b (hb:wr.heap.size≤b)=>by show b≠_;omega) c5;obtain⟨b4,c4,rfl,l1,l2,l3,_⟩:=c5;rw[a1] at l1 l3 a6⊢;have HX:=J4 b8 (Y.2.1.kept b8 trivial) a6 a1;clear c2 b2 b8 a6 a1;go_wp2_with fail;go_loopg [32] ll.length (fun g k wx=>∃k':Nat,k'≤ll.length∧g=ll.length-k'∧k=.int .i64 k'∧aa (fun b=>b≠w2.heap.size) w3 wx∧al wx w2.heap.size 4 (aQ ll.length (py ll i k')));·exact⟨0,by omega,by omega,rfl,kR,by rw[KM];exact HX.2.1⟩
 obtain⟨k,hk,rfl,rfl,a7,o⟩:=hrel;by_cases b3:k<ll.length;·(
 obtain⟨b5,o5,v5,rfl,d7,d8,rfl⟩:=de (HX.2.2.1 _ a7) (DP (by rw[eJ];exact b3));have a8:=o.cell k;have d9:=o.free k;rw[cT b3,IJ] at a8;have I:∀b,(kB ll i k||eZ (fF ll) i k)=b→(aQ ll.length (py ll i k)).setIfInBounds k (.bool b)=aQ ll.length (py ll i (k+1)):=fun b hb=>it (by rw[CM];exact hb) (fun j _ hj=>IK hj);obtain⟨p,hp⟩:=eR (kB ll i k);obtain⟨q,hq⟩:=eR (eZ (fF ll) i k);rw[hp] at I a8;rw[hq] at I d8;have HY:=J3 a7 o I;clear a7 o I hp hq d7;cases p with
 |true=>
  go_wp2_with fail;go_roundg (ll.length-(k+1));·exact⟨k+1,by omega,rfl,by go_num,HY.1.setCell (.inl fun h=>h rfl) _,by rw[←HY.2.2 true rfl];exact HY.2.1.set _ _⟩
  omega
 |false=>
  go_wp2_with fail;go_roundg (ll.length-(k+1));·exact⟨k+1,by omega,rfl,by go_num,HY.1.setCell (.inl fun h=>h rfl) _,by rw[←HY.2.2 q rfl];exact HY.2.1.set _ _⟩
  omega)
 obtain rfl:k=ll.length:=by omega
 have HY:=J2 a7 o;clear a7 o;go_wp2_with fail;go_roundg (ll.length-(i+1))
 ·have e0:aa All w2 _:=aq ((Y.1.trans HX.1).all.trans (HY.1.mono fun b (hb:b<w2.heap.size)=>by show b≠_;omega))
  refine⟨i+1,by omega,rfl,by go_num,e0,by have:=HX.1.size;have:=HY.1.size;omega,?_⟩;rw[←un fun k hk=>Fw HR.2.2.2 Y.2.2 hk];exact HY.2
 omega)
 obtain rfl:i=ll.length:=by omega
 have HF:=oH (uV _ _ _ wr (nB (S:=All) o trivial hl (fun k _=>rfl)));have Y:=oH R;clear R o;go_wp2_with fail;refine HF.out.mono ?_;rintro e w3 ⟨rfl,hw⟩;have e1:=hw.symm;subst e1;rw[CZ];go_wp2_with fail;go_ret2;exact⟨rfl,HB.1.trans Y.out⟩
noncomputable def Na (ll:List (List Int))(row:List Int)(i:Nat):Int:=if row.any (fun x=>eZ ll x.toNat i) then(row.findIdx (fun x=>eZ ll x.toNat i):Int) else-1
def bH (N:Nat)(f:Nat→Int):Array Value:=ew N fun i=>.int .i64 (f i)
theorem cx {N:Nat}{f:Nat→Int}{i:Nat}(h:i<N):(bH N f)[i]? =some (.int .i64 (f i)):=dC h
theorem jY (N:Nat)(f:Nat→Int):(bH N f).size=N:=ex _ _
theorem fh {N:Nat}{f g:Nat→Int}(h:∀i,i<N→f i=g i):bH N f=bH N g:=by
 apply Array.ext_getElem?;intro j;by_cases o:j<N;·rw[cx o,cx o,h j o]
 rw[gT (by rw[jY];omega),gT (by rw[jY];omega)]
theorem oO {N:Nat}{f:Nat→Int}{i:Nat}{v:Int}:(bH N f).setIfInBounds i (.int .i64 v)=bH N (rz f i v):=by unfold bH;rw[jW];congr 1;funext k;unfold tU rz;split<;>rfl
theorem Jr (n:Nat)(R:n≤1048576)(w:World):(Instr.makeSlice 38 (.int .i64 n) (.int .i64 n)).run prog w=.ok (.slice (some ⟨w.heap.size,0,none⟩) n n) (w.alloc (.cells (bH n fun _=>0) 3)):=by
 obtain⟨i3,hi,C,I,J⟩:=info_parts FL;rw[run_make (P:=prog) w 38 3 i3 (.int .i64 0) underlying38 hi C .i64 .i64 n n (by omega) (by omega) (by rw[J];omega) (by omega)];have e:madeCells (Value.int .i64 0).cells ((n:Int).toNat*i3.size)=bH n fun _=>0:=by(
 rw[I,fD,Nat.mul_one];apply Array.ext_getElem?;intro j;by_cases o:j<n;·rw[cx o];simp[madeCells,o,Value.cells,Nat.mod_one]
 rw[gT (by rw[size_madeCells];omega),gT (by rw[jY];omega)])
 rw[e,fD]
theorem yl {S:Nat→Prop}{w:World}{g n:Nat}{t:TypeId}{f:Nat→Int}(h:al w g t (bH n f))(C:S g)(I:n≤1048576)(hw:∀i,i<n→(Lit.int .i64 (f i)).wf=true):
 bu S w (.slice (some ⟨g,0,none⟩) n n) ((List.range n).map f):=by
 have o:((List.range n).map f).length=n:=by simp
 have:=Sl.of_blk (bw:=8) (E:=zq) (S:=S) (l:=(List.range n).map f) (cap:=n) h C (by simp) (by unfold maxLen;omega) (by rw[o];omega) (fun i x j=>by
  have hi:i<n:=by(
 rcases Nat.lt_or_ge i n with h|h;·exact h
 rw[kS (by simp;omega)] at j;cases j)
  rw[cy,nZ hi] at j;cases j;exact⟨_,cx hi,rfl,hw i hi⟩)
 rwa [o] at this
theorem oN {n k:Nat}{t u:Nat→Int}{x:Int}(o:u k=x)(C:∀j,j<n→j≠k→u j=t j):(bH n t).setIfInBounds k (.int .i64 x)=bH n u:=by
 rw[oO];refine fh fun j I=>?_;unfold rz;by_cases e:j=k;·subst e;rw[am rfl,o]
 rw[ah e,C j I e]
structure qU (n:Nat)(pl:Nat→Nat)(t:Nat→Int)(pb tb g h:Nat)(w:World):Prop where
 pp:al w pb 38 #[.slice (some ⟨g,0,none⟩) n n]
 tp:al w tb 38 #[.slice (some ⟨h,0,none⟩) n n]
 pn:al w g 3 (bH n fun k=>pl k)
 tn:al w h 3 (bH n t)
theorem qU.keep {n pb j g h:Nat}{pl:Nat→Nat}{t:Nat→Int}{S:Nat→Prop}{w o:World}(k:aa S w o)(C:S pb)(I:S j)(J:S g)(R:S h)(T:qU n pl t pb j g h w):qU n pl t pb j g h o:=
 ⟨T.pp.kept k C,T.tp.kept k I,T.pn.kept k J,T.tn.kept k R⟩
theorem Gh (n:Nat)(pl:Nat→Nat)(t:Nat→Int)(pb tb g h a b:Nat)(w:World)(_:n≤256)(G:eU n pl t)(h0:pl 0=0)(inj:∀a b,a<n→b<n→pl a=pl b→a=b)(lt:∀a,a<n→pl a<n)
 (ha:a<n) (hb:b<n) (pa:me t a) (I:me t b) (T:qU n pl t pb tb g h w):
 Calls prog 62 #[.int .i64 a,.int .i64 b,.pointer (some ⟨pb,0,none⟩),.pointer (some ⟨tb,0,none⟩)] w fun e w'=>∃m:Nat,e=.returned (.int .i64 m)∧m<n∧(∀x,gu t m x↔gu t a x∧gu t b x)∧aa All w w':=by
 have hT:=fun wn (hk:aa All w wn)=>T.keep hk trivial trivial trivial trivial;have HG:=J4 G h0 inj lt;have HA:=J3 pa I hT;clear G h0 inj lt pa I T hT;go_enter func62,ntmps62;go_wp2;go_loopg [0,1] (pl a+pl b) (fun gg x y wr=>∃j o:Nat,gg=pl j+pl o∧x=.int .i64 j∧y=.int .i64 o∧j<n∧o<n∧me t j∧me t o∧(∀x,(gu t j x∧gu t o x)↔(gu t a x∧gu t b x))∧aa All w wr);·exact⟨a,b,rfl,rfl,rfl,ha,hb,HA.1,HA.2.1,fun x=>Iff.rfl,kR⟩
 obtain⟨j,o,rfl,rfl,rfl,J,Y,pa,I,hx,R⟩:=hrel;have T:=HA.2.2 wr R;have c0:=T.pp.cell 0;have c1:=T.tp.cell 0;have c2:=T.pn.cell j;have c3:=T.pn.cell o;have c4:=T.tn.cell j;have c5:=T.tn.cell o;rw[cx J] at c2 c4;rw[cx Y] at c3 c5;simp only[gc] at c0 c1;have la:=HG.2.2.2 j J;have lb:=HG.2.2.2 o Y;clear T;by_cases he:j=o
 ·have HX:=J2 R hx;clear R hx;have te:((j:Int) !=o)=false:=by rw[ru];omega
  have HE:=oH he;clear he;go_wp2_with fail;go_ret;have he:=HE.out;subst he;exact⟨j,rfl,J,fun x=>⟨fun h=>(HX.2 x).1 ⟨h,h⟩,fun h=>((HX.2 x).2 h).1⟩,HX.1⟩
 have te:((j:Int) !=o)=true:=by rw[bne_iff_ne];omega
 have a8:pl j≠pl o:=fun e=>he (HG.2.2.1 j o J Y e);clear he;by_cases b0:pl o<pl j
 ·obtain⟨p,hp,a7,a1,b1,C⟩:=vq HG.1 J Y pa b0 HG.2.1;rw[hp] at c4;have HX:=J4 R (fun x=>(C x).symm.trans (hx x)) a1 I;clear R hx C a1 I pa hp;go_wp2_with fail;go_quiet (fail);go_wp2_with fail;go_roundg (pl p+pl o);·exact⟨p,o,rfl,rfl,rfl,a7,Y,HX.2.2.1,HX.2.2.2,HX.2.1,HX.1.drewN _⟩
  omega
 have a6:pl j<pl o:=by omega
 obtain⟨p,hp,a7,a1,b1,C⟩:=vq HG.1 Y J I a6 HG.2.1;rw[hp] at c5;have HX:=J4 R (fun x=>(and_comm.trans ((C x).symm.trans and_comm)).trans (hx x)) a1 pa;clear R hx C a1 I pa hp a8 a6;go_wp2_with fail;go_quiet (fail);go_wp2_with fail;go_roundg (pl j+pl p);·exact⟨j,p,rfl,rfl,rfl,J,a7,HX.2.2.2,HX.2.2.1,HX.2.1,HX.1.drewN _⟩
 omega
end Go.Proofs.YtccbbkopmlnkpaaGreatDoor
