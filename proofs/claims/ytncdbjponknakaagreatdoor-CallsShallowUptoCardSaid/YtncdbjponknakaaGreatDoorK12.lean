/- Part 13 of the proof of CallsShallow (its last part says what is proved). No condition. -/
import Derived.Test.YtncdbjponknakaaGreatDoorK11
namespace Go.Proofs.YtncdbjponknakaaGreatDoor
set_option maxRecDepth 100000
set_option maxHeartbeats 8000000
open Go.RowKit Go.Proofs.Tryz
theorem Qn (w:World)(o a4:Option Addr)(nl C no J r fn at_:Nat)(v2 v3 v5:Value)(k x:Int)(hk:(k=1∧r<no)∨(k=2∧r<nl)):
 Calls prog 122 #[.agg #[.slice o nl C,v2,v3,.slice a4 no J,v5],.agg #[.int .u8 k,.int .i64 (r:Nat),.int .i64 x,.int .i64 (fn:Nat),.int .i64 (at_:Nat)]] w fun e w'=>e=.returned (.bool true)∧aa All w w':=by
 obtain⟨R,j⟩:=eQ ((w.alloc (.cells #[.slice o nl C,v2,v3,.slice a4 no J,v5] 26)).alloc (.cells #[.int .u8 k,.int .i64 (r:Nat),.int .i64 x,.int .i64 (fn:Nat),.int .i64 (at_:Nat)] 120));have l:aa All w R:=by rw[j];exact(kR.alloc _).alloc _
 have Z:al R w.heap.size 26 #[.slice o nl C,v2,v3,.slice a4 no J,v5]:=by rw[j];exact(al.new _ _ _).alloc _
 have bE:al R (w.heap.size+1) 120 #[.int .u8 k,.int .i64 (r:Nat),.int .i64 x,.int .i64 (fn:Nat),.int .i64 (at_:Nat)]:=by rw[j];exact ac (by simp)
 obtain⟨p0,p1,p2,p3,p4⟩:=Z.c5;obtain⟨q0,q1,q2,q3,q4⟩:=bE.c5;have Y:=J2 j l;clear j l Z bE;go_enter func122,ntmps122;go_upto_region 1 with fail;rw[←Y.1];rcases hk with ⟨rfl,hr⟩|⟨rfl,hr⟩
 ·go_wp2_with fail
  go_ret;exact⟨rfl,Y.2⟩
 go_wp2_with fail;go_ret;exact⟨rfl,Y.2⟩
theorem Ot {w:World}{base g:Nat}{t l:TypeId}{size n:Nat}{v:Value}{xs:List Value}{cs:Array Value}(h:w.ownsRow base t size v n xs){b:Nat}(o:v.ownBlock=some b)(C:al w g l cs)(J:t≠l):b≠g:=by obtain⟨_,R,Y,j⟩:=Nu h o;rintro rfl;rw[show w.heap[b]? =_ from C] at j;injection j with j;injection j with _ j;exact J j.symm
theorem PO:(prog.info? 120).map (fun i=>(i.zero,i.size,i.bytes))=some (some (.agg #[.int .u8 0,.int .i64 0,.int .i64 0,.int .i64 0,.int .i64 0]),5,40):=by kernel_rfl
theorem PD (M:sm)(w:World)(e r fn at_:Nat)(k x:Int)(hM:iU M)(j:aa M.S M.W w)(R:tv M w e)(he:e≤2097152)(b7:(k=1∧r<M.p.Na.length)∨(k=2∧r<M.p.MZ.length)):
 Calls prog 79 #[.pointer (some ⟨M.bb,0,none⟩),.agg #[.int .u8 k,.int .i64 (r:Nat),.int .i64 x,.int .i64 (fn:Nat),.int .i64 (at_:Nat)]] w fun en w'=>en=.returned (.int .i64 0)∧tv M w' (e+1)∧Nt M [97,120] w w':=by
 obtain⟨iE,b8,b9,c0,c2⟩:=info_parts PO;have IE:=J4 b8 b9 c0 c2;clear b8 b9 c0 c2;obtain⟨a1,c1,b1⟩:=hM.lev;obtain⟨a4,c4,b2⟩:=hM.Na;obtain⟨A,m,c,b3,a7,Y,d7,c3⟩:=id R.box;rw[b1,b2] at a7;have HG:=oH (fun wn=>Qn wn a1 a4 M.p.MZ.length c1 M.p.Na.length c4 r fn at_ M.uv M.iv (.int .i64 M.p.Nc) k x b7);have d8:M.N≤w.heap.size:=fR hM.lo j.size;have HO:=oH (show(Value.slice A m c).ownBlock≠some M.bb∧(Value.slice A m c).ownBlock≠some w.heap.size∧∀b,(Value.slice A m c).ownBlock=some b→b<w.heap.size from⟨fun h=>(Ot Y h a7 (by decide)) rfl,fun h=>by have:=(aD Y h).2;omega,fun b R=>(aD Y R).2⟩);have C:=J6 R Y c3 a7 b1 b2;obtain⟨W0,a8⟩:=eQ (w.alloc (.cells #[.int .u8 k,.int .i64 (r:Nat),.int .i64 x,.int .i64 (fn:Nat),.int .i64 (at_:Nat)] 120));have l:aa All w W0:=by rw[a8];exact kR.alloc _
 have bE:al W0 w.heap.size 120 #[.int .u8 k,.int .i64 (r:Nat),.int .i64 x,.int .i64 (fn:Nat),.int .i64 (at_:Nat)]:=by rw[a8];exact ac rfl
 have HF:=oH (show∀wn,aa All W0 wn→wn.cell? ⟨M.bb,2,none⟩=some (.slice a1 M.p.MZ.length c1)∧wn.cell? ⟨M.bb,3,none⟩=some (M.uv)∧wn.cell? ⟨M.bb,4,none⟩=some (M.iv)∧wn.cell? ⟨M.bb,5,none⟩=some (.slice a4 M.p.Na.length c4)∧wn.cell? ⟨M.bb,6,none⟩=some (.int .i64 M.p.Nc)∧wn.cell? ⟨M.bb,7,none⟩=some (.slice A m c)∧wn.cell? ⟨w.heap.size,0,none⟩=some (.int .u8 k)∧wn.cell? ⟨w.heap.size,1,none⟩=some (.int .i64 (r:Nat))∧wn.cell? ⟨w.heap.size,2,none⟩=some (.int .i64 x)∧wn.cell? ⟨w.heap.size,3,none⟩=some (.int .i64 (fn:Nat))∧wn.cell? ⟨w.heap.size,4,none⟩=some (.int .i64 (at_:Nat)) from fun wn j=>⟨(C.2.2.2.1.kept (l.trans j) trivial).cell 2,(C.2.2.2.1.kept (l.trans j) trivial).cell 3,(C.2.2.2.1.kept (l.trans j) trivial).cell 4,(C.2.2.2.1.kept (l.trans j) trivial).cell 5,(C.2.2.2.1.kept (l.trans j) trivial).cell 6,(C.2.2.2.1.kept (l.trans j) trivial).cell 7,(bE.kept j trivial).cell 0,(bE.kept j trivial).cell 1,(bE.kept j trivial).cell 2,(bE.kept j trivial).cell 3,(bE.kept j trivial).cell 4⟩);have HW:=J2 a8 l;clear a8 l bE hM j R Y c3 a7 b1 b2 b7;go_enter func79,ntmps79;go_upto_region 1 with fail;rw[←HW.1];refine R0 11 W0 (fun i=>if i=8 then some (·=.bool true) else none) ?_;iterate 6 refine O0 ?_
 iterate 2 refine O4 HF.out ?_
 refine O5 (v:=.bool true) (fun wn j hp=>⟨_,_,by(skip;go_simp<;>with_reducible rfl),(((fun wn _=>HG.out wn) wn j).mono fun e w' h=>⟨h.1,j.trans h.2,fun _ h=>by cases h⟩)⟩) ?_;iterate 2 refine O0 ?_
 refine aG fun w2 Z hF=>?_;have H2:=oH Z;clear Z hF;simp only[dK];go_wp2_with fail;obtain⟨e0,e1,e2,e3,e4,e5,e6,e7,e8,e9,c6⟩:=HF.out w2 H2.out;have HS:=oH (show∀wn,aa (fun b=>(Value.slice A m c).ownBlock≠some b) w2 wn→wn.cell? ⟨M.bb,7,none⟩=some (.slice A m c)∧wn.cell? ⟨w.heap.size,0,none⟩=some (.int .u8 k)∧wn.cell? ⟨w.heap.size,1,none⟩=some (.int .i64 (r:Nat))∧wn.cell? ⟨w.heap.size,2,none⟩=some (.int .i64 x)∧wn.cell? ⟨w.heap.size,3,none⟩=some (.int .i64 (fn:Nat))∧wn.cell? ⟨w.heap.size,4,none⟩=some (.int .i64 (at_:Nat)) from fun wn j=>⟨j.cell (p:=⟨M.bb,7,none⟩) HO.1 e5,j.cell (p:=⟨w.heap.size,0,none⟩) HO.2.1 e6,j.cell (p:=⟨w.heap.size,1,none⟩) HO.2.1 e7,j.cell (p:=⟨w.heap.size,2,none⟩) HO.2.1 e8,j.cell (p:=⟨w.heap.size,3,none⟩) HO.2.1 e9,j.cell (p:=⟨w.heap.size,4,none⟩) HO.2.1 c6⟩);clear e0 e1 e2 e3 e4 e5 e6 e7 e8 e9 c6;refine bq 8 (DL w2 M.N 120 5 (.slice A m c) m b3) [22,23] (NH w2 M.N 120 5 (.slice A m c) m b3 [.int .u8 k,.int .i64 (r:Nat),.int .i64 x,.int .i64 (fn:Nat),.int .i64 (at_:Nat)] 22) (fun i=>if i=7 then some (NT m) else if i=6 then some Oa else none) (fun _=>false) (fun _ _=>False) (by kernel_rfl) (by kernel_rfl) (by kernel_rfl) (by kernel_rfl) (DL.first (be C.2.1 (HW.2.trans H2.out) fun _ _=>trivial)) (fun _ _ _ h=>h.elim) ?_;simp only[tK];iterate 4 refine O0 ?_
 iterate 2 refine O3 (fun wn j hp=>by(obtain⟨e0,e1,e2,e3,e4,e5⟩:=HS.out wn j.1;go_simp;with_reducible rfl)) ?_
 refine PE (by rfl) (by rfl) (by rfl) rfl (fun wn j hp=>by(skip;go_simp<;>with_reducible rfl)) ?_;intro g;simp only[PS];refine Ov (by rfl) (by rfl) (by rfl) rfl (by decide) (.tmp 20) 48 rfl iE _ 40 underlying48 IE.1 IE.2.1 IE.2.2.1 IE.2.2.2 rfl (by decide) rfl g rfl (by decide) rfl (by intro u hu;simp only[fX,List.not_mem_nil,or_false] at hu;rcases hu with rfl|rfl|rfl|rfl|rfl<;>rfl) (by unfold maxLen;omega) (by omega) (by have:=HW.2.size;have:=H2.out.size;omega) (fun b R=>by have:=HO.2.2 b R;have:=HW.2.size;have:=H2.out.size;omega) ?_;intro A5 c5;simp only[PS];refine aG fun w3 Z hF=>?_;have b0:=hF 23 (by simp) _ rfl;unfold NH at b0;rw[ae (by decide)] at b0;have H3:=J2 Z.1 b0;clear Z hF b0;simp only[dK];have J:aa (fun b=>(Value.slice A m c).ownBlock≠some b) w w3:=(HW.2.trans H2.out).all.trans H3.1;have a6:=C.2.2.2.1.kept J HO.1;obtain⟨tl,b4,c7⟩:=C.1.taken;have b5:=b4.kept J (fun h=>(Ot C.2.1 h b4 (by decide)) rfl);have c8:M.tb≠M.bb:=fun e=>al.ne a6 b5 (by decide) e.symm;have z7:=a6.cell 7;have zf:=a6.free 7;simp only[gc] at z7;have HZ:=J5 J a6 b5 c7 c8;clear J a6 b5 b4 c7 c8;go_wp2_with fail
 have b6:(w3.setCell ⟨M.bb,7,none⟩ (.slice A5 (m+1) c5)).ownsRow M.N 120 5 (.slice A5 (m+1) c5) (m+1) (b3++[.int .u8 k,.int .i64 (r:Nat),.int .i64 x,.int .i64 (fn:Nat),.int .i64 (at_:Nat)]):=
  be H3.2.1 ((aa.refl (fun b=>b≠M.bb) w3).setCell (p:=⟨M.bb,7,none⟩) (.inl fun h=>h rfl) _) fun g hg=>Ot H3.2.1 hg HZ.2.1 (by decide)
 have o:=HZ.2.1.set 7 (.slice A5 (m+1) c5);simp only[ga] at o;rw[←C.2.2.2.2.1,←C.2.2.2.2.2] at o;have c9:Nt M [97,120] w (w3.setCell ⟨M.bb,7,none⟩ (.slice A5 (m+1) c5)):=by(
 refine Nt.set (g:=M.bb) (HZ.1.mono fun b R h=>?_) HZ.2.1 M.bb_s (by simp) _;obtain⟨h1,ds,fr,hc⟩:=Nu C.2.1 h;rcases R with R|⟨cs,t,d9,hh,ht⟩;·exact sm.hi h1 R
 rw[hc] at hh;injection hh with hh;injection hh with _ hh;exact ht (hh▸(by simp)))
 exact bodyPost_ret (v:=.int .i64 0) (by simp[results,Tryz.f79]) rfl ⟨rfl,⟨⟨tl,HZ.2.2.1.far (p:=⟨M.bb,7,none⟩) HZ.2.2.2.2 _,HZ.2.2.2.1⟩,_,_,_,_,o,b6,by omega,fun u hu=>by
  rcases eD.1 hu with hu|hu;·exact C.2.2.1 u hu
  simp only[fX,List.not_mem_nil,or_false] at hu;rcases hu with rfl|rfl|rfl|rfl|rfl<;>rfl⟩,c9⟩
theorem Qy:(prog.info? 90).map (fun i=>(i.zero,i.size,i.bytes))=some (some (.int .u64 0),1,8):=by kernel_rfl
theorem Qu:(prog.info? 2).map (fun i=>(i.zero,i.size,i.bytes))=some (some (.int .i64 0),1,8):=by kernel_rfl
theorem Qv:(prog.info? 3).map (fun i=>(i.zero,i.size,i.bytes))=some (some (.int .i64 0),1,8):=by kernel_rfl
theorem Qx:(prog.info? 9).map (fun i=>(i.zero,i.size,i.bytes))=some (some (.string ⟨#[]⟩),1,16):=by kernel_rfl
theorem PN:(prog.info? 93).map (fun i=>(i.zero,i.size,i.bytes))=some (some (.agg #[.string ⟨#[]⟩,.int .i64 0]),2,24):=by kernel_rfl
theorem Rf:(prog.info? 120).map (fun i=>(i.zero,i.size,i.bytes))=some (some (.agg #[.int .u8 0,.int .i64 0,.int .i64 0,.int .i64 0,.int .i64 0]),5,40):=by kernel_rfl
def PH (n:Nat):cO Unit:=fun _ _ cs _=>cs.length=n∧∀u∈cs,u.oneCell'=true
theorem Pz (n:Nat):zG (PH n):=⟨fun h=>h,fun h=>h.2⟩
theorem Oz {S:Nat→Prop}(v:Value)(l:List (Int))(w:World)(h:rx 1 8 (eT rQ) S w v l):
 Calls prog 32 #[v] w fun e w'=>∃A c,e=.returned (.slice A l.length c)∧aa All w w'∧rx 1 8 (eT rQ) (fun b=>w.heap.size≤b∧b<w'.heap.size) w' (.slice A l.length c) l:=by
 obtain⟨i,h1,h2,h3,h4⟩:=info_parts Qu;have II:=J4 h1 h2 h3 h4;clear h1 h2 h3 h4;obtain⟨A,c,rfl,_⟩:=id h;cases A with
 |none=>
  have hl:l=[]:=by(
 obtain⟨a,c',e,_,_,_,h⟩:=h;cases e;cases l with
 |nil=>rfl
 |cons x l=>obtain⟨b,o,cs,e,_⟩:=h 0 x rfl;cases e)
  subst hl;clear h;have J:∀w,(binOp .eql 35 (.slice none ([]:List (Int)).length c) (.slice none 0 0)).run prog w=.ok (.bool true) w:=fun _=>by kernel_rfl
  have a6:∀w,(binOp .eql 35 (.slice none 0 c) (.slice none 0 0)).run prog w=.ok (.bool true) w:=fun _=>by kernel_rfl
  go_enter func32,ntmps32;go_wp2_with fail;go_ret;exact⟨none,0,rfl,kR,rx.nil⟩
 |some a=>
  have C:aa All w (w.alloc (.cells #[] 2)):=kR.alloc _;have R:al (w.alloc (.cells #[] 2)) w.heap.size 2 #[]:=al.new _ _ _;have Y:rx 1 8 (eT rQ) (fun b=>b=b∧S b) (w.alloc (.cells #[] 2)) (.slice (some a) l.length c) l:=by obtain⟨a',c',e,h1,h2,h3,h⟩:=h;refine⟨a',c',e,h1,h2,h3,fun i x hx=>?_⟩;obtain⟨b,o,cs,q1,q2,q3,q4,q5⟩:=h i x hx;exact⟨b,o,cs,q1,⟨rfl,q2⟩,q3,fun j u hu=>C.cell (p:=⟨b,o+i*1+j,none⟩) trivial (q4 j u hu),BR.any q5⟩
  have HW:=J3 C R Y;clear h C R Y;have J:∀w,(binOp .eql 35 (.slice (some a) l.length c) (.slice none 0 0)).run prog w=.ok (.bool false) w:=fun _=>by kernel_rfl
  go_enter func32,ntmps32;go_upto_region 3 with fail;go_wp2_with (at_builtin;refine gx (E:=(eT rQ)) _ BR rfl (.tmp 5) (.tmp 6) 35 rfl 2 i _ underlying35 II.1 II.2.1 II.2.2.1 II.2.2.2 rfl (by decide) w.heap.size w.heap.size rfl HW.2.1 (cf _) rfl HW.2.2 ?_;intro A' c' w' Z a1;have H3:=J2 Z a1;clear Z a1);go_ret;exact⟨A',c',rfl,am ((HW.1.all (S:=fun b=>b<w.heap.size)).grown H3.2 fun k hk=>.inl (by cases hk;show¬(w.heap.size<w.heap.size);omega)),H3.1⟩
theorem OC {S:Nat→Prop}(v:Value)(l:List (BitVec 64))(w:World)(h:rx 1 8 (eT Cz) S w v l):
 Calls prog 30 #[v] w fun e w'=>∃A c,e=.returned (.slice A l.length c)∧aa All w w'∧rx 1 8 (eT Cz) (fun b=>w.heap.size≤b∧b<w'.heap.size) w' (.slice A l.length c) l:=by
 obtain⟨i,h1,h2,h3,h4⟩:=info_parts Qy;have II:=J4 h1 h2 h3 h4;clear h1 h2 h3 h4;obtain⟨A,c,rfl,_⟩:=id h;cases A with
 |none=>
  have hl:l=[]:=by(
 obtain⟨a,c',e,_,_,_,h⟩:=h;cases e;cases l with
 |nil=>rfl
 |cons x l=>obtain⟨b,o,cs,e,_⟩:=h 0 x rfl;cases e)
  subst hl;clear h;have J:∀w,(binOp .eql 23 (.slice none ([]:List (BitVec 64)).length c) (.slice none 0 0)).run prog w=.ok (.bool true) w:=fun _=>by kernel_rfl
  have a6:∀w,(binOp .eql 23 (.slice none 0 c) (.slice none 0 0)).run prog w=.ok (.bool true) w:=fun _=>by kernel_rfl
  go_enter func30,ntmps30;go_wp2_with fail;go_ret;exact⟨none,0,rfl,kR,rx.nil⟩
 |some a=>
  have C:aa All w (w.alloc (.cells #[] 90)):=kR.alloc _;have R:al (w.alloc (.cells #[] 90)) w.heap.size 90 #[]:=al.new _ _ _;have Y:rx 1 8 (eT Cz) (fun b=>b=b∧S b) (w.alloc (.cells #[] 90)) (.slice (some a) l.length c) l:=by obtain⟨a',c',e,h1,h2,h3,h⟩:=h;refine⟨a',c',e,h1,h2,h3,fun i x hx=>?_⟩;obtain⟨b,o,cs,q1,q2,q3,q4,q5⟩:=h i x hx;exact⟨b,o,cs,q1,⟨rfl,q2⟩,q3,fun j u hu=>C.cell (p:=⟨b,o+i*1+j,none⟩) trivial (q4 j u hu),IM.any q5⟩
  have HW:=J3 C R Y;clear h C R Y;have J:∀w,(binOp .eql 23 (.slice (some a) l.length c) (.slice none 0 0)).run prog w=.ok (.bool false) w:=fun _=>by kernel_rfl
  go_enter func30,ntmps30;go_upto_region 3 with fail;go_wp2_with (at_builtin;refine gx (E:=(eT Cz)) _ IM rfl (.tmp 5) (.tmp 6) 23 rfl 90 i _ underlying23 II.1 II.2.1 II.2.2.1 II.2.2.2 rfl (by decide) w.heap.size w.heap.size rfl HW.2.1 (cf _) rfl HW.2.2 ?_;intro A' c' w' Z a1;have H3:=J2 Z a1;clear Z a1);go_ret;exact⟨A',c',rfl,am ((HW.1.all (S:=fun b=>b<w.heap.size)).grown H3.2 fun k hk=>.inl (by cases hk;show¬(w.heap.size<w.heap.size);omega)),H3.1⟩
theorem OB {S:Nat→Prop}(v:Value)(l:List (ByteArray))(w:World)(h:rx 1 16 (eT EQ) S w v l):
 Calls prog 29 #[v] w fun e w'=>∃A c,e=.returned (.slice A l.length c)∧aa All w w'∧rx 1 16 (eT EQ) (fun b=>w.heap.size≤b∧b<w'.heap.size) w' (.slice A l.length c) l:=by
 obtain⟨i,h1,h2,h3,h4⟩:=info_parts Qx;have II:=J4 h1 h2 h3 h4;clear h1 h2 h3 h4;obtain⟨A,c,rfl,_⟩:=id h;cases A with
 |none=>
  have hl:l=[]:=by(
 obtain⟨a,c',e,_,_,_,h⟩:=h;cases e;cases l with
 |nil=>rfl
 |cons x l=>obtain⟨b,o,cs,e,_⟩:=h 0 x rfl;cases e)
  subst hl;clear h;have J:∀w,(binOp .eql 22 (.slice none ([]:List (ByteArray)).length c) (.slice none 0 0)).run prog w=.ok (.bool true) w:=fun _=>by kernel_rfl
  have a6:∀w,(binOp .eql 22 (.slice none 0 c) (.slice none 0 0)).run prog w=.ok (.bool true) w:=fun _=>by kernel_rfl
  go_enter func29,ntmps29;go_wp2_with fail;go_ret;exact⟨none,0,rfl,kR,rx.nil⟩
 |some a=>
  have C:aa All w (w.alloc (.cells #[] 9)):=kR.alloc _;have R:al (w.alloc (.cells #[] 9)) w.heap.size 9 #[]:=al.new _ _ _;have Y:rx 1 16 (eT EQ) (fun b=>b=b∧S b) (w.alloc (.cells #[] 9)) (.slice (some a) l.length c) l:=by obtain⟨a',c',e,h1,h2,h3,h⟩:=h;refine⟨a',c',e,h1,h2,h3,fun i x hx=>?_⟩;obtain⟨b,o,cs,q1,q2,q3,q4,q5⟩:=h i x hx;exact⟨b,o,cs,q1,⟨rfl,q2⟩,q3,fun j u hu=>C.cell (p:=⟨b,o+i*1+j,none⟩) trivial (q4 j u hu),IL.any q5⟩
  have HW:=J3 C R Y;clear h C R Y;have J:∀w,(binOp .eql 22 (.slice (some a) l.length c) (.slice none 0 0)).run prog w=.ok (.bool false) w:=fun _=>by kernel_rfl
  go_enter func29,ntmps29;go_upto_region 3 with fail;go_wp2_with (at_builtin;refine gx (E:=(eT EQ)) _ IL rfl (.tmp 5) (.tmp 6) 22 rfl 9 i _ underlying22 II.1 II.2.1 II.2.2.1 II.2.2.2 rfl (by decide) w.heap.size w.heap.size rfl HW.2.1 (cf _) rfl HW.2.2 ?_;intro A' c' w' Z a1;have H3:=J2 Z a1;clear Z a1);go_ret;exact⟨A',c',rfl,am ((HW.1.all (S:=fun b=>b<w.heap.size)).grown H3.2 fun k hk=>.inl (by cases hk;show¬(w.heap.size<w.heap.size);omega)),H3.1⟩
theorem PK {S:Nat→Prop}(v:Value)(l:List (Int))(w:World)(h:rx 1 8 (eT rQ) S w v l):
 Calls prog 50 #[v] w fun e w'=>∃A c,e=.returned (.slice A l.length c)∧aa All w w'∧rx 1 8 (eT rQ) (fun b=>w.heap.size≤b∧b<w'.heap.size) w' (.slice A l.length c) l:=by
 obtain⟨i,h1,h2,h3,h4⟩:=info_parts Qv;have II:=J4 h1 h2 h3 h4;clear h1 h2 h3 h4;obtain⟨A,c,rfl,_⟩:=id h;cases A with
 |none=>
  have hl:l=[]:=by(
 obtain⟨a,c',e,_,_,_,h⟩:=h;cases e;cases l with
 |nil=>rfl
 |cons x l=>obtain⟨b,o,cs,e,_⟩:=h 0 x rfl;cases e)
  subst hl;clear h;have J:∀w,(binOp .eql 45 (.slice none ([]:List (Int)).length c) (.slice none 0 0)).run prog w=.ok (.bool true) w:=fun _=>by kernel_rfl
  have a6:∀w,(binOp .eql 45 (.slice none 0 c) (.slice none 0 0)).run prog w=.ok (.bool true) w:=fun _=>by kernel_rfl
  go_enter func50,ntmps50;go_wp2_with fail;go_ret;exact⟨none,0,rfl,kR,rx.nil⟩
 |some a=>
  have C:aa All w (w.alloc (.cells #[] 3)):=kR.alloc _;have R:al (w.alloc (.cells #[] 3)) w.heap.size 3 #[]:=al.new _ _ _;have Y:rx 1 8 (eT rQ) (fun b=>b=b∧S b) (w.alloc (.cells #[] 3)) (.slice (some a) l.length c) l:=by obtain⟨a',c',e,h1,h2,h3,h⟩:=h;refine⟨a',c',e,h1,h2,h3,fun i x hx=>?_⟩;obtain⟨b,o,cs,q1,q2,q3,q4,q5⟩:=h i x hx;exact⟨b,o,cs,q1,⟨rfl,q2⟩,q3,fun j u hu=>C.cell (p:=⟨b,o+i*1+j,none⟩) trivial (q4 j u hu),BR.any q5⟩
  have HW:=J3 C R Y;clear h C R Y;have J:∀w,(binOp .eql 45 (.slice (some a) l.length c) (.slice none 0 0)).run prog w=.ok (.bool false) w:=fun _=>by kernel_rfl
  go_enter func50,ntmps50;go_upto_region 3 with fail;go_wp2_with (at_builtin;refine gx (E:=(eT rQ)) _ BR rfl (.tmp 5) (.tmp 6) 45 rfl 3 i _ underlying45 II.1 II.2.1 II.2.2.1 II.2.2.2 rfl (by decide) w.heap.size w.heap.size rfl HW.2.1 (cf _) rfl HW.2.2 ?_;intro A' c' w' Z a1;have H3:=J2 Z a1;clear Z a1);go_ret;exact⟨A',c',rfl,am ((HW.1.all (S:=fun b=>b<w.heap.size)).grown H3.2 fun k hk=>.inl (by cases hk;show¬(w.heap.size<w.heap.size);omega)),H3.1⟩
theorem NK {S:Nat→Prop}(v:Value)(l:List (ByteArray×Int))(w:World)(h:rx 2 24 uy S w v l):
 Calls prog 31 #[v] w fun e w'=>∃A c,e=.returned (.slice A l.length c)∧aa All w w'∧rx 2 24 uy (fun b=>w.heap.size≤b∧b<w'.heap.size) w' (.slice A l.length c) l:=by
 obtain⟨i,h1,h2,h3,h4⟩:=info_parts PN;have II:=J4 h1 h2 h3 h4;clear h1 h2 h3 h4;obtain⟨A,c,rfl,_⟩:=id h;cases A with
 |none=>
  have hl:l=[]:=by(
 obtain⟨a,c',e,_,_,_,h⟩:=h;cases e;cases l with
 |nil=>rfl
 |cons x l=>obtain⟨b,o,cs,e,_⟩:=h 0 x rfl;cases e)
  subst hl;clear h;have J:∀w,(binOp .eql 24 (.slice none ([]:List (ByteArray×Int)).length c) (.slice none 0 0)).run prog w=.ok (.bool true) w:=fun _=>by kernel_rfl
  have a6:∀w,(binOp .eql 24 (.slice none 0 c) (.slice none 0 0)).run prog w=.ok (.bool true) w:=fun _=>by kernel_rfl
  go_enter func31,ntmps31;go_wp2_with fail;go_ret;exact⟨none,0,rfl,kR,rx.nil⟩
 |some a=>
  have C:aa All w (w.alloc (.cells #[] 93)):=kR.alloc _;have R:al (w.alloc (.cells #[] 93)) w.heap.size 93 #[]:=al.new _ _ _;have Y:rx 2 24 uy (fun b=>b=b∧S b) (w.alloc (.cells #[] 93)) (.slice (some a) l.length c) l:=by obtain⟨a',c',e,h1,h2,h3,h⟩:=h;refine⟨a',c',e,h1,h2,h3,fun i x hx=>?_⟩;obtain⟨b,o,cs,q1,q2,q3,q4,q5⟩:=h i x hx;exact⟨b,o,cs,q1,⟨rfl,q2⟩,q3,fun j u hu=>C.cell (p:=⟨b,o+i*2+j,none⟩) trivial (q4 j u hu),yl.any q5⟩
  have HW:=J3 C R Y;clear h C R Y;have J:∀w,(binOp .eql 24 (.slice (some a) l.length c) (.slice none 0 0)).run prog w=.ok (.bool false) w:=fun _=>by kernel_rfl
  go_enter func31,ntmps31;go_upto_region 3 with fail;go_wp2_with (at_builtin;refine gx (E:=uy) _ yl rfl (.tmp 5) (.tmp 6) 24 rfl 93 i _ underlying24 II.1 II.2.1 II.2.2.1 II.2.2.2 rfl (by decide) w.heap.size w.heap.size rfl HW.2.1 (cf _) rfl HW.2.2 ?_;intro A' c' w' Z a1;have H3:=J2 Z a1;clear Z a1);go_ret;exact⟨A',c',rfl,am ((HW.1.all (S:=fun b=>b<w.heap.size)).grown H3.2 fun k hk=>.inl (by cases hk;show¬(w.heap.size<w.heap.size);omega)),H3.1⟩
theorem Qk {S:Nat→Prop}(v:Value)(l:List (Unit))(w:World)(h:rx 5 40 (PH 5) S w v l):
 Calls prog 41 #[v] w fun e w'=>∃A c,e=.returned (.slice A l.length c)∧aa All w w'∧rx 5 40 (PH 5) (fun b=>w.heap.size≤b∧b<w'.heap.size) w' (.slice A l.length c) l:=by
 obtain⟨i,h1,h2,h3,h4⟩:=info_parts Rf;have II:=J4 h1 h2 h3 h4;clear h1 h2 h3 h4;obtain⟨A,c,rfl,_⟩:=id h;cases A with
 |none=>
  have hl:l=[]:=by(
 obtain⟨a,c',e,_,_,_,h⟩:=h;cases e;cases l with
 |nil=>rfl
 |cons x l=>obtain⟨b,o,cs,e,_⟩:=h 0 x rfl;cases e)
  subst hl;clear h;have J:∀w,(binOp .eql 48 (.slice none ([]:List (Unit)).length c) (.slice none 0 0)).run prog w=.ok (.bool true) w:=fun _=>by kernel_rfl
  have a6:∀w,(binOp .eql 48 (.slice none 0 c) (.slice none 0 0)).run prog w=.ok (.bool true) w:=fun _=>by kernel_rfl
  go_enter func41,ntmps41;go_wp2_with fail;go_ret;exact⟨none,0,rfl,kR,rx.nil⟩
 |some a=>
  have C:aa All w (w.alloc (.cells #[] 120)):=kR.alloc _;have R:al (w.alloc (.cells #[] 120)) w.heap.size 120 #[]:=al.new _ _ _;have Y:rx 5 40 (PH 5) (fun b=>b=b∧S b) (w.alloc (.cells #[] 120)) (.slice (some a) l.length c) l:=by obtain⟨a',c',e,h1,h2,h3,h⟩:=h;refine⟨a',c',e,h1,h2,h3,fun i x hx=>?_⟩;obtain⟨b,o,cs,q1,q2,q3,q4,q5⟩:=h i x hx;exact⟨b,o,cs,q1,⟨rfl,q2⟩,q3,fun j u hu=>C.cell (p:=⟨b,o+i*5+j,none⟩) trivial (q4 j u hu),(Pz 5).any q5⟩
  have HW:=J3 C R Y;clear h C R Y;have J:∀w,(binOp .eql 48 (.slice (some a) l.length c) (.slice none 0 0)).run prog w=.ok (.bool false) w:=fun _=>by kernel_rfl
  go_enter func41,ntmps41;go_upto_region 3 with fail;go_wp2_with (at_builtin;refine gx (E:=(PH 5)) _ (Pz 5) rfl (.tmp 5) (.tmp 6) 48 rfl 120 i _ underlying48 II.1 II.2.1 II.2.2.1 II.2.2.2 rfl (by decide) w.heap.size w.heap.size rfl HW.2.1 (cf _) rfl HW.2.2 ?_;intro A' c' w' Z a1;have H3:=J2 Z a1;clear Z a1);go_ret;exact⟨A',c',rfl,am ((HW.1.all (S:=fun b=>b<w.heap.size)).grown H3.2 fun k hk=>.inl (by cases hk;show¬(w.heap.size<w.heap.size);omega)),H3.1⟩
theorem IU {S:Nat→Prop}{w:World}{A:Option Addr}{m c:Nat}{l:List Int}(h:aK S w (.slice A m c) l){i:Nat}(hi:i<l.length):∃b o x,A=some ⟨b,o,none⟩∧S b∧w.cell? ⟨b,o+i,none⟩=some (.int .i64 x)∧aV x:=by obtain⟨b,o,v,j,C,J,rfl,R⟩:=bn h (lG hi);exact⟨b,o,_,j,C,J,rs R⟩
theorem QX {M:sm}{w:World}{e:Nat}(hM:iU M)(hk:aa M.S M.W w)(hb:tv M w e){k:Nat}(Z:k<M.Nb.length):∃o R ac Y rc xs t,(∃L,M.Nb[k]? =some L∧L.length=xs)∧M.allv=.slice (some ⟨o,R,none⟩) M.Nb.length ac∧w.cell? ⟨o,R+k,none⟩=some (.slice Y xs rc)∧
 w.cell? ⟨M.tb,k,none⟩=some (.int .i64 (t:Nat))∧t≤xs∧(xs:Nat)≤17592186044416∧o≠M.tb∧∀i,i<xs→∃C ro x,Y=some ⟨C,ro,none⟩∧C≠M.tb∧w.cell? ⟨C,ro+i,none⟩=some (.int .i64 x)∧aV x:=by
 have h:=aq.keep hk hM.all;obtain⟨aa,ac,J,_⟩:=id hM.all;obtain⟨xs,j⟩:=eG Z;rw[J] at h;obtain⟨o,R,u,rfl,hs,hc,hu⟩:=bn h j;obtain⟨l,h1,h2,h3⟩:=hb.taken;obtain⟨t,ht⟩:∃t,l[k]? =some t:=⟨_,lG (by omega)⟩;have hb:=h3 k t xs ht j;obtain⟨tn,rfl⟩:∃tn:Nat,t=tn:=⟨t.toNat,by omega⟩;have a1:=hu;obtain⟨Y,rc,rfl,_,_,h4,_⟩:=hu;refine⟨o,R,ac,Y,rc,xs.length,tn,⟨xs,j,rfl⟩,J,hc,?_,by omega,by omega,hs.2.2.2,fun i hi=>?_⟩;·rw[h1.cell k];simp[ht]
 obtain⟨C,ro,x,h5,h6,h7,h8⟩:=IU a1 hi;exact⟨C,ro,x,h5,h6.2.2.2,h7,h8⟩
theorem QB (M:sm)(w:World)(k:Nat)(l o ac xs rc t:Nat)(ra:Option Addr)(C:w.cell? ⟨M.bb,0,none⟩=some (.slice (some ⟨l,o,none⟩) M.Nb.length ac))(j:w.cell? ⟨M.bb,1,none⟩=some (.slice (some ⟨M.tb,0,none⟩) M.Nb.length M.Nb.length))(hc:w.cell? ⟨l,o+k,none⟩=some (.slice ra xs rc))(ht:w.cell? ⟨M.tb,k,none⟩=some (.int .i64 (t:Nat)))(Z:k<M.Nb.length)(a1:t≤xs)(hx:xs≤17592186044416):
 Calls prog 121 #[.pointer (some ⟨M.bb,0,none⟩),.int .i64 (k:Nat)] w fun e w'=>e=.returned (.int .i64 ((xs-t:Nat):Int))∧aa All w w':=by
 obtain⟨n,hn⟩:=eQ M.Nb.length;rw[←hn] at C j Z;have R:=oH (show∀wn,aa All w wn→wn.cell? ⟨M.bb,0,none⟩=some (.slice (some ⟨l,o,none⟩) n ac)∧wn.cell? ⟨M.bb,1,none⟩=some (.slice (some ⟨M.tb,0,none⟩) n n)∧wn.cell? ⟨l,o+k,none⟩=some (.slice ra xs rc)∧wn.cell? ⟨M.tb,k,none⟩=some (.int .i64 (t:Nat)) from fun wn Y=>⟨Y.cell (p:=⟨M.bb,0,none⟩) trivial C,Y.cell (p:=⟨M.bb,1,none⟩) trivial j,Y.cell (p:=⟨l,o+k,none⟩) trivial hc,Y.cell (p:=⟨M.tb,k,none⟩) trivial ht⟩);clear j hc ht hn;go_enter func121,ntmps121;go_wp2_with fail;refine R0 17 w (fun _=>none) ?_;iterate 3 refine O0 ?_
 refine O4 R.out ?_;iterate 2 refine O0 ?_
 refine O4 R.out ?_;iterate 4 refine O0 ?_
 refine O4 R.out ?_;iterate 2 refine O0 ?_
 refine O4 R.out ?_;iterate 2 refine O0 ?_
 refine aG fun wt J hF=>?_;have HT:=oH J;clear J hF;simp only[dK];go_wp2_with fail;go_ret;refine⟨?_,HT.out⟩;show Ending.returned (.int .i64 (IntKind.i64.wrap ((xs:Int)-(t:Int))))=_;rw[IntKind.wrap_i64];congr 2;omega
theorem tv.take {M:sm}{w:World}{e k t:Nat}{L:List Int}(h:tv M w e)(hL:M.Nb[k]? =some L)(a1:t+1≤L.length):tv M (w.setCell ⟨M.tb,k,none⟩ (.int .i64 ((t+1:Nat):Int))) e:=by
 obtain⟨⟨l,o,h2,h3⟩,A,m,c,C,Z,h5,h6⟩:=h;have J:M.bb≠M.tb:=Z.ne o (by decide);refine⟨⟨l.set k ((t+1:Nat):Int),?_,by rw[List.length_set];exact h2,fun i u ys hu R=>?_⟩,A,m,c,C,Z.far (p:=⟨M.tb,k,none⟩) J _,be h5 ((aa.refl (fun b=>b≠M.tb) w).setCell (p:=⟨M.tb,k,none⟩) (.inl fun h=>h rfl) _) ?_,h6⟩
 ·have:=o.set k (.int .i64 ((t+1:Nat):Int))
  rwa [show(l.map (Value.int .i64)).toArray.setIfInBounds k (.int .i64 ((t+1:Nat):Int))=((l.set k ((t+1:Nat):Int)).map (Value.int .i64)).toArray by rw[List.setIfInBounds_toArray,List.map_set]] at this
 ·rw[List.getElem?_set] at hu
  split at hu
  ·rename_i Y;subst Y;split at hu;·injection hu with hu;subst hu;rw[hL] at R;cases R;omega
   cases hu
  exact h3 i u ys hu R
 intro g j e;subst e;rcases h5.2 with ⟨e,_⟩|⟨g',cap,cur,e,_,hh,_⟩;·rw[e] at j;cases j
 rw[e] at j;cases j;exact al.ne (w:=w) (t:=120) (cs:=cur) hh o (by decide) rfl
theorem QQ (M:sm)(w:World)(e k:Nat)(hM:iU M)(C:aa M.S M.W w)(hb:tv M w e)(a7:k<M.Nb.length):
 Calls prog 78 #[.pointer (some ⟨M.bb,0,none⟩),.int .i64 (k:Nat)] w fun en w'=>∃x t,en=.returned (.tuple #[.int .i64 x,.int .i64 t])∧aV x∧(t=0∨t=23)∧tv M w' e∧aa (fun b=>b≠M.tb) w w':=by
 obtain⟨ab,ao,ac,ra,rc,xs,t,⟨L,hL,c3⟩,b3,J,a8,c4,c5,R,j⟩:=QX hM C hb a7;obtain⟨A,m,c,c9,Y,_⟩:=id hb.box;rw[b3] at Y;have b0:=Y.cell 0;have b1:=Y.cell 1;simp only[gc] at b0 b1;obtain⟨tl,b2,_⟩:=hb.taken;have Z:M.bb≠M.tb:=Y.ne b2 (by decide);have HL:=oH (QB M w k ab ao ac xs rc t ra b0 b1 J a8 a7 c4 c5);obtain⟨n,hn⟩:=eQ M.Nb.length;rw[←hn] at b0 b1 a7;have d7:n≤M.Nb.length:=eE hn;have HB:=J8 hb hL c3 j b2 Z R a8;have HC:=oH (show∀wn,aa (fun b=>b≠M.tb) w wn→wn.cell? ⟨M.bb,0,none⟩=some (.slice (some ⟨ab,ao,none⟩) n ac)∧wn.cell? ⟨M.bb,1,none⟩=some (.slice (some ⟨M.tb,0,none⟩) n n)∧wn.cell? ⟨ab,ao+k,none⟩=some (.slice ra xs rc) from fun wn C=>⟨C.cell (p:=⟨M.bb,0,none⟩) Z b0,C.cell (p:=⟨M.bb,1,none⟩) Z b1,C.cell (p:=⟨ab,ao+k,none⟩) R J⟩);clear hM C hb hL j b2 Z R hn b3 Y b1 a8 J;go_enter func78,ntmps78;go_wp2_with fail;refine HL.out.mono ?_;rintro e w1 ⟨rfl,b4⟩;obtain⟨r,hr⟩:∃r,xs=t+r:=⟨xs-t,by omega⟩;rw[show xs-t=r by omega];have d8:xs≤t+r:=eE hr;have d9:t+r≤xs:=eE hr.symm;clear hr;have HK:=oH b4;clear b4 b0;by_cases c6:r=0
 ·subst c6
  go_wp2_with fail;exact bodyPost_ret (v:=.tuple #[.int .i64 0,.int .i64 23]) (by simp[results,Tryz.f78]) rfl ⟨0,23,rfl,by unfold aV;omega,.inr rfl,HB.1.turn (.of_kept HK.out),HK.out.all⟩
 have c7:t<xs:=by omega
 obtain⟨rb,ro,x,c8,a6,b5,b6⟩:=HB.2.2.2.1 t c7;subst c8;obtain⟨c0,c1,c2⟩:=HC.out w1 HK.out.all;have tk:=HK.out.cell (p:=⟨M.tb,k,none⟩) trivial HB.2.2.2.2.2.2.2;have tf:=(HB.2.2.2.2.1.kept HK.out trivial).free k;have HX:=J3 a6 b5 b6;clear a6 b5 b6;go_upto_region 6 with fail;generalize a1:w1.setCell _ _=W2;have b7:tv M W2 e:=by rw[←a1];exact(HB.1.turn (.of_kept HK.out)).take HB.2.1 (by omega)
 have o:aa (fun b=>b≠M.tb) w W2:=by rw[←a1];exact HK.out.all.setCell (p:=⟨M.tb,k,none⟩) (.inl fun h=>h rfl) _
 have b8:W2.cell? ⟨M.tb,k,none⟩=some (.int .i64 ((t:Int)+1)):=by obtain⟨l,h1,h2,_⟩:=HB.1.taken;rw[←a1,((h1.kept HK.out trivial).set k _).cell k,Array.getElem?_setIfInBounds_self_of_lt (by rw[List.size_toArray,ce];omega)]
 have HF:=oH (show∀wn,aa All W2 wn→wn.cell? ⟨M.bb,0,none⟩=some (.slice (some ⟨ab,ao,none⟩) n ac)∧wn.cell? ⟨M.bb,1,none⟩=some (.slice (some ⟨M.tb,0,none⟩) n n)∧wn.cell? ⟨ab,ao+k,none⟩=some (.slice (some ⟨rb,ro,none⟩) xs rc)∧wn.cell? ⟨M.tb,k,none⟩=some (.int .i64 ((t:Int)+1))∧wn.cell? ⟨rb,ro+t,none⟩=some (.int .i64 x) from fun wn C=>⟨C.cell (p:=⟨M.bb,0,none⟩) trivial (HC.out W2 o).1,C.cell (p:=⟨M.bb,1,none⟩) trivial (HC.out W2 o).2.1,C.cell (p:=⟨ab,ao+k,none⟩) trivial (HC.out W2 o).2.2,C.cell (p:=⟨M.tb,k,none⟩) trivial b8,(o.trans C.all).cell (p:=⟨rb,ro+t,none⟩) HX.1 HX.2.1⟩);have H2:=J2 b7 o;clear b7 o b8 a1 c0 c1 c2 tk tf;have e0:IntKind.i64.wrap (t:Int)=t:=by rw[IntKind.wrap_i64];omega
 refine R0 21 W2 (fun _=>none) ?_;iterate 4 refine O0 ?_
 refine O4 HF.out ?_;iterate 2 refine O0 ?_
 refine O4 HF.out ?_;iterate 4 refine O0 ?_
 refine O4 HF.out ?_;iterate 2 refine O0 ?_
 refine O4 HF.out ?_;iterate 2 refine O0 ?_
 refine O4 HF.out ?_;iterate 2 refine O0 ?_
 refine aG fun w3 b9 hF=>?_;have H3:=oH b9;clear b9 hF;simp only[dK];go_wp2_with fail;exact bodyPost_ret (v:=.tuple #[.int .i64 x,.int .i64 0]) (by simp[results,Tryz.f78]) rfl ⟨x,0,rfl,HX.2.2,.inl rfl,H2.1.turn (.of_kept H3.out),H2.2.trans H3.out.all⟩
end Go.Proofs.YtncdbjponknakaaGreatDoor
